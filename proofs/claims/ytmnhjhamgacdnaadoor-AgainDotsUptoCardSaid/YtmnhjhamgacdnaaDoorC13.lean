/- AgainDots: whatever the input, up to the bulk that the statement names, the law answers true, and what was handed in reads as it did. Its conditions: the bound of the given statement and the tables that its card ties, no other. -/
import Derived.Test.YtmnhjhamgacdnaaDoorC12
import Derived.Shelf.Strconv.Itoa1
import Derived.Shelf.Strconv.Itoa2
import Derived.Lib.Walk
import Derived.Lib.ItoaWalk
import Derived.Lib.ItoaMem
import Derived.Lib.AppendIntMem
import Derived.Lib.BufferKept
import Derived.Lib.OwnKind
import Derived.Lib.Slices
import Derived.Lib.Hide
import Derived.OwnWalk
import Derived.WalkKit
import Derived.BigCall
import Derived.BigGuard
import Derived.CellFam
set_option linter.unusedVariables false
set_option linter.unusedSectionVars false
set_option linter.unusedSimpArgs false
namespace Go.VE
open Go Go.Proofs
--! base 1
--! external 1
--! args o:B U64 I
--! res fr:B
--! import F_internal_strconv_AppendUint0 VEr Derived.Shelf.Strconv.Itoa1 Derived.Shelf.Strconv.Itoa2  Derived.Lib.Walk Derived.Lib.ItoaWalk Derived.Lib.ItoaMem Derived.Lib.AppendIntMem Derived.Lib.BufferKept Derived.Lib.OwnKind Derived.Lib.Slices Derived.Lib.Hide Derived.OwnWalk Derived.WalkKit Derived.BigCall Derived.BigGuard Derived.CellFam
end Go.VE
namespace Go.VE
open Go

/-- an append whose run is known is taken -/
theorem step_append {P : Program} {ops : Array Oper} {rest : List Oper} {o : Oper} {a : Act} {w w' : World} {v' : Value} {Q : Exit → Act → World → Prop} (hgd : o.guard = none) (s x : Operand) (t t' : TypeId)
    (ho : o.op = .call { callee := .builtin .append, args := #[s, x], argTypes := #[t, t'] }) (hrun : (Builtin.append_ #[t, t'] o.type #[a.eval s, a.eval x]).run P w = .ok v' w') (h : wpList P ops Q rest (a.put o.dst v') w') :
    wpList P ops Q (o :: rest) a w := by
  refine wpList_plain hgd fun K hK => ?_
  unfold Oper.wp
  have e : (execOp a.eval o).run P w = .ok (.value v') w' := by
    unfold execOp
    rw [ho]
    simp [invoke, resolve, builtin, hrun]
  rw [e]
  exact hK _ _ h

/-- the numeral's bytes -/
def decI (u : Nat) : List Int := (Lib.decDigits u).map fun b => (b.toNat : Int)

def au_A : List AS := [.o 5 (.int .u8), .v (.int .u64), .v (.int .i64)]
end Go.VE
namespace Go.Proofs
open Go.Shelf Go.RowKit Go.Sort
def lays284_ren : Go.Shelf.Ren := ⟨fun | 284 => 152 | 129 => 167 | 317 => 166 | 318 => 168 | n => n, fun | 53 => 147 | 3 => 3 | 212 => 189 | 0 => 0 | 4 => 4 | 46 => 133 | 5 => 5 | 9 => 9 | n => n, fun | 17 => 1 | n => n⟩
theorem lays284 : LaysM.n284 Tryd.prog lays284_ren where
  mixed := by kernel_rfl
  f129 := Tryd.func167.trans (congrArg some (by kernel_rfl))
  f284 := Tryd.func152.trans (congrArg some (by kernel_rfl))
  f317 := Tryd.func166.trans (congrArg some (by kernel_rfl))
  f318 := Tryd.func168.trans (congrArg some (by kernel_rfl))
  t0 := Tryd.underlying0
  a0 := Tryd.isAgg0
  z0 := Tryd.sizeOf0
  v0 := Tryd.zeroValue0
  t3 := Tryd.underlying3
  a3 := Tryd.isAgg3
  z3 := Tryd.sizeOf3
  v3 := Tryd.zeroValue3
  t4 := Tryd.underlying4
  a4 := Tryd.isAgg4
  z4 := Tryd.sizeOf4
  v4 := Tryd.zeroValue4
  t5 := Tryd.underlying5
  a5 := Tryd.isAgg5
  z5 := Tryd.sizeOf5
  v5 := Tryd.zeroValue5
  t9 := Tryd.underlying9
  a9 := Tryd.isAgg9
  z9 := Tryd.sizeOf9
  v9 := Tryd.zeroValue9
  t46 := Tryd.underlying133
  a46 := Tryd.isAgg133
  z46 := Tryd.sizeOf133
  v46 := Tryd.zeroValue133
  t53 := Tryd.underlying147
  a53 := Tryd.isAgg147
  z53 := Tryd.sizeOf147
  v53 := Tryd.zeroValue147
  t212 := Tryd.underlying189
  a212 := Tryd.isAgg189
  z212 := Tryd.sizeOf189
  v212 := Tryd.zeroValue189
  g17 := by kernel_rfl
  i0 := by kernel_rfl
  i3 := by kernel_rfl
  i4 := by kernel_rfl
  i5 := by kernel_rfl
  i9 := by kernel_rfl
  i46 := by kernel_rfl
  i53 := by kernel_rfl
  i212 := by kernel_rfl
  m17 := by kernel_rfl
def lays285_ren : Go.Shelf.Ren := ⟨fun | 285 => 153 | n => n, fun | 37 => 22 | 53 => 147 | 3 => 3 | 4 => 4 | 51 => 152 | 9 => 9 | 5 => 5 | 0 => 0 | n => n, fun | n => n⟩
theorem lays285 : Lays.n285 Tryd.prog lays285_ren where
  mixed := by kernel_rfl
  f285 := Tryd.func153.trans (congrArg some (by kernel_rfl))
  t0 := Tryd.underlying0
  a0 := Tryd.isAgg0
  z0 := Tryd.sizeOf0
  v0 := Tryd.zeroValue0
  t3 := Tryd.underlying3
  a3 := Tryd.isAgg3
  z3 := Tryd.sizeOf3
  v3 := Tryd.zeroValue3
  t4 := Tryd.underlying4
  a4 := Tryd.isAgg4
  z4 := Tryd.sizeOf4
  v4 := Tryd.zeroValue4
  t5 := Tryd.underlying5
  a5 := Tryd.isAgg5
  z5 := Tryd.sizeOf5
  v5 := Tryd.zeroValue5
  t9 := Tryd.underlying9
  a9 := Tryd.isAgg9
  z9 := Tryd.sizeOf9
  v9 := Tryd.zeroValue9
  t37 := Tryd.underlying22
  a37 := Tryd.isAgg22
  z37 := Tryd.sizeOf22
  v37 := Tryd.zeroValue22
  t51 := Tryd.underlying152
  a51 := Tryd.isAgg152
  z51 := Tryd.sizeOf152
  v51 := Tryd.zeroValue152
  t53 := Tryd.underlying147
  a53 := Tryd.isAgg147
  z53 := Tryd.sizeOf147
  v53 := Tryd.zeroValue147


set_option maxHeartbeats 3200000 in
set_option maxRecDepth 100000 in
theorem au_big (Post : Value → World → Prop) (u : Nat) (hu : 100 ≤ u) (hu64 : u < 18446744073709551616) (sv : Value) (w : World)
    (htab : Lib.TabIs Tryd.prog w "internal/strconv.uint64pow10" .u64 Lib.pow10Tab)
    (happ : ∀ W2 : World, W2.os = w.os → W2.tape = w.tape → W2.output = w.output → w.heap.size ≤ W2.heap.size → (∀ k, k < w.heap.size → W2.heap[k]? = w.heap[k]?) →
      (∀ j (h : j < (Lib.decDigits u).length), W2.cell? ⟨w.heap.size, j, none⟩ = some (Value.int .u8 ((Lib.decDigits u)[j].toNat : Int))) →
      ∃ v' w', (Builtin.append_ #[22, 22] 22 #[sv, .slice (some ⟨w.heap.size, 0, none⟩) (Lib.nDigits u) 24]).run Tryd.prog W2 = .ok v' w' ∧ Post v' w') :
    Calls Tryd.prog 122 #[sv, .int .u64 u, .int .i64 10] w fun e w' => ∃ v, e = .returned v ∧ Post v w' := by
  have e58 : ∀ args w, (callFunc 152 args).run Tryd.prog w = .ok (.enter 152 args) w := VE.enters_of Tryd.func152 (by kernel_rfl)
  have e59 : ∀ args w, (callFunc 153 args).run Tryd.prog w = .ok (.enter 153 args) w := VE.enters_of Tryd.func153 (by kernel_rfl)
  have hu1 : 1 ≤ u := by omega
  have hnd20 : Lib.nDigits u ≤ 20 := by have := Lib.numDigits_eq u hu1 hu64; split at this <;> omega
  have iu : (100 : Int) ≤ (u : Int) := by omega
  have hal : Tryd.prog.arrayLen 173 = 24 := by kernel_rfl
  have hsl : ∀ W, (Instr.sliceAt 173 (.pointer (some ⟨w.heap.size, 0, none⟩)) none (some (.int .i64 (Lib.nDigits u : Int))) none).run Tryd.prog W = .ok (.slice (some ⟨w.heap.size, 0, none⟩) (Lib.nDigits u) 24) W := fun W => by
    rw [run_sliceAt_array_h W 173 ⟨w.heap.size, 0, none⟩ (by kernel_rfl) .i64 (Lib.nDigits u : Int) (by omega) (by rw [hal]; omega)]
    go_simp
  have hH0 := Lib.holds_zero0 w 173 (Lib.nDigits u) (by omega)
  have hfmt := Any.internal_strconv_formatBase10 lays285 w.heap.size 0 24 u (Array.replicate (Lib.nDigits u) 0) (w.alloc (.cells Lib.zeros24 173)) hH0 (by rw [Array.size_replicate]; exact Lib.lt_pow_nDigits u) hu64 (by rw [Array.size_replicate]; omega)
  rw [Array.size_replicate] at hfmt
  have HH0 := Lib.hid hH0
  clear hH0
  go_enter Tryd.func122, Tryd.ntmps122
  go_wp2_with (first
    | (go_at_fn 152; refine (Any.internal_strconv_numDigits lays284 u hu1 hu64 _ (Lib.tabIs_alloc htab _)).mono ?_; rintro e w' ⟨rfl, rfl⟩))
  go_at_fn 153
  refine hfmt.mono ?_
  rintro e w' ⟨rfl, k, v', dk, rfl, hF⟩
  obtain ⟨os, eo⟩ := Lib.fin_at w (.cells Lib.zeros24 173) dk k 0
  obtain ⟨v2, w2, hrun, hpost⟩ := happ ((putRow (fun (b : UInt8) => Value.int .u8 (b.toNat : Int)) (w.alloc (.cells Lib.zeros24 173)) w.heap.size 0 dk).drewN k) (by rw [eo]; rfl) (by rw [eo]; rfl) (by rw [eo]; rfl) (by rw [eo]; exact Lib.size_grow w k os)
    (fun g hg => by rw [eo]; exact Lib.heap_grow_old w k os g hg) (fun j hj => by
      have := cell?_putRow (fun (b : UInt8) => Value.int .u8 (b.toNat : Int)) (w.alloc (.cells Lib.zeros24 173)) w.heap.size 0 (Array.replicate (Lib.nDigits u) 0) dk HH0.out (by rw [hF.size, Array.size_replicate]) j (by rw [hF.size]; rw [Lib.decDigits_length] at hj; exact hj)
      rw [Lib.row_is_numeral hF j hj, World.cell?_drewN]
      simpa using this)
  generalize (putRow (fun (b : UInt8) => Value.int .u8 (b.toNat : Int)) (w.alloc (.cells Lib.zeros24 173)) w.heap.size 0 dk).drewN k = W2 at hrun ⊢
  clear eo HH0 hfmt happ
  go_wp2_with (at_builtin; refine VE.step_append rfl _ _ 22 22 rfl hrun ?_)
  go_wp2
  go_ret
  exact ⟨_, rfl, hpost⟩
end Go.Proofs
namespace Go.VE
open Go

theorem decI_byte (u : Nat) : ∀ x ∈ decI u, 0 ≤ x ∧ x ≤ 255 := fun x hx => by
  unfold decI at hx
  obtain ⟨b, _, rfl⟩ := List.mem_map.1 hx
  have := b.toNat_lt
  omega

theorem decI_len (u : Nat) : (decI u).length = Lib.nDigits u := by unfold decI; rw [List.length_map, Lib.decDigits_length]

theorem digits20 {u : Nat} (h1 : 1 ≤ u) (h : u < 18446744073709551616) : Lib.nDigits u ≤ 20 := by
  have := Lib.numDigits_eq u h1 h
  split at this <;> omega

/-- from 100 on -/
theorem au_spec (xs : List Int) (u : Int) (hu : 100 ≤ u) (hl : xs.length + 20 ≤ lim) {Ok : Res → List Cell → Prop} (hK : wfR (.one (.fr 5 (.int .u8) (xs ++ decI u.toNat))) → Ok (.one (.fr 5 (.int .u8) (xs ++ decI u.toNat))) []) :
    CallSpec Go.Proofs.Tryd.prog 122 (mkA au_A (xs, u, 10, ())) (fun r o => wfR r → Ok r o) := by
  intro I w vs bs hI hg ha
  have hlen := ha.length
  obtain ⟨sv, uv, bv, rfl⟩ : ∃ a b c, vs = [a, b, c] := by
    match vs, hlen with
    | [a, b, c], _ => exact ⟨a, b, c, rfl⟩
  obtain ⟨b, rfl⟩ : ∃ b, bs = [b] := by
    cases bs with
    | nil => exact ha.elim
    | cons b bs =>
      cases bs with
      | nil => exact ⟨b, rfl⟩
      | cons c bs => exact ha.2.2.2.elim
  · have ha' := ha
    obtain ⟨hs, hu2, hb2, _⟩ := ha'
    obtain ⟨hur, rfl⟩ := RepV.int_eq hu2
    obtain ⟨_, rfl⟩ := RepV.int_eq hb2
    obtain ⟨n, rfl⟩ : ∃ n : Nat, u = n := ⟨u.toNat, by omega⟩
    have hn64 : n < 18446744073709551616 := by
      have := hur.2
      simp only [kmax] at this
      omega
    obtain ⟨g, ob, _, _, h2, h3⟩ := glob_pow10 hg
    have htab := h3 w h2
    have hd20 := digits20 (u := n) (by omega) hn64
    refine Go.Proofs.au_big (fun v w' => Behind I w [b] (refsOf (mkA au_A (xs, (n : Int), 10, ())) [b]) (fun r o => wfR r → Ok r o) v w') n (by omega) hn64 sv w htab ?_
    intro W2 ho ht hp hz hold hcell
    have hinv := init_inv hI hg ha 3
    have hgr := hinv.grow hz hold ho ht hp
    have hslot := hgr.slot 0
    have hown : OwnV (names0 (mkA au_A (xs, (n : Int), 10, ())) [sv, .int .u64 n, .int .i64 10] [b] 0) I W2 0 5 (.int .u8) xs sv := hslot
    obtain ⟨news, hsrc⟩ := src_slice (P := Go.Proofs.Tryd.prog) (I := I) (w := W2) (t' := 22) (el := 5) (e := .int .u8) (ys := decI n) (A := some ⟨w.heap.size, 0, none⟩) (cap := 24) (by kernel_rfl) (fun i hi => by
      refine ⟨w.heap.size, 0, rfl, [.int .u8 (decI n)[i]], ⟨decI_byte n _ (List.getElem_mem hi), rfl⟩, fun j v hv => ?_⟩
      cases j with
      | succ j => simp at hv
      | zero =>
        simp at hv; subst hv
        have hi' : i < (Lib.decDigits n).length := by simpa [decI] using hi
        have := hcell i hi'
        simpa [decI, Ty.cells] using this)
    rw [decI_len] at hsrc
    obtain ⟨v', w', G', hrun, hI', hown'⟩ := append_own (ty := 22) tb_ok (t := 22) (t' := 22) (ti := ⟨.sl (.int .u8), 5, [], 24⟩) rfl rfl rfl hgr (by decide) hown hsrc (by rw [decI_len]; omega)
    refine ⟨v', w', hrun, .one (.fr 5 (.int .u8) (xs ++ decI n)), [], fun _ => False, ?_⟩
    obtain ⟨bo, hG, hv⟩ := hown'
    refine ⟨[bo], hK, hI'.since, fun b h => h.elim, fun i b' hi => ?_, ⟨bo, rfl, ?_⟩, trivial⟩
    · cases i with
      | succ i => simp at hi
      | zero =>
        simp at hi; subst hi
        refine ⟨?_, (hI'.own _ _ b' hG rfl).2.1, fun h => h, fun j hj => ?_⟩
        · rcases hI'.tok_new hG with h | h
          · exact .inl h
          · exact .inr ⟨h.1, by show b' ∉ ([] : List Nat); simp⟩
        · cases j with
          | zero => rfl
          | succ j => simp at hj
    · rcases hv with ⟨rfl, rfl, hx⟩ | ⟨b', rfl, hr⟩
      · exact ⟨rfl, hx⟩
      · exact RVRel.keep (x := .fr 5 (.int .u8) (xs ++ decI n)) (b := some b') (fun _ h => .inl h) hr
end Go.VE

namespace Go.VE
open Go Go.Proofs
def internal_strconv_AppendUint_P (xs : List Int) (_ base : Int) : Prop := xs.length + 20 ≤ lim ∧ base = 10
def internal_strconv_AppendUint_F (xs : List Int) (u _ : Int) : List Int := xs ++ decI u.toNat
def internal_strconv_AppendUint_C (v : valsA au_A) (K : Res → List Cell → Prop) : Prop := internal_strconv_AppendUint_P v.1 v.2.1 v.2.2.1 ∧ ∀ r : List Int, r = internal_strconv_AppendUint_F v.1 v.2.1 v.2.2.1 → K (.one (.fr 5 (.int .u8) r)) []
def internal_strconv_AppendUint_S : App := specW au_A internal_strconv_AppendUint_C
theorem small_dec : ∀ n : Fin 100, internal_strconv_small_F (n.val : Int) = decI n.val := by decide +kernel
set_option maxRecDepth 20000 in
theorem small_P {n : Nat} (h : n < 100) : internal_strconv_small_P (n : Int) := by
  unfold internal_strconv_small_P
  rw [wrap_i64 (n := (n : Int) + 1) (by omega) (by omega), wrap_i64 (n := (n : Int) * 2) (by omega) (by omega), wrap_i64 (n := (n : Int) * 2 + 2) (by omega) (by omega)]
  by_cases h10 : (n : Int) < 10
  · have e : decide ((n : Int) < 10) = true := by simpa using h10
    rw [e]
    simp only [cond_true, List.length_cons, List.length_nil]
    omega
  · have e : decide ((n : Int) < 10) = false := by simpa using h10
    rw [e]
    simp only [cond_false, List.length_cons, List.length_nil]
    omega
theorem internal_strconv_AppendUint_ok : AppOk Tryd.prog 122 internal_strconv_AppendUint_S := by
  intro ags K hs
  obtain ⟨v, rfl, hP, hK⟩ := rdA_of _ ags _ hs
  obtain ⟨xs, u, b, ⟨⟩⟩ := v
  obtain ⟨hl, hb⟩ := hP
  change xs.length + 20 ≤ lim at hl
  change b = 10 at hb
  subst hb
  refine Meets.when (p := wfA au_A (xs, u, 10, ())) (fun I w vs bs ha => ArgsRel.wf au_A _ ha) fun hw => ?_
  have h0 : 0 ≤ u := hw.2.1.1
  by_cases h100 : u < 100
  · obtain ⟨n, rfl⟩ : ∃ n : Nat, u = (n : Int) := ⟨Int.toNat u, (Int.toNat_of_nonneg h0).symm⟩
    have hn : n < 100 := by
      have h100' : (n : Int) < 100 := h100
      omega
    have sd : internal_strconv_small_F (n : Int) = decI n := small_dec ⟨n, hn⟩
    refine internal_strconv_AppendUint0_ok (mkA internal_strconv_AppendUint0_A (xs, (n : Int), (10 : Int), ())) K (rdA_mk internal_strconv_AppendUint0_A (xs, (n : Int), (10 : Int), ()) (fun v => internal_strconv_AppendUint0_C v fun r o => wfR r → K r o) ⟨?_, fun r hr => ?_⟩)
    · show internal_strconv_AppendUint0_P xs (n : Int) 10
      unfold internal_strconv_AppendUint0_P
      have e : decide ((n : Int) < 100) = true := by simpa using h100
      rw [e, wrap_i64 (by omega) (by omega)]
      show internal_strconv_small_P (n : Int) ∧ _
      refine ⟨small_P hn, ?_⟩
      show xs.length + (internal_strconv_small_F (n : Int)).length ≤ lim
      rw [sd, decI_len]
      have : Lib.nDigits n ≤ 2 := by
        have : ∀ n : Fin 100, Lib.nDigits n.val ≤ 2 := by decide +kernel
        exact this ⟨n, hn⟩
      omega
    · refine hK r ?_
      rw [hr]
      show internal_strconv_AppendUint0_F xs (n : Int) 10 = xs ++ decI (Int.toNat (n : Int))
      unfold internal_strconv_AppendUint0_F
      have e : decide ((n : Int) < 100) = true := by simpa using h100
      rw [e, wrap_i64 (by omega) (by omega), Int.toNat_natCast]
      show xs ++ internal_strconv_small_F (n : Int) = _
      rw [sd]
  · refine Meets.mono (Ok := fun r o => wfR r → K r o) (.inl ⟨enters_of Tryd.func122 (by kernel_rfl), au_spec xs u (Int.not_lt.1 h100) hl (fun hwf => hK _ rfl hwf)⟩) fun r o I w v fb hr hk => hk (ResRel.wf hr)

end Go.VE
namespace Go.VE
open Go Go.Proofs
/-! ### internal/strconv.AppendInt -/
def internal_strconv_AppendInt_G : List (Nat × App) := [(122, internal_strconv_AppendUint_S)]
theorem internal_strconv_AppendInt_Gok : GOk Tryd.prog (getG internal_strconv_AppendInt_G) := GOk.cons internal_strconv_AppendUint_ok (GOk.nil)
def internal_strconv_AppendInt_raw (dst0 : List Int) (i1 : Int) (base2 : Int) (K : Res → List Cell → Prop) : Prop :=
 bif (decide (i1 < (0 : Int))) then
 bif decide (List.length dst0 + List.length ([(45 : Int)] : List Int) ≤ lim) then
 internal_strconv_AppendUint_P (dst0 ++ ([(45 : Int)] : List Int)) (IntKind.wrap .u64 (0 - (IntKind.wrap .u64 i1))) base2 ∧ (
 ∀ (r1 : List Int), r1 = internal_strconv_AppendUint_F (dst0 ++ ([(45 : Int)] : List Int)) (IntKind.wrap .u64 (0 - (IntKind.wrap .u64 i1))) base2 → (
 wfR (.one (.fr 5 (.int .u8) r1)) → (
 K (.one (.fr 5 (.int .u8) r1)) [])))
 else False
 else
 internal_strconv_AppendUint_P dst0 (IntKind.wrap .u64 i1) base2 ∧ (
 ∀ (r2 : List Int), r2 = internal_strconv_AppendUint_F dst0 (IntKind.wrap .u64 i1) base2 → (
 wfR (.one (.fr 5 (.int .u8) r2)) → (
 K (.one (.fr 5 (.int .u8) r2)) [])))
def internal_strconv_AppendInt_A : List AS := [.o 5 (.int .u8), .v (.int .i64), .v (.int .i64)]
theorem internal_strconv_AppendInt_walk (dst0 : List Int) (i1 : Int) (base2 : Int) (K : Res → List Cell → Prop) : runF tb (getG internal_strconv_AppendInt_G) [] Tryd.f85 [true] (mkA internal_strconv_AppendInt_A (dst0, i1, base2, ())) K = internal_strconv_AppendInt_raw dst0 i1 base2 K := by kernel_rfl
--! own 0

def internal_strconv_AppendInt_P (dst0 : List Int) (i1 : Int) (base2 : Int) : Prop :=
 bif (decide (i1 < (0 : Int))) then
 (List.length dst0 + List.length ([(45 : Int)] : List Int) ≤ lim) ∧ (
 internal_strconv_AppendUint_P (dst0 ++ ([(45 : Int)] : List Int)) (IntKind.wrap .u64 (0 - (IntKind.wrap .u64 i1))) base2)
 else
 internal_strconv_AppendUint_P dst0 (IntKind.wrap .u64 i1) base2
def internal_strconv_AppendInt_F (dst0 : List Int) (i1 : Int) (base2 : Int) : List Int :=
 bif (decide (i1 < (0 : Int))) then
 let r1 : List Int := internal_strconv_AppendUint_F (dst0 ++ ([(45 : Int)] : List Int)) (IntKind.wrap .u64 (0 - (IntKind.wrap .u64 i1))) base2
 r1
 else
 let r2 : List Int := internal_strconv_AppendUint_F dst0 (IntKind.wrap .u64 i1) base2
 r2
set_option maxRecDepth 20000 in
theorem internal_strconv_AppendInt_sp (dst0 : List Int) (i1 : Int) (base2 : Int) (K : Res → List Cell → Prop) (_ : wfA internal_strconv_AppendInt_A (dst0, i1, base2, ())) (hp : internal_strconv_AppendInt_P dst0 i1 base2) (h : ∀ r : List Int, r = internal_strconv_AppendInt_F dst0 i1 base2 → K (.one (.fr 5 (.int .u8) r)) []) : internal_strconv_AppendInt_raw dst0 i1 base2 K := by
  unfold internal_strconv_AppendInt_raw
  unfold internal_strconv_AppendInt_P at hp
  refine brb (fun c_1 => ?_) (fun c_1 => ?_)
  ·
    replace hp := cT c_1 hp
    refine asrt hp.1 ?_
    replace hp := hp.2
    refine ⟨hp, ?_⟩
    intro r1 hr1
    subst hr1
    intro _
    exact h _ ((ctrue c_1) : internal_strconv_AppendInt_F dst0 i1 base2 = _).symm
  ·
    replace hp := cF c_1 hp
    refine ⟨hp, ?_⟩
    intro r2 hr2
    subst hr2
    intro _
    exact h _ ((cfalse c_1) : internal_strconv_AppendInt_F dst0 i1 base2 = _).symm
def internal_strconv_AppendInt_C (v : valsA internal_strconv_AppendInt_A) (K : Res → List Cell → Prop) : Prop := internal_strconv_AppendInt_P v.1 v.2.1 v.2.2.1 ∧ ∀ r : List Int, r = internal_strconv_AppendInt_F v.1 v.2.1 v.2.2.1 → K (.one (.fr 5 (.int .u8) r)) []
def internal_strconv_AppendInt_S : App := specW internal_strconv_AppendInt_A internal_strconv_AppendInt_C
theorem internal_strconv_AppendInt_wv (K : Res → List Cell → Prop) : ∀ v : valsA internal_strconv_AppendInt_A, runF tb (getG internal_strconv_AppendInt_G) [] Tryd.f85 [true] (mkA internal_strconv_AppendInt_A v) K = internal_strconv_AppendInt_raw v.1 v.2.1 v.2.2.1 K
  | (dst0, i1, base2, ()) => internal_strconv_AppendInt_walk dst0 i1 base2 K
set_option maxRecDepth 20000 in
theorem internal_strconv_AppendInt_ok : AppOk Tryd.prog 85 internal_strconv_AppendInt_S :=
  AppOk.specW (spec_ok ((runF_ok tb_M tb_ok internal_strconv_AppendInt_Gok (LabsOk.nil) (f := 85) (fn := Tryd.f85) (by kernel_rfl) (by kernel_rfl) (by kernel_rfl) [true])) fun v K hw h => (internal_strconv_AppendInt_wv K v).mpr (internal_strconv_AppendInt_sp v.1 v.2.1 v.2.2.1 K hw h.1 h.2))

end Go.VE
namespace Go.VE
open Go Go.Proofs
/-! ### strconv.AppendInt -/
def strconv_AppendInt_G : List (Nat × App) := [(85, internal_strconv_AppendInt_S)]
theorem strconv_AppendInt_Gok : GOk Tryd.prog (getG strconv_AppendInt_G) := GOk.cons internal_strconv_AppendInt_ok (GOk.nil)
def strconv_AppendInt_raw (dst0 : List Int) (i1 : Int) (base2 : Int) (K : Res → List Cell → Prop) : Prop :=
 internal_strconv_AppendInt_P dst0 i1 base2 ∧ (
 ∀ (r1 : List Int), r1 = internal_strconv_AppendInt_F dst0 i1 base2 → (
 wfR (.one (.fr 5 (.int .u8) r1)) → (
 K (.one (.fr 5 (.int .u8) r1)) [])))
def strconv_AppendInt_A : List AS := [.o 5 (.int .u8), .v (.int .i64), .v (.int .i64)]
theorem strconv_AppendInt_walk (dst0 : List Int) (i1 : Int) (base2 : Int) (K : Res → List Cell → Prop) : runF tb (getG strconv_AppendInt_G) [] Tryd.f44 [true] (mkA strconv_AppendInt_A (dst0, i1, base2, ())) K = strconv_AppendInt_raw dst0 i1 base2 K := by kernel_rfl
--! own 0

def strconv_AppendInt_P (dst0 : List Int) (i1 : Int) (base2 : Int) : Prop :=
 internal_strconv_AppendInt_P dst0 i1 base2
def strconv_AppendInt_F (dst0 : List Int) (i1 : Int) (base2 : Int) : List Int :=
 let r1 : List Int := internal_strconv_AppendInt_F dst0 i1 base2
 r1
set_option maxRecDepth 20000 in
theorem strconv_AppendInt_sp (dst0 : List Int) (i1 : Int) (base2 : Int) (K : Res → List Cell → Prop) (_ : wfA strconv_AppendInt_A (dst0, i1, base2, ())) (hp : strconv_AppendInt_P dst0 i1 base2) (h : ∀ r : List Int, r = strconv_AppendInt_F dst0 i1 base2 → K (.one (.fr 5 (.int .u8) r)) []) : strconv_AppendInt_raw dst0 i1 base2 K := by
  unfold strconv_AppendInt_raw
  unfold strconv_AppendInt_P at hp
  refine ⟨hp, ?_⟩
  intro r1 hr1
  subst hr1
  intro _
  exact h _ rfl
def strconv_AppendInt_C (v : valsA strconv_AppendInt_A) (K : Res → List Cell → Prop) : Prop := strconv_AppendInt_P v.1 v.2.1 v.2.2.1 ∧ ∀ r : List Int, r = strconv_AppendInt_F v.1 v.2.1 v.2.2.1 → K (.one (.fr 5 (.int .u8) r)) []
def strconv_AppendInt_S : App := specW strconv_AppendInt_A strconv_AppendInt_C
theorem strconv_AppendInt_wv (K : Res → List Cell → Prop) : ∀ v : valsA strconv_AppendInt_A, runF tb (getG strconv_AppendInt_G) [] Tryd.f44 [true] (mkA strconv_AppendInt_A v) K = strconv_AppendInt_raw v.1 v.2.1 v.2.2.1 K
  | (dst0, i1, base2, ()) => strconv_AppendInt_walk dst0 i1 base2 K
set_option maxRecDepth 20000 in
theorem strconv_AppendInt_ok : AppOk Tryd.prog 44 strconv_AppendInt_S :=
  AppOk.specW (spec_ok ((runF_ok tb_M tb_ok strconv_AppendInt_Gok (LabsOk.nil) (f := 44) (fn := Tryd.f44) (by kernel_rfl) (by kernel_rfl) (by kernel_rfl) [true])) fun v K hw h => (strconv_AppendInt_wv K v).mpr (strconv_AppendInt_sp v.1 v.2.1 v.2.2.1 K hw h.1 h.2))

end Go.VE
namespace Go.VE
open Go Go.Proofs

theorem decI_20 {u : Nat} (h : u < 18446744073709551616) : (decI u).length ≤ 20 := by
  rw [decI_len]
  by_cases h0 : u = 0
  · subst h0; decide +kernel
  · exact digits20 (by omega) h

theorem appendInt_P {xs : List Int} (i : Int) (h : xs.length + 21 ≤ lim) : strconv_AppendInt_P xs i 10 := by
  show internal_strconv_AppendInt_P xs i 10
  unfold internal_strconv_AppendInt_P
  refine bif_both ⟨?_, ?_, rfl⟩ ⟨?_, rfl⟩
  · simp only [List.length_cons, List.length_nil]; omega
  · simp only [List.length_append, List.length_cons, List.length_nil]; omega
  · omega

theorem appendInt_len {xs : List Int} {i : Int} (h0 : 0 ≤ i) (h1 : i ≤ 9223372036854775807) : strconv_AppendInt_F xs i 10 = xs ++ decI i.toNat := by
  show internal_strconv_AppendInt_F xs i 10 = _
  unfold internal_strconv_AppendInt_F
  have e : decide (i < 0) = false := by rw [decide_eq_false_iff_not]; omega
  rw [wrap_u64 (n := i) (by omega) (by omega), e]
  rfl

theorem name_len (c : Cmd) : (keys_Name_F c).length ≤ c.2.2.1.length + c.2.2.2.1.length + 1 := by
  unfold keys_Name_F
  cases keys_is_F c with
  | false => simp
  | true =>
    simp only [Bool.not_true, cond_false]
    cases (!decide (c.2.2.1 = [])) with
    | true =>
      simp only [cond_true]
      cases decide (c.2.2.2.1 = c.2.2.1) with
      | true => simp only [cond_true, List.length_append, List.length_cons, List.length_nil]; omega
      | false =>
        simp only [cond_false]
        cases keys_wants_F c with
        | true => simp only [cond_true, List.length_append, List.length_cons, List.length_nil]; omega
        | false => simp only [cond_false, List.length_append]; omega
    | false =>
      simp only [cond_false]
      cases keys_wants_F c with
      | true => simp only [cond_true, List.length_append, List.length_cons, List.length_nil]; omega
      | false => simp only [cond_false, List.length_append]; omega

theorem is_cnt {c : Cmd} (h : keys_is_F c = true) : 0 ≤ c.2.1 ∧ c.2.1 ≤ 9999 := by
  unfold keys_is_F at h
  cases hv : bank_Valid_F c.1 with
  | false => rw [hv] at h; cases h
  | true =>
    rw [hv] at h
    simp only [Bool.not_true, cond_false] at h
    by_cases h1 : c.2.1 < 0
    · have e : decide (c.2.1 < 0) = true := by simpa using h1
      rw [e] at h; cases h
    · have e : decide (c.2.1 < 0) = false := by simpa using h1
      rw [e] at h
      simp only [cond_false] at h
      by_cases h2 : 9999 < c.2.1
      · have e : decide (9999 < c.2.1) = true := by simpa using h2
        rw [e] at h; cases h
      · omega

def finR (m : MR) : Cmd × Int := if m.1 = 0 ∨ m.1 = 2 then (zC, m.1) else if m.2.1 ≠ [] then (zC, 2) else (m.2.2, m.1)
theorem finM_eq (s : List Int) (c : Cmd) : finM s c = finR (namedM (s.drop (cntL s 0).2) (setCnt c (cntL s 0).1)) := rfl
theorem fin_whole (c : Cmd) : finR (1, [], c) = (c, 1) := rfl
theorem fin_ask (c : Cmd) : finR (3, [], c) = (c, 3) := rfl
theorem fin_more (s : List Int) (c : Cmd) : finR (0, s, c) = (zC, 0) := rfl
theorem fin_bad (s : List Int) (c : Cmd) : finR (2, s, c) = (zC, 2) := rfl
theorem mnE (a b : Int) : mn a b = if b < a then b else a := by
  unfold mn; by_cases h : b < a <;> simp [h]
theorem mxE (a b : Int) : mx a b = if a < b then b else a := by
  unfold mx; by_cases h : a < b <;> simp [h]
theorem key_set {c : Cmd} (hc : c.2.2.2.2.1 = 0) (k : List Int) : setKey c k = (c.1, c.2.1, c.2.2.1, k, 0, c.2.2.2.2.2) := by
  unfold setKey; rw [hc]
theorem singles_not {b : Int} (h : b ∈ singlesL) : b ≠ 47 ∧ b ≠ 63 ∧ b ≠ 58 ∧ b ∉ markedL ∧ b ≠ 103 := by
  have : ∀ x ∈ singlesL, x ≠ 47 ∧ x ≠ 63 ∧ x ≠ 58 ∧ x ∉ markedL ∧ x ≠ 103 := by decide
  exact this b h
theorem marked_not {b : Int} (h : b ∈ markedL) : b ≠ 47 ∧ b ≠ 63 ∧ b ≠ 58 ∧ b ≠ 103 := by
  have : ∀ x ∈ markedL, x ≠ 47 ∧ x ≠ 63 ∧ x ≠ 58 ∧ x ≠ 103 := by decide
  exact this b h
theorem plains_not {b : Int} (h : b ∈ plainsL) : b ≠ 47 ∧ b ≠ 63 ∧ b ≠ 58 ∧ b ∉ markedL ∧ b ≠ 103 ∧ b ≠ 114 ∧ b ≠ 109 := by
  have : ∀ x ∈ plainsL, x ≠ 47 ∧ x ≠ 63 ∧ x ≠ 58 ∧ x ∉ markedL ∧ x ≠ 103 ∧ x ≠ 114 ∧ x ≠ 109 := by decide
  exact this b h
def IsOp (op : List Int) (l : Int) : Prop := op = [l] ∧ (l = 100 ∨ l = 99 ∨ l = 121 ∨ l = 62 ∨ l = 60) ∨ op = [103, l] ∧ (l = 126 ∨ l = 117 ∨ l = 85)
theorem op_marked {op : List Int} {l : Int} (h : IsOp op l) : l ∉ markedL ∧ l ≠ 103 ∧ l ≠ 105 ∧ l ≠ 97 ∧ l ≠ 101 ∧ l ≠ 69 := by
  have : ∀ x ∈ ([100, 99, 121, 62, 60, 126, 117, 85] : List Int), x ∉ markedL ∧ x ≠ 103 ∧ x ≠ 105 ∧ x ≠ 97 ∧ x ≠ 101 ∧ x ≠ 69 := by decide
  refine this l ?_
  simp only [List.mem_cons, List.not_mem_nil, or_false]
  rcases h with ⟨_, h⟩ | ⟨_, h⟩ <;> omega
end Go.VE
namespace Go.VE
open Go Go.Proofs

theorem one_iff {k l : List Int} : keys_one_F k l = true ↔ ∃ b ∈ l, k = [b] := by
  unfold keys_one_F
  match k with
  | [] => simp
  | [b] =>
    have e : decide (((List.length [b] : Nat) : Int) = 1) = true := rfl
    rw [e]
    show strings_Contains_F l [b] = true ↔ _
    unfold strings_Contains_F strings_Index_F internal_stringslite_Index_F
    have e0 : decide (((List.length [b] : Nat) : Int) = 0) = false := rfl
    rw [e0]
    simp only [cond_false]
    by_cases hl : [b] = l
    · subst hl
      simp
    · have e2 : decide ([b] = l) = false := by simpa using hl
      rw [e2, e]
      simp only [cond_false, cond_true, decide_eq_true_eq]
      show 0 ≤ idxB l b ↔ _
      rw [show (0 ≤ idxB l b ↔ b ∈ l) from idx_mem (l := l) (b := b)]
      simp
  | b :: d :: r =>
    have e : decide (((List.length (b :: d :: r) : Nat) : Int) = 1) = false := by rw [decide_eq_false_iff_not]; simp only [List.length_cons]; omega
    rw [e]
    simp

def Motion (k : List Int) : Prop := k = [8] ∨ k = [13] ∨ k = [47] ∨ k = [63] ∨ k = [103, 103] ∨ k = [103, 101] ∨ k = [103, 69] ∨ (∃ b ∈ singlesL, k = [b]) ∨ ∃ b ∈ markedL, k = [b]

theorem motion_iff {k : List Int} : keys_motion_F k = true ↔ Motion k := by
  have J : keys_motion_J1_F k = true ↔ (∃ b ∈ singlesL, k = [b]) ∨ ∃ b ∈ markedL, k = [b] := by
    rw [← one_iff, ← one_iff]
    unfold keys_motion_J1_F
    show (bif keys_one_F k singlesL then true else keys_one_F k markedL) = true ↔ _
    cases keys_one_F k singlesL <;> simp
  have K : ∀ x : Bool, (Sum.elim (fun q0r : Bool => q0r) (fun q0n : List Int => keys_motion_J1_F q0n) (keys_motion_J0_F k x)) = (x || keys_motion_J1_F k) := fun x => by cases x <;> rfl
  have e : keys_motion_F k = (decide (k = [8]) || decide (k = [13]) || decide (k = [47]) || decide (k = [63]) || decide (k = [103, 103]) || decide (k = [103, 101]) || (decide (k = [103, 69]) || keys_motion_J1_F k)) := by
    have e2 : keys_motion_F k = (bif decide (k = [8]) then (Sum.elim (fun q0r : Bool => q0r) (fun q0n : List Int => keys_motion_J1_F q0n) (keys_motion_J0_F k (decide (k = [8]))))
      else bif decide (k = [13]) then (Sum.elim (fun q0r : Bool => q0r) (fun q0n : List Int => keys_motion_J1_F q0n) (keys_motion_J0_F k (decide (k = [13]))))
      else bif decide (k = [47]) then (Sum.elim (fun q0r : Bool => q0r) (fun q0n : List Int => keys_motion_J1_F q0n) (keys_motion_J0_F k (decide (k = [47]))))
      else bif decide (k = [63]) then (Sum.elim (fun q0r : Bool => q0r) (fun q0n : List Int => keys_motion_J1_F q0n) (keys_motion_J0_F k (decide (k = [63]))))
      else bif decide (k = [103, 103]) then (Sum.elim (fun q0r : Bool => q0r) (fun q0n : List Int => keys_motion_J1_F q0n) (keys_motion_J0_F k (decide (k = [103, 103]))))
      else bif decide (k = [103, 101]) then (Sum.elim (fun q0r : Bool => q0r) (fun q0n : List Int => keys_motion_J1_F q0n) (keys_motion_J0_F k (decide (k = [103, 101]))))
      else (Sum.elim (fun q0r : Bool => q0r) (fun q0n : List Int => keys_motion_J1_F q0n) (keys_motion_J0_F k (decide (k = [103, 69]))))) := rfl
    rw [e2]
    simp only [K]
    cases decide (k = [8]) <;> cases decide (k = [13]) <;> cases decide (k = [47]) <;> cases decide (k = [63]) <;> cases decide (k = [103, 103]) <;> cases decide (k = [103, 101]) <;> rfl
  rw [e]
  simp only [Bool.or_eq_true, decide_eq_true_eq, J]
  unfold Motion
  constructor
  · rintro ((((((h | h) | h) | h) | h) | h) | h | h | h)
    · exact .inl h
    · exact .inr (.inl h)
    · exact .inr (.inr (.inl h))
    · exact .inr (.inr (.inr (.inl h)))
    · exact .inr (.inr (.inr (.inr (.inl h))))
    · exact .inr (.inr (.inr (.inr (.inr (.inl h)))))
    · exact .inr (.inr (.inr (.inr (.inr (.inr (.inl h))))))
    · exact .inr (.inr (.inr (.inr (.inr (.inr (.inr (.inl h)))))))
    · exact .inr (.inr (.inr (.inr (.inr (.inr (.inr (.inr h)))))))
  · rintro (h | h | h | h | h | h | h | h | h)
    · exact .inl (.inl (.inl (.inl (.inl (.inl h)))))
    · exact .inl (.inl (.inl (.inl (.inl (.inr h)))))
    · exact .inl (.inl (.inl (.inl (.inr h))))
    · exact .inl (.inl (.inl (.inr h)))
    · exact .inl (.inl (.inr h))
    · exact .inl (.inr h)
    · exact .inr (.inl h)
    · exact .inr (.inr (.inl h))
    · exact .inr (.inr (.inr h))

def WantsA (c : Cmd) : Prop := (∃ b ∈ markedL, c.2.2.2.1 = [b]) ∨ c.2.2.1 = [] ∧ ∃ b ∈ ([114, 109] : List Int), c.2.2.2.1 = [b]

theorem wants_iff {c : Cmd} : keys_wants_F c = true ↔ WantsA c := by
  unfold WantsA
  rw [← one_iff, ← one_iff]
  unfold keys_wants_F
  show (bif keys_one_F c.2.2.2.1 markedL then true else bif decide (c.2.2.1 = []) then keys_one_F c.2.2.2.1 [114, 109] else false) = true ↔ _
  cases keys_one_F c.2.2.2.1 markedL
  · by_cases h : c.2.2.1 = []
    · have e : decide (c.2.2.1 = []) = true := by simpa using h
      rw [e]; simp [h]
    · have e : decide (c.2.2.1 = []) = false := by simpa using h
      rw [e]; simp [h]
  · simp

def Object (k : List Int) : Prop := ∃ a d, (a = 105 ∨ a = 97) ∧ d ∈ objectsL ∧ k = [a, d]
def Plain0 (k : List Int) : Prop := (∃ b ∈ plainsL, k = [b]) ∨ (∃ b ∈ ([114, 109] : List Int), k = [b]) ∨ k = [58] ∨ k = [103, 45] ∨ k = [103, 43]
def opList : List (List Int) := [[100], [99], [121], [62], [60], [103, 126], [103, 117], [103, 85]]
def Known (c : Cmd) : Prop := c.2.2.1 = [] ∧ (Motion c.2.2.2.1 ∨ Plain0 c.2.2.2.1) ∨ c.2.2.1 ∈ opList ∧ (c.2.2.2.1 = c.2.2.1 ∨ Object c.2.2.2.1 ∨ Motion c.2.2.2.1)

theorem knownJ0 (x : Bool) (c : Cmd) : (Sum.elim (fun q : Bool => q) (fun _ : Unit => keys_known_J1_F) (keys_known_J0_F x c)) = true ↔ x = true ∧ (c.2.2.2.1 = c.2.2.1 ∨ Object c.2.2.2.1 ∨ Motion c.2.2.2.1) := by
  cases x with
  | false => simp [keys_known_J0_F, keys_known_J1_F]
  | true =>
    simp only [true_and]
    unfold keys_known_J0_F
    simp only [cond_true]
    by_cases h2 : (c.2.2.2.1.length : Int) = 2
    · have e : decide ((c.2.2.2.1.length : Int) = 2) = true := by simpa using h2
      rw [e]
      simp only [cond_true]
      obtain ⟨a, d, hk⟩ : ∃ a d, c.2.2.2.1 = [a, d] := by
        match hh : c.2.2.2.1, h2 with
        | [a, d], _ => exact ⟨a, d, rfl⟩
      have hrd : rd (0 : Int) c.2.2.2.1 0 = a := by rw [hk]; rfl
      have hdr : List.drop (Int.toNat 1) c.2.2.2.1 = [d] := by rw [hk]; rfl
      have ho : Object c.2.2.2.1 ↔ (a = 105 ∨ a = 97) ∧ d ∈ objectsL := by
        rw [hk]
        constructor
        · rintro ⟨a', d', h1, h3, h4⟩
          simp at h4
          obtain ⟨rfl, rfl⟩ := h4
          exact ⟨h1, h3⟩
        · rintro ⟨h1, h3⟩
          exact ⟨a, d, h1, h3, rfl⟩
      have h1 : keys_one_F [d] objectsL = true ↔ d ∈ objectsL := by rw [one_iff]; simp
      have key : ∀ y : Bool, (y = true ↔ d ∈ objectsL) → (Sum.elim (fun q : Bool => q) (fun _ : Unit => keys_known_J1_F) (bif decide (c.2.2.2.1 = c.2.2.1) then Sum.inl true else bif y then Sum.inl true else Sum.inl (keys_motion_F c.2.2.2.1)) = true ↔ c.2.2.2.1 = c.2.2.1 ∨ d ∈ objectsL ∨ Motion c.2.2.2.1) := fun y hy => by
        rw [← motion_iff, ← hy]
        by_cases hc : c.2.2.2.1 = c.2.2.1
        · simp [hc]
        · have e3 : decide (c.2.2.2.1 = c.2.2.1) = false := by simpa using hc
          rw [e3]
          cases y <;> simp [hc]
      rw [hrd, hdr, ho]
      by_cases ha : a = 105
      · have e4 : decide (a = 105) = true := by simpa using ha
        rw [e4]
        refine (key _ h1).trans ?_
        simp [ha]
      · have e4 : decide (a = 105) = false := by simpa using ha
        rw [e4]
        simp only [cond_false]
        by_cases hb : a = 97
        · have e5 : decide (a = 97) = true := by simpa using hb
          rw [e5]
          refine (key _ h1).trans ?_
          simp [hb]
        · have e5 : decide (a = 97) = false := by simpa using hb
          rw [e5]
          simp only [cond_false]
          by_cases hc : c.2.2.2.1 = c.2.2.1
          · simp [hc]
          · have e3 : decide (c.2.2.2.1 = c.2.2.1) = false := by simpa using hc
            rw [e3]
            simp [hc, ha, hb, motion_iff]
    · have e : decide ((c.2.2.2.1.length : Int) = 2) = false := by simpa using h2
      rw [e]
      simp only [cond_false]
      have ho : ¬ Object c.2.2.2.1 := by
        rintro ⟨a, d, _, _, hk⟩
        rw [hk] at h2; exact h2 rfl
      by_cases hc : c.2.2.2.1 = c.2.2.1
      · simp [hc]
      · have e3 : decide (c.2.2.2.1 = c.2.2.1) = false := by simpa using hc
        rw [e3]
        simp [hc, ho, motion_iff]

theorem known_iff {c : Cmd} : keys_known_F c = true ↔ Known c := by
  have e : keys_known_F c = bif decide (c.2.2.1 = []) then
        (bif keys_motion_F c.2.2.2.1 then true else bif keys_one_F c.2.2.2.1 plainsL then true else bif keys_one_F c.2.2.2.1 [114, 109] then true else bif decide (c.2.2.2.1 = [58]) then true else bif decide (c.2.2.2.1 = [103, 45]) then true else decide (c.2.2.2.1 = [103, 43]))
      else bif decide (c.2.2.1 = [100]) then Sum.elim (fun q : Bool => q) (fun _ : Unit => keys_known_J1_F) (keys_known_J0_F (decide (c.2.2.1 = [100])) c)
      else bif decide (c.2.2.1 = [99]) then Sum.elim (fun q : Bool => q) (fun _ : Unit => keys_known_J1_F) (keys_known_J0_F (decide (c.2.2.1 = [99])) c)
      else bif decide (c.2.2.1 = [121]) then Sum.elim (fun q : Bool => q) (fun _ : Unit => keys_known_J1_F) (keys_known_J0_F (decide (c.2.2.1 = [121])) c)
      else bif decide (c.2.2.1 = [62]) then Sum.elim (fun q : Bool => q) (fun _ : Unit => keys_known_J1_F) (keys_known_J0_F (decide (c.2.2.1 = [62])) c)
      else bif decide (c.2.2.1 = [60]) then Sum.elim (fun q : Bool => q) (fun _ : Unit => keys_known_J1_F) (keys_known_J0_F (decide (c.2.2.1 = [60])) c)
      else bif decide (c.2.2.1 = [103, 126]) then Sum.elim (fun q : Bool => q) (fun _ : Unit => keys_known_J1_F) (keys_known_J0_F (decide (c.2.2.1 = [103, 126])) c)
      else bif decide (c.2.2.1 = [103, 117]) then Sum.elim (fun q : Bool => q) (fun _ : Unit => keys_known_J1_F) (keys_known_J0_F (decide (c.2.2.1 = [103, 117])) c)
      else Sum.elim (fun q : Bool => q) (fun _ : Unit => keys_known_J1_F) (keys_known_J0_F (decide (c.2.2.1 = [103, 85])) c) := rfl
  rw [e]
  unfold Known
  simp only [Bool.cond_decide]
  by_cases h0 : c.2.2.1 = []
  · rw [if_pos h0]
    have hno : ¬ (c.2.2.1 ∈ opList) := by rw [h0]; decide
    unfold Plain0
    rw [← motion_iff, ← one_iff, ← one_iff]
    cases keys_motion_F c.2.2.2.1 <;> cases keys_one_F c.2.2.2.1 plainsL <;> cases keys_one_F c.2.2.2.1 [114, 109] <;> simp [h0, hno]
    all_goals first | (by_cases q1 : c.2.2.2.1 = [58] <;> by_cases q2 : c.2.2.2.1 = [103, 45] <;> simp_all) | skip
  · rw [if_neg h0]
    have side : ∀ o : List Int, c.2.2.1 = o → o ∈ opList → ((Sum.elim (fun q : Bool => q) (fun _ : Unit => keys_known_J1_F) (keys_known_J0_F (decide (c.2.2.1 = o)) c) = true) ↔ (c.2.2.1 = [] ∧ (Motion c.2.2.2.1 ∨ Plain0 c.2.2.2.1) ∨ c.2.2.1 ∈ opList ∧ (c.2.2.2.1 = c.2.2.1 ∨ Object c.2.2.2.1 ∨ Motion c.2.2.2.1))) := fun o ho hm => by
      rw [knownJ0]
      have hin : c.2.2.1 ∈ opList := by rw [ho]; exact hm
      constructor
      · rintro ⟨_, h⟩; exact .inr ⟨hin, h⟩
      · rintro (⟨h, _⟩ | ⟨_, h⟩)
        · exact absurd h h0
        · exact ⟨by simpa using ho, h⟩
    by_cases h1 : c.2.2.1 = [100]
    · rw [if_pos h1]; exact side _ h1 (by decide)
    rw [if_neg h1]
    by_cases h2 : c.2.2.1 = [99]
    · rw [if_pos h2]; exact side _ h2 (by decide)
    rw [if_neg h2]
    by_cases h3 : c.2.2.1 = [121]
    · rw [if_pos h3]; exact side _ h3 (by decide)
    rw [if_neg h3]
    by_cases h4 : c.2.2.1 = [62]
    · rw [if_pos h4]; exact side _ h4 (by decide)
    rw [if_neg h4]
    by_cases h5 : c.2.2.1 = [60]
    · rw [if_pos h5]; exact side _ h5 (by decide)
    rw [if_neg h5]
    by_cases h6 : c.2.2.1 = [103, 126]
    · rw [if_pos h6]; exact side _ h6 (by decide)
    rw [if_neg h6]
    by_cases h7 : c.2.2.1 = [103, 117]
    · rw [if_pos h7]; exact side _ h7 (by decide)
    rw [if_neg h7]
    by_cases h8 : c.2.2.1 = [103, 85]
    · exact side _ h8 (by decide)
    · rw [knownJ0]
      have : ¬ c.2.2.1 ∈ opList := by simp [opList, h1, h2, h3, h4, h5, h6, h7, h8]
      simp [h0, this, h8]
end Go.VE
namespace Go.VE
open Go Go.Proofs

/-! ### is -/
def isB (v kn w n1 n2 a27 a0 o0 k48 cp l0 k47 k63 k58 : Bool) : Bool :=
  let r1 : Bool := v
  bif (!r1) then
    false
  else
    bif n1 then
      false
    else
      bif n2 then
        false
      else
        let r2 : Bool := kn
        bif (!r2) then
          false
        else
          let r3 : Bool := w
          bif r3 then
            bif a27 then
              false
            else
              let r4 : Bool := w
              bif (!r4) then
                bif (!a0) then
                  false
                else
                  bif o0 then
                    bif k48 then
                      bif cp then
                        false
                      else
                        bif l0 then
                          true
                        else
                          bif k47 then
                            true
                          else
                            bif k63 then
                              true
                            else
                              k58
                    else
                      bif l0 then
                        true
                      else
                        bif k47 then
                          true
                        else
                          bif k63 then
                            true
                          else
                            k58
                  else
                    bif l0 then
                      true
                    else
                      bif k47 then
                        true
                      else
                        bif k63 then
                          true
                        else
                          k58
              else
                bif o0 then
                  bif k48 then
                    bif cp then
                      false
                    else
                      bif l0 then
                        true
                      else
                        bif k47 then
                          true
                        else
                          bif k63 then
                            true
                          else
                            k58
                  else
                    bif l0 then
                      true
                    else
                      bif k47 then
                        true
                      else
                        bif k63 then
                          true
                        else
                          k58
                else
                  bif l0 then
                    true
                  else
                    bif k47 then
                      true
                    else
                      bif k63 then
                        true
                      else
                        k58
          else
            let r5 : Bool := w
            bif (!r5) then
              bif (!a0) then
                false
              else
                bif o0 then
                  bif k48 then
                    bif cp then
                      false
                    else
                      bif l0 then
                        true
                      else
                        bif k47 then
                          true
                        else
                          bif k63 then
                            true
                          else
                            k58
                  else
                    bif l0 then
                      true
                    else
                      bif k47 then
                        true
                      else
                        bif k63 then
                          true
                        else
                          k58
                else
                  bif l0 then
                    true
                  else
                    bif k47 then
                      true
                    else
                      bif k63 then
                        true
                      else
                        k58
            else
              bif o0 then
                bif k48 then
                  bif cp then
                    false
                  else
                    bif l0 then
                      true
                    else
                      bif k47 then
                        true
                      else
                        bif k63 then
                          true
                        else
                          k58
                else
                  bif l0 then
                    true
                  else
                    bif k47 then
                      true
                    else
                      bif k63 then
                        true
                      else
                        k58
              else
                bif l0 then
                  true
                else
                  bif k47 then
                    true
                  else
                    bif k63 then
                      true
                    else
                      k58
theorem isB_eq : ∀ (v kn w n1 n2 a27 a0 o0 k48 cp l0 k47 k63 k58 : Bool), isB v kn w n1 n2 a27 a0 o0 k48 cp l0 k47 k63 k58 = (v && !n1 && !n2 && kn && (bif w then !a27 else a0) && !(o0 && k48 && cp) && (l0 || k47 || k63 || k58)) := by decide +kernel
def Is (c : Cmd) : Prop := bank_Valid_F c.1 = true ∧ (0 ≤ c.2.1 ∧ c.2.1 ≤ 9999) ∧ Known c ∧ (WantsA c → c.2.2.2.2.1 ≠ 27) ∧ (¬ WantsA c → c.2.2.2.2.1 = 0) ∧ ¬ (c.2.2.1 = [] ∧ c.2.2.2.1 = [48] ∧ 0 < c.2.1) ∧ (c.2.2.2.2.2 = [] ∨ c.2.2.2.1 = [47] ∨ c.2.2.2.1 = [63] ∨ c.2.2.2.1 = [58])
theorem is_iff {c : Cmd} : keys_is_F c = true ↔ Is c := by
  have e : keys_is_F c = isB (bank_Valid_F c.1) (keys_known_F c) (keys_wants_F c) (decide (c.2.1 < 0)) (decide (9999 < c.2.1)) (decide (c.2.2.2.2.1 = 27)) (decide (c.2.2.2.2.1 = 0)) (decide (c.2.2.1 = [])) (decide (c.2.2.2.1 = [48])) (decide (0 < c.2.1)) (decide ((List.length c.2.2.2.2.2 : Int) = 0)) (decide (c.2.2.2.1 = [47])) (decide (c.2.2.2.1 = [63])) (decide (c.2.2.2.1 = [58])) := rfl
  rw [e, isB_eq]
  unfold Is
  rw [← known_iff]
  have hl : ((List.length c.2.2.2.2.2 : Int) = 0) ↔ c.2.2.2.2.2 = [] := by
    constructor
    · intro h; exact List.eq_nil_of_length_eq_zero (by omega)
    · intro h; rw [h]; rfl
  have hw : (bif keys_wants_F c then !decide (c.2.2.2.2.1 = 27) else decide (c.2.2.2.2.1 = 0)) = true ↔ (WantsA c → c.2.2.2.2.1 ≠ 27) ∧ (¬ WantsA c → c.2.2.2.2.1 = 0) := by
    cases hh : keys_wants_F c with
    | true => have := wants_iff.1 hh; simp [this]
    | false =>
      have : ¬ WantsA c := fun h => by rw [wants_iff.2 h] at hh; cases hh
      simp [this]
  simp only [Bool.and_eq_true, Bool.or_eq_true, Bool.not_eq_true', decide_eq_true_eq, decide_eq_false_iff_not, hl, hw, Bool.and_eq_false_iff]
  constructor
  · rintro ⟨⟨⟨⟨⟨⟨h1, h2⟩, h3⟩, h4⟩, h5, h6⟩, h7⟩, h8⟩
    refine ⟨h1, ⟨by omega, by omega⟩, h4, h5, h6, ?_, ?_⟩
    · rintro ⟨q1, q2, q3⟩
      rcases h7 with (h7 | h7) | h7
      · exact h7 q1
      · exact h7 q2
      · exact h7 q3
    · rcases h8 with ((h8 | h8) | h8) | h8
      · exact .inl h8
      · exact .inr (.inl h8)
      · exact .inr (.inr (.inl h8))
      · exact .inr (.inr (.inr h8))
  · rintro ⟨h1, ⟨h2, h3⟩, h4, h5, h6, h7, h8⟩
    refine ⟨⟨⟨⟨⟨⟨h1, by omega⟩, by omega⟩, h4⟩, h5, h6⟩, ?_⟩, ?_⟩
    · by_cases q1 : c.2.2.1 = []
      · by_cases q2 : c.2.2.2.1 = [48]
        · exact .inr (fun q3 => h7 ⟨q1, q2, q3⟩)
        · exact .inl (.inr q2)
      · exact .inl (.inl q1)
    · rcases h8 with h8 | h8 | h8 | h8
      · exact .inl (.inl (.inl h8))
      · exact .inl (.inl (.inr h8))
      · exact .inl (.inr h8)
      · exact .inr h8

/-- the keys of a command, without register and count -/
theorem name_eq {c : Cmd} (h : Is c) : keys_Name_F c = if c.2.2.1 ≠ [] ∧ c.2.2.2.1 = c.2.2.1 then c.2.2.1 ++ [rd 0 c.2.2.1 ((c.2.2.1.length : Int) - 1)] else (c.2.2.1 ++ c.2.2.2.1) ++ (if keys_wants_F c then [c.2.2.2.2.1] else []) := by
  have hi := is_iff.2 h
  have hlen : c.2.2.1.length ≤ 2 := by
    rcases h.2.2.1 with ⟨q, _⟩ | ⟨q, _⟩
    · rw [q]; simp
    · have : ∀ o ∈ opList, o.length ≤ 2 := by decide
      exact this _ q
  unfold keys_Name_F
  rw [hi, wrap_i64 (by omega) (by omega)]
  simp only [Bool.not_true, cond_false, Bool.cond_decide]
  by_cases h0 : c.2.2.1 = []
  · have e : (!decide (c.2.2.1 = [])) = false := by simpa using h0
    rw [e]
    simp only [cond_false]
    rw [if_neg (show ¬ (c.2.2.1 ≠ [] ∧ c.2.2.2.1 = c.2.2.1) from fun hh => hh.1 h0)]
    cases keys_wants_F c <;> simp
  · have e : (!decide (c.2.2.1 = [])) = true := by simpa using h0
    rw [e]
    simp only [cond_true]
    by_cases h1 : c.2.2.2.1 = c.2.2.1
    · rw [if_pos h1, if_pos ⟨h0, h1⟩]
    · rw [if_neg h1, if_neg (fun hh => h1 hh.2)]
      cases keys_wants_F c <;> simp
end Go.VE
namespace Go.VE
open Go Go.Proofs

def Stab (f : List Int → Cmd → MR) : Prop := ∀ s c m, (f s c).1 ≠ 0 → f (s ++ m) c = ((f s c).1, (f s c).2.1 ++ m, (f s c).2.2)

theorem arg_stab : Stab argM := fun s c m h => by
  cases s with
  | nil => exact absurd rfl h
  | cons b r => simp only [argM, List.cons_append]; split <;> rfl

theorem g_stab : Stab gM := fun s c m h => by
  cases s with
  | nil => exact absurd rfl h
  | cons b r => simp only [gM, List.cons_append]; split <;> rfl

theorem obj_stab (b : Int) : Stab (objM b) := fun s c m h => by
  cases s with
  | nil => exact absurd rfl h
  | cons b r => simp only [objM, List.cons_append]; split <;> rfl

theorem mot_stab (b : Int) : Stab (fun s c => motM s c b) := fun s c m h => by
  dsimp only at h ⊢
  unfold motM at h ⊢
  split
  · rfl
  · split
    · rfl
    · split
      · rfl
      · split
        · rfl
        · split
          · rename_i h1 h2 h3 h4 h5
            rw [if_neg h1, if_neg h2, if_neg h3, if_neg h4, if_pos h5] at h
            exact arg_stab _ _ _ h
          · split
            · rename_i h1 h2 h3 h4 h5 h6
              rw [if_neg h1, if_neg h2, if_neg h3, if_neg h4, if_neg h5, if_pos h6] at h
              exact g_stab _ _ _ h
            · rfl

theorem mot_g0 (c : Cmd) : motM [] c 103 = (0, [], setKey c [103]) := rfl

theorem wrk_stab (l : Int) : Stab (wrkM l) := fun s c m h => by
  cases s with
  | nil => exact absurd rfl h
  | cons b r =>
    simp only [wrkM, List.cons_append] at h ⊢
    by_cases h1 : b = l
    · simp only [if_pos h1]
    simp only [if_neg h1] at h ⊢
    by_cases h2 : b = 105 ∨ b = 97
    · simp only [if_pos h2] at h ⊢
      exact obj_stab b _ _ _ h
    simp only [if_neg h2] at h ⊢
    by_cases h3 : b = 103
    · cases r with
      | nil =>
        subst h3
        rw [if_neg (by simp)] at h
        exact absurd rfl h
      | cons d r' =>
        have e1 : ((d :: r') ++ m).head? = (d :: r').head? := rfl
        have e2 : ((d :: r') ++ m).tail = (d :: r').tail ++ m := rfl
        rw [e1, e2]
        by_cases h4 : b = 103 ∧ rd 0 c.2.2.1 0 = 103 ∧ (d :: r').head? = some l
        · rw [if_pos h4, if_pos h4]
        · rw [if_neg h4] at h
          rw [if_neg h4, if_neg h4]
          exact mot_stab b _ _ _ h
    · rw [if_neg (fun hh => h3 hh.1)] at h ⊢
      rw [if_neg (fun hh => h3 hh.1)]
      exact mot_stab b _ _ _ h

theorem cntL_app : ∀ (s : List Int) (n : Int) (m : List Int), s.drop (cntL s n).2 ≠ [] → cntL (s ++ m) n = cntL s n
  | [], n, m, h => absurd (by simp) h
  | b :: r, n, m, h => by
    simp only [List.cons_append]
    unfold cntL at h ⊢
    split
    · rfl
    · rename_i hb
      rw [if_neg hb] at h
      have ih := cntL_app r (mn (n * 10 + (b - 48)) 9999) m (by simpa using h)
      rw [ih]

theorem cntL_tail {b : Int} (hb : b < 48 ∨ 57 < b) (t : List Int) : ∀ (s : List Int) (n : Int), cntL (s ++ b :: t) n = cntL s n
  | [], n => by
    show cntL (b :: t) n = (n, 0)
    unfold cntL
    rw [if_pos (by omega)]
  | a :: r, n => by
    simp only [List.cons_append]
    unfold cntL
    split
    · rfl
    · rw [cntL_tail hb t r]

theorem drop_app {s m : List Int} {n : Int} : (s ++ m).drop (cntL s n).2 = s.drop (cntL s n).2 ++ m := List.drop_append_of_le_length (cntL_le s n)

theorem work_stab (l : Int) : Stab (workM l) := fun s c m h => by
  unfold workM at h ⊢
  have hne : s.drop (cntL s 0).2 ≠ [] := fun e => by rw [e] at h; exact h rfl
  rw [cntL_app s 0 m hne, drop_app]
  exact wrk_stab l _ _ _ h

theorem g2_stab : Stab g2M := fun s c m h => by
  cases s with
  | nil => exact absurd rfl h
  | cons d r =>
    simp only [g2M, List.cons_append] at h ⊢
    by_cases h1 : d = 126 ∨ d = 117 ∨ d = 85
    · simp only [if_pos h1] at h ⊢; exact work_stab _ _ _ _ h
    simp only [if_neg h1] at h ⊢
    by_cases h2 : d = 45 ∨ d = 43
    · simp only [if_pos h2]
    simp only [if_neg h2] at h ⊢
    exact mot_stab 103 (d :: r) c m h

theorem named_stab : Stab namedM := fun s c m h => by
  cases s with
  | nil => exact absurd rfl h
  | cons b r =>
    simp only [namedM, List.cons_append] at h ⊢
    by_cases h1 : b = 100 ∨ b = 99 ∨ b = 121 ∨ b = 62 ∨ b = 60
    · simp only [if_pos h1] at h ⊢; exact work_stab _ _ _ _ h
    simp only [if_neg h1] at h ⊢
    by_cases h2 : b = 58
    · simp only [if_pos h2]
    simp only [if_neg h2] at h ⊢
    by_cases h3 : b = 114 ∨ b = 109
    · simp only [if_pos h3] at h ⊢; exact arg_stab _ _ _ h
    simp only [if_neg h3] at h ⊢
    by_cases h4 : b = 103
    · simp only [if_pos h4] at h ⊢; exact g2_stab _ _ _ h
    simp only [if_neg h4] at h ⊢
    by_cases h5 : b ∈ plainsL
    · simp only [if_pos h5]
    simp only [if_neg h5] at h ⊢
    exact mot_stab b _ _ _ h

theorem fin_stab {s : List Int} {c : Cmd} {m : List Int} (h : (finM s c).2 ≠ 0) (hm : m ≠ []) : (finM (s ++ m) c).2 = 2 := by
  unfold finM at h ⊢
  dsimp only at h ⊢
  have h0 : (namedM (s.drop (cntL s 0).2) (setCnt c (cntL s 0).1)).1 ≠ 0 := fun e => by
    rw [if_pos (Or.inl e)] at h; exact h e
  have hne : s.drop (cntL s 0).2 ≠ [] := fun e => by rw [e] at h0; exact h0 rfl
  rw [cntL_app s 0 m hne, drop_app, named_stab _ _ _ h0]
  dsimp only
  split
  · rename_i h1
    rcases h1 with h1 | h1
    · exact absurd h1 h0
    · exact h1
  · rw [if_pos (by simp [hm])]

theorem parse_stab {s m : List Int} (h : (parseM s).2 ≠ 0) (hm : m ≠ []) : (parseM (s ++ m)).2 = 2 := by
  cases s with
  | nil => exact absurd (by decide) h
  | cons b r =>
    unfold parseM at h ⊢
    simp only [List.cons_append, List.head?_cons, List.tail_cons, Option.some.injEq] at h ⊢
    by_cases hb : b = 34
    · simp only [if_pos hb] at h ⊢
      cases r with
      | nil => exact absurd rfl h
      | cons n r' =>
        simp only [List.cons_append] at h ⊢
        split
        · rfl
        · rename_i hn
          rw [if_neg hn] at h
          exact fin_stab h hm
    · simp only [if_neg hb] at h ⊢
      exact fin_stab (s := b :: r) h hm

/-! ### what may become one -/
def tailsL : List (List Int) := [[120], [119], [103], [97, 120], [108], [45], [126], [117], [85], [69]]
def Small (t : List Int) : Prop := t = [120] ∨ t = [119] ∨ t = [103]
def Grow (f : List Int → Cmd → MR) : Prop := ∀ s c, (f s c).1 = 0 → ∃ t, Small t ∧ (f (s ++ t) c).1 = 1 ∧ (f (s ++ t) c).2.1 = []

theorem arg_grow : Grow argM := fun s c h => by
  cases s with
  | nil => exact ⟨[120], .inl rfl, rfl, rfl⟩
  | cons b r =>
    simp only [argM] at h
    split at h <;> cases h

theorem g_grow {s : List Int} {c : Cmd} (h : (gM s c).1 = 0) : s = [] := by
  cases s with
  | nil => rfl
  | cons b r =>
    simp only [gM] at h
    split at h <;> cases h

theorem arg_grow0 {s : List Int} {c : Cmd} (h : (argM s c).1 = 0) : s = [] := by
  cases s with
  | nil => rfl
  | cons b r =>
    simp only [argM] at h
    split at h <;> cases h

theorem mot_zero {s : List Int} {c : Cmd} {b : Int} (h : (motM s c b).1 = 0) : s = [] ∧ (b ∈ markedL ∧ b ≠ 103 ∧ motM [120] c b = argM [120] (setKey c [b]) ∨ b = 103) := by
  unfold motM at h
  split at h
  · cases h
  · split at h
    · cases h
    · split at h
      · cases h
      · split at h
        · cases h
        · split at h
          · rename_i h1 h2 h3 h4 h5
            refine ⟨arg_grow0 h, .inl ⟨h5, fun e => by subst e; revert h5; decide, ?_⟩⟩
            unfold motM
            rw [if_neg h1, if_neg h2, if_neg h3, if_neg h4, if_pos h5]
          · split at h
            · rename_i h1 h2 h3 h4 h5 h6
              exact ⟨g_grow h, .inr h6⟩
            · cases h

theorem mot_grow {s : List Int} {c : Cmd} {b : Int} (h : (motM s c b).1 = 0) : ∃ t, Small t ∧ (motM (s ++ t) c b).1 = 1 ∧ (motM (s ++ t) c b).2.1 = [] := by
  obtain ⟨rfl, ⟨_, _, e⟩ | rfl⟩ := mot_zero h
  · refine ⟨[120], .inl rfl, ?_⟩
    show (motM [120] c b).1 = 1 ∧ (motM [120] c b).2.1 = []
    rw [e]; exact ⟨rfl, rfl⟩
  · exact ⟨[103], .inr (.inr rfl), rfl, rfl⟩

theorem wrk_w (l : Int) (c : Cmd) : (wrkM l [119] c).1 = 1 ∧ (wrkM l [119] c).2.1 = [] := by
  simp only [wrkM]
  split
  · exact ⟨rfl, rfl⟩
  · exact ⟨rfl, rfl⟩

theorem wrk_grow (l : Int) : Grow (wrkM l) := fun s c h => by
  cases s with
  | nil => exact ⟨[119], .inr (.inl rfl), wrk_w l c⟩
  | cons b r =>
    simp only [wrkM, List.cons_append] at h ⊢
    by_cases h1 : b = l
    · simp only [if_pos h1] at h; cases h
    simp only [if_neg h1] at h ⊢
    by_cases h2 : b = 105 ∨ b = 97
    · simp only [if_pos h2] at h ⊢
      cases r with
      | nil => exact ⟨[119], .inr (.inl rfl), rfl, rfl⟩
      | cons d r' =>
        simp only [objM] at h
        split at h <;> cases h
    simp only [if_neg h2] at h ⊢
    by_cases h3 : b = 103 ∧ rd 0 c.2.2.1 0 = 103 ∧ r.head? = some l
    · simp only [if_pos h3] at h; cases h
    simp only [if_neg h3] at h
    obtain ⟨rfl, ⟨hm, hne, e⟩ | rfl⟩ := mot_zero h
    · refine ⟨[120], .inl rfl, ?_⟩
      rw [if_neg (fun hh => hne hh.1)]
      show (motM [120] c b).1 = 1 ∧ (motM [120] c b).2.1 = []
      rw [e]; exact ⟨rfl, rfl⟩
    · refine ⟨[103], .inr (.inr rfl), ?_⟩
      split
      · exact ⟨rfl, rfl⟩
      · exact ⟨rfl, rfl⟩

theorem small_cnt {t : List Int} (h : Small t) (s : List Int) (n : Int) : cntL (s ++ t) n = cntL s n := by
  rcases h with rfl | rfl | rfl <;> exact cntL_tail (by omega) [] s n

theorem work_grow (l : Int) : Grow (workM l) := fun s c h => by
  unfold workM at h
  obtain ⟨t, ht, h1, h2⟩ := wrk_grow l _ _ h
  refine ⟨t, ht, ?_⟩
  unfold workM
  rw [small_cnt ht, drop_app]
  exact ⟨h1, h2⟩

theorem g2_grow : Grow g2M := fun s c h => by
  cases s with
  | nil => exact ⟨[103], .inr (.inr rfl), rfl, rfl⟩
  | cons d r =>
    simp only [g2M, List.cons_append] at h ⊢
    by_cases h1 : d = 126 ∨ d = 117 ∨ d = 85
    · simp only [if_pos h1] at h ⊢; exact work_grow _ _ _ h
    simp only [if_neg h1] at h ⊢
    by_cases h2 : d = 45 ∨ d = 43
    · simp only [if_pos h2] at h; cases h
    simp only [if_neg h2] at h
    cases (mot_zero h).1

theorem named_grow : Grow namedM := fun s c h => by
  cases s with
  | nil => exact ⟨[120], .inl rfl, rfl, rfl⟩
  | cons b r =>
    simp only [namedM, List.cons_append] at h ⊢
    by_cases h1 : b = 100 ∨ b = 99 ∨ b = 121 ∨ b = 62 ∨ b = 60
    · simp only [if_pos h1] at h ⊢; exact work_grow _ _ _ h
    simp only [if_neg h1] at h ⊢
    by_cases h2 : b = 58
    · simp only [if_pos h2] at h; cases h
    simp only [if_neg h2] at h ⊢
    by_cases h3 : b = 114 ∨ b = 109
    · simp only [if_pos h3] at h ⊢; exact arg_grow _ _ h
    simp only [if_neg h3] at h ⊢
    by_cases h4 : b = 103
    · simp only [if_pos h4] at h ⊢; exact g2_grow _ _ h
    simp only [if_neg h4] at h ⊢
    by_cases h5 : b ∈ plainsL
    · simp only [if_pos h5] at h; cases h
    simp only [if_neg h5] at h ⊢
    exact mot_grow h

theorem fin_grow {s : List Int} {c : Cmd} (h : (finM s c).2 = 0) : ∃ t, Small t ∧ (finM (s ++ t) c).2 = 1 := by
  unfold finM at h
  dsimp only at h
  have h0 : (namedM (s.drop (cntL s 0).2) (setCnt c (cntL s 0).1)).1 = 0 := by
    split at h
    · exact h
    · split at h
      · cases h
      · exact h
  obtain ⟨t, ht, h1, h2⟩ := named_grow _ _ h0
  refine ⟨t, ht, ?_⟩
  unfold finM
  dsimp only
  rw [small_cnt ht, drop_app, h1, h2]
  rfl

theorem parse_grow {s : List Int} (h : (parseM s).2 = 0) : ∃ t, t ∈ tailsL ∧ (parseM (s ++ t)).2 = 1 := by
  have small : ∀ {t : List Int}, Small t → t ∈ tailsL := fun ht => by rcases ht with rfl | rfl | rfl <;> decide
  cases s with
  | nil => exact ⟨[120], by decide, by decide +kernel⟩
  | cons b r =>
    unfold parseM at h ⊢
    simp only [List.cons_append, List.head?_cons, List.tail_cons, Option.some.injEq] at h ⊢
    by_cases hb : b = 34
    · simp only [if_pos hb] at h ⊢
      cases r with
      | nil => exact ⟨[97, 120], by decide, by decide +kernel⟩
      | cons n r' =>
        simp only [List.cons_append] at h ⊢
        split at h
        · cases h
        · rename_i hn
          obtain ⟨t, ht, h1⟩ := fin_grow h
          exact ⟨t, small ht, by rw [if_neg hn]; exact h1⟩
    · simp only [if_neg hb] at h ⊢
      obtain ⟨t, ht, h1⟩ := fin_grow (s := b :: r) h
      exact ⟨t, small ht, h1⟩
end Go.VE
namespace Go.VE
open Go Go.Proofs

/-- what a motion's keys begin with -/
def First (b : Int) (r : List Int) : Prop := b ∉ ([100, 99, 121, 62, 60, 126, 117, 85, 105, 97, 58, 114, 109, 34] : List Int) ∧ b ∉ plainsL ∧ (b < 48 ∨ 57 < b ∨ b = 48) ∧ (b = 103 → ∃ d, r = [d] ∧ (d = 103 ∨ d = 101 ∨ d = 69))

def asksB (k : List Int) : Int := if k = [47] ∨ k = [63] ∨ k = [58] then 3 else 1

theorem mot_back {k : List Int} (hk : Motion k) {arg : Int} {w : Bool} (hwm : w = true ↔ ∃ b ∈ markedL, k = [b]) (hw : w = true → arg ≠ 27) (hn : w = false → arg = 0) {c1 : Cmd} (hc : c1.2.2.2.2.1 = 0) :
    ∃ b r, k ++ (if w then [arg] else []) = b :: r ∧ motM r c1 b = (asksB k, [], (c1.1, c1.2.1, c1.2.2.1, k, arg, c1.2.2.2.2.2)) ∧ First b r := by
  have conc : ∀ (b : Int), k = [b] → w = false → (∀ c, motM [] c b = (asksB [b], [], setKey c [b])) → (b ∉ ([100, 99, 121, 62, 60, 126, 117, 85, 105, 97, 58, 114, 109, 34] : List Int) ∧ b ∉ plainsL ∧ (b < 48 ∨ 57 < b ∨ b = 48) ∧ b ≠ 103) →
      ∃ b r, k ++ (if w then [arg] else []) = b :: r ∧ motM r c1 b = (asksB k, [], (c1.1, c1.2.1, c1.2.2.1, k, arg, c1.2.2.2.2.2)) ∧ First b r := fun b hkb hwf hm hf => by
    subst hkb
    refine ⟨b, [], by simp [hwf], ?_, hf.1, hf.2.1, hf.2.2.1, fun h => absurd h hf.2.2.2⟩
    rw [hm, key_set hc, hn hwf]
  have two : ∀ (d : Int), k = [103, d] → (d = 103 ∨ d = 101 ∨ d = 69) → ∃ b r, k ++ (if w then [arg] else []) = b :: r ∧ motM r c1 b = (asksB k, [], (c1.1, c1.2.1, c1.2.2.1, k, arg, c1.2.2.2.2.2)) ∧ First b r := fun d hkd hd => by
    subst hkd
    have hwf : w = false := by
      cases hh : w with
      | false => rfl
      | true =>
        obtain ⟨b, _, hb⟩ := hwm.1 hh
        simp at hb
    refine ⟨103, [d], by simp [hwf], ?_, by decide, by decide, by decide, fun _ => ⟨d, rfl, hd⟩⟩
    show gM [d] (setKey c1 [103]) = _
    simp only [gM]
    rw [if_pos hd]
    have : asksB [103, d] = 1 := by unfold asksB; rw [if_neg (by simp)]
    rw [this, hn hwf]
    show (1, [], setKey (setKey c1 [103]) [103, d]) = _
    unfold setKey; rw [hc]
  have wf : ∀ b : Int, k = [b] → b ∉ markedL → w = false := fun b hb hm => by
    cases hh : w with
    | false => rfl
    | true =>
      obtain ⟨b', h1, h2⟩ := hwm.1 hh
      rw [hb] at h2; simp at h2; subst h2; exact absurd h1 hm
  rcases hk with h | h | h | h | h | h | h | ⟨b, hb, h⟩ | ⟨b, hb, h⟩
  · exact conc 8 h (wf 8 h (by decide)) (fun c => rfl) (by decide)
  · exact conc 13 h (wf 13 h (by decide)) (fun c => rfl) (by decide)
  · exact conc 47 h (wf 47 h (by decide)) (fun c => rfl) (by decide)
  · exact conc 63 h (wf 63 h (by decide)) (fun c => rfl) (by decide)
  · exact two 103 h (by omega)
  · exact two 101 h (by omega)
  · exact two 69 h (by omega)
  · have hs := singles_not hb
    have hs2 : ∀ x ∈ singlesL, x ≠ 127 ∧ x ≠ 10 ∧ x ∉ ([100, 99, 121, 62, 60, 126, 117, 85, 105, 97, 58, 114, 109, 34] : List Int) ∧ x ∉ plainsL ∧ (x < 48 ∨ 57 < x ∨ x = 48) := by decide
    obtain ⟨q1, q2, q3, q4, q5⟩ := hs2 b hb
    refine conc b h (wf b h hs.2.2.2.1) (fun c => ?_) ⟨q3, q4, q5, hs.2.2.2.2⟩
    unfold motM
    rw [if_neg q1, if_neg q2, if_pos (.inr (.inr hb))]
    have : asksB [b] = 1 := by unfold asksB; rw [if_neg (by simp; omega)]
    rw [this]
  · have hwt : w = true := hwm.2 ⟨b, hb, h⟩
    subst h
    have hs2 : ∀ x ∈ markedL, x ≠ 127 ∧ x ≠ 10 ∧ x ≠ 8 ∧ x ≠ 13 ∧ x ∉ singlesL ∧ x ∉ ([100, 99, 121, 62, 60, 126, 117, 85, 105, 97, 58, 114, 109, 34] : List Int) ∧ x ∉ plainsL ∧ (x < 48 ∨ 57 < x ∨ x = 48) := by decide
    obtain ⟨q1, q2, q3, q4, q5, q6, q7, q8⟩ := hs2 b hb
    have hm := marked_not hb
    refine ⟨b, [arg], by simp [hwt], ?_, q6, q7, q8, fun e => absurd e hm.2.2.2⟩
    unfold motM
    rw [if_neg q1, if_neg q2, if_neg (by rintro (h | h | h); exact q3 h; exact q4 h; exact q5 h), if_neg (by rintro (h | h); exact hm.1 h; exact hm.2.1 h), if_pos hb]
    simp only [argM]
    rw [if_neg (hw hwt)]
    have : asksB [b] = 1 := by unfold asksB; rw [if_neg (by simp; exact ⟨hm.1, hm.2.1, hm.2.2.1⟩)]
    rw [this]
    rfl

/-- the command that the keys of its name make -/
def backC (c : Cmd) : Cmd := (c.1, c.2.1, c.2.2.1, c.2.2.2.1, c.2.2.2.2.1, [])
def headC (c : Cmd) : Cmd := (c.1, c.2.1, [], [], 0, [])

theorem cntC0 {c : Cmd} (h : 0 ≤ c.2.1 ∧ c.2.1 ≤ 9999) : cntC 0 c = c := by
  unfold cntC
  by_cases h0 : 0 < c.2.1
  · rw [if_pos (show 0 < (0 : Int) ∨ 0 < c.2.1 from .inr h0)]
    have e1 : mx c.2.1 1 = c.2.1 := by rw [mxE, if_neg (show ¬ c.2.1 < 1 by omega)]
    have e2 : mx 0 1 = 1 := by decide
    rw [e1, e2, Int.mul_one]
    have e3 : mn c.2.1 9999 = c.2.1 := by rw [mnE, if_neg (show ¬ 9999 < c.2.1 by omega)]
    rw [e3]; rfl
  · rw [if_neg (show ¬ (0 < (0 : Int) ∨ 0 < c.2.1) by omega)]

theorem work0 {l b : Int} {r : List Int} {c : Cmd} (hb : b < 48 ∨ 57 < b ∨ b = 48) (h : 0 ≤ c.2.1 ∧ c.2.1 ≤ 9999) : workM l (b :: r) c = wrkM l (b :: r) c := by
  have e : cntL (b :: r) 0 = (0, 0) := by unfold cntL; rw [if_pos (by omega)]
  unfold workM
  rw [e]
  show wrkM l (b :: r) (cntC 0 c) = _
  rw [cntC0 h]

theorem named_back {c : Cmd} (h : Is c) : ∃ b r, keys_Name_F c = b :: r ∧ (b < 48 ∨ 57 < b ∨ b = 48 ∧ c.2.1 = 0) ∧ b ≠ 34 ∧ namedM (b :: r) (headC c) = (asksB c.2.2.2.1, [], backC c) := by
  obtain ⟨hv, hcnt, hkn, hw1, hw2, h48, hline⟩ := id h
  rw [name_eq h]
  rcases hkn with ⟨ho, hm | hp⟩ | ⟨ho, hk⟩
  · -- a motion
    have hwm : keys_wants_F c = true ↔ ∃ b ∈ markedL, c.2.2.2.1 = [b] := by
      rw [wants_iff]
      constructor
      · rintro (hh | ⟨_, b, hb, hh⟩)
        · exact hh
        · exfalso
          rw [hh] at hm
          have hb : b = 114 ∨ b = 109 := by simpa using hb
          rcases hm with q | q | q | q | q | q | q | ⟨x, hx, q⟩ | ⟨x, hx, q⟩ <;> simp at q
          · omega
          · omega
          · omega
          · omega
          · subst q; rcases hb with rfl | rfl <;> revert hx <;> decide
          · subst q; rcases hb with rfl | rfl <;> revert hx <;> decide
      · exact fun hh => .inl hh
    obtain ⟨b, r, e, hmo, hf⟩ := mot_back hm (arg := c.2.2.2.2.1) hwm (fun hh => hw1 (wants_iff.1 hh)) (fun hh => hw2 (fun hw => by rw [wants_iff.2 hw] at hh; cases hh)) (c1 := headC c) rfl
    refine ⟨b, r, ?_, ?_, ?_, ?_⟩
    · rw [if_neg (fun hh => hh.1 ho), ho]; exact e
    · rcases hf.2.2.1 with q | q | q
      · exact .inl q
      · exact .inr (.inl q)
      · refine .inr (.inr ⟨q, ?_⟩)
        have hk48 : c.2.2.2.1 = [48] := by
          cases hww : keys_wants_F c with
          | false => 
            rw [hww] at e
            simp at e
            rcases hm with q2 | q2 | q2 | q2 | q2 | q2 | q2 | ⟨x, hx, q2⟩ | ⟨x, hx, q2⟩ <;> rw [q2] at e <;> simp at e <;> first | omega | (rw [q2, e.1, q])
          | true =>
            obtain ⟨x, hx, q2⟩ := hwm.1 hww
            rw [q2, hww] at e
            simp at e
            rw [q2, e.1, q]
        by_cases hz : 0 < c.2.1
        · exact absurd ⟨ho, hk48, hz⟩ h48
        · omega
    · intro e34; exact hf.1 (by rw [e34]; decide)
    · have nb : b ∉ ([100, 99, 121, 62, 60, 126, 117, 85, 105, 97, 58, 114, 109, 34] : List Int) := hf.1
      simp only [List.mem_cons, List.not_mem_nil, or_false, not_or] at nb
      have key : namedM (b :: r) (headC c) = motM r (headC c) b := by
        simp only [namedM]
        rw [if_neg (by omega), if_neg (by omega), if_neg (by omega)]
        by_cases h103 : b = 103
        · obtain ⟨d, rfl, hd⟩ := hf.2.2.2 h103
          rw [if_pos h103]
          simp only [g2M]
          rw [if_neg (by omega), if_neg (by omega), h103]
        · rw [if_neg h103, if_neg hf.2.1]
      rw [key, hmo]
      unfold backC headC
      rw [ho]
  · -- a plain command
    have wf : ¬ WantsA c → keys_wants_F c = false ∧ c.2.2.2.2.1 = 0 := fun hn => ⟨by
      cases hh : keys_wants_F c with
      | false => rfl
      | true => exact absurd (wants_iff.1 hh) hn, hw2 hn⟩
    rw [if_neg (fun hh => hh.1 ho), ho, List.nil_append]
    rcases hp with ⟨b, hb, hk⟩ | ⟨b, hb, hk⟩ | hk | hk | hk
    · have hn : ¬ WantsA c := by
        have := plains_not hb
        rintro (⟨x, hx, q⟩ | ⟨_, x, hx, q⟩) <;> rw [hk] at q <;> simp at q <;> subst q
        · exact this.2.2.2.1 hx
        · have hx : b = 114 ∨ b = 109 := by simpa using hx
          omega
      obtain ⟨w1, w2⟩ := wf hn
      have hs : ∀ x ∈ plainsL, ¬ (x = 100 ∨ x = 99 ∨ x = 121 ∨ x = 62 ∨ x = 60) ∧ x ≠ 58 ∧ ¬ (x = 114 ∨ x = 109) ∧ x ≠ 103 ∧ (x < 48 ∨ 57 < x) ∧ x ≠ 34 := by decide
      obtain ⟨q1, q2, q3, q4, q5, q6⟩ := hs b hb
      have hpn := plains_not hb
      refine ⟨b, [], by rw [hk, w1]; rfl, by omega, q6, ?_⟩
      simp only [namedM]
      rw [if_neg q1, if_neg q2, if_neg q3, if_neg q4, if_pos hb]
      have : asksB c.2.2.2.1 = 1 := by unfold asksB; rw [hk, if_neg (by simp; exact ⟨hpn.1, hpn.2.1, hpn.2.2.1⟩)]
      rw [this]
      unfold backC headC setKey
      rw [ho, hk, w2]
    · have hb : b = 114 ∨ b = 109 := by simpa using hb
      have hw : WantsA c := .inr ⟨ho, b, by simpa using hb, hk⟩
      refine ⟨b, [c.2.2.2.2.1], by rw [hk, wants_iff.2 hw]; rfl, by omega, by omega, ?_⟩
      simp only [namedM]
      rw [if_neg (by omega), if_neg (by omega), if_pos hb]
      simp only [argM]
      rw [if_neg (hw1 hw)]
      have : asksB c.2.2.2.1 = 1 := by unfold asksB; rw [hk, if_neg (by simp; omega)]
      rw [this]
      unfold backC headC setArg setKey
      rw [ho, hk]
    · have hn : ¬ WantsA c := by
        rintro (⟨x, hx, q⟩ | ⟨_, x, hx, q⟩) <;> rw [hk] at q <;> simp at q <;> subst q <;> revert hx <;> decide
      obtain ⟨w1, w2⟩ := wf hn
      refine ⟨58, [], by rw [hk, w1]; rfl, by omega, by omega, ?_⟩
      have : asksB c.2.2.2.1 = 3 := by unfold asksB; rw [hk]; rfl
      rw [this]
      show (3, [], setKey (headC c) [58]) = _
      unfold backC headC setKey
      rw [ho, hk, w2]
    · have hn : ¬ WantsA c := by
        rintro (⟨x, hx, q⟩ | ⟨_, x, hx, q⟩) <;> rw [hk] at q <;> simp at q
      obtain ⟨w1, w2⟩ := wf hn
      refine ⟨103, [45], by rw [hk, w1]; rfl, by omega, by omega, ?_⟩
      have : asksB c.2.2.2.1 = 1 := by unfold asksB; rw [hk]; rfl
      rw [this]
      show (1, [], setKey (headC c) [103, 45]) = _
      unfold backC headC setKey
      rw [ho, hk, w2]
    · have hn : ¬ WantsA c := by
        rintro (⟨x, hx, q⟩ | ⟨_, x, hx, q⟩) <;> rw [hk] at q <;> simp at q
      obtain ⟨w1, w2⟩ := wf hn
      refine ⟨103, [43], by rw [hk, w1]; rfl, by omega, by omega, ?_⟩
      have : asksB c.2.2.2.1 = 1 := by unfold asksB; rw [hk]; rfl
      rw [this]
      show (1, [], setKey (headC c) [103, 43]) = _
      unfold backC headC setKey
      rw [ho, hk, w2]
  · -- behind an operator
    have hne : c.2.2.1 ≠ [] := fun e => by rw [e] at ho; revert ho; decide
    obtain ⟨l, hop⟩ : ∃ l, IsOp c.2.2.1 l := by
      simp only [opList, List.mem_cons, List.not_mem_nil, or_false] at ho
      rcases ho with q | q | q | q | q | q | q | q
      · exact ⟨100, .inl ⟨q, by omega⟩⟩
      · exact ⟨99, .inl ⟨q, by omega⟩⟩
      · exact ⟨121, .inl ⟨q, by omega⟩⟩
      · exact ⟨62, .inl ⟨q, by omega⟩⟩
      · exact ⟨60, .inl ⟨q, by omega⟩⟩
      · exact ⟨126, .inr ⟨q, by omega⟩⟩
      · exact ⟨117, .inr ⟨q, by omega⟩⟩
      · exact ⟨85, .inr ⟨q, by omega⟩⟩
    have hlm := op_marked hop
    have hlast : rd 0 c.2.2.1 ((c.2.2.1.length : Int) - 1) = l := by
      rcases hop with ⟨q, _⟩ | ⟨q, _⟩ <;> rw [q] <;> rfl
    -- what stands behind it, and what it comes to
    have go : ∀ X : List Int, (if c.2.2.1 ≠ [] ∧ c.2.2.2.1 = c.2.2.1 then c.2.2.1 ++ [rd 0 c.2.2.1 ((c.2.2.1.length : Int) - 1)] else (c.2.2.1 ++ c.2.2.2.1) ++ (if keys_wants_F c then [c.2.2.2.2.1] else [])) = c.2.2.1 ++ X →
        workM l X (setOp (headC c) c.2.2.1) = (asksB c.2.2.2.1, [], backC c) → ∃ b r, (if c.2.2.1 ≠ [] ∧ c.2.2.2.1 = c.2.2.1 then c.2.2.1 ++ [rd 0 c.2.2.1 ((c.2.2.1.length : Int) - 1)] else (c.2.2.1 ++ c.2.2.2.1) ++ (if keys_wants_F c then [c.2.2.2.2.1] else [])) = b :: r ∧ (b < 48 ∨ 57 < b ∨ b = 48 ∧ c.2.1 = 0) ∧ b ≠ 34 ∧ namedM (b :: r) (headC c) = (asksB c.2.2.2.1, [], backC c) := fun X e hX => by
      rw [e]
      rcases hop with ⟨q, hl⟩ | ⟨q, hl⟩
      · refine ⟨l, X, by rw [q]; rfl, by omega, by omega, ?_⟩
        simp only [namedM]
        rw [if_pos hl, ← hX, q]
      · refine ⟨103, l :: X, by rw [q]; rfl, by omega, by omega, ?_⟩
        show g2M (l :: X) (headC c) = _
        simp only [g2M]
        rw [if_pos hl, ← hX, q]
    have hcb : 0 ≤ (setOp (headC c) c.2.2.1).2.1 ∧ (setOp (headC c) c.2.2.1).2.1 ≤ 9999 := hcnt
    have wf : ¬ WantsA c → keys_wants_F c = false ∧ c.2.2.2.2.1 = 0 := fun hn => ⟨by
      cases hh : keys_wants_F c with
      | false => rfl
      | true => exact absurd (wants_iff.1 hh) hn, hw2 hn⟩
    have hdig : l < 48 ∨ 57 < l := by rcases hop with ⟨_, q⟩ | ⟨_, q⟩ <;> omega
    by_cases hko : c.2.2.2.1 = c.2.2.1
    · have hn : ¬ WantsA c := by
        rintro (⟨x, hx, q⟩ | ⟨q, _⟩)
        · rw [hko] at q
          rcases hop with ⟨q2, _⟩ | ⟨q2, _⟩ <;> rw [q2] at q <;> simp at q
          subst q; exact hlm.1 hx
        · exact hne q
      obtain ⟨w1, w2⟩ := wf hn
      refine go [l] (by rw [if_pos ⟨hne, hko⟩, hlast]) ?_
      rw [work0 (by omega) hcb]
      simp only [wrkM]
      rw [if_pos trivial]
      have : asksB c.2.2.2.1 = 1 := by
        unfold asksB
        rw [hko, if_neg]
        rcases hop with ⟨q2, q3⟩ | ⟨q2, q3⟩ <;> rw [q2] <;> simp
        omega
      rw [this]
      show (1, [], setKey (setOp (headC c) c.2.2.1) c.2.2.1) = _
      unfold backC setKey setOp headC
      rw [hko, w2]
    · rcases hk with hk | ⟨a, d, had, hd, hk⟩ | hm
      · exact absurd hk hko
      · have hn : ¬ WantsA c := by
          rintro (⟨x, hx, q⟩ | ⟨q, _⟩)
          · rw [hk] at q; simp at q
          · exact hne q
        obtain ⟨w1, w2⟩ := wf hn
        refine go [a, d] (by rw [if_neg (fun hh => hko hh.2), w1, hk]; simp) ?_
        rw [work0 (by omega) hcb]
        simp only [wrkM]
        rw [if_neg (fun e => by rcases had with rfl | rfl; exact hlm.2.2.1 e.symm; exact hlm.2.2.2.1 e.symm), if_pos had]
        simp only [objM]
        rw [if_pos hd]
        have : asksB c.2.2.2.1 = 1 := by unfold asksB; rw [hk, if_neg (by simp)]
        rw [this]
        unfold backC setKey setOp headC
        rw [hk, w2]
      · have hwm : keys_wants_F c = true ↔ ∃ b ∈ markedL, c.2.2.2.1 = [b] := by
          rw [wants_iff]
          constructor
          · rintro (hh | ⟨q, _⟩)
            · exact hh
            · exact absurd q hne
          · exact fun hh => .inl hh
        obtain ⟨b, r, e, hmo, hf⟩ := mot_back hm (arg := c.2.2.2.2.1) hwm (fun hh => hw1 (wants_iff.1 hh)) (fun hh => hw2 (fun hw => by rw [wants_iff.2 hw] at hh; cases hh)) (c1 := setOp (headC c) c.2.2.1) rfl
        refine go (b :: r) (by rw [if_neg (fun hh => hko hh.2), List.append_assoc, e]) ?_
        rw [work0 hf.2.2.1 hcb]
        have nb := hf.1
        simp only [List.mem_cons, List.not_mem_nil, or_false, not_or] at nb
        simp only [wrkM]
        have hbl : b ≠ l := fun e => by
          rcases hop with ⟨_, q⟩ | ⟨_, q⟩ <;> omega
        rw [if_neg hbl, if_neg (by omega), if_neg (by
          rintro ⟨q1, _, q3⟩
          obtain ⟨d, rfl, hd⟩ := hf.2.2.2 q1
          simp at q3
          omega), hmo]
        rfl
end Go.VE
namespace Go.VE
open Go Go.Proofs

theorem decI_cnt0 : ∀ a b : Fin 100, 1 ≤ 100 * a.val + b.val → cntL (decI (100 * a.val + b.val)) 0 = (((100 * a.val + b.val : Nat) : Int), (decI (100 * a.val + b.val)).length) := by decide +kernel
theorem decI_head0 : ∀ a b : Fin 100, (decI (100 * a.val + b.val)).head? ≠ some 34 ∧ decI (100 * a.val + b.val) ≠ [] := by decide +kernel
theorem decI_cnt {n : Nat} (hn : n < 10000) (h1 : 1 ≤ n) : cntL (decI n) 0 = ((n : Int), (decI n).length) := by
  have e : 100 * (n / 100) + n % 100 = n := by omega
  have := decI_cnt0 ⟨n / 100, by omega⟩ ⟨n % 100, by omega⟩
  dsimp only at this
  rw [e] at this
  exact this h1
theorem decI_head {n : Nat} (hn : n < 10000) : (decI n).head? ≠ some 34 ∧ decI n ≠ [] := by
  have e : 100 * (n / 100) + n % 100 = n := by omega
  have := decI_head0 ⟨n / 100, by omega⟩ ⟨n % 100, by omega⟩
  dsimp only at this
  rw [e] at this
  exact this

/-- the keys of a count -/
def cntK (n : Int) : List Int := if n = 0 then [] else decI n.toNat

/-- all keys of a command -/
def keysL (c : Cmd) : List Int := (if c.1 = 0 then [] else [34, c.1]) ++ (cntK c.2.1 ++ keys_Name_F c)

theorem asks13 (k : List Int) : asksB k = 1 ∨ asksB k = 3 := by unfold asksB; split <;> simp

theorem fin_back {c : Cmd} (h : Is c) : finM (cntK c.2.1 ++ keys_Name_F c) (c.1, 0, [], [], 0, []) = (backC c, asksB c.2.2.2.1) := by
  obtain ⟨b, r, hn, hb, _, hm⟩ := named_back h
  have hc := h.2.1
  have fin : finR (asksB c.2.2.2.1, [], backC c) = (backC c, asksB c.2.2.2.1) := by
    unfold finR
    have := asks13 c.2.2.2.1
    rw [if_neg (by dsimp only; omega), if_neg (by simp)]
  rw [finM_eq, hn]
  unfold cntK
  by_cases h0 : c.2.1 = 0
  · rw [if_pos h0, List.nil_append]
    have e : cntL (b :: r) 0 = (0, 0) := by unfold cntL; rw [if_pos (by omega)]
    rw [e]
    show finR (namedM (b :: r) (c.1, 0, [], [], 0, [])) = _
    have : (c.1, (0 : Int), ([] : List Int), ([] : List Int), (0 : Int), ([] : List Int)) = headC c := by unfold headC; rw [h0]
    rw [this, hm, fin]
  · rw [if_neg h0]
    have e1' : cntL (decI c.2.1.toNat) 0 = ((c.2.1.toNat : Int), (decI c.2.1.toNat).length) := decI_cnt (by omega) (by omega)
    have e2 : cntL (decI c.2.1.toNat ++ b :: r) 0 = ((c.2.1.toNat : Int), (decI c.2.1.toNat).length) := by
      rw [cntL_tail (by omega), e1']
    rw [e2]
    simp only [List.drop_left]
    have : setCnt (c.1, 0, [], [], 0, []) (c.2.1.toNat : Int) = headC c := by
      unfold setCnt headC
      rw [show (c.2.1.toNat : Int) = c.2.1 by omega]
    rw [this, hm, fin]

theorem parse_keys {c : Cmd} (h : Is c) : parseM (keysL c) = (backC c, asksB c.2.2.2.1) := by
  obtain ⟨b, r, hn, hb, h34, hm⟩ := named_back h
  have hc := h.2.1
  unfold keysL
  rw [← fin_back h]
  by_cases h0 : c.1 = 0
  · rw [if_pos h0, List.nil_append]
    have hh : (cntK c.2.1 ++ keys_Name_F c).head? ≠ some 34 := by
      unfold cntK
      by_cases hz : c.2.1 = 0
      · rw [if_pos hz, hn]; simpa using h34
      · rw [if_neg hz]
        have q' : (decI c.2.1.toNat).head? ≠ some 34 ∧ decI c.2.1.toNat ≠ [] := decI_head (by omega)
        cases hd : decI c.2.1.toNat with
        | nil => exact absurd hd q'.2
        | cons x l => 
          rw [hd] at q'
          exact q'.1
    unfold parseM
    rw [if_neg hh, h0]
    rfl
  · rw [if_neg h0]
    unfold parseM
    rw [if_pos (show ([34, c.1] ++ (cntK c.2.1 ++ keys_Name_F c)).head? = some 34 from rfl)]
    show (if c.1 = 0 ∨ bank_Valid_F c.1 = false then (zC, 2) else finM (cntK c.2.1 ++ keys_Name_F c) (c.1, 0, [], [], 0, [])) = _
    rw [if_neg]
    rintro (q | q)
    · exact h0 q
    · rw [h.1] at q; cases q
end Go.VE
namespace Go.VE
open Go Go.Proofs

/-- key and argument of what was read -/
def Read (k : List Int) (a : Int) : Prop := ((∃ b ∈ markedL, k = [b]) → a ≠ 27) ∧ (¬ (∃ b ∈ markedL, k = [b]) → a = 0)

theorem read0 {k : List Int} (h : ¬ ∃ b ∈ markedL, k = [b]) : Read k 0 := ⟨fun hh => absurd hh h, fun _ => rfl⟩
theorem unm {b : Int} (h : b ∉ markedL) : ¬ ∃ x ∈ markedL, ([b] : List Int) = [x] := by
  rintro ⟨x, hx, e⟩; simp at e; subst e; exact h hx

theorem mot_is {r : List Int} {c1 c' : Cmd} {b w : Int} (hc : c1.2.2.2.2.1 = 0) (h : motM r c1 b = (w, [], c')) (hw : w = 1 ∨ w = 3) :
    ∃ k a, c' = (c1.1, c1.2.1, c1.2.2.1, k, a, c1.2.2.2.2.2) ∧ Motion k ∧ Read k a ∧ w = asksB k ∧ (k = [48] → b = 48) := by
  unfold motM at h
  have fin : ∀ (k : List Int) (w' : Int), (w', r, setKey c1 k) = (w, [], c') → Motion k → (¬ ∃ x ∈ markedL, k = [x]) → w' = asksB k → (k = [48] → b = 48) →
      ∃ k a, c' = (c1.1, c1.2.1, c1.2.2.1, k, a, c1.2.2.2.2.2) ∧ Motion k ∧ Read k a ∧ w = asksB k ∧ (k = [48] → b = 48) := fun k w' e h1 h2 h3 h4 => by
    simp only [Prod.mk.injEq] at e
    obtain ⟨e1, _, e3⟩ := e
    refine ⟨k, 0, ?_, h1, read0 h2, by rw [← e1]; exact h3, h4⟩
    rw [← key_set hc]
    exact e3.symm
  split at h
  · exact fin [8] 1 h (.inl rfl) (unm (by decide)) rfl (by simp)
  · split at h
    · exact fin [13] 1 h (.inr (.inl rfl)) (unm (by decide)) rfl (by simp)
    · split at h
      · rename_i h3
        have hm : Motion [b] ∧ b ∉ markedL ∧ asksB [b] = 1 := by
          rcases h3 with rfl | rfl | h3
          · exact ⟨.inl rfl, by decide, rfl⟩
          · exact ⟨.inr (.inl rfl), by decide, rfl⟩
          · have := singles_not h3
            refine ⟨.inr (.inr (.inr (.inr (.inr (.inr (.inr (.inl ⟨b, h3, rfl⟩))))))), this.2.2.2.1, ?_⟩
            unfold asksB; rw [if_neg (by simp; omega)]
        exact fin [b] 1 h hm.1 (unm hm.2.1) hm.2.2.symm (by simp)
      · split at h
        · rename_i h4
          have hm : Motion [b] ∧ b ∉ markedL ∧ asksB [b] = 3 := by
            rcases h4 with rfl | rfl
            · exact ⟨.inr (.inr (.inl rfl)), by decide, rfl⟩
            · exact ⟨.inr (.inr (.inr (.inl rfl))), by decide, rfl⟩
          exact fin [b] 3 h hm.1 (unm hm.2.1) hm.2.2.symm (by simp)
        · split at h
          · rename_i h5
            have hm := marked_not h5
            cases r with
            | nil => simp [argM] at h; omega
            | cons d r' =>
              simp only [argM] at h
              split at h
              · simp at h; omega
              · rename_i hd
                simp only [Prod.mk.injEq] at h
                obtain ⟨e1, _, e3⟩ := h
                refine ⟨[b], d, ?_, .inr (.inr (.inr (.inr (.inr (.inr (.inr (.inr ⟨b, h5, rfl⟩))))))), ⟨fun _ => hd, fun hn => absurd ⟨b, h5, rfl⟩ hn⟩, ?_, by simp⟩
                · have : c' = setArg (setKey c1 [b]) d := by simp_all
                  rw [this]; rfl
                · rw [← e1]; unfold asksB; rw [if_neg (by simp; omega)]
          · split at h
            · rename_i h6
              cases r with
              | nil => simp [gM] at h; omega
              | cons d r' =>
                simp only [gM] at h
                split at h
                · rename_i hd
                  simp only [Prod.mk.injEq] at h
                  obtain ⟨e1, _, e3⟩ := h
                  refine ⟨[103, d], 0, ?_, ?_, read0 (by rintro ⟨x, _, e⟩; simp at e), ?_, by simp⟩
                  · have : c' = setKey (setKey c1 [b]) [103, d] := by simp_all
                    rw [this]; unfold setKey; rw [hc]
                  · rcases hd with rfl | rfl | rfl
                    · exact .inr (.inr (.inr (.inr (.inl rfl))))
                    · exact .inr (.inr (.inr (.inr (.inr (.inl rfl)))))
                    · exact .inr (.inr (.inr (.inr (.inr (.inr (.inl rfl))))))
                  · rw [← e1]; unfold asksB; rw [if_neg (by simp)]
                · simp at h; omega
            · simp at h; omega

/-- what is read without an error is a command that keys make -/
theorem wrk_is {op : List Int} {l : Int} (ho : IsOp op l) {s : List Int} {c1 c' : Cmd} {w : Int} (hc : c1.2.2.2.2.1 = 0) (hco : c1.2.2.1 = op) (h : wrkM l s c1 = (w, [], c')) (hw : w = 1 ∨ w = 3) :
    ∃ k a, c' = (c1.1, c1.2.1, op, k, a, c1.2.2.2.2.2) ∧ (k = op ∨ Object k ∨ Motion k) ∧ Read k a ∧ w = asksB k := by
  have hlm := op_marked ho
  have opk : Read op 0 ∧ asksB op = 1 := by
    refine ⟨read0 ?_, ?_⟩
    · rintro ⟨x, hx, e⟩
      rcases ho with ⟨q, _⟩ | ⟨q, _⟩ <;> rw [q] at e <;> simp at e
      subst e; exact hlm.1 hx
    · unfold asksB
      rw [if_neg]
      rcases ho with ⟨q2, q3⟩ | ⟨q2, q3⟩ <;> rw [q2] <;> simp
      omega
  have own : ∀ (w' : Int) (s' : List Int), (w', s', setKey c1 c1.2.2.1) = (w, [], c') → w' = 1 → ∃ k a, c' = (c1.1, c1.2.1, op, k, a, c1.2.2.2.2.2) ∧ (k = op ∨ Object k ∨ Motion k) ∧ Read k a ∧ w = asksB k := fun w' s' e hw' => by
    simp only [Prod.mk.injEq] at e
    obtain ⟨e1, _, e3⟩ := e
    refine ⟨op, 0, ?_, .inl rfl, opk.1, by rw [opk.2]; omega⟩
    rw [← e3, key_set hc, hco]
  cases s with
  | nil => simp [wrkM] at h; omega
  | cons b r =>
    simp only [wrkM] at h
    split at h
    · exact own 1 r h rfl
    · split at h
      · rename_i hb
        cases r with
        | nil => simp [objM] at h; omega
        | cons d r' =>
          simp only [objM] at h
          split at h
          · rename_i hd
            simp only [Prod.mk.injEq] at h
            obtain ⟨e1, _, e3⟩ := h
            refine ⟨[b, d], 0, ?_, .inr (.inl ⟨b, d, hb, hd, rfl⟩), read0 (by rintro ⟨x, _, e⟩; simp at e), ?_⟩
            · rw [← e3, key_set hc, hco]
            · rw [← e1]; unfold asksB; rw [if_neg (by simp)]
          · simp at h; omega
      · split at h
        · exact own 1 r.tail h rfl
        · obtain ⟨k, a, e1, e2, e3, e4, _⟩ := mot_is hc h hw
          refine ⟨k, a, ?_, .inr (.inr e2), e3, e4⟩
          rw [e1, hco]

theorem head_is {s : List Int} {c0 c' : Cmd} {w : Int} (hz : c0 = headC c0) (hv : bank_Valid_F c0.1 = true) (hn : 0 ≤ c0.2.1 ∧ c0.2.1 ≤ 9999) (h48 : 0 < c0.2.1 → s.head? ≠ some 48) (h : namedM s c0 = (w, [], c')) (hw : w = 1 ∨ w = 3) :
    Is c' ∧ w = asksB c'.2.2.2.1 ∧ c'.2.2.2.2.2 = [] := by
  have hc : c0.2.2.2.2.1 = 0 := by rw [hz]; rfl
  have ho0 : c0.2.2.1 = [] := by rw [hz]; rfl
  have hl0 : c0.2.2.2.2.2 = [] := by rw [hz]; rfl
  -- without an operator
  have bare : ∀ (k : List Int) (a : Int), c' = (c0.1, c0.2.1, [], k, a, []) → (Motion k ∨ Plain0 k) → ((∃ b ∈ markedL, k = [b]) ∨ (∃ b ∈ ([114, 109] : List Int), k = [b]) → a ≠ 27) → (¬ ((∃ b ∈ markedL, k = [b]) ∨ (∃ b ∈ ([114, 109] : List Int), k = [b])) → a = 0) → w = asksB k → (k = [48] → s.head? = some 48) → Is c' ∧ w = asksB c'.2.2.2.1 ∧ c'.2.2.2.2.2 = [] := fun k a e h1 h2 h3 h4 h5 => by
    subst e
    refine ⟨⟨hv, hn, .inl ⟨rfl, h1⟩, fun hh => h2 ?_, fun hh => h3 (fun q => hh ?_), fun q => h48 q.2.2 (h5 q.2.1), .inl rfl⟩, h4, rfl⟩
    · rcases hh with hh | ⟨_, hh⟩
      · exact .inl hh
      · exact .inr hh
    · rcases q with q | q
      · exact .inl q
      · exact .inr ⟨rfl, q⟩
  have no2 : ∀ {k : List Int}, Motion k → ¬ ∃ b ∈ ([114, 109] : List Int), k = [b] := fun hm => by
    rintro ⟨b, hb, e⟩
    subst e
    have hb : b = 114 ∨ b = 109 := by simpa using hb
    rcases hm with q | q | q | q | q | q | q | ⟨x, hx, q⟩ | ⟨x, hx, q⟩ <;> simp at q
    · omega
    · omega
    · omega
    · omega
    · subst q; rcases hb with rfl | rfl <;> revert hx <;> decide
    · subst q; rcases hb with rfl | rfl <;> revert hx <;> decide
  have mot : ∀ (b : Int) (r : List Int), motM r c0 b = (w, [], c') → (b = 48 → s.head? = some 48) → Is c' ∧ w = asksB c'.2.2.2.1 ∧ c'.2.2.2.2.2 = [] := fun b r hm hb => by
    obtain ⟨k, a, e1, e2, e3, e4, e5⟩ := mot_is hc hm hw
    rw [ho0, hl0] at e1
    refine bare k a e1 (.inl e2) (fun q => e3.1 (q.resolve_right (no2 e2))) (fun q => e3.2 (fun q2 => q (.inl q2))) e4 (fun q => hb (e5 q))
  have work : ∀ (op : List Int) (l : Int) (r : List Int), IsOp op l → op ∈ opList → workM l r (setOp c0 op) = (w, [], c') → Is c' ∧ w = asksB c'.2.2.2.1 ∧ c'.2.2.2.2.2 = [] := fun op l r hop hin hm => by
    have hb := cntL_bound r 0 (by omega) (by omega)
    unfold workM at hm
    have ct : ∀ n : Int, 0 ≤ n ∧ n ≤ 9999 → (cntC n (setOp c0 op)).2.2.2.2.1 = 0 ∧ (cntC n (setOp c0 op)).2.2.1 = op ∧ (cntC n (setOp c0 op)).1 = c0.1 ∧ (cntC n (setOp c0 op)).2.2.2.2.2 = [] ∧ 0 ≤ (cntC n (setOp c0 op)).2.1 ∧ (cntC n (setOp c0 op)).2.1 ≤ 9999 := fun n hnn => by
      unfold cntC
      split
      · refine ⟨hc, rfl, rfl, hl0, ?_⟩
        show 0 ≤ mn (mx c0.2.1 1 * mx n 1) 9999 ∧ mn (mx c0.2.1 1 * mx n 1) 9999 ≤ 9999
        have m1 : ∀ a : Int, 1 ≤ mx a 1 := fun a => by rw [mxE]; split <;> omega
        have := mn_le' (mx c0.2.1 1 * mx n 1) 9999
        have hp : 0 ≤ mx c0.2.1 1 * mx n 1 := Int.mul_nonneg (by have := m1 c0.2.1; omega) (by have := m1 n; omega)
        exact ⟨this.2.2 hp (by omega), this.1⟩
      · exact ⟨hc, rfl, rfl, hl0, hn⟩
    obtain ⟨t1, t2, t3, t4, t5⟩ := ct _ hb
    obtain ⟨k, a, e1, e2, e3, e4⟩ := wrk_is hop t1 t2 hm hw
    subst e1
    refine ⟨⟨by show bank_Valid_F (cntC _ _).1 = true; rw [t3]; exact hv, t5, .inr ⟨hin, e2⟩, fun hh => e3.1 ?_, fun hh => e3.2 (fun q => hh (.inl q)), fun q => ?_, .inl t4⟩, e4, t4⟩
    · rcases hh with hh | ⟨q, _⟩
      · exact hh
      · have : op = [] := q
        rw [this] at hin; exact absurd hin (by decide)
    · have : op = [] := q.1
      rw [this] at hin; exact absurd hin (by decide)
  cases s with
  | nil => simp [namedM] at h; omega
  | cons b r =>
    simp only [namedM] at h
    split at h
    · rename_i hb
      refine work [b] b r (.inl ⟨rfl, hb⟩) ?_ h
      rcases hb with rfl | rfl | rfl | rfl | rfl <;> decide
    · split at h
      · rename_i hb
        simp only [Prod.mk.injEq] at h
        obtain ⟨e1, _, e3⟩ := h
        refine bare [58] 0 ?_ (.inr (.inr (.inr (.inl rfl)))) (fun q => ?_) (fun _ => rfl) (by rw [← e1]; rfl) (by simp)
        · rw [← e3, key_set hc, ho0, hl0]
        · exfalso
          rcases q with ⟨x, hx, e⟩ | ⟨x, hx, e⟩ <;> simp at e <;> subst e <;> revert hx <;> decide
      · split at h
        · rename_i hb
          cases r with
          | nil => simp [argM] at h; omega
          | cons d r' =>
            simp only [argM] at h
            split at h
            · simp at h; omega
            · rename_i hd
              simp only [Prod.mk.injEq] at h
              obtain ⟨e1, _, e3⟩ := h
              refine bare [b] d ?_ (.inr (.inr (.inl ⟨b, by simpa using hb, rfl⟩))) (fun _ => hd) (fun q => absurd (.inr ⟨b, by simpa using hb, rfl⟩) q) (by rw [← e1]; unfold asksB; rw [if_neg (by simp; omega)]) (fun e => by simp at e; simp [e])
              rw [← e3]
              unfold setArg setKey
              rw [ho0, hl0]
        · split at h
          · rename_i h103
            cases r with
            | nil => simp [g2M] at h; omega
            | cons d r' =>
              simp only [g2M] at h
              split at h
              · rename_i hd
                refine work [103, d] d r' (.inr ⟨rfl, hd⟩) ?_ h
                rcases hd with rfl | rfl | rfl <;> decide
              · split at h
                · rename_i hd
                  simp only [Prod.mk.injEq] at h
                  obtain ⟨e1, _, e3⟩ := h
                  refine bare [103, d] 0 ?_ (.inr ?_) (fun q => ?_) (fun _ => rfl) (by rw [← e1]; unfold asksB; rw [if_neg (by simp)]) (by simp)
                  · rw [← e3, key_set hc, ho0, hl0]
                  · rcases hd with rfl | rfl
                    · exact .inr (.inr (.inr (.inl rfl)))
                    · exact .inr (.inr (.inr (.inr rfl)))
                  · exfalso
                    rcases q with ⟨x, hx, e⟩ | ⟨x, hx, e⟩ <;> simp at e
                · exact mot 103 (d :: r') h (by omega)
          · split at h
            · rename_i hb
              have hp := plains_not hb
              simp only [Prod.mk.injEq] at h
              obtain ⟨e1, _, e3⟩ := h
              refine bare [b] 0 ?_ (.inr (.inl ⟨b, hb, rfl⟩)) (fun q => ?_) (fun _ => rfl) (by rw [← e1]; unfold asksB; rw [if_neg (by simp; omega)]) (fun e => by simp at e; simp [e])
              · rw [← e3, key_set hc, ho0, hl0]
              · exfalso
                rcases q with ⟨x, hx, e⟩ | ⟨x, hx, e⟩ <;> simp at e <;> subst e
                · exact hp.2.2.2.1 hx
                · have hx : b = 114 ∨ b = 109 := by simpa using hx
                  omega
            · exact mot b r h (fun e => by simp [e])
end Go.VE
namespace Go.VE
open Go Go.Proofs

theorem cntL_stop : ∀ (s : List Int) (n : Int), 0 ≤ n → n ≤ 9999 → 0 < (cntL s n).1 → (s.drop (cntL s n).2).head? ≠ some 48
  | [], n, _, _, _ => by simp [cntL]
  | b :: r, n, h0, h1, h => by
    unfold cntL at h ⊢
    split
    · rename_i hb
      rw [if_pos hb] at h
      dsimp only at h
      simp; omega
    · rename_i hb
      rw [if_neg hb] at h
      have := mn_le' (n * 10 + (b - 48)) 9999
      exact cntL_stop r _ (this.2.2 (by omega) (by omega)) this.1 h

def W4 (m : MR) : Prop := m.1 = 0 ∨ m.1 = 1 ∨ m.1 = 2 ∨ m.1 = 3
theorem arg_w (s : List Int) (c : Cmd) : W4 (argM s c) := by
  cases s with
  | nil => exact .inl rfl
  | cons b r => simp only [argM]; split <;> simp [W4]
theorem g_w (s : List Int) (c : Cmd) : W4 (gM s c) := by
  cases s with
  | nil => exact .inl rfl
  | cons b r => simp only [gM]; split <;> simp [W4]
theorem obj_w (b : Int) (s : List Int) (c : Cmd) : W4 (objM b s c) := by
  cases s with
  | nil => exact .inl rfl
  | cons d r => simp only [objM]; split <;> simp [W4]
theorem mot_w (s : List Int) (c : Cmd) (b : Int) : W4 (motM s c b) := by
  unfold motM
  split
  · simp [W4]
  · split
    · simp [W4]
    · split
      · simp [W4]
      · split
        · simp [W4]
        · split
          · exact arg_w _ _
          · split
            · exact g_w _ _
            · simp [W4]
theorem wrk_w4 (l : Int) (s : List Int) (c : Cmd) : W4 (wrkM l s c) := by
  cases s with
  | nil => exact .inl rfl
  | cons b r =>
    simp only [wrkM]
    split
    · simp [W4]
    · split
      · exact obj_w _ _ _
      · split
        · simp [W4]
        · exact mot_w _ _ _
theorem named_w (s : List Int) (c : Cmd) : W4 (namedM s c) := by
  cases s with
  | nil => exact .inl rfl
  | cons b r =>
    simp only [namedM]
    split
    · exact wrk_w4 _ _ _
    · split
      · simp [W4]
      · split
        · exact arg_w _ _
        · split
          · cases r with
            | nil => exact .inl rfl
            | cons d r' =>
              simp only [g2M]
              split
              · exact wrk_w4 _ _ _
              · split
                · simp [W4]
                · exact mot_w _ _ _
          · split
            · simp [W4]
            · exact mot_w _ _ _

/-- what a parse answers -/
def Fine (p : Cmd × Int) : Prop := ((p.2 = 1 ∨ p.2 = 3) → Is p.1 ∧ p.2 = asksB p.1.2.2.2.1 ∧ p.1.2.2.2.2.2 = []) ∧ (¬ (p.2 = 1 ∨ p.2 = 3) → p.1 = zC)

theorem fin_fine (s : List Int) (reg : Int) (hv : bank_Valid_F reg = true) : Fine (finM s (reg, 0, [], [], 0, [])) := by
  have hb := cntL_bound s 0 (by omega) (by omega)
  rw [finM_eq]
  have hw := named_w (s.drop (cntL s 0).2) (setCnt (reg, 0, [], [], 0, []) (cntL s 0).1)
  have hi : ∀ w c', namedM (s.drop (cntL s 0).2) (setCnt (reg, 0, [], [], 0, []) (cntL s 0).1) = (w, [], c') → (w = 1 ∨ w = 3) → Is c' ∧ w = asksB c'.2.2.2.1 ∧ c'.2.2.2.2.2 = [] :=
    fun w c' e hw => head_is (c0 := setCnt (reg, 0, [], [], 0, []) (cntL s 0).1) rfl hv hb (fun hp => cntL_stop s 0 (by omega) (by omega) hp) e hw
  generalize namedM (s.drop (cntL s 0).2) (setCnt (reg, 0, [], [], 0, []) (cntL s 0).1) = m at hw hi
  obtain ⟨w, t, c'⟩ := m
  unfold finR
  split
  · rename_i h
    dsimp only at h
    refine ⟨fun q => ?_, fun _ => rfl⟩
    dsimp only at q; omega
  · rename_i h
    dsimp only at h
    split
    · refine ⟨fun q => ?_, fun _ => rfl⟩
      dsimp only at q; omega
    · rename_i ht
      have ht : t = [] := by simpa using ht
      subst ht
      have h13 : w = 1 ∨ w = 3 := by
        unfold W4 at hw; dsimp only at hw; omega
      exact ⟨fun _ => hi w c' rfl h13, fun q => absurd h13 q⟩

theorem parse_fine (s : List Int) : Fine (parseM s) := by
  have z : ∀ k : Int, (k = 0 ∨ k = 2) → Fine (zC, k) := fun k hk => ⟨fun q => by dsimp only at q; omega, fun _ => rfl⟩
  unfold parseM
  split
  · split
    · exact z 0 (.inl rfl)
    · split
      · exact z 2 (.inr rfl)
      · rename_i n r _ hn
        refine fin_fine r n ?_
        cases hv : bank_Valid_F n with
        | true => rfl
        | false => exact absurd (.inr hv) hn
  · exact fin_fine s 0 (by kernel_rfl)

theorem is_short {c : Cmd} (h : Is c) : c.2.2.1.length ≤ 1048576 ∧ c.2.2.2.1.length ≤ 1048576 := by
  have mo : ∀ k : List Int, Motion k → k.length ≤ 2 := fun k hm => by
    rcases hm with q | q | q | q | q | q | q | ⟨x, _, q⟩ | ⟨x, _, q⟩ <;> rw [q] <;> simp
  have ol : ∀ o ∈ opList, o.length ≤ 2 := by decide
  rcases h.2.2.1 with ⟨ho, hk⟩ | ⟨ho, hk⟩
  · refine ⟨by rw [ho]; simp, ?_⟩
    rcases hk with hk | hk
    · have := mo _ hk; omega
    · rcases hk with ⟨x, _, q⟩ | ⟨x, _, q⟩ | q | q | q <;> rw [q] <;> simp
  · have h1 := ol _ ho
    refine ⟨by omega, ?_⟩
    rcases hk with hk | ⟨a, d, _, _, q⟩ | hk
    · rw [hk]; omega
    · rw [q]; simp
    · have := mo _ hk; omega

end Go.VE
namespace Go.VE
open Go Go.Proofs
/-! ### quoin/again.counted -/
def again_counted_G : List (Nat × App) := []
theorem again_counted_Gok : GOk Tryd.prog (getG again_counted_G) := GOk.nil
def again_counted_raw (n0 : Int) (K : Res → List Cell → Prop) : Prop :=
 bif (decide ((0 : Int) ≤ n0)) then
 K (.one (.v (.bool) (decide (n0 ≤ (9999 : Int))))) []
 else
 K (.one (.v (.bool) false)) []
def again_counted_A : List AS := [.v (.int .i64)]
theorem again_counted_walk (n0 : Int) (K : Res → List Cell → Prop) : runF tb (getG again_counted_G) [] Tryd.f39 [true] (mkA again_counted_A (n0, ())) K = again_counted_raw n0 K := by kernel_rfl

def again_counted_F (n0 : Int) : Bool :=
 bif (decide ((0 : Int) ≤ n0)) then
 (decide (n0 ≤ (9999 : Int)))
 else
 false
set_option maxRecDepth 20000 in
theorem again_counted_sp (n0 : Int) (K : Res → List Cell → Prop) (_ : wfA again_counted_A (n0, ())) (h : ∀ r : Bool, r = again_counted_F n0 → K (.one (.v (.bool) r)) []) : again_counted_raw n0 K := by
  unfold again_counted_raw
  refine brb (fun c_1 => ?_) (fun c_1 => ?_)
  ·
    exact h _ ((ctrue c_1) : again_counted_F n0 = _).symm
  ·
    exact h _ ((cfalse c_1) : again_counted_F n0 = _).symm
def again_counted_C (v : valsA again_counted_A) (K : Res → List Cell → Prop) : Prop := ∀ r : Bool, r = again_counted_F v.1 → K (.one (.v (.bool) r)) []
def again_counted_S : App := specW again_counted_A again_counted_C
theorem again_counted_wv (K : Res → List Cell → Prop) : ∀ v : valsA again_counted_A, runF tb (getG again_counted_G) [] Tryd.f39 [true] (mkA again_counted_A v) K = again_counted_raw v.1 K
  | (n0, ()) => again_counted_walk n0 K
set_option maxRecDepth 20000 in
theorem again_counted_ok : AppOk Tryd.prog 39 again_counted_S :=
  AppOk.specW (spec_ok ((runF_ok tb_M tb_ok again_counted_Gok (LabsOk.nil) (f := 39) (fn := Tryd.f39) (by kernel_rfl) (by kernel_rfl) (by kernel_rfl) [true])) fun v K hw h => (again_counted_wv K v).mpr (again_counted_sp v.1 K hw h))

end Go.VE
namespace Go.VE
open Go Go.Proofs
/-! ### quoin/again.named -/
def again_named_G : List (Nat × App) := [(82, bank_Valid_S)]
theorem again_named_Gok : GOk Tryd.prog (getG again_named_G) := GOk.cons bank_Valid_ok (GOk.nil)
def again_named_raw (reg0 : Int) (K : Res → List Cell → Prop) : Prop :=
 bif (decide (reg0 = (0 : Int))) then
 K (.one (.v (.bool) true)) []
 else
 ∀ (r1 : Bool), r1 = bank_Valid_F reg0 → (
 wfR (.one (.v (.bool) r1)) → (
 K (.one (.v (.bool) r1)) []))
def again_named_A : List AS := [.v (.int .u8)]
theorem again_named_walk (reg0 : Int) (K : Res → List Cell → Prop) : runF tb (getG again_named_G) [] Tryd.f38 [true] (mkA again_named_A (reg0, ())) K = again_named_raw reg0 K := by kernel_rfl

def again_named_F (reg0 : Int) : Bool :=
 bif (decide (reg0 = (0 : Int))) then
 true
 else
 let r1 : Bool := bank_Valid_F reg0
 r1
set_option maxRecDepth 20000 in
theorem again_named_sp (reg0 : Int) (K : Res → List Cell → Prop) (_ : wfA again_named_A (reg0, ())) (h : ∀ r : Bool, r = again_named_F reg0 → K (.one (.v (.bool) r)) []) : again_named_raw reg0 K := by
  unfold again_named_raw
  refine brb (fun c_1 => ?_) (fun c_1 => ?_)
  ·
    exact h _ ((ctrue c_1) : again_named_F reg0 = _).symm
  ·
    intro r1 hr1
    subst hr1
    intro _
    exact h _ ((cfalse c_1) : again_named_F reg0 = _).symm
def again_named_C (v : valsA again_named_A) (K : Res → List Cell → Prop) : Prop := ∀ r : Bool, r = again_named_F v.1 → K (.one (.v (.bool) r)) []
def again_named_S : App := specW again_named_A again_named_C
theorem again_named_wv (K : Res → List Cell → Prop) : ∀ v : valsA again_named_A, runF tb (getG again_named_G) [] Tryd.f38 [true] (mkA again_named_A v) K = again_named_raw v.1 K
  | (reg0, ()) => again_named_walk reg0 K
set_option maxRecDepth 20000 in
theorem again_named_ok : AppOk Tryd.prog 38 again_named_S :=
  AppOk.specW (spec_ok ((runF_ok tb_M tb_ok again_named_Gok (LabsOk.nil) (f := 38) (fn := Tryd.f38) (by kernel_rfl) (by kernel_rfl) (by kernel_rfl) [true])) fun v K hw h => (again_named_wv K v).mpr (again_named_sp v.1 K hw h))

end Go.VE
namespace Go.VE
open Go Go.Proofs
--! external 1
--! args B U
--! res I
--! pre 0
--! import VEr
def internal_bytealg_IndexByte_F (xs : List Int) (c : Int) : Int := idxB xs c
def internal_bytealg_IndexByte_S : App := specW sliceByte_A fun v K => ∀ r : Int, r = internal_bytealg_IndexByte_F v.1 v.2.1 → K (.one (.v (.int .i64) r)) []
theorem internal_bytealg_IndexByte_ok : AppOk Tryd.prog 84 internal_bytealg_IndexByte_S :=
  ext_indexByte (fn := Tryd.f84) (by kernel_rfl) (by kernel_rfl) (by kernel_rfl) (by kernel_rfl) (by kernel_rfl)

end Go.VE
namespace Go.VE
open Go Go.Proofs
/-! ### bytes.IndexByte -/
def bytes_IndexByte_G : List (Nat × App) := [(84, internal_bytealg_IndexByte_S)]
theorem bytes_IndexByte_Gok : GOk Tryd.prog (getG bytes_IndexByte_G) := GOk.cons internal_bytealg_IndexByte_ok (GOk.nil)
def bytes_IndexByte_raw (b0 : List Int) (c1 : Int) (K : Res → List Cell → Prop) : Prop :=
 ∀ (r1 : Int), r1 = internal_bytealg_IndexByte_F b0 c1 → (
 wfR (.one (.v (.int .i64) r1)) → (
 K (.one (.v (.int .i64) r1)) []))
def bytes_IndexByte_A : List AS := [.v (.sl (.int .u8)), .v (.int .u8)]
theorem bytes_IndexByte_walk (b0 : List Int) (c1 : Int) (K : Res → List Cell → Prop) : runF tb (getG bytes_IndexByte_G) [] Tryd.f43 [true] (mkA bytes_IndexByte_A (b0, c1, ())) K = bytes_IndexByte_raw b0 c1 K := by kernel_rfl

def bytes_IndexByte_F (b0 : List Int) (c1 : Int) : Int :=
 let r1 : Int := internal_bytealg_IndexByte_F b0 c1
 r1
set_option maxRecDepth 20000 in
theorem bytes_IndexByte_sp (b0 : List Int) (c1 : Int) (K : Res → List Cell → Prop) (_ : wfA bytes_IndexByte_A (b0, c1, ())) (h : ∀ r : Int, r = bytes_IndexByte_F b0 c1 → K (.one (.v (.int .i64) r)) []) : bytes_IndexByte_raw b0 c1 K := by
  unfold bytes_IndexByte_raw
  intro r1 hr1
  subst hr1
  intro _
  exact h _ rfl
def bytes_IndexByte_C (v : valsA bytes_IndexByte_A) (K : Res → List Cell → Prop) : Prop := ∀ r : Int, r = bytes_IndexByte_F v.1 v.2.1 → K (.one (.v (.int .i64) r)) []
def bytes_IndexByte_S : App := specW bytes_IndexByte_A bytes_IndexByte_C
theorem bytes_IndexByte_wv (K : Res → List Cell → Prop) : ∀ v : valsA bytes_IndexByte_A, runF tb (getG bytes_IndexByte_G) [] Tryd.f43 [true] (mkA bytes_IndexByte_A v) K = bytes_IndexByte_raw v.1 v.2.1 K
  | (b0, c1, ()) => bytes_IndexByte_walk b0 c1 K
set_option maxRecDepth 20000 in
theorem bytes_IndexByte_ok : AppOk Tryd.prog 43 bytes_IndexByte_S :=
  AppOk.specW (spec_ok ((runF_ok tb_M tb_ok bytes_IndexByte_Gok (LabsOk.nil) (f := 43) (fn := Tryd.f43) (by kernel_rfl) (by kernel_rfl) (by kernel_rfl) [true])) fun v K hw h => (bytes_IndexByte_wv K v).mpr (bytes_IndexByte_sp v.1 v.2.1 K hw h))

end Go.VE
namespace Go.VE
open Go Go.Proofs
/-! ### quoin/again.head -/
def again_head_G : List (Nat × App) := [(47, keys_Parse_S), (43, bytes_IndexByte_S)]
theorem again_head_Gok : GOk Tryd.prog (getG again_head_G) := GOk.cons keys_Parse_ok (GOk.cons bytes_IndexByte_ok (GOk.nil))
theorem again_head_st : storesC (bodyOf Tryd.f45) = true := by kernel_rfl
def again_head_d0 : List LS := [.v 0 (.sl (.int .u8)), .b 2 16 [], .v 5 (.int .i64), .c 16 (.st (.pair (.int .u8) (.pair (.int .i64) (.pair (.str) (.pair (.str) (.pair (.int .u8) (.sl (.int .u8))))))))]
def again_head_d0r : List LS := [.b 2 16 [], .v 3 (.int .i64), .v 4 (.bool), .c 16 (.st (.pair (.int .u8) (.pair (.int .i64) (.pair (.str) (.pair (.str) (.pair (.int .u8) (.sl (.int .u8))))))))]
def again_head_d0x0 : List LS := [.b 2 16 [], .c 16 (.st (.pair (.int .u8) (.pair (.int .i64) (.pair (.str) (.pair (.str) (.pair (.int .u8) (.sl (.int .u8))))))))]
def again_head_dx0 : DX := ⟨none, some again_head_d0r, [(0, again_head_d0x0)]⟩
def again_head_T0 (Y : List Int → Int → CmT → Prop) (kr : Int → Bool → CmT → Prop) (kx0 : CmT → Prop) (p0 : List Int) (n5 : Int) (x2b : CmT) : Prop :=
 bif (decide (n5 ≤ (List.length p0 : Int))) then
 bif decide (0 ≤ n5 ∧ n5 ≤ (List.length p0 : Int)) then
 keys_Parse_P (List.take (Int.toNat n5) p0) ∧ (
 ∀ (r1 : CmT × Int), r1 = keys_Parse_F (List.take (Int.toNat n5) p0) → (
 wfR (.tup [.v (.st (.pair (.int .u8) (.pair (.int .i64) (.pair (.str) (.pair (.str) (.pair (.int .u8) (.sl (.int .u8)))))))) r1.1, .v (.int .i64) r1.2]) → (
 bif (decide (r1.2 = (1 : Int))) then
 kr n5 true r1.1
 else
 bif (decide (r1.2 = (2 : Int))) then
 kr (0 : Int) false r1.1
 else
 bif (decide (r1.2 = (3 : Int))) then
 bif decide (0 ≤ n5 ∧ n5 ≤ (List.length p0 : Int)) then
 ∀ (r2 : Int), r2 = bytes_IndexByte_F (List.drop (Int.toNat n5) p0) (13 : Int) → (
 wfR (.one (.v (.int .i64) r2)) → (
 bif (decide (r2 < (0 : Int))) then
 kr (0 : Int) false r1.1
 else
 bif decide (0 ≤ n5 ∧ n5 ≤ (IntKind.wrap .i64 (n5 + r2)) ∧ (IntKind.wrap .i64 (n5 + r2)) ≤ (List.length p0 : Int)) then
 kr (IntKind.wrap .i64 ((IntKind.wrap .i64 (n5 + r2)) + (1 : Int))) true (r1.1.1, r1.1.2.1, r1.1.2.2.1, r1.1.2.2.2.1, r1.1.2.2.2.2.1, (slc p0 n5 (IntKind.wrap .i64 (n5 + r2))))
 else False))
 else False
 else
 Y p0 (IntKind.wrap .i64 (n5 + (1 : Int))) x2b)))
 else False
 else
 kx0 x2b
def again_head_L0 (kr : Int → Bool → CmT → Prop) (kx0 : CmT → Prop) : Nat → List Int → Int → CmT → Prop
  | 0, _, _, _ => False
  | n + 1, p0, n5, x2b => wfD again_head_d0 (p0, n5, x2b, ()) → again_head_T0 (again_head_L0 kr kx0 n) kr kx0 p0 n5 x2b
theorem again_head_s0 (k : Ex → St → Prop) (Y : vals again_head_d0 → Prop) (p0 : List Int) (n5 : Int) (x2b : CmT) :
    ex tb (getG again_head_G) [] (at' (bodyOf Tryd.f45) [0, 0, 1, 0, 1]) [0, 0, 1, 0, 1] (mkD 52 again_head_d0 (p0, n5, x2b, ())) (lpK 52 again_head_d0 again_head_dx0 k Y) =
    again_head_T0 (fun p0 n5 x2b => Y (p0, n5, x2b, ())) (fun x3 x4 x2b => wfD again_head_d0r (x3, x4, x2b, ()) → k .ret (mkD 52 again_head_d0r (x3, x4, x2b, ()))) (fun x2b => wfD again_head_d0x0 (x2b, ()) → k (.exit 0) (mkD 52 again_head_d0x0 (x2b, ()))) p0 n5 x2b := by kernel_rfl
theorem again_head_e0 (k : Ex → St → Prop) : ∀ (n : Nat) (p0 : List Int) (n5 : Int) (x2b : CmT), lpD 52 again_head_d0 again_head_dx0 (ex tb (getG again_head_G) [] (at' (bodyOf Tryd.f45) [0, 0, 1, 0, 1]) [0, 0, 1, 0, 1]) k n (p0, n5, x2b, ()) = again_head_L0 (fun x3 x4 x2b => wfD again_head_d0r (x3, x4, x2b, ()) → k .ret (mkD 52 again_head_d0r (x3, x4, x2b, ()))) (fun x2b => wfD again_head_d0x0 (x2b, ()) → k (.exit 0) (mkD 52 again_head_d0x0 (x2b, ()))) n p0 n5 x2b
  | 0, _, _, _ => rfl
  | n + 1, p0, n5, x2b => congrArg (fun Z : Prop => wfD again_head_d0 (p0, n5, x2b, ()) → Z) ((again_head_s0 k (lpD 52 again_head_d0 again_head_dx0 (ex tb (getG again_head_G) [] (at' (bodyOf Tryd.f45) [0, 0, 1, 0, 1]) [0, 0, 1, 0, 1]) k n) p0 n5 x2b).trans (congrArg (fun Y => again_head_T0 Y (fun x3 x4 x2b => wfD again_head_d0r (x3, x4, x2b, ()) → k .ret (mkD 52 again_head_d0r (x3, x4, x2b, ()))) (fun x2b => wfD again_head_d0x0 (x2b, ()) → k (.exit 0) (mkD 52 again_head_d0x0 (x2b, ()))) p0 n5 x2b) (funext fun p0 => funext fun n5 => funext fun x2b => again_head_e0 k n p0 n5 x2b)))
theorem again_head_v0 (k : Ex → St → Prop) (n : Nat) : ∀ v : vals again_head_d0, lpD 52 again_head_d0 again_head_dx0 (ex tb (getG again_head_G) [] (at' (bodyOf Tryd.f45) [0, 0, 1, 0, 1]) [0, 0, 1, 0, 1]) k n v = again_head_L0 (fun x3 x4 x2b => wfD again_head_d0r (x3, x4, x2b, ()) → k .ret (mkD 52 again_head_d0r (x3, x4, x2b, ()))) (fun x2b => wfD again_head_d0x0 (x2b, ()) → k (.exit 0) (mkD 52 again_head_d0x0 (x2b, ()))) n v.1 v.2.1 v.2.2.1
  | (p0, n5, x2b, ()) => again_head_e0 k n p0 n5 x2b
def again_head_X0 : Pce := fun st k => ckD 52 again_head_d0 st fun v => wfD again_head_d0 v → ∃ n, again_head_L0 (fun x3 x4 x2b => wfD again_head_d0r (x3, x4, x2b, ()) → k .ret (mkD 52 again_head_d0r (x3, x4, x2b, ()))) (fun x2b => wfD again_head_d0x0 (x2b, ()) → k (.exit 0) (mkD 52 again_head_d0x0 (x2b, ()))) n v.1 v.2.1 v.2.2.1
set_option maxRecDepth 20000 in
theorem again_head_x0 : SemOk Tryd.prog (at' (bodyOf Tryd.f45) [0, 1, 0, 1]) again_head_X0 :=
  (SemOk.loop (ex_sound tb_M tb_ok again_head_Gok (LabsOk.nil) (at' (bodyOf Tryd.f45) [0, 0, 1, 0, 1]) [0, 0, 1, 0, 1] rfl (storesC_at again_head_st [0, 0, 1, 0, 1])) 52 again_head_d0 again_head_dx0).mono fun st k h => ckD_mono h fun v hv hw => (hv hw).elim fun n hn => ⟨n, Eq.mpr (again_head_v0 k n v) hn⟩
def again_head_B0 : Labs := ([0, 1, 0, 1], again_head_X0) :: []
theorem again_head_b0 : LabsOk Tryd.prog (bodyOf Tryd.f45) again_head_B0 := LabsOk.cons again_head_x0 (LabsOk.nil)
def again_head_raw (p0 : List Int) (K : Res → List Cell → Prop) : Prop :=
 (wfD again_head_d0 (p0, (1 : Int), ((0 : Int), (0 : Int), ([] : List Int), ([] : List Int), (0 : Int), ([] : List Int)), ()) → ∃ n, again_head_L0 (fun (x3 : Int) (x4 : Bool) (x2b : CmT) => wfD again_head_d0r (x3, x4, x2b, ()) → (
 K (.tup [.v (.st (.pair (.int .u8) (.pair (.int .i64) (.pair (.str) (.pair (.str) (.pair (.int .u8) (.sl (.int .u8)))))))) x2b, .v (.int .i64) x3, .v (.bool) x4]) [])) (fun (x2b : CmT) => wfD again_head_d0x0 (x2b, ()) → (
 K (.tup [.v (.st (.pair (.int .u8) (.pair (.int .i64) (.pair (.str) (.pair (.str) (.pair (.int .u8) (.sl (.int .u8)))))))) ((0 : Int), (0 : Int), ([] : List Int), ([] : List Int), (0 : Int), ([] : List Int)), .v (.int .i64) (0 : Int), .v (.bool) false]) [])) n p0 (1 : Int) ((0 : Int), (0 : Int), ([] : List Int), ([] : List Int), (0 : Int), ([] : List Int)))
def again_head_A : List AS := [.v (.sl (.int .u8))]
theorem again_head_walk (p0 : List Int) (K : Res → List Cell → Prop) : runF tb (getG again_head_G) again_head_B0 Tryd.f45 [true, true, true] (mkA again_head_A (p0, ())) K = again_head_raw p0 K := by kernel_rfl
--! pre 1
--! import KT2
def setLine (c : Cmd) (l : List Int) : Cmd := (c.1, c.2.1, c.2.2.1, c.2.2.2.1, c.2.2.2.2.1, l)
/-- the line behind the place n, up to the byte 13 -/
def lineR (p : List Int) (n : Nat) (c : Cmd) (d : Cmd) : Cmd × Int × Bool :=
  if 13 ∈ p.drop n then (setLine c ((p.drop n).take ((p.drop n).idxOf 13)), (n : Int) + ((p.drop n).idxOf 13 : Nat) + 1, true) else (d, 0, false)
/-- the command at the head, from the place n on -/
def headR (p : List Int) : Nat → Nat → Cmd × Int × Bool
  | 0, _ => (zC, 0, false)
  | f + 1, n => if (parseM (p.take n)).2 = 1 then ((parseM (p.take n)).1, (n : Int), true)
    else if (parseM (p.take n)).2 = 2 then ((parseM (p.take n)).1, 0, false)
    else if (parseM (p.take n)).2 = 3 then lineR p n (parseM (p.take n)).1 (parseM (p.take n)).1
    else headR p f (n + 1)
def again_head_P (p : List Int) : Prop := p.length ≤ 1099511627776
def again_head_F (p : List Int) : Cmd × Int × Bool := headR p p.length 1
theorem again_head_l0 (kr : Int → Bool → Cmd → Prop) (kx0 : Cmd → Prop) (p : List Int) (hl : p.length ≤ 1099511627776) (h255 : ∀ x ∈ p, 0 ≤ x ∧ x ≤ 255) (x2 : Cmd)
    (hk : ∀ r, r = again_head_F p → kr r.2.1 r.2.2 r.1) (hx : (zC, 0, false) = again_head_F p → kx0 x2) :
    ∀ (m f n : Nat), f < m → f + n = p.length + 1 → headR p f n = again_head_F p → again_head_L0 kr kx0 m p (n : Int) x2
  | 0, _, _, h, _, _ => absurd h (Nat.not_lt_zero _)
  | m + 1, f, n, hf, hn, hr => by
    intro _
    unfold again_head_T0
    refine brn (fun hle => asrt ⟨by omega, hle⟩ ?_) (fun hgt => hx ?_)
    · obtain ⟨f, rfl⟩ : ∃ g, f = g + 1 := ⟨f - 1, by omega⟩
      rw [Int.toNat_natCast]
      have hpl : (p.take n).length ≤ 1099511627776 := by rw [List.length_take]; omega
      have hpb : ∀ x ∈ p.take n, 0 ≤ x ∧ x ≤ 255 := fun x hx => h255 x (List.mem_of_mem_take hx)
      refine ⟨(parse_eq hpl hpb).1, fun r1 hr1 _ => ?_⟩
      rw [(parse_eq hpl hpb).2] at hr1
      unfold headR at hr
      rw [← hr1] at hr
      refine brn (fun h1 => ?_) (fun h1 => brn (fun h2 => ?_) (fun h2 => brn (fun h3 => asrt ⟨by omega, hle⟩ fun r2 hr2 _ => ?_) (fun h3 => ?_)))
      · rw [if_pos h1] at hr; exact hk _ hr
      · rw [if_neg h1, if_pos h2] at hr; exact hk _ hr
      · rw [if_neg h1, if_neg h2, if_pos h3] at hr
        have hr2 : r2 = idxB (p.drop n) 13 := hr2
        unfold lineR at hr
        by_cases hm : 13 ∈ p.drop n
        · rw [if_pos hm] at hr
          have hlt := List.idxOf_lt_length_iff.2 hm
          rw [List.length_drop] at hlt
          have e : r2 = ((p.drop n).idxOf 13 : Nat) := by rw [hr2]; unfold idxB; rw [if_pos hm]
          rw [e]
          have hk' := hk _ hr
          generalize (p.drop n).idxOf 13 = j at *
          have hw : IntKind.wrap .i64 ((n : Int) + (j : Int)) = ((n + j : Nat) : Int) := by rw [wrap_i64 (by omega) (by omega)]; omega
          refine brn (fun h => absurd h (by omega)) (fun _ => ?_)
          rw [hw, wrap_i64 (by omega) (by omega)]
          refine asrt ⟨by omega, by omega, by omega⟩ ?_
          have es : slc p (n : Int) ((n + j : Nat) : Int) = (p.drop n).take j := by
            unfold slc
            rw [Int.toNat_natCast, Int.toNat_natCast, List.drop_take]
            congr 1; omega
          rw [es, show ((n + j : Nat) : Int) + 1 = (n : Int) + (j : Int) + 1 by omega]
          exact hk'
        · rw [if_neg hm] at hr
          have e : r2 = -1 := by rw [hr2]; unfold idxB; rw [if_neg hm]
          rw [e]
          exact brn (fun _ => hk _ hr) (fun h => absurd (by omega) h)
      · rw [if_neg h1, if_neg h2, if_neg h3] at hr
        rw [wrap_i64 (by omega) (by omega), show (n : Int) + 1 = ((n + 1 : Nat) : Int) by omega]
        exact again_head_l0 kr kx0 p hl h255 x2 hk hx m f (n + 1) (by omega) (by omega) hr
    · obtain rfl : f = 0 := by omega
      exact hr
theorem again_head_sp (p : List Int) (K : Res → List Cell → Prop) (hw : wfA again_head_A (p, ())) (hp : again_head_P p) (h : ∀ r : Cmd × Int × Bool, r = again_head_F p → K (.tup [.v (.st (.pair (.int .u8) (.pair (.int .i64) (.pair (.str) (.pair (.str) (.pair (.int .u8) (.sl (.int .u8)))))))) r.1, .v (.int .i64) r.2.1, .v (.bool) r.2.2]) []) : again_head_raw p K := by
  unfold again_head_raw
  intro hw2
  exact ⟨p.length + 1, again_head_l0 _ _ p hp hw.1.2 _ (fun r hr _ => h r hr) (fun hr _ => h _ hr) _ p.length 1 (by omega) (by omega) rfl⟩

def again_head_C (v : valsA again_head_A) (K : Res → List Cell → Prop) : Prop := again_head_P v.1 ∧ ∀ r : CmT × Int × Bool, r = again_head_F v.1 → K (.tup [.v (.st (.pair (.int .u8) (.pair (.int .i64) (.pair (.str) (.pair (.str) (.pair (.int .u8) (.sl (.int .u8)))))))) r.1, .v (.int .i64) r.2.1, .v (.bool) r.2.2]) []
def again_head_S : App := specW again_head_A again_head_C
theorem again_head_wv (K : Res → List Cell → Prop) : ∀ v : valsA again_head_A, runF tb (getG again_head_G) again_head_B0 Tryd.f45 [true, true, true] (mkA again_head_A v) K = again_head_raw v.1 K
  | (p0, ()) => again_head_walk p0 K
set_option maxRecDepth 20000 in
theorem again_head_ok : AppOk Tryd.prog 45 again_head_S :=
  AppOk.specW (spec_ok ((runF_ok tb_M tb_ok again_head_Gok (again_head_b0) (f := 45) (fn := Tryd.f45) (by kernel_rfl) (by kernel_rfl) again_head_st [true, true, true])) fun v K hw h => (again_head_wv K v).mpr (again_head_sp v.1 K hw h.1 h.2))

end Go.VE
namespace Go.VE
open Go Go.Proofs
/-! ### quoin/again.Repeats -/
def again_Repeats_G : List (Nat × App) := [(48, keys_Name_S), (49, strings_Contains_S)]
theorem again_Repeats_Gok : GOk Tryd.prog (getG again_Repeats_G) := GOk.cons keys_Name_ok (GOk.cons strings_Contains_ok (GOk.nil))
def again_Repeats_raw (c0 : CmT) (K : Res → List Cell → Prop) : Prop :=
 keys_Name_P c0 ∧ (
 ∀ (r1 : List Int), r1 = keys_Name_F c0 → (
 wfR (.one (.fr 4294967301 (.int .u8) r1)) → (
 bif (decide ((List.length r1 : Int) = (0 : Int))) then
 K (.one (.v (.bool) false)) []
 else
 bif (decide (c0.2.2.1 = ([121] : List Int))) then
 K (.one (.v (.bool) false)) []
 else
 bif (!decide (c0.2.2.1 = ([] : List Int))) then
 K (.one (.v (.bool) true)) []
 else
 bif (decide ((List.length c0.2.2.2.1 : Int) = (1 : Int))) then
 strings_Contains_P ([120, 88, 68, 67, 83, 115, 112, 80, 114, 126, 74, 105, 97, 73, 65, 111, 79, 82] : List Int) c0.2.2.2.1 ∧ (
 ∀ (r2 : Bool), r2 = strings_Contains_F ([120, 88, 68, 67, 83, 115, 112, 80, 114, 126, 74, 105, 97, 73, 65, 111, 79, 82] : List Int) c0.2.2.2.1 → (
 wfR (.one (.v (.bool) r2)) → (
 K (.one (.v (.bool) r2)) [])))
 else
 K (.one (.v (.bool) false)) [])))
def again_Repeats_A : List AS := [.v (.st (.pair (.int .u8) (.pair (.int .i64) (.pair (.str) (.pair (.str) (.pair (.int .u8) (.sl (.int .u8))))))))]
theorem again_Repeats_walk (c0 : CmT) (K : Res → List Cell → Prop) : runF tb (getG again_Repeats_G) [] Tryd.f15 [true] (mkA again_Repeats_A (c0, ())) K = again_Repeats_raw c0 K := by kernel_rfl

def again_Repeats_P (c0 : CmT) : Prop :=
 keys_Name_P c0 ∧ (
 let r1 : List Int := keys_Name_F c0
 bif (decide ((List.length r1 : Int) = (0 : Int))) then
 True
 else
 bif (decide (c0.2.2.1 = ([121] : List Int))) then
 True
 else
 bif (!decide (c0.2.2.1 = ([] : List Int))) then
 True
 else
 bif (decide ((List.length c0.2.2.2.1 : Int) = (1 : Int))) then
 strings_Contains_P ([120, 88, 68, 67, 83, 115, 112, 80, 114, 126, 74, 105, 97, 73, 65, 111, 79, 82] : List Int) c0.2.2.2.1
 else
 True)
def again_Repeats_F (c0 : CmT) : Bool :=
 let r1 : List Int := keys_Name_F c0
 bif (decide ((List.length r1 : Int) = (0 : Int))) then
 false
 else
 bif (decide (c0.2.2.1 = ([121] : List Int))) then
 false
 else
 bif (!decide (c0.2.2.1 = ([] : List Int))) then
 true
 else
 bif (decide ((List.length c0.2.2.2.1 : Int) = (1 : Int))) then
 let r2 : Bool := strings_Contains_F ([120, 88, 68, 67, 83, 115, 112, 80, 114, 126, 74, 105, 97, 73, 65, 111, 79, 82] : List Int) c0.2.2.2.1
 r2
 else
 false
set_option maxRecDepth 20000 in
theorem again_Repeats_sp (c0 : CmT) (K : Res → List Cell → Prop) (_ : wfA again_Repeats_A (c0, ())) (hp : again_Repeats_P c0) (h : ∀ r : Bool, r = again_Repeats_F c0 → K (.one (.v (.bool) r)) []) : again_Repeats_raw c0 K := by
  unfold again_Repeats_raw
  unfold again_Repeats_P at hp
  refine ⟨hp.1, ?_⟩
  replace hp := hp.2
  intro r1 hr1
  subst hr1
  intro _
  refine brb (fun c_1 => ?_) (fun c_1 => ?_)
  ·
    clear hp
    exact h _ ((ctrue c_1) : again_Repeats_F c0 = _).symm
  ·
    replace hp := cF c_1 hp
    refine brb (fun c_2 => ?_) (fun c_2 => ?_)
    ·
      clear hp
      exact h _ ((Eq.trans (cfalse c_1) (ctrue c_2)) : again_Repeats_F c0 = _).symm
    ·
      replace hp := cF c_2 hp
      refine brb (fun c_3 => ?_) (fun c_3 => ?_)
      ·
        clear hp
        exact h _ ((Eq.trans (cfalse c_1) (Eq.trans (cfalse c_2) (ctrue c_3))) : again_Repeats_F c0 = _).symm
      ·
        replace hp := cF c_3 hp
        refine brb (fun c_4 => ?_) (fun c_4 => ?_)
        ·
          replace hp := cT c_4 hp
          refine ⟨hp, ?_⟩
          intro r2 hr2
          subst hr2
          intro _
          exact h _ ((Eq.trans (cfalse c_1) (Eq.trans (cfalse c_2) (Eq.trans (cfalse c_3) (ctrue c_4)))) : again_Repeats_F c0 = _).symm
        ·
          clear hp
          exact h _ ((Eq.trans (cfalse c_1) (Eq.trans (cfalse c_2) (Eq.trans (cfalse c_3) (cfalse c_4)))) : again_Repeats_F c0 = _).symm
def again_Repeats_C (v : valsA again_Repeats_A) (K : Res → List Cell → Prop) : Prop := again_Repeats_P v.1 ∧ ∀ r : Bool, r = again_Repeats_F v.1 → K (.one (.v (.bool) r)) []
def again_Repeats_S : App := specW again_Repeats_A again_Repeats_C
theorem again_Repeats_wv (K : Res → List Cell → Prop) : ∀ v : valsA again_Repeats_A, runF tb (getG again_Repeats_G) [] Tryd.f15 [true] (mkA again_Repeats_A v) K = again_Repeats_raw v.1 K
  | (c0, ()) => again_Repeats_walk c0 K
set_option maxRecDepth 20000 in
theorem again_Repeats_ok : AppOk Tryd.prog 15 again_Repeats_S :=
  AppOk.specW (spec_ok ((runF_ok tb_M tb_ok again_Repeats_Gok (LabsOk.nil) (f := 15) (fn := Tryd.f15) (by kernel_rfl) (by kernel_rfl) (by kernel_rfl) [true])) fun v K hw h => (again_Repeats_wv K v).mpr (again_Repeats_sp v.1 K hw h.1 h.2))

end Go.VE
namespace Go.VE
open Go Go.Proofs
/-! ### quoin/again.asks -/
def again_asks_G : List (Nat × App) := []
theorem again_asks_Gok : GOk Tryd.prog (getG again_asks_G) := GOk.nil
def again_asks_raw (c0 : CmT) (K : Res → List Cell → Prop) : Prop :=
 bif (decide (c0.2.2.2.1 = ([47] : List Int))) then
 K (.one (.v (.bool) true)) []
 else
 K (.one (.v (.bool) (decide (c0.2.2.2.1 = ([63] : List Int))))) []
def again_asks_A : List AS := [.v (.st (.pair (.int .u8) (.pair (.int .i64) (.pair (.str) (.pair (.str) (.pair (.int .u8) (.sl (.int .u8))))))))]
theorem again_asks_walk (c0 : CmT) (K : Res → List Cell → Prop) : runF tb (getG again_asks_G) [] Tryd.f40 [true] (mkA again_asks_A (c0, ())) K = again_asks_raw c0 K := by kernel_rfl

def again_asks_F (c0 : CmT) : Bool :=
 bif (decide (c0.2.2.2.1 = ([47] : List Int))) then
 true
 else
 (decide (c0.2.2.2.1 = ([63] : List Int)))
set_option maxRecDepth 20000 in
theorem again_asks_sp (c0 : CmT) (K : Res → List Cell → Prop) (_ : wfA again_asks_A (c0, ())) (h : ∀ r : Bool, r = again_asks_F c0 → K (.one (.v (.bool) r)) []) : again_asks_raw c0 K := by
  unfold again_asks_raw
  refine brb (fun c_1 => ?_) (fun c_1 => ?_)
  ·
    exact h _ ((ctrue c_1) : again_asks_F c0 = _).symm
  ·
    exact h _ ((cfalse c_1) : again_asks_F c0 = _).symm
def again_asks_C (v : valsA again_asks_A) (K : Res → List Cell → Prop) : Prop := ∀ r : Bool, r = again_asks_F v.1 → K (.one (.v (.bool) r)) []
def again_asks_S : App := specW again_asks_A again_asks_C
theorem again_asks_wv (K : Res → List Cell → Prop) : ∀ v : valsA again_asks_A, runF tb (getG again_asks_G) [] Tryd.f40 [true] (mkA again_asks_A v) K = again_asks_raw v.1 K
  | (c0, ()) => again_asks_walk c0 K
set_option maxRecDepth 20000 in
theorem again_asks_ok : AppOk Tryd.prog 40 again_asks_S :=
  AppOk.specW (spec_ok ((runF_ok tb_M tb_ok again_asks_Gok (LabsOk.nil) (f := 40) (fn := Tryd.f40) (by kernel_rfl) (by kernel_rfl) (by kernel_rfl) [true])) fun v K hw h => (again_asks_wv K v).mpr (again_asks_sp v.1 K hw h))

end Go.VE
