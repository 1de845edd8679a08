/- TypingFinished: whatever the input, up to the bulk that the statement names, the law answers true, and what was handed in reads as it did. Its conditions: the bound of the given statement, no other. -/
import Derived.Test.YtdmgfabppaffkabF14
import Derived.Lib.Hide
set_option linter.unusedVariables false
set_option linter.unusedSectionVars false
set_option linter.unusedSimpArgs false
namespace Go.Proofs
open Go.Shelf Go.RowKit Go.Lib Go.VE
set_option maxHeartbeats 4000000 in
set_option maxRecDepth 100000 in
/-- of nil -/
theorem rep_nil (w : World) (A : Option Addr) (m vc : Nat) (xs : List Int) (hs : SrcB Try.prog w w.heap.size A m vc xs) (hl : m ≤ lim) :
    Calls Try.prog 19 #[.slice none 0 0, .int .i64 0, .int .i64 0, .slice A m vc] w fun e w' => ∃ v', e = .returned v' ∧ ((m = 0 ∧ v' = .slice none 0 0 ∧ w' = w) ∨ DoneB w w.heap.size (bv xs) v' w') := by
  have mixed := tb_M
  have e58 : ∀ args w, (callFunc 33 args).run Try.prog w = .ok (.enter 33 args) w := VE.enters_of Try.func33 (by kernel_rfl)
  have hx := hs.len
  rcases Nat.eq_zero_or_pos m with rfl | hm
  · have hins : Calls Try.prog 33 #[.slice none 0 0, .int .i64 0, .slice A 0 vc] w fun e w' => e = .returned (.slice none 0 0) ∧ w' = w := by
      go_enter Try.func33, Try.ntmps33
      go_wp2
      all_goals (go_ret; exact ⟨rfl, rfl⟩)
    go_enter Try.func19, Try.ntmps19
    go_wp2_with (first
      | (go_at_fn 33; refine hins.mono ?_; rintro e w' ⟨rfl, rfl⟩))
    all_goals (go_ret; exact ⟨_, rfl, .inl (by simp)⟩)
  · have hu22 : Try.prog.underlying 22 = some (.slice 5) := by kernel_rfl
    obtain ⟨ti, g1, g2, g3, g4⟩ := u8info
    have hrun : ∀ ty, (Builtin.append_ #[22, 22] ty #[.slice none 0 0, .slice A m vc]).run Try.prog w = .ok (.slice (some ⟨w.heap.size, 0, none⟩) m (grownCap w m 0 5)) (w.drew.alloc (.cells ((bv xs).toArray ++ Builtin.zeroCells (zeroV (.int .u8)).cells (grownCap w m 0 5 - m)) 5)) := fun ty => by
      have := (run_append_src (P := Try.prog) (w := w) (ty := ty) (e := .int .u8) hu22 g1 g2 g3 (by omega) (hs.src (t' := 22) hu22)).1.2 (by rw [hx]; exact hm) (by rw [hx]; exact hl)
      rw [hx] at this
      exact this
    have hge := grownCap_ge w m 0 5
    have hle := grownCap_le_maxLen w m 0 5 (by unfold lim at hl; unfold maxLen; omega)
    have hdone : DoneB w w.heap.size (bv xs) (.slice (some ⟨w.heap.size, 0, none⟩) m (grownCap w m 0 5)) (w.drew.alloc (.cells ((bv xs).toArray ++ Builtin.zeroCells (zeroV (.int .u8)).cells (grownCap w m 0 5 - m)) 5)) := by
      refine done_new (by rw [bv_length, hx]) hge hle (heap_alloc_new w.drew _) ?_ ?_ (by show _ ≤ (w.heap.push _).size; simp) (fun k hk => heap_alloc_old w.drew _ hk) rfl rfl rfl
      · simp only [Array.size_append, List.size_toArray, bv_length, hx, size_zeroCells, zeroV, Value.cells]
        simp [Ty.agg, zeroC]; omega
      · rw [Array.toList_append, List.take_append_of_le_length (by simp [bv_length, hx]), List.take_of_length_le (by simp [bv_length, hx])]
    generalize w.drew.alloc (.cells ((bv xs).toArray ++ Builtin.zeroCells (zeroV (.int .u8)).cells (grownCap w m 0 5 - m)) 5) = W2 at hrun hdone
    generalize grownCap w m 0 5 = G at hrun hdone
    clear hs hge hle
    have hz1 : ¬ ((m : Int) = 0) := by omega
    have hins : Calls Try.prog 33 #[.slice none 0 0, .int .i64 0, .slice A m vc] w fun e w' => e = .returned (.slice (some ⟨w.heap.size, 0, none⟩) m G) ∧ w' = W2 := by
      clear hdone
      go_enter Try.func33, Try.ntmps33
      go_wp2_with (at_builtin; refine Lib.wpList_append_run _ rfl _ _ _ _ rfl _ _ rfl rfl _ _ (hrun _) ?_)
      all_goals (go_ret; exact ⟨rfl, rfl⟩)
    clear hrun
    have hdone := Lib.hid hdone
    go_enter Try.func19, Try.ntmps19
    go_wp2_with (first
      | (go_at_fn 33; refine hins.mono ?_; rintro e w' ⟨rfl, rfl⟩))
    all_goals (go_ret; exact ⟨_, rfl, .inr hdone.out⟩)
end Go.Proofs
namespace Go.VE
open Go Go.RowKit Go.Lib
def rep_A : List AS := [.o 5 (.int .u8), .v (.int .i64), .v (.int .i64), .v (.sl (.int .u8))]

/-- plain bytes, as they are put in -/
theorem srcB_of {I : Nat → Prop} {w : World} {xs : List Int} {v : Value} (h : RepV I w (.sl (.int .u8)) xs v) (hI : ∀ b, I b → b < w.heap.size) (b : Nat) (hb : ¬ I b) :
    ∃ A vc, v = .slice A xs.length vc ∧ SrcB Go.Proofs.Try.prog w b A xs.length vc xs := by
  obtain ⟨A, vc, hc, hl, hm, hr⟩ := h.list
  have hv : v = .slice A (List.length xs) vc := by
    obtain ⟨u, hu, hcs⟩ := (h.list).one rfl
    obtain ⟨cs, h1, h2, h3, h4⟩ := h
    have h5 := h4 rfl
    rw [h5] at h2
    rw [h2] at hc
    simpa using hc
  have hr' : ∀ i (hi : i < xs.length), ∃ b' o, A = some ⟨b', o, none⟩ ∧ I b' ∧ inR .u8 xs[i] ∧ w.cell? ⟨b', o + i, none⟩ = some (.int .u8 xs[i]) := by
    intro i hi
    obtain ⟨b', o, h1, h2, cs, ⟨h3, h4⟩, h5, h6⟩ := hr i hi
    refine ⟨b', o, h1, h2, h3, ?_⟩
    have := h6 0 (.int .u8 xs[i]) (by rw [h4]; rfl)
    simpa [Ty.cells] using this
  refine ⟨A, vc, hv, rfl, fun x hx => ?_, fun w' hw' => ?_, fun hpos => ?_⟩
  · obtain ⟨i, hi, rfl⟩ := List.mem_iff_getElem.1 hx
    obtain ⟨_, _, _, _, h, _⟩ := hr' i hi
    exact h
  · rcases Nat.eq_zero_or_pos xs.length with h0 | hpos
    · have : xs = [] := List.eq_nil_of_length_eq_zero h0
      subst this
      exact reads_nil (A := A) rfl
    · obtain ⟨b', o, rfl, hb', _⟩ := hr' 0 hpos
      refine reads_of fun j u hj => ?_
      have hj' : j < xs.length := by
        rcases Nat.lt_or_ge j xs.length with h | h
        · exact h
        · rw [List.getElem?_eq_none (by rw [bv_length]; exact h)] at hj; cases hj
      obtain ⟨b2, o2, e, _, _, hcell⟩ := hr' j hj'
      injection e with e; injection e with e1 e2; subst e1; subst e2
      rw [cell_same (hw' b' (fun e => by subst e; exact hb hb') (hI b' hb')), hcell, ← hj]
      simp [bv, hj']
  · obtain ⟨b', o, rfl, hb', _, hcell⟩ := hr' 0 hpos
    refine ⟨b', o, rfl, fun e => by subst e; exact hb hb', hI b' hb', ?_⟩
    unfold World.cell? at hcell
    split at hcell
    · rename_i cs t fr hh
      refine ⟨t, cs.size, by simp [World.shape?, hh], fun e => ?_⟩
      have : cs = #[] := Array.eq_empty_of_size_eq_zero e
      subst this
      simp at hcell
    · cases hcell

theorem done_own {I : Nat → Prop} {w w' : World} {b : Nat} {zs : List Int} {v : Value} (hz : ∀ x ∈ zs, inR .u8 x) (h : DoneB w b (bv zs) v w') :
    ∃ b', (b' = b ∨ b' = w.heap.size) ∧ b' < w'.heap.size ∧ OwnRow I w' 5 (.int .u8) zs v b' ∧ w.heap.size ≤ w'.heap.size ∧ (∀ k, k ≠ b → k < w.heap.size → w'.heap[k]? = w.heap[k]?) ∧ w'.os = w.os ∧ w'.tape = w.tape ∧ w'.output = w.output := by
  obtain ⟨b', cap, cur, fr, rfl, hb, hl, hm, hh, hfr, hR, ht, hs, ho, h1, h2, h3⟩ := h
  rw [bv_length] at hl ht ⊢
  refine ⟨b', hb, ?_, ⟨cap, cur, fr, rfl, hl, hm, hh, .inl hfr, by simpa [Ty.cells] using hR, fun i hi => ?_⟩, hs, ho, h1, h2, h3⟩
  · rcases Nat.lt_or_ge b' w'.heap.size with h | h
    · exact h
    · rw [Array.getElem?_eq_none h] at hh; cases hh
  · refine ⟨[.int .u8 zs[i]], ⟨hz _ (List.getElem_mem hi), rfl⟩, fun j u hu => ?_⟩
    cases j with
    | succ j => simp at hu
    | zero =>
      simp at hu; subst hu
      have := congrArg (fun l : List Value => l[i]?) ht
      simpa [hi, bv, Ty.cells] using this

theorem rep_spec (ys xs : List Int) (i j : Int) (h0 : 0 ≤ i) (hij : i ≤ j) (hj : j ≤ (ys.length : Int)) (hl : ys.length + xs.length ≤ lim) {Ok : Res → List Cell → Prop} (hK : Ok (.one (.fr 5 (.int .u8) (ys.take i.toNat ++ xs ++ ys.drop j.toNat))) []) :
    CallSpec Go.Proofs.Try.prog 19 (mkA rep_A (ys, i, j, xs, ())) Ok := by
  intro I w vs bs hI hg ha
  have hlen := ha.length
  obtain ⟨sv, iv, jv, xv, rfl⟩ : ∃ a b c d, vs = [a, b, c, d] := by
    match vs, hlen with
    | [a, b, c, d], _ => exact ⟨a, b, c, d, rfl⟩
  obtain ⟨b, rfl⟩ : ∃ b, bs = [b] := by
    cases bs with
    | nil => exact ha.elim
    | cons b bs =>
      cases bs with
      | nil => exact ⟨b, rfl⟩
      | cons c bs => exact ha.2.2.2.2.elim
  obtain ⟨hs, hi2, hj2, hx2, _⟩ := ha
  obtain ⟨_, rfl⟩ := RepV.int_eq hi2
  obtain ⟨_, rfl⟩ := RepV.int_eq hj2
  obtain ⟨i, rfl⟩ := Int.eq_ofNat_of_zero_le h0
  obtain ⟨j, rfl⟩ := Int.eq_ofNat_of_zero_le (Int.le_trans h0 hij)
  have hij : i ≤ j := Int.ofNat_le.1 hij
  have hj : j ≤ ys.length := Int.ofNat_le.1 hj
  rw [Int.toNat_natCast, Int.toNat_natCast] at hK
  have hxs : ∀ x ∈ xs, inR .u8 x := fun x hx => by
    have := (RepV.wf hx2).2 x hx
    exact this
  -- behind, out of what was done
  have fin : ∀ (b0 : Nat) (v' : Value) (w' : World) (zs : List Int), (b0 = b ∨ b0 = w.heap.size) → (∀ x ∈ zs, inR .u8 x) → Ok (.one (.fr 5 (.int .u8) zs)) [] → DoneB w b0 (bv zs) v' w' →
      Behind I w [b] (refsOf (mkA rep_A (ys, (i : Int), (j : Int), xs, ())) [b]) Ok v' w' := by
    intro b0 v' w' zs hb0 hz hok hd
    obtain ⟨b', hb', hlt, hown, hsz, ho, h1, h2, h3⟩ := done_own (I := orP I fun _ => False) hz hd
    refine ⟨_, [], fun _ => False, [some b'], hok, ⟨h1, h2, h3, hsz, fun k hk hF => ho k (fun e => ?_) hk⟩, fun b h => h.elim, fun q b1 hq => ?_, ⟨_, rfl, hown⟩, trivial⟩
    · rcases hb0 with rfl | rfl
      · exact hF (by subst e; exact List.mem_singleton.2 rfl)
      · omega
    · cases q with
      | succ q => simp at hq
      | zero =>
        simp at hq; subst hq
        refine ⟨?_, hlt, fun h => h, fun r hr => ?_⟩
        · rcases hb' with rfl | rfl
          · rcases hb0 with rfl | rfl
            · exact .inr ⟨List.mem_singleton.2 rfl, by show b' ∉ ([] : List Nat); simp⟩
            · exact .inl (Nat.le_refl _)
          · exact .inl (Nat.le_refl _)
        · cases r with
          | zero => rfl
          | succ r => simp at hr
  rcases hs with ⟨rfl, rfl, hbw⟩ | ⟨⟨cap, cur, fr, rfl, hle, hm, hh, hfr, hcz, hrow⟩, hbI, hbw, _⟩
  · have hj0 : j = 0 := by simpa using hj
    subst hj0
    obtain rfl : i = 0 := by omega
    obtain ⟨A, vc, rfl, hsrc⟩ := srcB_of hx2 hI w.heap.size (fun h => absurd (hI _ h) (Nat.lt_irrefl _))
    refine (Go.Proofs.rep_nil w A xs.length vc xs hsrc (by simpa using hl)).mono ?_
    rintro e w' ⟨v', rfl, ⟨hm0, rfl, rfl⟩ | hd⟩
    · have hx0 : xs = [] := List.eq_nil_of_length_eq_zero hm0
      subst hx0
      refine ⟨_, rfl, .one (.fr 5 (.int .u8) []), [], fun _ => False, [none], hK, ⟨rfl, rfl, rfl, Nat.le_refl _, fun _ _ _ => rfl⟩, fun b h => h.elim, fun q b1 hq => ?_, ⟨none, rfl, rfl, rfl⟩, trivial⟩
      cases q with
      | zero => simp at hq
      | succ q => simp at hq
    · exact ⟨_, rfl, fin w.heap.size v' w' _ (.inr rfl) (by simpa using hxs) (by simpa using hK) (by simpa using hd)⟩
  · have hfr' : fr.1 = fr.2 := by
      rcases hfr with h | h
      · exact h
      · exact absurd h.1 (by decide)
    have hcs : cur.toList.take ys.length = bv ys := by
      refine List.ext_getElem? fun q => ?_
      rw [List.getElem?_take]
      by_cases hq : q < ys.length
      · obtain ⟨cs, ⟨_, h2⟩, h3⟩ := hrow q hq
        have := h3 0 (.int .u8 ys[q]) (by rw [h2]; rfl)
        rw [if_pos hq]
        simpa [bv, hq, Ty.cells] using this
      · rw [if_neg hq, List.getElem?_eq_none (by rw [bv_length]; omega)]
    have hys : ∀ x ∈ ys, inR .u8 x := fun x hx => by
      obtain ⟨q, hq, rfl⟩ := List.mem_iff_getElem.1 hx
      obtain ⟨cs, ⟨h1, _⟩, _⟩ := hrow q hq
      exact h1
    obtain ⟨A, vc, rfl, hsrc⟩ := srcB_of hx2 hI b hbI
    refine (Go.Proofs.rep_all b ys.length cap cur fr w hh hfr' hle hm (by simpa [Ty.cells] using hcz) A xs.length vc xs ys hsrc hcs i j hij hj hl).mono ?_
    rintro e w' ⟨v', rfl, hd⟩
    refine ⟨_, rfl, fin b v' w' _ (.inl rfl) (fun x hx => ?_) hK hd⟩
    rcases List.mem_append.1 hx with hx | hx
    · rcases List.mem_append.1 hx with hx | hx
      · exact hys x (List.mem_of_mem_take hx)
      · exact hxs x hx
    · exact hys x (List.mem_of_mem_drop hx)

def slices_Replace_byte_byte_P (xs : List Int) (i j : Int) (v : List Int) : Prop := 0 ≤ i ∧ i ≤ j ∧ j ≤ (xs.length : Int) ∧ xs.length + v.length ≤ lim
def slices_Replace_byte_byte_F (xs : List Int) (i j : Int) (v : List Int) : List Int := xs.take i.toNat ++ v ++ xs.drop j.toNat
def slices_Replace_byte_byte_C (v : valsA rep_A) (K : Res → List Cell → Prop) : Prop := slices_Replace_byte_byte_P v.1 v.2.1 v.2.2.1 v.2.2.2.1 ∧ ∀ r : List Int, r = slices_Replace_byte_byte_F v.1 v.2.1 v.2.2.1 v.2.2.2.1 → K (.one (.fr 5 (.int .u8) r)) []
def slices_Replace_byte_byte_S : App := specW rep_A slices_Replace_byte_byte_C
theorem slices_Replace_byte_byte_ok : AppOk Go.Proofs.Try.prog 19 slices_Replace_byte_byte_S := by
  refine AppOk.specW fun ags K hs => ?_
  obtain ⟨v, rfl, hP, hK⟩ := rdA_of _ ags _ hs
  obtain ⟨ys, i, j, xs, ⟨⟩⟩ := v
  obtain ⟨h0, h1, h2, h3⟩ := hP
  exact .inl ⟨enters_of Go.Proofs.Try.func19 (by kernel_rfl), rep_spec ys xs i j h0 h1 h2 h3 (hK _ rfl)⟩
end Go.VE
namespace Go.VE
open Go Go.Proofs
--! external 1
--! args o:B I I B
--! res fr:B
--! import RF

end Go.VE
namespace Go.VE
open Go Go.Proofs
/-! ### quoin/change.Apply -/
def change_Apply_G : List (Nat × App) := [(18, bytes_HasPrefix_S), (19, slices_Replace_byte_byte_S)]
theorem change_Apply_Gok : GOk Try.prog (getG change_Apply_G) := GOk.cons bytes_HasPrefix_ok (GOk.cons slices_Replace_byte_byte_ok (GOk.nil))
theorem change_Apply_st : storesC (bodyOf Try.f7) = true := by kernel_rfl
def change_Apply_d0 : List LS := [.o 6 53 5 (.int .u8), .v 12 (.sl (.st (.pair (.int .i64) (.pair (.sl (.int .u8)) (.sl (.int .u8)))))), .v 13 (.int .i64), .v 14 (.int .i64)]
def change_Apply_d0r : List LS := [.o 4 37 5 (.int .u8), .v 5 (.int .i64)]
def change_Apply_d0x0 : List LS := [.o 6 53 5 (.int .u8)]
def change_Apply_dx0 : DX := ⟨none, some change_Apply_d0r, [(0, change_Apply_d0x0)]⟩
def change_Apply_T0 (Y : List Int → List ((Int × List Int × List Int)) → Int → Int → Prop) (kr : List Int → Int → Prop) (kx0 : List Int → Prop) (out6 : List Int) (x12 : List ((Int × List Int × List Int))) (x13 : Int) (x14 : Int) : Prop :=
 bif (decide (x14 < x13)) then
 bif decide (0 ≤ x14 ∧ x14 < (List.length x12 : Int)) then
 bif (decide ((rd ((0 : Int), ([] : List Int), ([] : List Int)) x12 x14).1 < (0 : Int))) then
 kr ([] : List Int) (170 : Int)
 else
 bif (decide ((List.length out6 : Int) < (rd ((0 : Int), ([] : List Int), ([] : List Int)) x12 x14).1)) then
 kr ([] : List Int) (170 : Int)
 else
 bif decide (0 ≤ (rd ((0 : Int), ([] : List Int), ([] : List Int)) x12 x14).1 ∧ (rd ((0 : Int), ([] : List Int), ([] : List Int)) x12 x14).1 ≤ (List.length out6 : Int)) then
 bytes_HasPrefix_P (List.drop (Int.toNat ((rd ((0 : Int), ([] : List Int), ([] : List Int)) x12 x14).1)) out6) ((rd ((0 : Int), ([] : List Int), ([] : List Int)) x12 x14).2.1) ∧ (
 ∀ (r1 : Bool), r1 = bytes_HasPrefix_F (List.drop (Int.toNat ((rd ((0 : Int), ([] : List Int), ([] : List Int)) x12 x14).1)) out6) ((rd ((0 : Int), ([] : List Int), ([] : List Int)) x12 x14).2.1) → (
 wfR (.one (.v (.bool) r1)) → (
 bif (!r1) then
 kr ([] : List Int) (170 : Int)
 else
 slices_Replace_byte_byte_P out6 ((rd ((0 : Int), ([] : List Int), ([] : List Int)) x12 x14).1) (IntKind.wrap .i64 (((rd ((0 : Int), ([] : List Int), ([] : List Int)) x12 x14).1) + (List.length ((rd ((0 : Int), ([] : List Int), ([] : List Int)) x12 x14).2.1) : Int))) ((rd ((0 : Int), ([] : List Int), ([] : List Int)) x12 x14).2.2) ∧ (
 ∀ (r2 : List Int), r2 = slices_Replace_byte_byte_F out6 ((rd ((0 : Int), ([] : List Int), ([] : List Int)) x12 x14).1) (IntKind.wrap .i64 (((rd ((0 : Int), ([] : List Int), ([] : List Int)) x12 x14).1) + (List.length ((rd ((0 : Int), ([] : List Int), ([] : List Int)) x12 x14).2.1) : Int))) ((rd ((0 : Int), ([] : List Int), ([] : List Int)) x12 x14).2.2) → (
 wfR (.one (.fr 5 (.int .u8) r2)) → (
 Y r2 x12 x13 (IntKind.wrap .i64 (x14 + (1 : Int)))))))))
 else False
 else False
 else
 kx0 out6
def change_Apply_L0 (kr : List Int → Int → Prop) (kx0 : List Int → Prop) : Nat → List Int → List ((Int × List Int × List Int)) → Int → Int → Prop
  | 0, _, _, _, _ => False
  | n + 1, out6, x12, x13, x14 => wfD change_Apply_d0 (out6, x12, x13, x14, ()) → change_Apply_T0 (change_Apply_L0 kr kx0 n) kr kx0 out6 x12 x13 x14
theorem change_Apply_s0 (k : Ex → St → Prop) (Y : vals change_Apply_d0 → Prop) (out6 : List Int) (x12 : List ((Int × List Int × List Int))) (x13 : Int) (x14 : Int) :
    ex tb (getG change_Apply_G) [] (at' (bodyOf Try.f7) [0, 0, 1, 0, 1, 1]) [0, 0, 1, 0, 1, 1] (mkD 52 change_Apply_d0 (out6, x12, x13, x14, ())) (lpK 52 change_Apply_d0 change_Apply_dx0 k Y) =
    change_Apply_T0 (fun out6 x12 x13 x14 => Y (out6, x12, x13, x14, ())) (fun x4 x5 => wfD change_Apply_d0r (x4, x5, ()) → k .ret (mkD 52 change_Apply_d0r (x4, x5, ()))) (fun out6 => wfD change_Apply_d0x0 (out6, ()) → k (.exit 0) (mkD 52 change_Apply_d0x0 (out6, ()))) out6 x12 x13 x14 := by kernel_rfl
theorem change_Apply_e0 (k : Ex → St → Prop) : ∀ (n : Nat) (out6 : List Int) (x12 : List ((Int × List Int × List Int))) (x13 : Int) (x14 : Int), lpD 52 change_Apply_d0 change_Apply_dx0 (ex tb (getG change_Apply_G) [] (at' (bodyOf Try.f7) [0, 0, 1, 0, 1, 1]) [0, 0, 1, 0, 1, 1]) k n (out6, x12, x13, x14, ()) = change_Apply_L0 (fun x4 x5 => wfD change_Apply_d0r (x4, x5, ()) → k .ret (mkD 52 change_Apply_d0r (x4, x5, ()))) (fun out6 => wfD change_Apply_d0x0 (out6, ()) → k (.exit 0) (mkD 52 change_Apply_d0x0 (out6, ()))) n out6 x12 x13 x14
  | 0, _, _, _, _ => rfl
  | n + 1, out6, x12, x13, x14 => congrArg (fun Z : Prop => wfD change_Apply_d0 (out6, x12, x13, x14, ()) → Z) ((change_Apply_s0 k (lpD 52 change_Apply_d0 change_Apply_dx0 (ex tb (getG change_Apply_G) [] (at' (bodyOf Try.f7) [0, 0, 1, 0, 1, 1]) [0, 0, 1, 0, 1, 1]) k n) out6 x12 x13 x14).trans (congrArg (fun Y => change_Apply_T0 Y (fun x4 x5 => wfD change_Apply_d0r (x4, x5, ()) → k .ret (mkD 52 change_Apply_d0r (x4, x5, ()))) (fun out6 => wfD change_Apply_d0x0 (out6, ()) → k (.exit 0) (mkD 52 change_Apply_d0x0 (out6, ()))) out6 x12 x13 x14) (funext fun out6 => funext fun x12 => funext fun x13 => funext fun x14 => change_Apply_e0 k n out6 x12 x13 x14)))
theorem change_Apply_v0 (k : Ex → St → Prop) (n : Nat) : ∀ v : vals change_Apply_d0, lpD 52 change_Apply_d0 change_Apply_dx0 (ex tb (getG change_Apply_G) [] (at' (bodyOf Try.f7) [0, 0, 1, 0, 1, 1]) [0, 0, 1, 0, 1, 1]) k n v = change_Apply_L0 (fun x4 x5 => wfD change_Apply_d0r (x4, x5, ()) → k .ret (mkD 52 change_Apply_d0r (x4, x5, ()))) (fun out6 => wfD change_Apply_d0x0 (out6, ()) → k (.exit 0) (mkD 52 change_Apply_d0x0 (out6, ()))) n v.1 v.2.1 v.2.2.1 v.2.2.2.1
  | (out6, x12, x13, x14, ()) => change_Apply_e0 k n out6 x12 x13 x14
def change_Apply_X0 : Pce := fun st k => ckD 52 change_Apply_d0 st fun v => wfD change_Apply_d0 v → ∃ n, change_Apply_L0 (fun x4 x5 => wfD change_Apply_d0r (x4, x5, ()) → k .ret (mkD 52 change_Apply_d0r (x4, x5, ()))) (fun out6 => wfD change_Apply_d0x0 (out6, ()) → k (.exit 0) (mkD 52 change_Apply_d0x0 (out6, ()))) n v.1 v.2.1 v.2.2.1 v.2.2.2.1
set_option maxRecDepth 20000 in
theorem change_Apply_x0 : SemOk Try.prog (at' (bodyOf Try.f7) [0, 1, 0, 1, 1]) change_Apply_X0 :=
  (SemOk.loop (ex_sound tb_M tb_ok change_Apply_Gok (LabsOk.nil) (at' (bodyOf Try.f7) [0, 0, 1, 0, 1, 1]) [0, 0, 1, 0, 1, 1] rfl (storesC_at change_Apply_st [0, 0, 1, 0, 1, 1])) 52 change_Apply_d0 change_Apply_dx0).mono fun st k h => ckD_mono h fun v hv hw => (hv hw).elim fun n hn => ⟨n, Eq.mpr (change_Apply_v0 k n v) hn⟩
def change_Apply_B0 : Labs := ([0, 1, 0, 1, 1], change_Apply_X0) :: []
theorem change_Apply_b0 : LabsOk Try.prog (bodyOf Try.f7) change_Apply_B0 := LabsOk.cons change_Apply_x0 (LabsOk.nil)
def change_Apply_raw (t0 : List Int) (edits1 : List ((Int × List Int × List Int))) (K : Res → List Cell → Prop) : Prop :=
 bif decide (List.length ([] : List Int) + List.length t0 ≤ lim) then
 (wfD change_Apply_d0 ((([] : List Int) ++ t0), edits1, (List.length edits1 : Int), (0 : Int), ()) → ∃ n, change_Apply_L0 (fun (x4 : List Int) (x5 : Int) => wfD change_Apply_d0r (x4, x5, ()) → (
 K (.tup [.fr 5 (.int .u8) x4, .v (.int .i64) x5]) [])) (fun (out6 : List Int) => wfD change_Apply_d0x0 (out6, ()) → (
 K (.tup [.fr 5 (.int .u8) out6, .v (.int .i64) (0 : Int)]) [])) n (([] : List Int) ++ t0) edits1 (List.length edits1 : Int) (0 : Int))
 else False
def change_Apply_A : List AS := [.v (.sl (.int .u8)), .v (.sl (.st (.pair (.int .i64) (.pair (.sl (.int .u8)) (.sl (.int .u8))))))]
theorem change_Apply_walk (t0 : List Int) (edits1 : List ((Int × List Int × List Int))) (K : Res → List Cell → Prop) : runF tb (getG change_Apply_G) change_Apply_B0 Try.f7 [true, true] (mkA change_Apply_A (t0, edits1, ())) K = change_Apply_raw t0 edits1 K := by kernel_rfl
--! pre 1
abbrev Edit := Int × List Int × List Int
/-- the edits made, one behind the other -/
def applyL : List Edit → List Int → Option (List Int)
  | [], out => some out
  | e :: r, out => if 0 ≤ e.1 ∧ e.1 ≤ out.length ∧ bytes_HasPrefix_F (out.drop e.1.toNat) e.2.1 = true then applyL r (slices_Replace_byte_byte_F out e.1 (e.1 + (e.2.1.length : Int)) e.2.2) else none
/-- how many bytes they put -/
def newsL : List Edit → Nat
  | [] => 0
  | e :: r => e.2.2.length + newsL r
theorem hasP_le {s p : List Int} (h : bytes_HasPrefix_F s p = true) : p.length ≤ s.length := by
  unfold bytes_HasPrefix_F at h
  by_cases c : (List.length p : Int) ≤ (List.length s : Int)
  · omega
  · rw [decide_eq_false c] at h; cases h
theorem hasP_P (s p : List Int) : bytes_HasPrefix_P s p := by
  unfold bytes_HasPrefix_P
  by_cases c : (List.length p : Int) ≤ (List.length s : Int)
  · rw [decide_eq_true c]; exact ⟨by omega, c⟩
  · rw [decide_eq_false c]; exact trivial
def change_Apply_P (t : List Int) (edits : List Edit) : Prop := t.length + newsL edits ≤ lim
def change_Apply_F (t : List Int) (edits : List Edit) : List Int × Int :=
 match applyL edits t with
 | some out => (out, 0)
 | none => ([], 170)
theorem change_Apply_l0 (kr : List Int → Int → Prop) (kx0 : List Int → Prop) (edits : List Edit) (hl : edits.length ≤ 9223372036854775807) (t : List Int)
    (hk : ∀ r, r = change_Apply_F t edits → (r.2 = 170 → kr [] 170) ∧ (r.2 = 0 → kx0 r.1)) :
    ∀ (n i : Nat) (out : List Int), edits.length < n + i → i ≤ edits.length → applyL (edits.drop i) out = applyL edits t → out.length + newsL (edits.drop i) ≤ lim →
      change_Apply_L0 kr kx0 n out edits (edits.length : Int) (i : Int)
  | 0, i, out, h, h2, _, _ => by omega
  | n + 1, i, out, h, h2, he, hr => by
    intro _
    unfold change_Apply_T0
    have hlim : lim = 1099511627776 := rfl
    refine brn (fun hlt => ?_) (fun hge => ?_)
    · have hlt : i < edits.length := by omega
      have hd : edits.drop i = edits[i] :: edits.drop (i + 1) := List.drop_eq_getElem_cons hlt
      rw [hd] at he hr
      refine asrt ⟨by omega, by omega⟩ ?_
      rw [rd_nat _ _ _ hlt]
      generalize edits[i] = e at *
      have hbad : ¬ (0 ≤ e.1 ∧ e.1 ≤ out.length ∧ bytes_HasPrefix_F (out.drop e.1.toNat) e.2.1 = true) → kr [] 170 := fun hb => by
        have : change_Apply_F t edits = ([], 170) := by
          unfold change_Apply_F
          rw [← he, applyL, if_neg hb]
        exact (hk _ rfl).1 (by rw [this])
      refine brn (fun c1 => hbad (by omega)) (fun c1 => brn (fun c2 => hbad (by omega)) (fun c2 => asrt (by omega) ⟨hasP_P _ _, fun r1 hr1 _ => brb (fun c3 => hbad ?_) (fun c3 => ?_)⟩))
      · rw [hr1] at c3
        rintro ⟨_, _, h3⟩
        rw [h3] at c3; cases c3
      · have c3 : bytes_HasPrefix_F (out.drop e.1.toNat) e.2.1 = true := by rw [hr1] at c3; simpa using c3
        have hle := hasP_le c3
        rw [List.length_drop] at hle
        simp only [newsL] at hr
        have hw : IntKind.wrap .i64 (e.1 + (List.length e.2.1 : Int)) = e.1 + (List.length e.2.1 : Int) := wrap_i64 (by omega) (by omega)
        rw [hw]
        refine ⟨⟨by omega, by omega, by omega, by omega⟩, fun r2 hr2 _ => ?_⟩
        rw [wrap_i64 (by omega) (by omega), show (i : Int) + 1 = ((i + 1 : Nat) : Int) by omega]
        refine change_Apply_l0 kr kx0 edits hl t hk n (i + 1) r2 (by omega) (by omega) ?_ ?_
        · rw [← he, applyL, if_pos ⟨by omega, by omega, c3⟩, hr2]
        · rw [hr2]
          unfold slices_Replace_byte_byte_F
          rw [List.length_append, List.length_append, List.length_take, List.length_drop]
          omega
    · have hi : i = edits.length := by omega
      subst hi
      rw [List.drop_length, applyL] at he
      have : change_Apply_F t edits = (out, 0) := by
        unfold change_Apply_F
        rw [← he]
      have := (hk _ rfl).2 (by rw [this])
      rw [‹change_Apply_F t edits = (out, 0)›] at this
      exact this
theorem change_Apply_sp (t : List Int) (edits : List Edit) (K : Res → List Cell → Prop) (hw : wfA change_Apply_A (t, edits, ())) (hp : change_Apply_P t edits) (h : ∀ r : List Int × Int, r = change_Apply_F t edits → K (.tup [.fr 5 (.int .u8) r.1, .v (.int .i64) r.2]) []) : change_Apply_raw t edits K := by
  unfold change_Apply_P at hp
  unfold change_Apply_raw
  refine asrt (by simp only [List.length_nil]; omega) ?_
  intro _
  refine ⟨edits.length + 1, change_Apply_l0 _ _ edits hw.2.1.1 t (fun r hr => ⟨fun h170 _ => ?_, fun h0 _ => ?_⟩) _ 0 _ (by omega) (Nat.zero_le _) rfl (by simpa using hp)⟩
  · have h1 : r = ([], 170) := by
      rw [hr] at h170 ⊢
      unfold change_Apply_F at h170 ⊢
      split
      · rename_i out ho; rw [ho] at h170; cases h170
      · rfl
    have := h r hr
    rw [h1] at this
    exact this
  · have := h r hr
    have e : r.2 = 0 := h0
    rw [e] at this
    exact this

def change_Apply_C (v : valsA change_Apply_A) (K : Res → List Cell → Prop) : Prop := change_Apply_P v.1 v.2.1 ∧ ∀ r : List Int × Int, r = change_Apply_F v.1 v.2.1 → K (.tup [.fr 5 (.int .u8) r.1, .v (.int .i64) r.2]) []
def change_Apply_S : App := specW change_Apply_A change_Apply_C
theorem change_Apply_wv (K : Res → List Cell → Prop) : ∀ v : valsA change_Apply_A, runF tb (getG change_Apply_G) change_Apply_B0 Try.f7 [true, true] (mkA change_Apply_A v) K = change_Apply_raw v.1 v.2.1 K
  | (t0, edits1, ()) => change_Apply_walk t0 edits1 K
set_option maxRecDepth 20000 in
theorem change_Apply_ok : AppOk Try.prog 7 change_Apply_S :=
  AppOk.specW (spec_ok (runF_ok tb_M tb_ok change_Apply_Gok (change_Apply_b0) (f := 7) (fn := Try.f7) (by kernel_rfl) (by kernel_rfl) change_Apply_st [true, true]) fun v K hw h => (change_Apply_wv K v).mpr (change_Apply_sp v.1 v.2.1 K hw h.1 h.2))

end Go.VE
namespace Go.VE
open Go Go.Proofs
/-! ### quoin/quoinlaw20.TypingFinished -/
def quoinlaw20_TypingFinished_G : List (Nat × App) := [(4, quoinlaw20_alive_S), (5, typing_Finish_S), (6, typing_Show_S), (7, change_Apply_S), (8, typing_Press_S)]
theorem quoinlaw20_TypingFinished_Gok : GOk Try.prog (getG quoinlaw20_TypingFinished_G) := GOk.cons quoinlaw20_alive_ok (GOk.cons typing_Finish_ok (GOk.cons typing_Show_ok (GOk.cons change_Apply_ok (GOk.cons typing_Press_ok (GOk.nil)))))
def quoinlaw20_TypingFinished_raw (base0 : List Int) (y1 : (Int × Int × List Int × Int × Int)) (K : Res → List Cell → Prop) : Prop :=
 ∀ (r1 : Bool), r1 = quoinlaw20_alive_F → (
 wfR (.one (.v (.bool) r1)) → (
 bif (!r1) then
 K (.one (.v (.bool) false)) []
 else
 typing_Finish_P base0 y1 ∧ (
 ∀ (r2 : List ((Int × List Int × List Int)) × Int), r2 = typing_Finish_F base0 y1 → (
 wfR (.tup [.fr 39 (.st (.pair (.int .i64) (.pair (.sl (.int .u8)) (.sl (.int .u8))))) r2.1, .v (.int .i64) r2.2]) → (
 typing_Show_P base0 y1 ∧ (
 ∀ (r3 : List Int × Int), r3 = typing_Show_F base0 y1 → (
 wfR (.tup [.fr 5 (.int .u8) r3.1, .v (.int .i64) r3.2]) → (
 change_Apply_P base0 r2.1 ∧ (
 ∀ (r4 : List Int × Int), r4 = change_Apply_F base0 r2.1 → (
 wfR (.tup [.fr 5 (.int .u8) r4.1, .v (.int .i64) r4.2]) → (
 bif (!decide (r4.2 = (0 : Int))) then
 K (.one (.v (.bool) false)) []
 else
 bif (decide (r2.2 < (0 : Int))) then
 K (.one (.v (.bool) false)) []
 else
 bif (decide ((List.length r4.1 : Int) < r2.2)) then
 K (.one (.v (.bool) false)) []
 else
 bif (decide ((1 : Int) < (List.length r2.1 : Int))) then
 K (.one (.v (.bool) false)) []
 else
 typing_Finish_P base0 (y1.1, y1.2.1, y1.2.2.1, y1.2.2.2.1, (1 : Int)) ∧ (
 ∀ (r5 : List ((Int × List Int × List Int)) × Int), r5 = typing_Finish_F base0 (y1.1, y1.2.1, y1.2.2.1, y1.2.2.2.1, (1 : Int)) → (
 wfR (.tup [.fr 39 (.st (.pair (.int .i64) (.pair (.sl (.int .u8)) (.sl (.int .u8))))) r5.1, .v (.int .i64) r5.2]) → (
 change_Apply_P base0 r5.1 ∧ (
 ∀ (r6 : List Int × Int), r6 = change_Apply_F base0 r5.1 → (
 wfR (.tup [.fr 5 (.int .u8) r6.1, .v (.int .i64) r6.2]) → (
 typing_Press_P base0 y1 (27 : Int) ∧ (
 ∀ (r7 : (Int × Int × List Int × Int × Int) × Bool × Int), r7 = typing_Press_F base0 y1 (27 : Int) → (
 wfR (.tup [.v (.st (.pair (.int .u8) (.pair (.int .i64) (.pair (.sl (.int .u8)) (.pair (.int .i64) (.int .i64)))))) r7.1, .v (.bool) r7.2.1, .v (.int .i64) r7.2.2]) → (
 bif (!decide (r7.2.2 = (0 : Int))) then
 bif (decide ((List.length r2.1 : Int) = (0 : Int))) then
 bif (decide (r2.2 = (0 : Int))) then
 K (.one (.v (.bool) (decide (r3.1 = base0)))) []
 else
 K (.one (.v (.bool) false)) []
 else
 K (.one (.v (.bool) false)) []
 else
 bif (!decide (r6.2 = (0 : Int))) then
 K (.one (.v (.bool) false)) []
 else
 bif (!decide (r6.1 = r3.1)) then
 K (.one (.v (.bool) false)) []
 else
 bif (decide (y1.2.2.2.2 = (1 : Int))) then
 K (.one (.v (.bool) (decide (r4.1 = r3.1)))) []
 else
 bif (decide (y1.1 = (105 : Int))) then
 bif (decide ((65536 : Int) < (IntKind.wrap .i64 ((List.length base0 : Int) + (IntKind.wrap .i64 (y1.2.2.2.2 * (List.length y1.2.2.1 : Int))))))) then
 K (.one (.v (.bool) (decide (r4.1 = r3.1)))) []
 else
 K (.one (.v (.bool) (decide ((List.length r4.1 : Int) = (IntKind.wrap .i64 ((List.length base0 : Int) + (IntKind.wrap .i64 (y1.2.2.2.2 * (List.length y1.2.2.1 : Int))))))))) []
 else
 bif (decide ((List.length r4.1 : Int) ≤ (65536 : Int))) then
 K (.one (.v (.bool) true)) []
 else
 K (.one (.v (.bool) (decide (r4.1 = r3.1)))) []))))))))))))))))))))
def quoinlaw20_TypingFinished_A : List AS := [.v (.sl (.int .u8)), .v (.st (.pair (.int .u8) (.pair (.int .i64) (.pair (.sl (.int .u8)) (.pair (.int .i64) (.int .i64))))))]
theorem quoinlaw20_TypingFinished_walk (base0 : List Int) (y1 : (Int × Int × List Int × Int × Int)) (K : Res → List Cell → Prop) : runF tb (getG quoinlaw20_TypingFinished_G) [] Try.f3 [true] (mkA quoinlaw20_TypingFinished_A (base0, y1, ())) K = quoinlaw20_TypingFinished_raw base0 y1 K := by kernel_rfl
--! law 1

def quoinlaw20_TypingFinished_R : App := runF tb (getG quoinlaw20_TypingFinished_G) [] Try.f3 [true]
theorem quoinlaw20_TypingFinished_ok : AppOk Try.prog 3 quoinlaw20_TypingFinished_R := runF_ok tb_M tb_ok quoinlaw20_TypingFinished_Gok (LabsOk.nil) (f := 3) (fn := Try.f3) (by kernel_rfl) (by kernel_rfl) (by kernel_rfl) [true]
end Go.VE
namespace Go.VE
open Go Go.Proofs

theorem bulk_ints (k : IntKind) : ∀ xs : List Int, bulk (.sl (.int k)) xs = xs.length + 1 := by
  intro xs
  show (xs.map (bulk (.int k))).sum + 1 = _
  congr 1
  induction xs with
  | nil => rfl
  | cons x xs ih => rw [List.map_cons, List.sum_cons, ih, List.length_cons]; show 1 + xs.length = _; omega

theorem okB_of {xs : List Int} (hw : VE.wf (.sl (.int .u8)) xs) (hl : xs.length ≤ 1048576) : okB xs := ⟨by omega, fun x hx => hw.2 x hx⟩

/-- with how many copies it ends -/
def copiesN (base : List Int) (y : Ty20) : Int := if 65536 < (base.length : Int) - oldN base y y.2.2.2.2 + y.2.2.2.2 * (y.2.2.1.length : Int) then 1 else y.2.2.2.2

theorem finish_F {base : List Int} {y : Ty20} (hb : base.length ≤ 1048576) (hy : okB y.2.2.1) (hyl : y.2.2.1.length ≤ 1048576) (h : TFits base y) : typing_Finish_F base y = finN base y (copiesN base y) := by
  unfold typing_Finish_F copiesN
  dsimp only
  rw [fits_eq (by omega) hy, fits_iff.2 h]
  have h1 := h.one; have h2 := h.many; have h3 := h.lo; have h4 := h.hi
  have hmul : y.2.2.2.2 * (y.2.2.1.length : Int) ≤ 9999 * 1048576 := Int.le_trans (Int.mul_le_mul_of_nonneg_right h2 (by omega)) (Int.mul_le_mul_of_nonneg_left (by omega) (by omega))
  have hmul0 : 0 ≤ y.2.2.2.2 * (y.2.2.1.length : Int) := Int.mul_nonneg (by omega) (by omega)
  have hold := old_F (by omega) hy h (n := y.2.2.2.2) (by omega) h2
  rw [show (if y.1 = 105 then (0 : Int) else mn (y.2.2.2.2 * quoinref20_others_F y.2.2.1) (quoinref20_room_F base y.2.1)) = oldN base y y.2.2.2.2 from rfl] at hold
  have hol := old_le h (n := y.2.2.2.2) (by omega)
  rw [show (if y.1 = 105 then (0 : Int) else mn (y.2.2.2.2 * quoinref20_others_F y.2.2.1) (quoinref20_room_F base y.2.1)) = oldN base y y.2.2.2.2 from rfl] at hol
  show (bif (decide ((65536 : Int) < (IntKind.wrap .i64 ((IntKind.wrap .i64 ((List.length base : Int) - typing_Finish_1_F y.2.2.2.2 y base (IntKind.wrap .i64 ((List.length y.2.2.1 : Int) - bytes_Count_F y.2.2.1 [10])))) + (IntKind.wrap .i64 (y.2.2.2.2 * (List.length y.2.2.1 : Int))))))) then
      typing_Finish_J1_F (1 : Int) base y (IntKind.wrap .i64 ((List.length y.2.2.1 : Int) - bytes_Count_F y.2.2.1 [10])) else typing_Finish_J1_F y.2.2.2.2 base y (IntKind.wrap .i64 ((List.length y.2.2.1 : Int) - bytes_Count_F y.2.2.1 [10]))) = _
  rw [hold, wrap_i64 (n := y.2.2.2.2 * (y.2.2.1.length : Int)) (by omega) (by omega), wrap_i64 (n := (base.length : Int) - oldN base y y.2.2.2.2) (by omega) (by omega), wrap_i64 (by omega) (by omega),
    fin_typing hb hy hyl h (n := 1) (by omega) (by omega), fin_typing hb hy hyl h h1 h2]
  by_cases c : 65536 < (base.length : Int) - oldN base y y.2.2.2.2 + y.2.2.2.2 * (y.2.2.1.length : Int)
  · rw [decide_eq_true c, if_pos c]; rfl
  · rw [decide_eq_false c, if_neg c]; rfl

/-- n copies put in -/
def putN (base : List Int) (y : Ty20) (n : Int) : List Int := base.take y.2.1.toNat ++ repB y.2.2.1 n.toNat ++ base.drop (y.2.1 + oldN base y n).toNat

theorem oldN_le {base : List Int} {y : Ty20} (h : TFits base y) {n : Int} (h0 : 0 ≤ n) : 0 ≤ oldN base y n ∧ y.2.1 + oldN base y n ≤ base.length := old_le h h0

theorem oldN_none {base : List Int} {y : Ty20} (h : TFits base y) (n : Int) (hn : y.2.2.1 = []) : oldN base y n = 0 := by
  unfold oldN
  split
  · rfl
  · have : quoinref20_others_F ([] : List Int) = 0 := rfl
    have hr := room_le base h.lo h.hi
    have := mn_le (n * 0) (quoinref20_room_F base y.2.1)
    rw [hn, ‹quoinref20_others_F [] = 0›]
    omega

theorem apply_fin {base : List Int} {y : Ty20} (h : TFits base y) {n : Int} (h1 : 1 ≤ n) : change_Apply_F base (finN base y n).1 = (putN base y n, 0) := by
  have hl := h.lo; have hh := h.hi
  have ho := oldN_le h (n := n) (by omega)
  unfold change_Apply_F finN putN
  dsimp only
  by_cases c : (repB y.2.2.1 n.toNat).length = 0
  · rw [if_pos c, applyL]
    have ht : y.2.2.1 = [] := by
      rw [repB_length] at c
      rcases Nat.mul_eq_zero.1 c with h | h
      · omega
      · exact List.eq_nil_of_length_eq_zero h
    have hr : repB y.2.2.1 n.toNat = [] := List.eq_nil_of_length_eq_zero c
    rw [hr, oldN_none h n ht, List.append_nil, Int.add_zero, List.take_append_drop]
  · rw [if_neg c, applyL]
    have hs : slc base y.2.1 (y.2.1 + oldN base y n) = (base.drop y.2.1.toNat).take ((oldN base y n).toNat) := by
      unfold slc
      rw [List.drop_take]
      congr 1; omega
    have hsl : (slc base y.2.1 (y.2.1 + oldN base y n)).length = (oldN base y n).toNat := by rw [hs, List.length_take, List.length_drop]; omega
    have hp : bytes_HasPrefix_F (base.drop y.2.1.toNat) (slc base y.2.1 (y.2.1 + oldN base y n)) = true := by
      unfold bytes_HasPrefix_F
      rw [hsl, decide_eq_true (by rw [List.length_drop]; omega)]
      show bytes_Equal_F _ _ = true
      unfold bytes_Equal_F
      rw [hs, Int.toNat_natCast]
      exact decide_eq_true rfl
    dsimp only
    rw [if_pos ⟨hl, hh, hp⟩, applyL]
    dsimp only
    unfold slices_Replace_byte_byte_F
    rw [hsl, Int.toNat_of_nonneg ho.1]

theorem repB_one (b : List Int) : repB b (Int.toNat 1) = b := by
  show b ++ [] = b
  exact List.append_nil b

theorem show_put {base : List Int} {y : Ty20} (hb : base.length ≤ 4294967296) (hy : okB y.2.2.1) (h : TFits base y) : (typing_Show_F base y).1 = putN base y 1 := by
  have hu1 : y.2.2.2.1 = oldN base y 1 := by
    rw [h.under]
    unfold quoinref20_under oldN
    split
    · rfl
    · rw [Int.one_mul]; rfl
  unfold typing_Show_F putN
  rw [fits_eq hb hy, fits_iff.2 h, repB_one, ← hu1]
  have h1 := h.le
  have := h.lo; have := h.hi
  show ((List.take (Int.toNat y.2.1) ([] ++ base) ++ y.2.2.1) ++ List.drop (Int.toNat (IntKind.wrap .i64 (y.2.1 + y.2.2.2.1))) base) = _
  rw [wrap_i64 (by omega) (by omega), List.nil_append]

theorem put_len {base : List Int} {y : Ty20} (h : TFits base y) {n : Int} (h1 : 0 ≤ n) : ((putN base y n).length : Int) = base.length - oldN base y n + n * y.2.2.1.length := by
  have hl := h.lo; have hh := h.hi
  have ho := oldN_le h (n := n) h1
  obtain ⟨m, rfl⟩ := Int.eq_ofNat_of_zero_le h1
  unfold putN
  rw [List.length_append, List.length_append, List.length_take, List.length_drop, repB_length, Int.toNat_natCast]
  have : ((m * y.2.2.1.length : Nat) : Int) = (m : Int) * (y.2.2.1.length : Int) := by simp
  omega

theorem fin_at {base : List Int} {y : Ty20} (h : TFits base y) {n : Int} (h1 : 1 ≤ n) : 0 ≤ (finN base y n).2 ∧ (finN base y n).2 ≤ ((putN base y n).length : Int) ∧ (finN base y n).1.length ≤ 1 := by
  have e : (finN base y n).2 = backN (base.take y.2.1.toNat ++ repB y.2.2.1 n.toNat) := rfl
  have hp : (putN base y n).length = (base.take y.2.1.toNat ++ repB y.2.2.1 n.toNat).length + (base.drop (y.2.1 + oldN base y n).toNat).length := by
    unfold putN; rw [List.length_append]
  rw [e]
  refine ⟨?_, ?_, ?_⟩
  · unfold backN; split <;> omega
  · unfold backN; split <;> omega
  · unfold finN; dsimp only; split <;> simp

theorem fin_news {base : List Int} {y : Ty20} (n : Int) : newsL (finN base y n).1 ≤ n.toNat * y.2.2.1.length := by
  unfold finN
  dsimp only
  split
  · exact Nat.zero_le _
  · show (repB y.2.2.1 n.toNat).length + 0 ≤ _
    rw [repB_length]; omega

abbrev yes : Res → List Cell → Prop := fun r _ => r = .one (.v .bool true)

theorem yes_of {b : Bool} (h : b = true) : yes (.one (.v .bool b)) [] := by rw [h]

theorem finished_true {base : List Int} {y : Ty20} (hb : base.length ≤ 1048576) (hy : okB y.2.2.1) (hl : y.2.2.1.length ≤ 1048576) : quoinlaw20_TypingFinished_raw base y yes := by
  unfold quoinlaw20_TypingFinished_raw
  have hlim : lim = 1099511627776 := rfl
  intro r1 hr1 _
  obtain rfl : r1 = true := hr1
  refine ⟨finish_P hb hy hl, fun r2 hr2 _ => ⟨show_P (by omega) hy, fun r3 hr3 _ => ?_⟩⟩
  cases hff : quoinref20_fits_F base y
  · -- it does not fit
    have hf : ¬ quoinref20_fits_F base y = true := by rw [hff]; exact fun h => by cases h
    have hf0 : typing_fits_F base y = false := by
      rw [fits_eq (by omega) hy]; cases h : quoinref20_fits_F base y
      · rfl
      · exact absurd h hf
    obtain rfl : r2 = ([], 0) := by rw [hr2]; unfold typing_Finish_F; rw [hf0]; rfl
    have h3 : r3.1 = base := by rw [hr3]; unfold typing_Show_F; rw [hf0]; rfl
    refine ⟨by show base.length + 0 ≤ lim; omega, fun r4 hr4 _ => ?_⟩
    obtain rfl : r4 = (base, 0) := hr4
    refine brb (fun h => by cases h) fun _ => ?_
    refine brn (fun h => absurd h (by show ¬ (0 : Int) < 0; omega)) fun _ => ?_
    refine brn (fun h => absurd h (by show ¬ (base.length : Int) < 0; omega)) fun _ => ?_
    refine brn (fun h => absurd h (by show ¬ (1 : Int) < ((0 : Nat) : Int); omega)) fun _ => ?_
    refine ⟨finish_P hb hy hl, fun r5 hr5 _ => ?_⟩
    have hone : newsL r5.1 ≤ 1048576 := by
      rw [hr5]
      by_cases g : quoinref20_fits_F base (y.1, y.2.1, y.2.2.1, y.2.2.2.1, 1) = true
      · rw [finish_F (y := (y.1, y.2.1, y.2.2.1, y.2.2.2.1, 1)) hb hy hl (fits_iff.1 g)]
        have hc : copiesN base (y.1, y.2.1, y.2.2.1, y.2.2.2.1, 1) = 1 := by unfold copiesN; split <;> rfl
        rw [hc]
        have := fin_news (base := base) (y := (y.1, y.2.1, y.2.2.1, y.2.2.2.1, 1)) 1
        have e : (Int.toNat 1) * y.2.2.1.length = y.2.2.1.length := Nat.one_mul _
        exact Nat.le_trans this (by show (Int.toNat 1) * y.2.2.1.length ≤ _; omega)
      · have : typing_fits_F base (y.1, y.2.1, y.2.2.1, y.2.2.2.1, 1) = false := by
          rw [fits_eq (y := (y.1, y.2.1, y.2.2.1, y.2.2.2.1, 1)) (by omega) hy]; cases h : quoinref20_fits_F base (y.1, y.2.1, y.2.2.1, y.2.2.2.1, 1)
          · rfl
          · exact absurd h g
        unfold typing_Finish_F
        rw [this]
        exact Nat.zero_le _
    refine ⟨by show base.length + newsL r5.1 ≤ lim; omega, fun r6 hr6 _ => ⟨by show y.2.2.1.length < 1099511627776; omega, fun r7 hr7 _ => ?_⟩⟩
    obtain rfl : r7 = (zeroT, false, 2) := by rw [hr7]; unfold typing_Press_F; rw [hf0]; rfl
    refine brb (fun _ => ?_) (fun h => by cases h)
    exact yes_of (decide_eq_true h3)
  · have hf := hff
    have h := fits_iff.1 hf
    have hf1 : typing_fits_F base y = true := by rw [fits_eq (by omega) hy]; exact hf
    have h1 := h.one; have h2 := h.many
    have hcn : 1 ≤ copiesN base y ∧ copiesN base y ≤ 9999 := by unfold copiesN; split <;> omega
    have hmulN : ∀ n : Int, 1 ≤ n → n ≤ 9999 → n.toNat * y.2.2.1.length ≤ 9999 * 1048576 := fun n a b => Nat.mul_le_mul (by omega) hl
    obtain rfl : r2 = finN base y (copiesN base y) := hr2.trans (finish_F hb hy hl h)
    have h3 : r3.1 = putN base y 1 := by rw [hr3]; exact show_put (by omega) hy h
    have hn := fin_news (base := base) (y := y) (copiesN base y)
    have hm := hmulN _ hcn.1 hcn.2
    refine ⟨by show base.length + newsL _ ≤ lim; omega, fun r4 hr4 _ => ?_⟩
    obtain rfl : r4 = (putN base y (copiesN base y), 0) := hr4.trans (apply_fin h hcn.1)
    obtain ⟨a1, a2, a3⟩ := fin_at h hcn.1
    refine brb (fun h => by cases h) fun _ => ?_
    refine brn (fun h => absurd h (by omega)) fun _ => ?_
    refine brn (fun h => absurd h (by show ¬ ((putN base y (copiesN base y)).length : Int) < _; omega)) fun _ => ?_
    refine brn (fun h => absurd h (by omega)) fun _ => ?_
    refine ⟨finish_P hb hy hl, fun r5 hr5 _ => ?_⟩
    have hone : TFits base (y.1, y.2.1, y.2.2.1, y.2.2.2.1, 1) := ⟨h.kind, h.lo, h.hi, Int.le_refl 1, by show (1 : Int) ≤ 9999; omega, h.text, h.under⟩
    have h5 : r5 = finN base y 1 := by
      rw [hr5, finish_F (y := (y.1, y.2.1, y.2.2.1, y.2.2.2.1, 1)) hb hy hl hone]
      have hc : copiesN base (y.1, y.2.1, y.2.2.1, y.2.2.2.1, 1) = 1 := by unfold copiesN; split <;> rfl
      rw [hc]; rfl
    obtain rfl : r5 = finN base y 1 := h5
    have hn1 := fin_news (base := base) (y := y) 1
    have hm1 := hmulN 1 (by omega) (by omega)
    refine ⟨by show base.length + newsL _ ≤ lim; omega, fun r6 hr6 _ => ⟨by show y.2.2.1.length < 1099511627776; omega, fun r7 hr7 _ => ?_⟩⟩
    obtain rfl : r6 = (putN base y 1, 0) := hr6.trans (apply_fin h (Int.le_refl 1))
    obtain rfl : r7 = (y, false, 0) := by rw [hr7]; unfold typing_Press_F; rw [if_pos hf1, if_pos rfl]
    have hmul : y.2.2.2.2 * (y.2.2.1.length : Int) ≤ 9999 * 1048576 := Int.le_trans (Int.mul_le_mul_of_nonneg_right h2 (by omega)) (Int.mul_le_mul_of_nonneg_left (by omega) (by omega))
    have hmul0 : 0 ≤ y.2.2.2.2 * (y.2.2.1.length : Int) := Int.mul_nonneg (by omega) (by omega)
    refine brb (fun h => by cases h) fun _ => ?_
    refine brb (fun h => by cases h) fun _ => ?_
    refine brb (fun hc => ?_) fun _ => ?_
    · exfalso
      rw [h3, decide_eq_true (show putN base y 1 = putN base y 1 from rfl)] at hc
      cases hc
    refine brn (fun hc => ?_) fun hc1 => brn (fun hk => ?_) fun hk => brn (fun _ => rfl) (fun hbig => ?_)
    · refine yes_of (decide_eq_true ?_)
      have : copiesN base y = 1 := by unfold copiesN; split
                                      · rfl
                                      · exact hc
      rw [h3]
      show putN base y (copiesN base y) = _
      rw [this]
    · have ho : oldN base y y.2.2.2.2 = 0 := by unfold oldN; rw [if_pos hk]
      rw [wrap_i64 (n := y.2.2.2.2 * (y.2.2.1.length : Int)) (by omega) (by omega), wrap_i64 (by omega) (by omega)]
      refine brn (fun hb2 => ?_) (fun hb2 => ?_)
      · refine yes_of (decide_eq_true ?_)
        have : copiesN base y = 1 := by unfold copiesN; rw [ho, if_pos (by omega)]
        rw [h3]
        show putN base y (copiesN base y) = _
        rw [this]
      · refine yes_of (decide_eq_true ?_)
        have : copiesN base y = y.2.2.2.2 := by unfold copiesN; rw [ho, if_neg (by omega)]
        show ((putN base y (copiesN base y)).length : Int) = _
        rw [put_len h (by omega), this, ho]; omega
    · refine yes_of (decide_eq_true ?_)
      have : copiesN base y = 1 := by
        by_cases c : 65536 < (base.length : Int) - oldN base y y.2.2.2.2 + y.2.2.2.2 * (y.2.2.1.length : Int)
        · unfold copiesN; rw [if_pos c]
        · have e : copiesN base y = y.2.2.2.2 := by unfold copiesN; rw [if_neg c]
          have := put_len h (n := copiesN base y) (by omega)
          rw [e] at this
          exfalso
          apply hbig
          show ((putN base y (copiesN base y)).length : Int) ≤ 65536
          rw [e]; omega
      rw [h3]
      show putN base y (copiesN base y) = _
      rw [this]

theorem finished_law (v : valsA quoinlaw20_TypingFinished_A) (hw : wfA quoinlaw20_TypingFinished_A v) (hb : bulkA quoinlaw20_TypingFinished_A v ≤ 1048576) : quoinlaw20_TypingFinished_R (mkA quoinlaw20_TypingFinished_A v) yes := by
  obtain ⟨base, y, ⟨⟩⟩ := v
  refine (quoinlaw20_TypingFinished_walk base y yes).mpr ?_
  obtain ⟨h1, h2, _⟩ := hw
  obtain ⟨_, _, ht, _, _⟩ := h2
  have hb : bulk (.sl (.int .u8)) base + ((1 + (1 + (bulk (.sl (.int .u8)) y.2.2.1 + (1 + 1)))) + 0) ≤ 1048576 := hb
  rw [bulk_ints, bulk_ints] at hb
  exact finished_true (by omega) (okB_of ht (by omega)) (by omega)
end Go.VE
