/- OperShifts: whatever the input, up to the bulk that the statement names, the law answers true, and what was handed in reads as it did. Its conditions: the bound of the given statement and the tables that its card ties, no other. -/
import Derived.Test.YtmnhjhamgacdnaaDoorOS13
import Derived.Lib.Hide
set_option linter.unusedVariables false
set_option linter.unusedSectionVars false
set_option linter.unusedSimpArgs false
namespace Go.Proofs
open Go.Shelf Go.RowKit Go.Lib Go.VE
set_option maxHeartbeats 4000000 in
set_option maxRecDepth 100000 in
theorem rep_nil (w : World) (A : Option Addr) (m vc : Nat) (xs : List Int) (hs : SrcB Tryd.prog w w.heap.size A m vc xs) (hl : m ≤ lim) :
    Calls Tryd.prog 72 #[.slice none 0 0, .int .i64 0, .int .i64 0, .slice A m vc] w fun e w' => ∃ v', e = .returned v' ∧ ((m = 0 ∧ v' = .slice none 0 0 ∧ w' = w) ∨ DoneB w w.heap.size (bv xs) v' w') := by
  have mixed := tb_M
  have e58 : ∀ args w, (callFunc 112 args).run Tryd.prog w = .ok (.enter 112 args) w := VE.enters_of Tryd.func112 (by kernel_rfl)
  have hx := hs.len
  rcases Nat.eq_zero_or_pos m with rfl | hm
  · have hins : Calls Tryd.prog 112 #[.slice none 0 0, .int .i64 0, .slice A 0 vc] w fun e w' => e = .returned (.slice none 0 0) ∧ w' = w := by
      go_enter Tryd.func112, Tryd.ntmps112
      go_wp2
      all_goals (go_ret; exact ⟨rfl, rfl⟩)
    go_enter Tryd.func72, Tryd.ntmps72
    go_wp2_with (first
      | (go_at_fn 112; refine hins.mono ?_; rintro e w' ⟨rfl, rfl⟩))
    all_goals (go_ret; exact ⟨_, rfl, .inl (by simp)⟩)
  · have hu22 : Tryd.prog.underlying 22 = some (.slice 5) := by kernel_rfl
    obtain ⟨ti, g1, g2, g3, g4⟩ := u8info
    have hrun : ∀ ty, (Builtin.append_ #[22, 22] ty #[.slice none 0 0, .slice A m vc]).run Tryd.prog w = .ok (.slice (some ⟨w.heap.size, 0, none⟩) m (grownCap w m 0 5)) (w.drew.alloc (.cells ((bv xs).toArray ++ Builtin.zeroCells (zeroV (.int .u8)).cells (grownCap w m 0 5 - m)) 5)) := fun ty => by
      have := (run_append_src (P := Tryd.prog) (w := w) (ty := ty) (e := .int .u8) hu22 g1 g2 g3 (by omega) (hs.src (t' := 22) hu22)).1.2 (by rw [hx]; exact hm) (by rw [hx]; exact hl)
      rw [hx] at this
      exact this
    have hge := grownCap_ge w m 0 5
    have hle := grownCap_le_maxLen w m 0 5 (by unfold lim at hl; unfold maxLen; omega)
    have hdone : DoneB w w.heap.size (bv xs) (.slice (some ⟨w.heap.size, 0, none⟩) m (grownCap w m 0 5)) (w.drew.alloc (.cells ((bv xs).toArray ++ Builtin.zeroCells (zeroV (.int .u8)).cells (grownCap w m 0 5 - m)) 5)) := by
      refine done_new (by rw [bv_length, hx]) hge hle (heap_alloc_new w.drew _) ?_ ?_ (by show _ ≤ (w.heap.push _).size; simp) (fun k hk => heap_alloc_old w.drew _ hk) rfl rfl rfl
      · simp only [Array.size_append, List.size_toArray, bv_length, hx, size_zeroCells, zeroV, Value.cells]
        simp [Ty.agg, zeroC]; omega
      · rw [Array.toList_append, List.take_append_of_le_length (by simp [bv_length, hx]), List.take_of_length_le (by simp [bv_length, hx])]
    generalize w.drew.alloc (.cells ((bv xs).toArray ++ Builtin.zeroCells (zeroV (.int .u8)).cells (grownCap w m 0 5 - m)) 5) = W2 at hrun hdone
    generalize grownCap w m 0 5 = G at hrun hdone
    clear hs hge hle
    have hz1 : ¬ ((m : Int) = 0) := by omega
    have hins : Calls Tryd.prog 112 #[.slice none 0 0, .int .i64 0, .slice A m vc] w fun e w' => e = .returned (.slice (some ⟨w.heap.size, 0, none⟩) m G) ∧ w' = W2 := by
      clear hdone
      go_enter Tryd.func112, Tryd.ntmps112
      go_wp2_with (at_builtin; refine Lib.wpList_append_run _ rfl _ _ _ _ rfl _ _ rfl rfl _ _ (hrun _) ?_)
      all_goals (go_ret; exact ⟨rfl, rfl⟩)
    clear hrun
    have hdone := Lib.hid hdone
    go_enter Tryd.func72, Tryd.ntmps72
    go_wp2_with (first
      | (go_at_fn 112; refine hins.mono ?_; rintro e w' ⟨rfl, rfl⟩))
    all_goals (go_ret; exact ⟨_, rfl, .inr hdone.out⟩)
end Go.Proofs
namespace Go.VE
open Go Go.RowKit Go.Lib
def rep_A : List AS := [.o 5 (.int .u8), .v (.int .i64), .v (.int .i64), .v (.sl (.int .u8))]

theorem srcB_of {I : Nat → Prop} {w : World} {xs : List Int} {v : Value} (h : RepV I w (.sl (.int .u8)) xs v) (hI : ∀ b, I b → b < w.heap.size) (b : Nat) (hb : ¬ I b) :
    ∃ A vc, v = .slice A xs.length vc ∧ SrcB Go.Proofs.Tryd.prog w b A xs.length vc xs := by
  obtain ⟨A, vc, hc, hl, hm, hr⟩ := h.list
  have hv : v = .slice A (List.length xs) vc := by
    obtain ⟨u, hu, hcs⟩ := (h.list).one rfl
    obtain ⟨cs, h1, h2, h3, h4⟩ := h
    have h5 := h4 rfl
    rw [h5] at h2
    rw [h2] at hc
    simpa using hc
  have hr' : ∀ i (hi : i < xs.length), ∃ b' o, A = some ⟨b', o, none⟩ ∧ I b' ∧ inR .u8 xs[i] ∧ w.cell? ⟨b', o + i, none⟩ = some (.int .u8 xs[i]) := by
    intro i hi
    obtain ⟨b', o, h1, h2, cs, ⟨h3, h4⟩, h5, h6⟩ := hr i hi
    refine ⟨b', o, h1, h2, h3, ?_⟩
    have := h6 0 (.int .u8 xs[i]) (by rw [h4]; rfl)
    simpa [Ty.cells] using this
  refine ⟨A, vc, hv, rfl, fun x hx => ?_, fun w' hw' => ?_, fun hpos => ?_⟩
  · obtain ⟨i, hi, rfl⟩ := List.mem_iff_getElem.1 hx
    obtain ⟨_, _, _, _, h, _⟩ := hr' i hi
    exact h
  · rcases Nat.eq_zero_or_pos xs.length with h0 | hpos
    · have : xs = [] := List.eq_nil_of_length_eq_zero h0
      subst this
      exact reads_nil (A := A) rfl
    · obtain ⟨b', o, rfl, hb', _⟩ := hr' 0 hpos
      refine reads_of fun j u hj => ?_
      have hj' : j < xs.length := by
        rcases Nat.lt_or_ge j xs.length with h | h
        · exact h
        · rw [List.getElem?_eq_none (by rw [bv_length]; exact h)] at hj; cases hj
      obtain ⟨b2, o2, e, _, _, hcell⟩ := hr' j hj'
      injection e with e; injection e with e1 e2; subst e1; subst e2
      rw [cell_same (hw' b' (fun e => by subst e; exact hb hb') (hI b' hb')), hcell, ← hj]
      simp [bv, hj']
  · obtain ⟨b', o, rfl, hb', _, hcell⟩ := hr' 0 hpos
    refine ⟨b', o, rfl, fun e => by subst e; exact hb hb', hI b' hb', ?_⟩
    unfold World.cell? at hcell
    split at hcell
    · rename_i cs t fr hh
      refine ⟨t, cs.size, by simp [World.shape?, hh], fun e => ?_⟩
      have : cs = #[] := Array.eq_empty_of_size_eq_zero e
      subst this
      simp at hcell
    · cases hcell

theorem done_own {I : Nat → Prop} {w w' : World} {b : Nat} {zs : List Int} {v : Value} (hz : ∀ x ∈ zs, inR .u8 x) (h : DoneB w b (bv zs) v w') :
    ∃ b', (b' = b ∨ b' = w.heap.size) ∧ b' < w'.heap.size ∧ OwnRow I w' 5 (.int .u8) zs v b' ∧ w.heap.size ≤ w'.heap.size ∧ (∀ k, k ≠ b → k < w.heap.size → w'.heap[k]? = w.heap[k]?) ∧ w'.os = w.os ∧ w'.tape = w.tape ∧ w'.output = w.output := by
  obtain ⟨b', cap, cur, fr, rfl, hb, hl, hm, hh, hfr, hR, ht, hs, ho, h1, h2, h3⟩ := h
  rw [bv_length] at hl ht ⊢
  refine ⟨b', hb, ?_, ⟨cap, cur, fr, rfl, hl, hm, hh, .inl hfr, by simpa [Ty.cells] using hR, fun i hi => ?_⟩, hs, ho, h1, h2, h3⟩
  · rcases Nat.lt_or_ge b' w'.heap.size with h | h
    · exact h
    · rw [Array.getElem?_eq_none h] at hh; cases hh
  · refine ⟨[.int .u8 zs[i]], ⟨hz _ (List.getElem_mem hi), rfl⟩, fun j u hu => ?_⟩
    cases j with
    | succ j => simp at hu
    | zero =>
      simp at hu; subst hu
      have := congrArg (fun l : List Value => l[i]?) ht
      simpa [hi, bv, Ty.cells] using this

theorem rep_spec (ys xs : List Int) (i j : Int) (h0 : 0 ≤ i) (hij : i ≤ j) (hj : j ≤ (ys.length : Int)) (hl : ys.length + xs.length ≤ lim) {Ok : Res → List Cell → Prop} (hK : Ok (.one (.fr 5 (.int .u8) (ys.take i.toNat ++ xs ++ ys.drop j.toNat))) []) :
    CallSpec Go.Proofs.Tryd.prog 72 (mkA rep_A (ys, i, j, xs, ())) Ok := by
  intro I w vs bs hI hg ha
  have hlen := ha.length
  obtain ⟨sv, iv, jv, xv, rfl⟩ : ∃ a b c d, vs = [a, b, c, d] := by
    match vs, hlen with
    | [a, b, c, d], _ => exact ⟨a, b, c, d, rfl⟩
  obtain ⟨b, rfl⟩ : ∃ b, bs = [b] := by
    cases bs with
    | nil => exact ha.elim
    | cons b bs =>
      cases bs with
      | nil => exact ⟨b, rfl⟩
      | cons c bs => exact ha.2.2.2.2.elim
  obtain ⟨hs, hi2, hj2, hx2, _⟩ := ha
  obtain ⟨_, rfl⟩ := RepV.int_eq hi2
  obtain ⟨_, rfl⟩ := RepV.int_eq hj2
  obtain ⟨i, rfl⟩ := Int.eq_ofNat_of_zero_le h0
  obtain ⟨j, rfl⟩ := Int.eq_ofNat_of_zero_le (Int.le_trans h0 hij)
  have hij : i ≤ j := Int.ofNat_le.1 hij
  have hj : j ≤ ys.length := Int.ofNat_le.1 hj
  rw [Int.toNat_natCast, Int.toNat_natCast] at hK
  have hxs : ∀ x ∈ xs, inR .u8 x := fun x hx => by
    have := (RepV.wf hx2).2 x hx
    exact this
  -- behind, out of what was done
  have fin : ∀ (b0 : Nat) (v' : Value) (w' : World) (zs : List Int), (b0 = b ∨ b0 = w.heap.size) → (∀ x ∈ zs, inR .u8 x) → Ok (.one (.fr 5 (.int .u8) zs)) [] → DoneB w b0 (bv zs) v' w' →
      Behind I w [b] (refsOf (mkA rep_A (ys, (i : Int), (j : Int), xs, ())) [b]) Ok v' w' := by
    intro b0 v' w' zs hb0 hz hok hd
    obtain ⟨b', hb', hlt, hown, hsz, ho, h1, h2, h3⟩ := done_own (I := orP I fun _ => False) hz hd
    refine ⟨_, [], fun _ => False, [some b'], hok, ⟨h1, h2, h3, hsz, fun k hk hF => ho k (fun e => ?_) hk⟩, fun b h => h.elim, fun q b1 hq => ?_, ⟨_, rfl, hown⟩, trivial⟩
    · rcases hb0 with rfl | rfl
      · exact hF (by subst e; exact List.mem_singleton.2 rfl)
      · omega
    · cases q with
      | succ q => simp at hq
      | zero =>
        simp at hq; subst hq
        refine ⟨?_, hlt, fun h => h, fun r hr => ?_⟩
        · rcases hb' with rfl | rfl
          · rcases hb0 with rfl | rfl
            · exact .inr ⟨List.mem_singleton.2 rfl, by show b' ∉ ([] : List Nat); simp⟩
            · exact .inl (Nat.le_refl _)
          · exact .inl (Nat.le_refl _)
        · cases r with
          | zero => rfl
          | succ r => simp at hr
  rcases hs with ⟨rfl, rfl, hbw⟩ | ⟨⟨cap, cur, fr, rfl, hle, hm, hh, hfr, hcz, hrow⟩, hbI, hbw, _⟩
  · have hj0 : j = 0 := by simpa using hj
    subst hj0
    obtain rfl : i = 0 := by omega
    obtain ⟨A, vc, rfl, hsrc⟩ := srcB_of hx2 hI w.heap.size (fun h => absurd (hI _ h) (Nat.lt_irrefl _))
    refine (Go.Proofs.rep_nil w A xs.length vc xs hsrc (by simpa using hl)).mono ?_
    rintro e w' ⟨v', rfl, ⟨hm0, rfl, rfl⟩ | hd⟩
    · have hx0 : xs = [] := List.eq_nil_of_length_eq_zero hm0
      subst hx0
      refine ⟨_, rfl, .one (.fr 5 (.int .u8) []), [], fun _ => False, [none], hK, ⟨rfl, rfl, rfl, Nat.le_refl _, fun _ _ _ => rfl⟩, fun b h => h.elim, fun q b1 hq => ?_, ⟨none, rfl, rfl, rfl⟩, trivial⟩
      cases q with
      | zero => simp at hq
      | succ q => simp at hq
    · exact ⟨_, rfl, fin w.heap.size v' w' _ (.inr rfl) (by simpa using hxs) (by simpa using hK) (by simpa using hd)⟩
  · have hfr' : fr.1 = fr.2 := by
      rcases hfr with h | h
      · exact h
      · exact absurd h.1 (by decide)
    have hcs : cur.toList.take ys.length = bv ys := by
      refine List.ext_getElem? fun q => ?_
      rw [List.getElem?_take]
      by_cases hq : q < ys.length
      · obtain ⟨cs, ⟨_, h2⟩, h3⟩ := hrow q hq
        have := h3 0 (.int .u8 ys[q]) (by rw [h2]; rfl)
        rw [if_pos hq]
        simpa [bv, hq, Ty.cells] using this
      · rw [if_neg hq, List.getElem?_eq_none (by rw [bv_length]; omega)]
    have hys : ∀ x ∈ ys, inR .u8 x := fun x hx => by
      obtain ⟨q, hq, rfl⟩ := List.mem_iff_getElem.1 hx
      obtain ⟨cs, ⟨h1, _⟩, _⟩ := hrow q hq
      exact h1
    obtain ⟨A, vc, rfl, hsrc⟩ := srcB_of hx2 hI b hbI
    refine (Go.Proofs.rep_all b ys.length cap cur fr w hh hfr' hle hm (by simpa [Ty.cells] using hcz) A xs.length vc xs ys hsrc hcs i j hij hj hl).mono ?_
    rintro e w' ⟨v', rfl, hd⟩
    refine ⟨_, rfl, fin b v' w' _ (.inl rfl) (fun x hx => ?_) hK hd⟩
    rcases List.mem_append.1 hx with hx | hx
    · rcases List.mem_append.1 hx with hx | hx
      · exact hys x (List.mem_of_mem_take hx)
      · exact hxs x hx
    · exact hys x (List.mem_of_mem_drop hx)

def slR_P (xs : List Int) (i j : Int) (v : List Int) : Prop := 0 ≤ i ∧ i ≤ j ∧ j ≤ (xs.length : Int) ∧ xs.length + v.length ≤ lim
def slR_F (xs : List Int) (i j : Int) (v : List Int) : List Int := xs.take i.toNat ++ v ++ xs.drop j.toNat
def slR_C (v : valsA rep_A) (K : Res → List Cell → Prop) : Prop := slR_P v.1 v.2.1 v.2.2.1 v.2.2.2.1 ∧ ∀ r : List Int, r = slR_F v.1 v.2.1 v.2.2.1 v.2.2.2.1 → K (.one (.fr 5 (.int .u8) r)) []
def slR_S : App := specW rep_A slR_C
theorem slR_ok : AppOk Go.Proofs.Tryd.prog 72 slR_S := by
  refine AppOk.specW fun ags K hs => ?_
  obtain ⟨v, rfl, hP, hK⟩ := rdA_of _ ags _ hs
  obtain ⟨ys, i, j, xs, ⟨⟩⟩ := v
  obtain ⟨h0, h1, h2, h3⟩ := hP
  exact .inl ⟨enters_of Go.Proofs.Tryd.func72 (by kernel_rfl), rep_spec ys xs i j h0 h1 h2 h3 (hK _ rfl)⟩
end Go.VE
namespace Go.VE
open Go Go.Proofs
--! external 1
--! args o:B I I B
--! res fr:B
--! import RF

end Go.VE
namespace Go.VE
open Go Go.Proofs
/-! ### quoin/change.Apply -/
def change_Apply_G : List (Nat × App) := [(71, bytes_HasPrefix_S), (72, slR_S)]
theorem change_Apply_Gok : GOk Tryd.prog (getG change_Apply_G) := GOk.cons bytes_HasPrefix_ok (GOk.cons slR_ok (GOk.nil))
theorem change_Apply_st : storesC (bodyOf Tryd.f29) = true := by kernel_rfl
def change_Apply_d0 : List LS := [.o 6 53 5 (.int .u8), .v 12 (.sl (.st (.pair (.int .i64) (.pair (.sl (.int .u8)) (.sl (.int .u8)))))), .v 13 (.int .i64), .v 14 (.int .i64)]
def change_Apply_d0r : List LS := [.o 4 37 5 (.int .u8), .v 5 (.int .i64)]
def change_Apply_d0x0 : List LS := [.o 6 53 5 (.int .u8)]
def change_Apply_dx0 : DX := ⟨none, some change_Apply_d0r, [(0, change_Apply_d0x0)]⟩
def change_Apply_T0 (Y : List Int → List ((Int × List Int × List Int)) → Int → Int → Prop) (kr : List Int → Int → Prop) (kx0 : List Int → Prop) (out6 : List Int) (x12 : List ((Int × List Int × List Int))) (x13 : Int) (x14 : Int) : Prop :=
 bif (decide (x14 < x13)) then
 bif decide (0 ≤ x14 ∧ x14 < (List.length x12 : Int)) then
 bif (decide ((rd ((0 : Int), ([] : List Int), ([] : List Int)) x12 x14).1 < (0 : Int))) then
 kr ([] : List Int) (170 : Int)
 else
 bif (decide ((List.length out6 : Int) < (rd ((0 : Int), ([] : List Int), ([] : List Int)) x12 x14).1)) then
 kr ([] : List Int) (170 : Int)
 else
 bif decide (0 ≤ (rd ((0 : Int), ([] : List Int), ([] : List Int)) x12 x14).1 ∧ (rd ((0 : Int), ([] : List Int), ([] : List Int)) x12 x14).1 ≤ (List.length out6 : Int)) then
 bytes_HasPrefix_P (List.drop (Int.toNat ((rd ((0 : Int), ([] : List Int), ([] : List Int)) x12 x14).1)) out6) ((rd ((0 : Int), ([] : List Int), ([] : List Int)) x12 x14).2.1) ∧ (
 ∀ (r1 : Bool), r1 = bytes_HasPrefix_F (List.drop (Int.toNat ((rd ((0 : Int), ([] : List Int), ([] : List Int)) x12 x14).1)) out6) ((rd ((0 : Int), ([] : List Int), ([] : List Int)) x12 x14).2.1) → (
 wfR (.one (.v (.bool) r1)) → (
 bif (!r1) then
 kr ([] : List Int) (170 : Int)
 else
 slR_P out6 ((rd ((0 : Int), ([] : List Int), ([] : List Int)) x12 x14).1) (IntKind.wrap .i64 (((rd ((0 : Int), ([] : List Int), ([] : List Int)) x12 x14).1) + (List.length ((rd ((0 : Int), ([] : List Int), ([] : List Int)) x12 x14).2.1) : Int))) ((rd ((0 : Int), ([] : List Int), ([] : List Int)) x12 x14).2.2) ∧ (
 ∀ (r2 : List Int), r2 = slR_F out6 ((rd ((0 : Int), ([] : List Int), ([] : List Int)) x12 x14).1) (IntKind.wrap .i64 (((rd ((0 : Int), ([] : List Int), ([] : List Int)) x12 x14).1) + (List.length ((rd ((0 : Int), ([] : List Int), ([] : List Int)) x12 x14).2.1) : Int))) ((rd ((0 : Int), ([] : List Int), ([] : List Int)) x12 x14).2.2) → (
 wfR (.one (.fr 5 (.int .u8) r2)) → (
 Y r2 x12 x13 (IntKind.wrap .i64 (x14 + (1 : Int)))))))))
 else False
 else False
 else
 kx0 out6
def change_Apply_L0 (kr : List Int → Int → Prop) (kx0 : List Int → Prop) : Nat → List Int → List ((Int × List Int × List Int)) → Int → Int → Prop
  | 0, _, _, _, _ => False
  | n + 1, out6, x12, x13, x14 => wfD change_Apply_d0 (out6, x12, x13, x14, ()) → change_Apply_T0 (change_Apply_L0 kr kx0 n) kr kx0 out6 x12 x13 x14
theorem change_Apply_s0 (k : Ex → St → Prop) (Y : vals change_Apply_d0 → Prop) (out6 : List Int) (x12 : List ((Int × List Int × List Int))) (x13 : Int) (x14 : Int) :
    ex tb (getG change_Apply_G) [] (at' (bodyOf Tryd.f29) [0, 0, 1, 0, 1, 1]) [0, 0, 1, 0, 1, 1] (mkD 52 change_Apply_d0 (out6, x12, x13, x14, ())) (lpK 52 change_Apply_d0 change_Apply_dx0 k Y) =
    change_Apply_T0 (fun out6 x12 x13 x14 => Y (out6, x12, x13, x14, ())) (fun x4 x5 => wfD change_Apply_d0r (x4, x5, ()) → k .ret (mkD 52 change_Apply_d0r (x4, x5, ()))) (fun out6 => wfD change_Apply_d0x0 (out6, ()) → k (.exit 0) (mkD 52 change_Apply_d0x0 (out6, ()))) out6 x12 x13 x14 := by kernel_rfl
theorem change_Apply_e0 (k : Ex → St → Prop) : ∀ (n : Nat) (out6 : List Int) (x12 : List ((Int × List Int × List Int))) (x13 : Int) (x14 : Int), lpD 52 change_Apply_d0 change_Apply_dx0 (ex tb (getG change_Apply_G) [] (at' (bodyOf Tryd.f29) [0, 0, 1, 0, 1, 1]) [0, 0, 1, 0, 1, 1]) k n (out6, x12, x13, x14, ()) = change_Apply_L0 (fun x4 x5 => wfD change_Apply_d0r (x4, x5, ()) → k .ret (mkD 52 change_Apply_d0r (x4, x5, ()))) (fun out6 => wfD change_Apply_d0x0 (out6, ()) → k (.exit 0) (mkD 52 change_Apply_d0x0 (out6, ()))) n out6 x12 x13 x14
  | 0, _, _, _, _ => rfl
  | n + 1, out6, x12, x13, x14 => congrArg (fun Z : Prop => wfD change_Apply_d0 (out6, x12, x13, x14, ()) → Z) ((change_Apply_s0 k (lpD 52 change_Apply_d0 change_Apply_dx0 (ex tb (getG change_Apply_G) [] (at' (bodyOf Tryd.f29) [0, 0, 1, 0, 1, 1]) [0, 0, 1, 0, 1, 1]) k n) out6 x12 x13 x14).trans (congrArg (fun Y => change_Apply_T0 Y (fun x4 x5 => wfD change_Apply_d0r (x4, x5, ()) → k .ret (mkD 52 change_Apply_d0r (x4, x5, ()))) (fun out6 => wfD change_Apply_d0x0 (out6, ()) → k (.exit 0) (mkD 52 change_Apply_d0x0 (out6, ()))) out6 x12 x13 x14) (funext fun out6 => funext fun x12 => funext fun x13 => funext fun x14 => change_Apply_e0 k n out6 x12 x13 x14)))
theorem change_Apply_v0 (k : Ex → St → Prop) (n : Nat) : ∀ v : vals change_Apply_d0, lpD 52 change_Apply_d0 change_Apply_dx0 (ex tb (getG change_Apply_G) [] (at' (bodyOf Tryd.f29) [0, 0, 1, 0, 1, 1]) [0, 0, 1, 0, 1, 1]) k n v = change_Apply_L0 (fun x4 x5 => wfD change_Apply_d0r (x4, x5, ()) → k .ret (mkD 52 change_Apply_d0r (x4, x5, ()))) (fun out6 => wfD change_Apply_d0x0 (out6, ()) → k (.exit 0) (mkD 52 change_Apply_d0x0 (out6, ()))) n v.1 v.2.1 v.2.2.1 v.2.2.2.1
  | (out6, x12, x13, x14, ()) => change_Apply_e0 k n out6 x12 x13 x14
def change_Apply_X0 : Pce := fun st k => ckD 52 change_Apply_d0 st fun v => wfD change_Apply_d0 v → ∃ n, change_Apply_L0 (fun x4 x5 => wfD change_Apply_d0r (x4, x5, ()) → k .ret (mkD 52 change_Apply_d0r (x4, x5, ()))) (fun out6 => wfD change_Apply_d0x0 (out6, ()) → k (.exit 0) (mkD 52 change_Apply_d0x0 (out6, ()))) n v.1 v.2.1 v.2.2.1 v.2.2.2.1
set_option maxRecDepth 20000 in
theorem change_Apply_x0 : SemOk Tryd.prog (at' (bodyOf Tryd.f29) [0, 1, 0, 1, 1]) change_Apply_X0 :=
  (SemOk.loop (ex_sound tb_M tb_ok change_Apply_Gok (LabsOk.nil) (at' (bodyOf Tryd.f29) [0, 0, 1, 0, 1, 1]) [0, 0, 1, 0, 1, 1] rfl (storesC_at change_Apply_st [0, 0, 1, 0, 1, 1])) 52 change_Apply_d0 change_Apply_dx0).mono fun st k h => ckD_mono h fun v hv hw => (hv hw).elim fun n hn => ⟨n, Eq.mpr (change_Apply_v0 k n v) hn⟩
def change_Apply_B0 : Labs := ([0, 1, 0, 1, 1], change_Apply_X0) :: []
theorem change_Apply_b0 : LabsOk Tryd.prog (bodyOf Tryd.f29) change_Apply_B0 := LabsOk.cons change_Apply_x0 (LabsOk.nil)
def change_Apply_raw (t0 : List Int) (edits1 : List ((Int × List Int × List Int))) (K : Res → List Cell → Prop) : Prop :=
 bif decide (List.length ([] : List Int) + List.length t0 ≤ lim) then
 (wfD change_Apply_d0 ((([] : List Int) ++ t0), edits1, (List.length edits1 : Int), (0 : Int), ()) → ∃ n, change_Apply_L0 (fun (x4 : List Int) (x5 : Int) => wfD change_Apply_d0r (x4, x5, ()) → (
 K (.tup [.fr 5 (.int .u8) x4, .v (.int .i64) x5]) [])) (fun (out6 : List Int) => wfD change_Apply_d0x0 (out6, ()) → (
 K (.tup [.fr 5 (.int .u8) out6, .v (.int .i64) (0 : Int)]) [])) n (([] : List Int) ++ t0) edits1 (List.length edits1 : Int) (0 : Int))
 else False
def change_Apply_A : List AS := [.v (.sl (.int .u8)), .v (.sl (.st (.pair (.int .i64) (.pair (.sl (.int .u8)) (.sl (.int .u8))))))]
theorem change_Apply_walk (t0 : List Int) (edits1 : List ((Int × List Int × List Int))) (K : Res → List Cell → Prop) : runF tb (getG change_Apply_G) change_Apply_B0 Tryd.f29 [true, true] (mkA change_Apply_A (t0, edits1, ())) K = change_Apply_raw t0 edits1 K := by kernel_rfl
--! pre 1
abbrev Edit := Int × List Int × List Int
def applyL : List Edit → List Int → Option (List Int)
  | [], out => some out
  | e :: r, out => if 0 ≤ e.1 ∧ e.1 ≤ out.length ∧ bytes_HasPrefix_F (out.drop e.1.toNat) e.2.1 = true then applyL r (slR_F out e.1 (e.1 + (e.2.1.length : Int)) e.2.2) else none
def newsL : List Edit → Nat
  | [] => 0
  | e :: r => e.2.2.length + newsL r
theorem hasP_le {s p : List Int} (h : bytes_HasPrefix_F s p = true) : p.length ≤ s.length := by
  unfold bytes_HasPrefix_F at h
  by_cases c : (List.length p : Int) ≤ (List.length s : Int)
  · omega
  · rw [decide_eq_false c] at h; cases h
theorem hasP_P (s p : List Int) : bytes_HasPrefix_P s p := by
  unfold bytes_HasPrefix_P
  by_cases c : (List.length p : Int) ≤ (List.length s : Int)
  · rw [decide_eq_true c]; exact ⟨by omega, c⟩
  · rw [decide_eq_false c]; exact trivial
def change_Apply_P (t : List Int) (edits : List Edit) : Prop := t.length + newsL edits ≤ lim
def change_Apply_F (t : List Int) (edits : List Edit) : List Int × Int :=
 match applyL edits t with
 | some out => (out, 0)
 | none => ([], 170)
theorem change_Apply_l0 (kr : List Int → Int → Prop) (kx0 : List Int → Prop) (edits : List Edit) (hl : edits.length ≤ 9223372036854775807) (t : List Int)
    (hk : ∀ r, r = change_Apply_F t edits → (r.2 = 170 → kr [] 170) ∧ (r.2 = 0 → kx0 r.1)) :
    ∀ (n i : Nat) (out : List Int), edits.length < n + i → i ≤ edits.length → applyL (edits.drop i) out = applyL edits t → out.length + newsL (edits.drop i) ≤ lim →
      change_Apply_L0 kr kx0 n out edits (edits.length : Int) (i : Int)
  | 0, i, out, h, h2, _, _ => by omega
  | n + 1, i, out, h, h2, he, hr => by
    intro _
    unfold change_Apply_T0
    have hlim : lim = 1099511627776 := rfl
    refine brn (fun hlt => ?_) (fun hge => ?_)
    · have hlt : i < edits.length := by omega
      have hd : edits.drop i = edits[i] :: edits.drop (i + 1) := List.drop_eq_getElem_cons hlt
      rw [hd] at he hr
      refine asrt ⟨by omega, by omega⟩ ?_
      rw [rd_nat _ _ _ hlt]
      generalize edits[i] = e at *
      have hbad : ¬ (0 ≤ e.1 ∧ e.1 ≤ out.length ∧ bytes_HasPrefix_F (out.drop e.1.toNat) e.2.1 = true) → kr [] 170 := fun hb => by
        have : change_Apply_F t edits = ([], 170) := by
          unfold change_Apply_F
          rw [← he, applyL, if_neg hb]
        exact (hk _ rfl).1 (by rw [this])
      refine brn (fun c1 => hbad (by omega)) (fun c1 => brn (fun c2 => hbad (by omega)) (fun c2 => asrt (by omega) ⟨hasP_P _ _, fun r1 hr1 _ => brb (fun c3 => hbad ?_) (fun c3 => ?_)⟩))
      · rw [hr1] at c3
        rintro ⟨_, _, h3⟩
        rw [h3] at c3; cases c3
      · have c3 : bytes_HasPrefix_F (out.drop e.1.toNat) e.2.1 = true := by rw [hr1] at c3; simpa using c3
        have hle := hasP_le c3
        rw [List.length_drop] at hle
        simp only [newsL] at hr
        have hw : IntKind.wrap .i64 (e.1 + (List.length e.2.1 : Int)) = e.1 + (List.length e.2.1 : Int) := wrap_i64 (by omega) (by omega)
        rw [hw]
        refine ⟨⟨by omega, by omega, by omega, by omega⟩, fun r2 hr2 _ => ?_⟩
        rw [wrap_i64 (by omega) (by omega), show (i : Int) + 1 = ((i + 1 : Nat) : Int) by omega]
        refine change_Apply_l0 kr kx0 edits hl t hk n (i + 1) r2 (by omega) (by omega) ?_ ?_
        · rw [← he, applyL, if_pos ⟨by omega, by omega, c3⟩, hr2]
        · rw [hr2]
          unfold slR_F
          rw [List.length_append, List.length_append, List.length_take, List.length_drop]
          omega
    · have hi : i = edits.length := by omega
      subst hi
      rw [List.drop_length, applyL] at he
      have : change_Apply_F t edits = (out, 0) := by
        unfold change_Apply_F
        rw [← he]
      have := (hk _ rfl).2 (by rw [this])
      rw [‹change_Apply_F t edits = (out, 0)›] at this
      exact this
theorem change_Apply_sp (t : List Int) (edits : List Edit) (K : Res → List Cell → Prop) (hw : wfA change_Apply_A (t, edits, ())) (hp : change_Apply_P t edits) (h : ∀ r : List Int × Int, r = change_Apply_F t edits → K (.tup [.fr 5 (.int .u8) r.1, .v (.int .i64) r.2]) []) : change_Apply_raw t edits K := by
  unfold change_Apply_P at hp
  unfold change_Apply_raw
  refine asrt (by simp only [List.length_nil]; omega) ?_
  intro _
  refine ⟨edits.length + 1, change_Apply_l0 _ _ edits hw.2.1.1 t (fun r hr => ⟨fun h170 _ => ?_, fun h0 _ => ?_⟩) _ 0 _ (by omega) (Nat.zero_le _) rfl (by simpa using hp)⟩
  · have h1 : r = ([], 170) := by
      rw [hr] at h170 ⊢
      unfold change_Apply_F at h170 ⊢
      split
      · rename_i out ho; rw [ho] at h170; cases h170
      · rfl
    have := h r hr
    rw [h1] at this
    exact this
  · have := h r hr
    have e : r.2 = 0 := h0
    rw [e] at this
    exact this

def change_Apply_C (v : valsA change_Apply_A) (K : Res → List Cell → Prop) : Prop := change_Apply_P v.1 v.2.1 ∧ ∀ r : List Int × Int, r = change_Apply_F v.1 v.2.1 → K (.tup [.fr 5 (.int .u8) r.1, .v (.int .i64) r.2]) []
def change_Apply_S : App := specW change_Apply_A change_Apply_C
theorem change_Apply_wv (K : Res → List Cell → Prop) : ∀ v : valsA change_Apply_A, runF tb (getG change_Apply_G) change_Apply_B0 Tryd.f29 [true, true] (mkA change_Apply_A v) K = change_Apply_raw v.1 v.2.1 K
  | (t0, edits1, ()) => change_Apply_walk t0 edits1 K
set_option maxRecDepth 20000 in
theorem change_Apply_ok : AppOk Tryd.prog 29 change_Apply_S :=
  AppOk.specW (spec_ok ((runF_ok tb_M tb_ok change_Apply_Gok (change_Apply_b0) (f := 29) (fn := Tryd.f29) (by kernel_rfl) (by kernel_rfl) change_Apply_st [true, true])) fun v K hw h => (change_Apply_wv K v).mpr (change_Apply_sp v.1 v.2.1 K hw h.1 h.2))

end Go.VE
namespace Go.VE
open Go Go.Proofs
/-! ### quoin/oper.with -/
def oper_with_G : List (Nat × App) := [(29, change_Apply_S)]
theorem oper_with_Gok : GOk Tryd.prog (getG oper_with_G) := GOk.cons change_Apply_ok (GOk.nil)
def oper_with_raw (t0 : List Int) (edits1 : List ((Int × List Int × List Int))) (K : Res → List Cell → Prop) : Prop :=
 change_Apply_P t0 edits1 ∧ (
 ∀ (r1 : List Int × Int), r1 = change_Apply_F t0 edits1 → (
 wfR (.tup [.fr 5 (.int .u8) r1.1, .v (.int .i64) r1.2]) → (
 K (.one (.fr 5 (.int .u8) r1.1)) [])))
def oper_with_A : List AS := [.v (.sl (.int .u8)), .v (.sl (.st (.pair (.int .i64) (.pair (.sl (.int .u8)) (.sl (.int .u8))))))]
theorem oper_with_walk (t0 : List Int) (edits1 : List ((Int × List Int × List Int))) (K : Res → List Cell → Prop) : runF tb (getG oper_with_G) [] Tryd.f67 [true] (mkA oper_with_A (t0, edits1, ())) K = oper_with_raw t0 edits1 K := by kernel_rfl

def oper_with_P (t0 : List Int) (edits1 : List ((Int × List Int × List Int))) : Prop :=
 change_Apply_P t0 edits1
def oper_with_F (t0 : List Int) (edits1 : List ((Int × List Int × List Int))) : List Int :=
 let r1 : List Int × Int := change_Apply_F t0 edits1
 r1.1
set_option maxRecDepth 20000 in
theorem oper_with_sp (t0 : List Int) (edits1 : List ((Int × List Int × List Int))) (K : Res → List Cell → Prop) (_ : wfA oper_with_A (t0, edits1, ())) (hp : oper_with_P t0 edits1) (h : ∀ r : List Int, r = oper_with_F t0 edits1 → K (.one (.fr 5 (.int .u8) r)) []) : oper_with_raw t0 edits1 K := by
  unfold oper_with_raw
  unfold oper_with_P at hp
  refine ⟨hp, ?_⟩
  intro r1 hr1
  subst r1
  intro _
  exact h _ rfl
def oper_with_C (v : valsA oper_with_A) (K : Res → List Cell → Prop) : Prop := oper_with_P v.1 v.2.1 ∧ ∀ r : List Int, r = oper_with_F v.1 v.2.1 → K (.one (.fr 5 (.int .u8) r)) []
def oper_with_S : App := specW oper_with_A oper_with_C
theorem oper_with_wv (K : Res → List Cell → Prop) : ∀ v : valsA oper_with_A, runF tb (getG oper_with_G) [] Tryd.f67 [true] (mkA oper_with_A v) K = oper_with_raw v.1 v.2.1 K
  | (t0, edits1, ()) => oper_with_walk t0 edits1 K
set_option maxRecDepth 20000 in
theorem oper_with_ok : AppOk Tryd.prog 67 oper_with_S :=
  AppOk.specW (spec_ok ((runF_ok tb_M tb_ok oper_with_Gok (LabsOk.nil) (f := 67) (fn := Tryd.f67) (by kernel_rfl) (by kernel_rfl) (by kernel_rfl) [true])) fun v K hw h => (oper_with_wv K v).mpr (oper_with_sp v.1 v.2.1 K hw h.1 h.2))

end Go.VE
namespace Go.VE
open Go Go.Proofs
/-! ### quoin/lines.tail -/
def lines_tail_G : List (Nat × App) := [(43, bytes_IndexByte_S)]
theorem lines_tail_Gok : GOk Tryd.prog (getG lines_tail_G) := GOk.cons bytes_IndexByte_ok (GOk.nil)
def lines_tail_raw (t0 : List Int) (at1 : Int) (K : Res → List Cell → Prop) : Prop :=
 bif decide (0 ≤ at1 ∧ at1 ≤ (List.length t0 : Int)) then
 ∀ (r1 : Int), r1 = bytes_IndexByte_F (List.drop (Int.toNat at1) t0) (10 : Int) → (
 wfR (.one (.v (.int .i64) r1)) → (
 bif (decide ((0 : Int) ≤ r1)) then
 K (.one (.v (.int .i64) (IntKind.wrap .i64 (at1 + r1)))) []
 else
 K (.one (.v (.int .i64) (List.length t0 : Int))) []))
 else False
def lines_tail_A : List AS := [.v (.sl (.int .u8)), .v (.int .i64)]
theorem lines_tail_walk (t0 : List Int) (at1 : Int) (K : Res → List Cell → Prop) : runF tb (getG lines_tail_G) [] Tryd.f99 [true] (mkA lines_tail_A (t0, at1, ())) K = lines_tail_raw t0 at1 K := by kernel_rfl

def lines_tail_P (t0 : List Int) (at1 : Int) : Prop :=
 (0 ≤ at1 ∧ at1 ≤ (List.length t0 : Int))
def lines_tail_F (t0 : List Int) (at1 : Int) : Int :=
 let r1 : Int := bytes_IndexByte_F (List.drop (Int.toNat at1) t0) (10 : Int)
 bif (decide ((0 : Int) ≤ r1)) then
 (IntKind.wrap .i64 (at1 + r1))
 else
 (List.length t0 : Int)
set_option maxRecDepth 20000 in
theorem lines_tail_sp (t0 : List Int) (at1 : Int) (K : Res → List Cell → Prop) (_ : wfA lines_tail_A (t0, at1, ())) (hp : lines_tail_P t0 at1) (h : ∀ r : Int, r = lines_tail_F t0 at1 → K (.one (.v (.int .i64) r)) []) : lines_tail_raw t0 at1 K := by
  unfold lines_tail_raw
  unfold lines_tail_P at hp
  refine asrt hp ?_
  intro r1 hr1
  subst r1
  intro _
  refine brb (fun c_1 => ?_) (fun c_1 => ?_)
  ·
    exact h _ ((ctrue c_1) : lines_tail_F t0 at1 = _).symm
  ·
    exact h _ ((cfalse c_1) : lines_tail_F t0 at1 = _).symm
def lines_tail_C (v : valsA lines_tail_A) (K : Res → List Cell → Prop) : Prop := lines_tail_P v.1 v.2.1 ∧ ∀ r : Int, r = lines_tail_F v.1 v.2.1 → K (.one (.v (.int .i64) r)) []
def lines_tail_S : App := specW lines_tail_A lines_tail_C
theorem lines_tail_wv (K : Res → List Cell → Prop) : ∀ v : valsA lines_tail_A, runF tb (getG lines_tail_G) [] Tryd.f99 [true] (mkA lines_tail_A v) K = lines_tail_raw v.1 v.2.1 K
  | (t0, at1, ()) => lines_tail_walk t0 at1 K
set_option maxRecDepth 20000 in
theorem lines_tail_ok : AppOk Tryd.prog 99 lines_tail_S :=
  AppOk.specW (spec_ok ((runF_ok tb_M tb_ok lines_tail_Gok (LabsOk.nil) (f := 99) (fn := Tryd.f99) (by kernel_rfl) (by kernel_rfl) (by kernel_rfl) [true])) fun v K hw h => (lines_tail_wv K v).mpr (lines_tail_sp v.1 v.2.1 K hw h.1 h.2))

end Go.VE
namespace Go.VE
open Go Go.Proofs
/-! ### quoin/lines.First -/
def lines_First_G : List (Nat × App) := [(31, lines_Start_S), (99, lines_tail_S)]
theorem lines_First_Gok : GOk Tryd.prog (getG lines_First_G) := GOk.cons lines_Start_ok (GOk.cons lines_tail_ok (GOk.nil))
theorem lines_First_st : storesC (bodyOf Tryd.f66) = true := by kernel_rfl
def lines_First_d0 : List LS := [.v 0 (.sl (.int .u8)), .v 6 (.int .i64), .v 8 (.int .i64), .v 9 (.int .i64)]
def lines_First_d0r : List LS := [.v 4 (.int .i64), .v 5 (.int .i64)]
def lines_First_d0x0 : List LS := [.v 6 (.int .i64), .v 8 (.int .i64)]
def lines_First_dx0 : DX := ⟨none, some lines_First_d0r, [(0, lines_First_d0x0)]⟩
def lines_First_T0 (Y : List Int → Int → Int → Int → Prop) (kr : Int → Int → Prop) (kx0 : Int → Int → Prop) (t0 : List Int) (from6 : Int) (to8 : Int) (i9 : Int) : Prop :=
 bif (decide (i9 < to8)) then
 bif decide (0 ≤ i9 ∧ i9 < (List.length t0 : Int)) then
 bif (!decide ((rd (0 : Int) t0 i9) = (32 : Int))) then
 bif decide (0 ≤ i9 ∧ i9 < (List.length t0 : Int)) then
 bif (!decide ((rd (0 : Int) t0 i9) = (9 : Int))) then
 kr i9 (0 : Int)
 else
 Y t0 from6 to8 (IntKind.wrap .i64 (i9 + (1 : Int)))
 else False
 else
 Y t0 from6 to8 (IntKind.wrap .i64 (i9 + (1 : Int)))
 else False
 else
 kx0 from6 to8
def lines_First_L0 (kr : Int → Int → Prop) (kx0 : Int → Int → Prop) : Nat → List Int → Int → Int → Int → Prop
  | 0, _, _, _, _ => False
  | n + 1, t0, from6, to8, i9 => wfD lines_First_d0 (t0, from6, to8, i9, ()) → lines_First_T0 (lines_First_L0 kr kx0 n) kr kx0 t0 from6 to8 i9
theorem lines_First_s0 (k : Ex → St → Prop) (Y : vals lines_First_d0 → Prop) (t0 : List Int) (from6 : Int) (to8 : Int) (i9 : Int) :
    ex tb (getG lines_First_G) [] (at' (bodyOf Tryd.f66) [0, 0, 1, 0, 1, 1, 1, 1]) [0, 0, 1, 0, 1, 1, 1, 1] (mkD 45 lines_First_d0 (t0, from6, to8, i9, ())) (lpK 45 lines_First_d0 lines_First_dx0 k Y) =
    lines_First_T0 (fun t0 from6 to8 i9 => Y (t0, from6, to8, i9, ())) (fun x4 x5 => wfD lines_First_d0r (x4, x5, ()) → k .ret (mkD 45 lines_First_d0r (x4, x5, ()))) (fun from6 to8 => wfD lines_First_d0x0 (from6, to8, ()) → k (.exit 0) (mkD 45 lines_First_d0x0 (from6, to8, ()))) t0 from6 to8 i9 := by kernel_rfl
theorem lines_First_e0 (k : Ex → St → Prop) : ∀ (n : Nat) (t0 : List Int) (from6 : Int) (to8 : Int) (i9 : Int), lpD 45 lines_First_d0 lines_First_dx0 (ex tb (getG lines_First_G) [] (at' (bodyOf Tryd.f66) [0, 0, 1, 0, 1, 1, 1, 1]) [0, 0, 1, 0, 1, 1, 1, 1]) k n (t0, from6, to8, i9, ()) = lines_First_L0 (fun x4 x5 => wfD lines_First_d0r (x4, x5, ()) → k .ret (mkD 45 lines_First_d0r (x4, x5, ()))) (fun from6 to8 => wfD lines_First_d0x0 (from6, to8, ()) → k (.exit 0) (mkD 45 lines_First_d0x0 (from6, to8, ()))) n t0 from6 to8 i9
  | 0, _, _, _, _ => rfl
  | n + 1, t0, from6, to8, i9 => congrArg (fun Z : Prop => wfD lines_First_d0 (t0, from6, to8, i9, ()) → Z) ((lines_First_s0 k (lpD 45 lines_First_d0 lines_First_dx0 (ex tb (getG lines_First_G) [] (at' (bodyOf Tryd.f66) [0, 0, 1, 0, 1, 1, 1, 1]) [0, 0, 1, 0, 1, 1, 1, 1]) k n) t0 from6 to8 i9).trans (congrArg (fun Y => lines_First_T0 Y (fun x4 x5 => wfD lines_First_d0r (x4, x5, ()) → k .ret (mkD 45 lines_First_d0r (x4, x5, ()))) (fun from6 to8 => wfD lines_First_d0x0 (from6, to8, ()) → k (.exit 0) (mkD 45 lines_First_d0x0 (from6, to8, ()))) t0 from6 to8 i9) (funext fun t0 => funext fun from6 => funext fun to8 => funext fun i9 => lines_First_e0 k n t0 from6 to8 i9)))
theorem lines_First_v0 (k : Ex → St → Prop) (n : Nat) : ∀ v : vals lines_First_d0, lpD 45 lines_First_d0 lines_First_dx0 (ex tb (getG lines_First_G) [] (at' (bodyOf Tryd.f66) [0, 0, 1, 0, 1, 1, 1, 1]) [0, 0, 1, 0, 1, 1, 1, 1]) k n v = lines_First_L0 (fun x4 x5 => wfD lines_First_d0r (x4, x5, ()) → k .ret (mkD 45 lines_First_d0r (x4, x5, ()))) (fun from6 to8 => wfD lines_First_d0x0 (from6, to8, ()) → k (.exit 0) (mkD 45 lines_First_d0x0 (from6, to8, ()))) n v.1 v.2.1 v.2.2.1 v.2.2.2.1
  | (t0, from6, to8, i9, ()) => lines_First_e0 k n t0 from6 to8 i9
def lines_First_X0 : Pce := fun st k => ckD 45 lines_First_d0 st fun v => wfD lines_First_d0 v → ∃ n, lines_First_L0 (fun x4 x5 => wfD lines_First_d0r (x4, x5, ()) → k .ret (mkD 45 lines_First_d0r (x4, x5, ()))) (fun from6 to8 => wfD lines_First_d0x0 (from6, to8, ()) → k (.exit 0) (mkD 45 lines_First_d0x0 (from6, to8, ()))) n v.1 v.2.1 v.2.2.1 v.2.2.2.1
set_option maxRecDepth 20000 in
theorem lines_First_x0 : SemOk Tryd.prog (at' (bodyOf Tryd.f66) [0, 1, 0, 1, 1, 1, 1]) lines_First_X0 :=
  (SemOk.loop (ex_sound tb_M tb_ok lines_First_Gok (LabsOk.nil) (at' (bodyOf Tryd.f66) [0, 0, 1, 0, 1, 1, 1, 1]) [0, 0, 1, 0, 1, 1, 1, 1] rfl (storesC_at lines_First_st [0, 0, 1, 0, 1, 1, 1, 1])) 45 lines_First_d0 lines_First_dx0).mono fun st k h => ckD_mono h fun v hv hw => (hv hw).elim fun n hn => ⟨n, Eq.mpr (lines_First_v0 k n v) hn⟩
def lines_First_B0 : Labs := ([0, 1, 0, 1, 1, 1, 1], lines_First_X0) :: []
theorem lines_First_b0 : LabsOk Tryd.prog (bodyOf Tryd.f66) lines_First_B0 := LabsOk.cons lines_First_x0 (LabsOk.nil)
def lines_First_raw (t0 : List Int) (line1 : Int) (K : Res → List Cell → Prop) : Prop :=
 ∀ (r1 : Int × Int), r1 = lines_Start_F t0 line1 → (
 wfR (.tup [.v (.int .i64) r1.1, .v (.int .i64) r1.2]) → (
 bif (!decide (r1.2 = (0 : Int))) then
 K (.tup [.v (.int .i64) (0 : Int), .v (.int .i64) r1.2]) []
 else
 lines_tail_P t0 r1.1 ∧ (
 ∀ (r2 : Int), r2 = lines_tail_F t0 r1.1 → (
 wfR (.one (.v (.int .i64) r2)) → (
 (wfD lines_First_d0 (t0, r1.1, r2, r1.1, ()) → ∃ n, lines_First_L0 (fun (x4 : Int) (x5 : Int) => wfD lines_First_d0r (x4, x5, ()) → (
 K (.tup [.v (.int .i64) x4, .v (.int .i64) x5]) [])) (fun (from6 : Int) (to8 : Int) => wfD lines_First_d0x0 (from6, to8, ()) → (
 K (.tup [.v (.int .i64) (mx from6 (IntKind.wrap .i64 (to8 - (1 : Int)))), .v (.int .i64) (0 : Int)]) [])) n t0 r1.1 r2 r1.1))))))
def lines_First_A : List AS := [.v (.sl (.int .u8)), .v (.int .i64)]
theorem lines_First_walk (t0 : List Int) (line1 : Int) (K : Res → List Cell → Prop) : runF tb (getG lines_First_G) lines_First_B0 Tryd.f66 [true, true] (mkA lines_First_A (t0, line1, ())) K = lines_First_raw t0 line1 K := by kernel_rfl
--! pre 0
def scanB (t : List Int) : Nat → Nat → Option Nat
  | 0, _ => none
  | m + 1, i => if rd (0 : Int) t (i : Int) = 32 ∨ rd (0 : Int) t (i : Int) = 9 then scanB t m (i + 1) else some i
theorem tail_range (t : List Int) (ht : t.length ≤ 9223372036854775807) (p : Int) (h0 : 0 ≤ p) (h1 : p ≤ t.length) : p ≤ lines_tail_F t p ∧ lines_tail_F t p ≤ t.length := by
  unfold lines_tail_F
  have hb := idxB_lt (t.drop p.toNat) 10
  rw [List.length_drop] at hb
  have e : bytes_IndexByte_F (List.drop p.toNat t) 10 = idxB (t.drop p.toNat) 10 := rfl
  dsimp only
  rw [e]
  generalize idxB (t.drop p.toNat) 10 = q at hb
  by_cases hc : 0 ≤ q
  · rw [decide_eq_true hc, cond_true]
    rw [wrap_i64 (by rcases hb with hb | hb <;> omega) (by rcases hb with hb | hb <;> omega)]
    rcases hb with hb | hb <;> omega
  · rw [decide_eq_false hc, cond_false]; omega
def lines_First_F (t : List Int) (line : Int) : Int × Int :=
 if (lines_Start_F t line).2 = 0 then
 match scanB t (lines_tail_F t (lines_Start_F t line).1 - (lines_Start_F t line).1).toNat (lines_Start_F t line).1.toNat with
 | some i => ((i : Int), 0)
 | none => (mx (lines_Start_F t line).1 (IntKind.wrap .i64 (lines_tail_F t (lines_Start_F t line).1 - 1)), 0)
 else (0, (lines_Start_F t line).2)
theorem lines_First_l0 (kr : Int → Int → Prop) (kx0 : Int → Int → Prop) (t : List Int) (p e : Int) (hl : t.length ≤ 9223372036854775807) (he : e ≤ t.length) : ∀ (n m i : Nat), m < n → (e - i).toNat = m → 0 ≤ e →
    (∀ j, scanB t m i = some j → kr (j : Int) 0) → (scanB t m i = none → kx0 p e) → lines_First_L0 kr kx0 n t p e (i : Int)
  | 0, m, i, h, _, _, _, _ => absurd h (Nat.not_lt_zero _)
  | n + 1, 0, i, h, hm, h0, h1, h2 => by
    intro _
    unfold lines_First_T0
    exact brn (fun hlt => absurd hm (by omega)) (fun _ => h2 rfl)
  | n + 1, m + 1, i, h, hm, h0, h1, h2 => by
    intro _
    unfold lines_First_T0
    have next : (rd (0 : Int) t (i : Int) = 32 ∨ rd (0 : Int) t (i : Int) = 9) → lines_First_L0 kr kx0 n t p e (IntKind.wrap .i64 ((i : Int) + 1)) := fun hc => by
      rw [wrap_i64 (by omega) (by omega), show (i : Int) + 1 = ((i + 1 : Nat) : Int) by omega]
      have e1 : scanB t (m + 1) i = scanB t m (i + 1) := by rw [scanB, if_pos hc]
      exact lines_First_l0 kr kx0 t p e hl he n m (i + 1) (by omega) (by omega) h0 (fun j hj => h1 j (by rw [e1]; exact hj)) (fun hj => h2 (by rw [e1]; exact hj))
    refine brn (fun hlt => asrt ⟨by omega, by omega⟩ ?_) (fun hge => absurd hm (by omega))
    refine brx (fun c1 => asrt ⟨by omega, by omega⟩ (brx (fun c2 => ?_) (fun c2 => next (.inr (by omega))))) (fun c1 => next (.inl (by omega)))
    exact h1 i (by rw [scanB, if_neg (by omega)])
theorem lines_First_sp (t : List Int) (line : Int) (K : Res → List Cell → Prop) (hw : wfA lines_First_A (t, line, ())) (h : ∀ r : Int × Int, r = lines_First_F t line → K (.tup [.v (.int .i64) r.1, .v (.int .i64) r.2]) []) : lines_First_raw t line K := by
  have ht : t.length ≤ 9223372036854775807 := hw.1.1
  unfold lines_First_raw
  intro r1 h1 _
  subst h1
  have hs := lines_Start_F_le t line
  refine brx (fun hn => h (_, _) (by unfold lines_First_F; rw [if_neg hn])) (fun hn => ?_)
  refine ⟨hs, fun r2 h2 _ => ?_⟩
  have hn : (lines_Start_F t line).2 = 0 := by omega
  have hr := tail_range t ht _ hs.1 hs.2
  rw [← h2] at hr
  intro _
  have key := fun kr kx0 h1 h2 => lines_First_l0 kr kx0 t (lines_Start_F t line).1 r2 ht hr.2 ((r2 - (lines_Start_F t line).1).toNat + 1) (r2 - (lines_Start_F t line).1).toNat (lines_Start_F t line).1.toNat (Nat.lt_succ_self _) (by omega) (by omega) h1 h2
  rw [Int.toNat_of_nonneg hs.1] at key
  refine ⟨_, key _ _ (fun j hj _ => h ((j : Int), 0) ?_) (fun hj _ => h (_, 0) ?_)⟩
  · unfold lines_First_F; rw [if_pos hn, ← h2, hj]
  · unfold lines_First_F; rw [if_pos hn, ← h2, hj]; rfl

def lines_First_C (v : valsA lines_First_A) (K : Res → List Cell → Prop) : Prop := ∀ r : Int × Int, r = lines_First_F v.1 v.2.1 → K (.tup [.v (.int .i64) r.1, .v (.int .i64) r.2]) []
def lines_First_S : App := specW lines_First_A lines_First_C
theorem lines_First_wv (K : Res → List Cell → Prop) : ∀ v : valsA lines_First_A, runF tb (getG lines_First_G) lines_First_B0 Tryd.f66 [true, true] (mkA lines_First_A v) K = lines_First_raw v.1 v.2.1 K
  | (t0, line1, ()) => lines_First_walk t0 line1 K
set_option maxRecDepth 20000 in
theorem lines_First_ok : AppOk Tryd.prog 66 lines_First_S :=
  AppOk.specW (spec_ok ((runF_ok tb_M tb_ok lines_First_Gok (lines_First_b0) (f := 66) (fn := Tryd.f66) (by kernel_rfl) (by kernel_rfl) lines_First_st [true, true])) fun v K hw h => (lines_First_wv K v).mpr (lines_First_sp v.1 v.2.1 K hw h))

end Go.VE
namespace Go.VE
open Go Go.Proofs
/-! ### (quoin/oper.job).deleted -/
def oj_deleted_G : List (Nat × App) := [(64, oper_edited_S), (137, oj_taken_S), (67, oper_with_S), (26, lines_Count_S), (66, lines_First_S)]
theorem oj_deleted_Gok : GOk Tryd.prog (getG oj_deleted_G) := GOk.cons oper_edited_ok (GOk.cons oj_taken_ok (GOk.cons oper_with_ok (GOk.cons lines_Count_ok (GOk.cons lines_First_ok (GOk.nil)))))
def oj_deleted_raw (j0 : JbD) (K : Res → List Cell → Prop) : Prop :=
 (
 oper_edited_P j0.1 j0.2.2.1.1 j0.2.2.1.2.1 ([] : List Int) ∧ (
 ∀ (r1 : List ((Int × List Int × List Int))), r1 = oper_edited_F j0.1 j0.2.2.1.1 j0.2.2.1.2.1 ([] : List Int) → (
 wfR (.one (.fr 95 (.st (.pair (.int .i64) (.pair (.sl (.int .u8)) (.sl (.int .u8))))) r1)) → (
 (
 oj_taken_P j0 ∧ (
 ∀ (r2 : (Bool × Bool × List Int) × Int), r2 = oj_taken_F j0 → (
 wfR (.tup [.v (.st (.pair (.bool) (.pair (.bool) (.sl (.int .u8))))) r2.1, .v (.int .i64) r2.2]) → (
 bif j0.2.2.1.2.2.1 then
 oper_with_P j0.1 r1 ∧ (
 ∀ (r3 : List Int), r3 = oper_with_F j0.1 r1 → (
 wfR (.one (.fr 5 (.int .u8) r3)) → (
 lines_Count_P r3 ∧ (
 ∀ (r4 : Int), r4 = lines_Count_F r3 → (
 wfR (.one (.v (.int .i64) r4)) → (
 ∀ (r5 : Int × Int), r5 = lines_First_F r3 (mn j0.2.2.2.1 (IntKind.wrap .i64 (r4 - (1 : Int)))) → (
 wfR (.tup [.v (.int .i64) r5.1, .v (.int .i64) r5.2]) → (
 K (.tup [.v EfT (r1, r5.1, r2.1, r2.2, false), .v (.int .i64) (0 : Int)]) []))))))))
 else
 K (.tup [.v EfT (r1, j0.2.2.1.1, r2.1, r2.2, false), .v (.int .i64) (0 : Int)]) [])))) ∧ (
 oj_taken_P j0 ∧ (
 ∀ (r6 : (Bool × Bool × List Int) × Int), r6 = oj_taken_F j0 → (
 wfR (.tup [.v (.st (.pair (.bool) (.pair (.bool) (.sl (.int .u8))))) r6.1, .v (.int .i64) r6.2]) → (
 bif j0.2.2.1.2.2.1 then
 oper_with_P j0.1 r1 ∧ (
 ∀ (r7 : List Int), r7 = oper_with_F j0.1 r1 → (
 wfR (.one (.fr 5 (.int .u8) r7)) → (
 lines_Count_P r7 ∧ (
 ∀ (r8 : Int), r8 = lines_Count_F r7 → (
 wfR (.one (.v (.int .i64) r8)) → (
 ∀ (r9 : Int × Int), r9 = lines_First_F r7 (mn j0.2.2.2.1 (IntKind.wrap .i64 (r8 - (1 : Int)))) → (
 wfR (.tup [.v (.int .i64) r9.1, .v (.int .i64) r9.2]) → (
 K (.tup [.v EfT (r1, r9.1, r6.1, r6.2, false), .v (.int .i64) (0 : Int)]) []))))))))
 else
 K (.tup [.v EfT (r1, j0.2.2.1.1, r6.1, r6.2, false), .v (.int .i64) (0 : Int)]) [])))) ∧ True)))) ∧ (
 oper_edited_P j0.1 j0.2.2.1.1 j0.2.2.1.2.1 ([] : List Int) ∧ (
 ∀ (r10 : List ((Int × List Int × List Int))), r10 = oper_edited_F j0.1 j0.2.2.1.1 j0.2.2.1.2.1 ([] : List Int) → (
 wfR (.one (.fr 95 (.st (.pair (.int .i64) (.pair (.sl (.int .u8)) (.sl (.int .u8))))) r10)) → (
 oj_taken_P j0 ∧ (
 ∀ (r11 : (Bool × Bool × List Int) × Int), r11 = oj_taken_F j0 → (
 wfR (.tup [.v (.st (.pair (.bool) (.pair (.bool) (.sl (.int .u8))))) r11.1, .v (.int .i64) r11.2]) → (
 bif j0.2.2.1.2.2.1 then
 oper_with_P j0.1 r10 ∧ (
 ∀ (r12 : List Int), r12 = oper_with_F j0.1 r10 → (
 wfR (.one (.fr 5 (.int .u8) r12)) → (
 lines_Count_P r12 ∧ (
 ∀ (r13 : Int), r13 = lines_Count_F r12 → (
 wfR (.one (.v (.int .i64) r13)) → (
 ∀ (r14 : Int × Int), r14 = lines_First_F r12 (mn j0.2.2.2.1 (IntKind.wrap .i64 (r13 - (1 : Int)))) → (
 wfR (.tup [.v (.int .i64) r14.1, .v (.int .i64) r14.2]) → (
 K (.tup [.v EfT (r10, r14.1, r11.1, r11.2, false), .v (.int .i64) (0 : Int)]) []))))))))
 else
 K (.tup [.v EfT (r10, j0.2.2.1.1, r11.1, r11.2, false), .v (.int .i64) (0 : Int)]) []))))))) ∧ True
def oj_deleted_A : List AS := [.v JbT]
theorem oj_deleted_walk (j0 : JbD) (K : Res → List Cell → Prop) : runF tb (getG oj_deleted_G) [] Tryd.f103 [true, true] (mkA oj_deleted_A (j0, ())) K = oj_deleted_raw j0 K := by kernel_rfl

def oj_deleted_P (j0 : JbD) : Prop :=
 oper_edited_P j0.1 j0.2.2.1.1 j0.2.2.1.2.1 ([] : List Int) ∧ (
 let r1 : List ((Int × List Int × List Int)) := oper_edited_F j0.1 j0.2.2.1.1 j0.2.2.1.2.1 ([] : List Int)
 oj_taken_P j0 ∧ (
 let r2 : (Bool × Bool × List Int) × Int := oj_taken_F j0
 bif j0.2.2.1.2.2.1 then
 oper_with_P j0.1 r1 ∧ (
 let r3 : List Int := oper_with_F j0.1 r1
 lines_Count_P r3)
 else
 True))
def oj_deleted_F (j0 : JbD) : EfD × Int :=
 let r1 : List ((Int × List Int × List Int)) := oper_edited_F j0.1 j0.2.2.1.1 j0.2.2.1.2.1 ([] : List Int)
 let r2 : (Bool × Bool × List Int) × Int := oj_taken_F j0
 bif j0.2.2.1.2.2.1 then
 let r3 : List Int := oper_with_F j0.1 r1
 let r4 : Int := lines_Count_F r3
 let r5 : Int × Int := lines_First_F r3 (mn j0.2.2.2.1 (IntKind.wrap .i64 (r4 - (1 : Int))))
 ((r1, r5.1, r2.1, r2.2, false), (0 : Int))
 else
 ((r1, j0.2.2.1.1, r2.1, r2.2, false), (0 : Int))
set_option maxRecDepth 20000 in
theorem oj_deleted_sp (j0 : JbD) (K : Res → List Cell → Prop) (_ : wfA oj_deleted_A (j0, ())) (hp : oj_deleted_P j0) (h : ∀ r : EfD × Int, r = oj_deleted_F j0 → K (.tup [.v EfT r.1, .v (.int .i64) r.2]) []) : oj_deleted_raw j0 K := by
  unfold oj_deleted_raw
  unfold oj_deleted_P at hp
  refine ⟨?_, ?_, trivial⟩
  ·
    refine ⟨hp.1, ?_⟩
    replace hp := hp.2
    intro r1 hr1
    subst r1
    intro _
    refine ⟨?_, ?_, trivial⟩
    ·
      refine ⟨hp.1, ?_⟩
      replace hp := hp.2
      intro r2 hr2
      subst r2
      intro _
      refine brb (fun c_1 => ?_) (fun c_1 => ?_)
      ·
        replace hp := cT c_1 hp
        refine ⟨hp.1, ?_⟩
        replace hp := hp.2
        intro r3 hr3
        subst r3
        intro _
        refine ⟨hp, ?_⟩
        intro r4 hr4
        subst r4
        intro _
        intro r5 hr5
        subst r5
        intro _
        have e := h _ ((ctrue c_1) : oj_deleted_F j0 = _).symm
        exact e
      ·
        clear hp
        have e := h _ ((cfalse c_1) : oj_deleted_F j0 = _).symm
        exact e
    ·
      refine ⟨hp.1, ?_⟩
      replace hp := hp.2
      intro r6 hr6
      subst r6
      intro _
      refine brb (fun c_2 => ?_) (fun c_2 => ?_)
      ·
        replace hp := cT c_2 hp
        refine ⟨hp.1, ?_⟩
        replace hp := hp.2
        intro r7 hr7
        subst r7
        intro _
        refine ⟨hp, ?_⟩
        intro r8 hr8
        subst r8
        intro _
        intro r9 hr9
        subst r9
        intro _
        have e := h _ ((ctrue c_2) : oj_deleted_F j0 = _).symm
        exact e
      ·
        clear hp
        have e := h _ ((cfalse c_2) : oj_deleted_F j0 = _).symm
        exact e
  ·
    refine ⟨hp.1, ?_⟩
    replace hp := hp.2
    intro r10 hr10
    subst r10
    intro _
    refine ⟨hp.1, ?_⟩
    replace hp := hp.2
    intro r11 hr11
    subst r11
    intro _
    refine brb (fun c_3 => ?_) (fun c_3 => ?_)
    ·
      replace hp := cT c_3 hp
      refine ⟨hp.1, ?_⟩
      replace hp := hp.2
      intro r12 hr12
      subst r12
      intro _
      refine ⟨hp, ?_⟩
      intro r13 hr13
      subst r13
      intro _
      intro r14 hr14
      subst r14
      intro _
      have e := h _ ((ctrue c_3) : oj_deleted_F j0 = _).symm
      exact e
    ·
      clear hp
      have e := h _ ((cfalse c_3) : oj_deleted_F j0 = _).symm
      exact e
def oj_deleted_C (v : valsA oj_deleted_A) (K : Res → List Cell → Prop) : Prop := oj_deleted_P v.1 ∧ ∀ r : EfD × Int, r = oj_deleted_F v.1 → K (.tup [.v EfT r.1, .v (.int .i64) r.2]) []
def oj_deleted_S : App := specW oj_deleted_A oj_deleted_C
theorem oj_deleted_wv (K : Res → List Cell → Prop) : ∀ v : valsA oj_deleted_A, runF tb (getG oj_deleted_G) [] Tryd.f103 [true, true] (mkA oj_deleted_A v) K = oj_deleted_raw v.1 K
  | (j0, ()) => oj_deleted_walk j0 K
set_option maxRecDepth 20000 in
theorem oj_deleted_ok : AppOk Tryd.prog 103 oj_deleted_S :=
  AppOk.specW (spec_ok ((runF_ok tb_M tb_ok oj_deleted_Gok (LabsOk.nil) (f := 103) (fn := Tryd.f103) (by kernel_rfl) (by kernel_rfl) (by kernel_rfl) [true, true])) fun v K hw h => (oj_deleted_wv K v).mpr (oj_deleted_sp v.1 K hw h.1 h.2))

end Go.VE
namespace Go.VE
open Go Go.Proofs
/-! ### quoin/lines.End -/
def lines_End_G : List (Nat × App) := [(31, lines_Start_S), (99, lines_tail_S)]
theorem lines_End_Gok : GOk Tryd.prog (getG lines_End_G) := GOk.cons lines_Start_ok (GOk.cons lines_tail_ok (GOk.nil))
def lines_End_raw (t0 : List Int) (line1 : Int) (K : Res → List Cell → Prop) : Prop :=
 ∀ (r1 : Int × Int), r1 = lines_Start_F t0 line1 → (
 wfR (.tup [.v (.int .i64) r1.1, .v (.int .i64) r1.2]) → (
 bif (!decide (r1.2 = (0 : Int))) then
 K (.tup [.v (.int .i64) (0 : Int), .v (.int .i64) r1.2]) []
 else
 lines_tail_P t0 r1.1 ∧ (
 ∀ (r2 : Int), r2 = lines_tail_F t0 r1.1 → (
 wfR (.one (.v (.int .i64) r2)) → (
 K (.tup [.v (.int .i64) r2, .v (.int .i64) (0 : Int)]) [])))))
def lines_End_A : List AS := [.v (.sl (.int .u8)), .v (.int .i64)]
theorem lines_End_walk (t0 : List Int) (line1 : Int) (K : Res → List Cell → Prop) : runF tb (getG lines_End_G) [] Tryd.f118 [true, true] (mkA lines_End_A (t0, line1, ())) K = lines_End_raw t0 line1 K := by kernel_rfl

def lines_End_P (t0 : List Int) (line1 : Int) : Prop :=
 let r1 : Int × Int := lines_Start_F t0 line1
 bif (!decide (r1.2 = (0 : Int))) then
 True
 else
 lines_tail_P t0 r1.1
def lines_End_F (t0 : List Int) (line1 : Int) : Int × Int :=
 let r1 : Int × Int := lines_Start_F t0 line1
 bif (!decide (r1.2 = (0 : Int))) then
 ((0 : Int), r1.2)
 else
 let r2 : Int := lines_tail_F t0 r1.1
 (r2, (0 : Int))
set_option maxRecDepth 20000 in
theorem lines_End_sp (t0 : List Int) (line1 : Int) (K : Res → List Cell → Prop) (_ : wfA lines_End_A (t0, line1, ())) (hp : lines_End_P t0 line1) (h : ∀ r : Int × Int, r = lines_End_F t0 line1 → K (.tup [.v (.int .i64) r.1, .v (.int .i64) r.2]) []) : lines_End_raw t0 line1 K := by
  unfold lines_End_raw
  unfold lines_End_P at hp
  intro r1 hr1
  subst r1
  intro _
  refine brb (fun c_1 => ?_) (fun c_1 => ?_)
  ·
    clear hp
    have e := h _ ((ctrue c_1) : lines_End_F t0 line1 = _).symm
    exact e
  ·
    replace hp := cF c_1 hp
    refine ⟨hp, ?_⟩
    intro r2 hr2
    subst r2
    intro _
    have e := h _ ((cfalse c_1) : lines_End_F t0 line1 = _).symm
    exact e
def lines_End_C (v : valsA lines_End_A) (K : Res → List Cell → Prop) : Prop := lines_End_P v.1 v.2.1 ∧ ∀ r : Int × Int, r = lines_End_F v.1 v.2.1 → K (.tup [.v (.int .i64) r.1, .v (.int .i64) r.2]) []
def lines_End_S : App := specW lines_End_A lines_End_C
theorem lines_End_wv (K : Res → List Cell → Prop) : ∀ v : valsA lines_End_A, runF tb (getG lines_End_G) [] Tryd.f118 [true, true] (mkA lines_End_A v) K = lines_End_raw v.1 v.2.1 K
  | (t0, line1, ()) => lines_End_walk t0 line1 K
set_option maxRecDepth 20000 in
theorem lines_End_ok : AppOk Tryd.prog 118 lines_End_S :=
  AppOk.specW (spec_ok ((runF_ok tb_M tb_ok lines_End_Gok (LabsOk.nil) (f := 118) (fn := Tryd.f118) (by kernel_rfl) (by kernel_rfl) (by kernel_rfl) [true, true])) fun v K hw h => (lines_End_wv K v).mpr (lines_End_sp v.1 v.2.1 K hw h.1 h.2))
theorem lines_End_any (t : List Int) (n : Int) : lines_End_P t n := by
  unfold lines_End_P lines_tail_P
  dsimp only
  have := lines_Start_F_le t n
  cases !decide ((lines_Start_F t n).2 = 0)
  · exact this
  · trivial

end Go.VE
namespace Go.VE
open Go Go.Proofs
/-! ### (quoin/oper.job).changed -/
def oj_changed_G : List (Nat × App) := [(137, oj_taken_S), (31, lines_Start_S), (118, lines_End_S), (64, oper_edited_S)]
theorem oj_changed_Gok : GOk Tryd.prog (getG oj_changed_G) := GOk.cons oj_taken_ok (GOk.cons lines_Start_ok (GOk.cons lines_End_ok (GOk.cons oper_edited_ok (GOk.nil))))
theorem oj_changed_st : storesC (bodyOf Tryd.f104) = true := by kernel_rfl
def oj_changed_d0 : List LS := [.b 1 8 [], .b 2 16 [], .b 4 32 [], .c 8 JbT, .c 16 EfT, .c 32 EfT]
def oj_changed_d0r : List LS := [.b 2 16 [], .v 3 (.int .i64), .c 16 EfT]
def oj_changed_dx0 : DX := ⟨none, some oj_changed_d0r, []⟩
def oj_changed_J0 (kr : Int → EfD → Prop) (j1b : JbD) (x2b : EfD) (x4b : EfD) : Prop :=
 bif j1b.2.2.1.2.2.1 then
 ∀ (r2 : Int × Int), r2 = lines_Start_F j1b.1 j1b.2.2.2.1 → (
 wfR (.tup [.v (.int .i64) r2.1, .v (.int .i64) r2.2]) → (
 lines_End_P j1b.1 j1b.2.2.2.2.1 ∧ (
 ∀ (r3 : Int × Int), r3 = lines_End_F j1b.1 j1b.2.2.2.2.1 → (
 wfR (.tup [.v (.int .i64) r3.1, .v (.int .i64) r3.2]) → (
 oper_edited_P j1b.1 r2.1 r3.1 ([] : List Int) ∧ (
 ∀ (r4 : List ((Int × List Int × List Int))), r4 = oper_edited_F j1b.1 r2.1 r3.1 ([] : List Int) → (
 wfR (.one (.fr 95 (.st (.pair (.int .i64) (.pair (.sl (.int .u8)) (.sl (.int .u8))))) r4)) → (
 kr (0 : Int) (r4, r2.1, x4b.2.2.1, x4b.2.2.2.1, x4b.2.2.2.2)))))))))
 else
 oper_edited_P j1b.1 j1b.2.2.1.1 j1b.2.2.1.2.1 ([] : List Int) ∧ (
 ∀ (r5 : List ((Int × List Int × List Int))), r5 = oper_edited_F j1b.1 j1b.2.2.1.1 j1b.2.2.1.2.1 ([] : List Int) → (
 wfR (.one (.fr 95 (.st (.pair (.int .i64) (.pair (.sl (.int .u8)) (.sl (.int .u8))))) r5)) → (
 kr (0 : Int) (r5, x4b.2.1, x4b.2.2.1, x4b.2.2.2.1, x4b.2.2.2.2))))
theorem oj_changed_s0 (k : Ex → St → Prop) (j1b : JbD) (x2b : EfD) (x4b : EfD) :
    ex tb (getG oj_changed_G) [] (at' (bodyOf Tryd.f104) [1, 1, 1]) [1, 1, 1] (mkD 64 oj_changed_d0 (j1b, x2b, x4b, ())) (wk 64 oj_changed_dx0 k) =
    oj_changed_J0 (fun x3 x2b => wfD oj_changed_d0r (x3, x2b, ()) → k .ret (mkD 64 oj_changed_d0r (x3, x2b, ()))) j1b x2b x4b := by kernel_rfl
theorem oj_changed_v0 (k : Ex → St → Prop) : ∀ v : vals oj_changed_d0, ex tb (getG oj_changed_G) [] (at' (bodyOf Tryd.f104) [1, 1, 1]) [1, 1, 1] (mkD 64 oj_changed_d0 v) (wk 64 oj_changed_dx0 k) = oj_changed_J0 (fun x3 x2b => wfD oj_changed_d0r (x3, x2b, ()) → k .ret (mkD 64 oj_changed_d0r (x3, x2b, ()))) v.1 v.2.1 v.2.2.1
  | (j1b, x2b, x4b, ()) => oj_changed_s0 k j1b x2b x4b
def oj_changed_X0 : Pce := fun st k => ckD 64 oj_changed_d0 st fun v => wfD oj_changed_d0 v → oj_changed_J0 (fun x3 x2b => wfD oj_changed_d0r (x3, x2b, ()) → k .ret (mkD 64 oj_changed_d0r (x3, x2b, ()))) v.1 v.2.1 v.2.2.1
set_option maxRecDepth 20000 in
theorem oj_changed_x0 : SemOk Tryd.prog (at' (bodyOf Tryd.f104) [1, 1, 1]) oj_changed_X0 :=
  (SemOk.wk (N := 64) (ds := oj_changed_d0) (dx := oj_changed_dx0) (ex_sound tb_M tb_ok oj_changed_Gok (LabsOk.nil) (at' (bodyOf Tryd.f104) [1, 1, 1]) [1, 1, 1] rfl (storesC_at oj_changed_st [1, 1, 1]))).mono fun st k h => ckD_mono h fun v hv hw => Eq.mpr (oj_changed_v0 k v) (hv hw)
def oj_changed_B0 : Labs := ([1, 1, 1], oj_changed_X0) :: []
theorem oj_changed_b0 : LabsOk Tryd.prog (bodyOf Tryd.f104) oj_changed_B0 := LabsOk.cons oj_changed_x0 (LabsOk.nil)
def oj_changed_raw (j0 : JbD) (K : Res → List Cell → Prop) : Prop :=
 bif (decide (j0.2.2.1.1 < j0.2.2.1.2.1)) then
 oj_taken_P j0 ∧ (
 ∀ (r1 : (Bool × Bool × List Int) × Int), r1 = oj_taken_F j0 → (
 wfR (.tup [.v (.st (.pair (.bool) (.pair (.bool) (.sl (.int .u8))))) r1.1, .v (.int .i64) r1.2]) → (
 (wfD oj_changed_d0 (j0, (([] : List ((Int × List Int × List Int))), (0 : Int), (false, false, ([] : List Int)), (0 : Int), false), (([] : List ((Int × List Int × List Int))), j0.2.2.1.1, r1.1, r1.2, true), ()) → oj_changed_J0 (fun (x3 : Int) (x2b : EfD) => wfD oj_changed_d0r (x3, x2b, ()) → (
 K (.tup [.v EfT x2b, .v (.int .i64) x3]) [])) j0 (([] : List ((Int × List Int × List Int))), (0 : Int), (false, false, ([] : List Int)), (0 : Int), false) (([] : List ((Int × List Int × List Int))), j0.2.2.1.1, r1.1, r1.2, true)))))
 else
 bif j0.2.2.1.2.2.1 then
 oj_taken_P j0 ∧ (
 ∀ (r6 : (Bool × Bool × List Int) × Int), r6 = oj_taken_F j0 → (
 wfR (.tup [.v (.st (.pair (.bool) (.pair (.bool) (.sl (.int .u8))))) r6.1, .v (.int .i64) r6.2]) → (
 (wfD oj_changed_d0 (j0, (([] : List ((Int × List Int × List Int))), (0 : Int), (false, false, ([] : List Int)), (0 : Int), false), (([] : List ((Int × List Int × List Int))), j0.2.2.1.1, r6.1, r6.2, true), ()) → oj_changed_J0 (fun (x3 : Int) (x2b : EfD) => wfD oj_changed_d0r (x3, x2b, ()) → (
 K (.tup [.v EfT x2b, .v (.int .i64) x3]) [])) j0 (([] : List ((Int × List Int × List Int))), (0 : Int), (false, false, ([] : List Int)), (0 : Int), false) (([] : List ((Int × List Int × List Int))), j0.2.2.1.1, r6.1, r6.2, true)))))
 else
 (wfD oj_changed_d0 (j0, (([] : List ((Int × List Int × List Int))), (0 : Int), (false, false, ([] : List Int)), (0 : Int), false), (([] : List ((Int × List Int × List Int))), j0.2.2.1.1, (false, false, ([] : List Int)), (0 : Int), true), ()) → oj_changed_J0 (fun (x3 : Int) (x2b : EfD) => wfD oj_changed_d0r (x3, x2b, ()) → (
 K (.tup [.v EfT x2b, .v (.int .i64) x3]) [])) j0 (([] : List ((Int × List Int × List Int))), (0 : Int), (false, false, ([] : List Int)), (0 : Int), false) (([] : List ((Int × List Int × List Int))), j0.2.2.1.1, (false, false, ([] : List Int)), (0 : Int), true))
def oj_changed_A : List AS := [.v JbT]
theorem oj_changed_walk (j0 : JbD) (K : Res → List Cell → Prop) : runF tb (getG oj_changed_G) oj_changed_B0 Tryd.f104 [true, true] (mkA oj_changed_A (j0, ())) K = oj_changed_raw j0 K := by kernel_rfl

def oj_changed_J0_P (j1b : JbD) (x2b : EfD) (x4b : EfD) : Prop :=
 bif j1b.2.2.1.2.2.1 then
 let r2 : Int × Int := lines_Start_F j1b.1 j1b.2.2.2.1
 lines_End_P j1b.1 j1b.2.2.2.2.1 ∧ (
 let r3 : Int × Int := lines_End_F j1b.1 j1b.2.2.2.2.1
 oper_edited_P j1b.1 r2.1 r3.1 ([] : List Int))
 else
 oper_edited_P j1b.1 j1b.2.2.1.1 j1b.2.2.1.2.1 ([] : List Int)
def oj_changed_J0_F (j1b : JbD) (x2b : EfD) (x4b : EfD) : Int × EfD :=
 bif j1b.2.2.1.2.2.1 then
 let r2 : Int × Int := lines_Start_F j1b.1 j1b.2.2.2.1
 let r3 : Int × Int := lines_End_F j1b.1 j1b.2.2.2.2.1
 let r4 : List ((Int × List Int × List Int)) := oper_edited_F j1b.1 r2.1 r3.1 ([] : List Int)
 ((0 : Int), (r4, r2.1, x4b.2.2.1, x4b.2.2.2.1, x4b.2.2.2.2))
 else
 let r5 : List ((Int × List Int × List Int)) := oper_edited_F j1b.1 j1b.2.2.1.1 j1b.2.2.1.2.1 ([] : List Int)
 ((0 : Int), (r5, x4b.2.1, x4b.2.2.1, x4b.2.2.2.1, x4b.2.2.2.2))
set_option maxRecDepth 20000 in
theorem oj_changed_J0_sp (kr : Int → EfD → Prop) (j1b : JbD) (x2b : EfD) (x4b : EfD) (hp : oj_changed_J0_P j1b x2b x4b) (hr : ∀ q : Int × EfD, q = oj_changed_J0_F j1b x2b x4b → kr q.1 q.2) : oj_changed_J0 kr j1b x2b x4b := by
  unfold oj_changed_J0
  unfold oj_changed_J0_P at hp
  refine brb (fun c_1 => ?_) (fun c_1 => ?_)
  ·
    replace hp := cT c_1 hp
    intro r2 hr2
    subst r2
    intro _
    refine ⟨hp.1, ?_⟩
    replace hp := hp.2
    intro r3 hr3
    subst r3
    intro _
    refine ⟨hp, ?_⟩
    intro r4 hr4
    subst r4
    intro _
    have e := hr _ ((ctrue c_1) : oj_changed_J0_F j1b x2b x4b = _).symm
    exact e
  ·
    replace hp := cF c_1 hp
    refine ⟨hp, ?_⟩
    intro r5 hr5
    subst r5
    intro _
    have e := hr _ ((cfalse c_1) : oj_changed_J0_F j1b x2b x4b = _).symm
    exact e
def oj_changed_P (j0 : JbD) : Prop :=
 bif (decide (j0.2.2.1.1 < j0.2.2.1.2.1)) then
 oj_taken_P j0 ∧ (
 let r1 : (Bool × Bool × List Int) × Int := oj_taken_F j0
 oj_changed_J0_P j0 (([] : List ((Int × List Int × List Int))), (0 : Int), (false, false, ([] : List Int)), (0 : Int), false) (([] : List ((Int × List Int × List Int))), j0.2.2.1.1, r1.1, r1.2, true))
 else
 bif j0.2.2.1.2.2.1 then
 oj_taken_P j0 ∧ (
 let r6 : (Bool × Bool × List Int) × Int := oj_taken_F j0
 oj_changed_J0_P j0 (([] : List ((Int × List Int × List Int))), (0 : Int), (false, false, ([] : List Int)), (0 : Int), false) (([] : List ((Int × List Int × List Int))), j0.2.2.1.1, r6.1, r6.2, true))
 else
 oj_changed_J0_P j0 (([] : List ((Int × List Int × List Int))), (0 : Int), (false, false, ([] : List Int)), (0 : Int), false) (([] : List ((Int × List Int × List Int))), j0.2.2.1.1, (false, false, ([] : List Int)), (0 : Int), true)
def oj_changed_F (j0 : JbD) : EfD × Int :=
 bif (decide (j0.2.2.1.1 < j0.2.2.1.2.1)) then
 let r1 : (Bool × Bool × List Int) × Int := oj_taken_F j0
 let q0r : Int × EfD := oj_changed_J0_F j0 (([] : List ((Int × List Int × List Int))), (0 : Int), (false, false, ([] : List Int)), (0 : Int), false) (([] : List ((Int × List Int × List Int))), j0.2.2.1.1, r1.1, r1.2, true)
 let x3 : Int := q0r.1
 let x2b : EfD := q0r.2
 (x2b, x3)
 else
 bif j0.2.2.1.2.2.1 then
 let r6 : (Bool × Bool × List Int) × Int := oj_taken_F j0
 let q0r : Int × EfD := oj_changed_J0_F j0 (([] : List ((Int × List Int × List Int))), (0 : Int), (false, false, ([] : List Int)), (0 : Int), false) (([] : List ((Int × List Int × List Int))), j0.2.2.1.1, r6.1, r6.2, true)
 let x3 : Int := q0r.1
 let x2b : EfD := q0r.2
 (x2b, x3)
 else
 let q0r : Int × EfD := oj_changed_J0_F j0 (([] : List ((Int × List Int × List Int))), (0 : Int), (false, false, ([] : List Int)), (0 : Int), false) (([] : List ((Int × List Int × List Int))), j0.2.2.1.1, (false, false, ([] : List Int)), (0 : Int), true)
 let x3 : Int := q0r.1
 let x2b : EfD := q0r.2
 (x2b, x3)
set_option maxRecDepth 20000 in
theorem oj_changed_sp (j0 : JbD) (K : Res → List Cell → Prop) (_ : wfA oj_changed_A (j0, ())) (hp : oj_changed_P j0) (h : ∀ r : EfD × Int, r = oj_changed_F j0 → K (.tup [.v EfT r.1, .v (.int .i64) r.2]) []) : oj_changed_raw j0 K := by
  unfold oj_changed_raw
  unfold oj_changed_P at hp
  refine brb (fun c_2 => ?_) (fun c_2 => ?_)
  ·
    replace hp := cT c_2 hp
    refine ⟨hp.1, ?_⟩
    replace hp := hp.2
    intro r1 hr1
    subst r1
    intro _
    refine fun _ => oj_changed_J0_sp _ _ _ _ hp (fun q hq => ?_)
    subst hq
    intro _
    clear hp
    have e := h _ ((ctrue c_2) : oj_changed_F j0 = _).symm
    exact e
  ·
    replace hp := cF c_2 hp
    refine brb (fun c_3 => ?_) (fun c_3 => ?_)
    ·
      replace hp := cT c_3 hp
      refine ⟨hp.1, ?_⟩
      replace hp := hp.2
      intro r6 hr6
      subst r6
      intro _
      refine fun _ => oj_changed_J0_sp _ _ _ _ hp (fun q hq => ?_)
      subst hq
      intro _
      clear hp
      have e := h _ ((Eq.trans (cfalse c_2) (ctrue c_3)) : oj_changed_F j0 = _).symm
      exact e
    ·
      replace hp := cF c_3 hp
      refine fun _ => oj_changed_J0_sp _ _ _ _ hp (fun q hq => ?_)
      subst hq
      intro _
      clear hp
      have e := h _ ((Eq.trans (cfalse c_2) (cfalse c_3)) : oj_changed_F j0 = _).symm
      exact e
def oj_changed_C (v : valsA oj_changed_A) (K : Res → List Cell → Prop) : Prop := oj_changed_P v.1 ∧ ∀ r : EfD × Int, r = oj_changed_F v.1 → K (.tup [.v EfT r.1, .v (.int .i64) r.2]) []
def oj_changed_S : App := specW oj_changed_A oj_changed_C
theorem oj_changed_wv (K : Res → List Cell → Prop) : ∀ v : valsA oj_changed_A, runF tb (getG oj_changed_G) oj_changed_B0 Tryd.f104 [true, true] (mkA oj_changed_A v) K = oj_changed_raw v.1 K
  | (j0, ()) => oj_changed_walk j0 K
set_option maxRecDepth 20000 in
theorem oj_changed_ok : AppOk Tryd.prog 104 oj_changed_S :=
  AppOk.specW (spec_ok ((runF_ok tb_M tb_ok oj_changed_Gok (oj_changed_b0) (f := 104) (fn := Tryd.f104) (by kernel_rfl) (by kernel_rfl) oj_changed_st [true, true])) fun v K hw h => (oj_changed_wv K v).mpr (oj_changed_sp v.1 K hw h.1 h.2))

end Go.VE
namespace Go.VE
open Go Go.Proofs
/-! ### internal/bytealg.LastIndexByte -/
def ib_LastIndexByte_G : List (Nat × App) := []
theorem ib_LastIndexByte_Gok : GOk Tryd.prog (getG ib_LastIndexByte_G) := GOk.nil
theorem ib_LastIndexByte_st : storesC (bodyOf Tryd.f178) = true := by kernel_rfl
def ib_LastIndexByte_d0 : List LS := [.v 0 (.sl (.int .u8)), .v 1 (.int .u8), .v 5 (.int .i64)]
def ib_LastIndexByte_d0r : List LS := [.v 4 (.int .i64)]
def ib_LastIndexByte_d0x0 : List LS := []
def ib_LastIndexByte_dx0 : DX := ⟨none, some ib_LastIndexByte_d0r, [(0, ib_LastIndexByte_d0x0)]⟩
def ib_LastIndexByte_T0 (Y : List Int → Int → Int → Prop) (kr : Int → Prop) (kx0 : Prop) (s0 : List Int) (c1 : Int) (i5 : Int) : Prop :=
 bif (decide ((0 : Int) ≤ i5)) then
 bif decide (0 ≤ i5 ∧ i5 < (List.length s0 : Int)) then
 bif (decide ((rd (0 : Int) s0 i5) = c1)) then
 kr i5
 else
 Y s0 c1 (IntKind.wrap .i64 (i5 - (1 : Int)))
 else False
 else
 kx0
def ib_LastIndexByte_L0 (kr : Int → Prop) (kx0 : Prop) : Nat → List Int → Int → Int → Prop
  | 0, _, _, _ => False
  | n + 1, s0, c1, i5 => wfD ib_LastIndexByte_d0 (s0, c1, i5, ()) → ib_LastIndexByte_T0 (ib_LastIndexByte_L0 kr kx0 n) kr kx0 s0 c1 i5
theorem ib_LastIndexByte_s0 (k : Ex → St → Prop) (Y : vals ib_LastIndexByte_d0 → Prop) (s0 : List Int) (c1 : Int) (i5 : Int) :
    ex tb (getG ib_LastIndexByte_G) [] (at' (bodyOf Tryd.f178) [0, 0, 1, 0, 1]) [0, 0, 1, 0, 1] (mkD 20 ib_LastIndexByte_d0 (s0, c1, i5, ())) (lpK 20 ib_LastIndexByte_d0 ib_LastIndexByte_dx0 k Y) =
    ib_LastIndexByte_T0 (fun s0 c1 i5 => Y (s0, c1, i5, ())) (fun x4 => wfD ib_LastIndexByte_d0r (x4, ()) → k .ret (mkD 20 ib_LastIndexByte_d0r (x4, ()))) (wfD ib_LastIndexByte_d0x0 () → k (.exit 0) (mkD 20 ib_LastIndexByte_d0x0 ())) s0 c1 i5 := by kernel_rfl
theorem ib_LastIndexByte_e0 (k : Ex → St → Prop) : ∀ (n : Nat) (s0 : List Int) (c1 : Int) (i5 : Int), lpD 20 ib_LastIndexByte_d0 ib_LastIndexByte_dx0 (ex tb (getG ib_LastIndexByte_G) [] (at' (bodyOf Tryd.f178) [0, 0, 1, 0, 1]) [0, 0, 1, 0, 1]) k n (s0, c1, i5, ()) = ib_LastIndexByte_L0 (fun x4 => wfD ib_LastIndexByte_d0r (x4, ()) → k .ret (mkD 20 ib_LastIndexByte_d0r (x4, ()))) (wfD ib_LastIndexByte_d0x0 () → k (.exit 0) (mkD 20 ib_LastIndexByte_d0x0 ())) n s0 c1 i5
  | 0, _, _, _ => rfl
  | n + 1, s0, c1, i5 => congrArg (fun Z : Prop => wfD ib_LastIndexByte_d0 (s0, c1, i5, ()) → Z) ((ib_LastIndexByte_s0 k (lpD 20 ib_LastIndexByte_d0 ib_LastIndexByte_dx0 (ex tb (getG ib_LastIndexByte_G) [] (at' (bodyOf Tryd.f178) [0, 0, 1, 0, 1]) [0, 0, 1, 0, 1]) k n) s0 c1 i5).trans (congrArg (fun Y => ib_LastIndexByte_T0 Y (fun x4 => wfD ib_LastIndexByte_d0r (x4, ()) → k .ret (mkD 20 ib_LastIndexByte_d0r (x4, ()))) (wfD ib_LastIndexByte_d0x0 () → k (.exit 0) (mkD 20 ib_LastIndexByte_d0x0 ())) s0 c1 i5) (funext fun s0 => funext fun c1 => funext fun i5 => ib_LastIndexByte_e0 k n s0 c1 i5)))
theorem ib_LastIndexByte_v0 (k : Ex → St → Prop) (n : Nat) : ∀ v : vals ib_LastIndexByte_d0, lpD 20 ib_LastIndexByte_d0 ib_LastIndexByte_dx0 (ex tb (getG ib_LastIndexByte_G) [] (at' (bodyOf Tryd.f178) [0, 0, 1, 0, 1]) [0, 0, 1, 0, 1]) k n v = ib_LastIndexByte_L0 (fun x4 => wfD ib_LastIndexByte_d0r (x4, ()) → k .ret (mkD 20 ib_LastIndexByte_d0r (x4, ()))) (wfD ib_LastIndexByte_d0x0 () → k (.exit 0) (mkD 20 ib_LastIndexByte_d0x0 ())) n v.1 v.2.1 v.2.2.1
  | (s0, c1, i5, ()) => ib_LastIndexByte_e0 k n s0 c1 i5
def ib_LastIndexByte_X0 : Pce := fun st k => ckD 20 ib_LastIndexByte_d0 st fun v => wfD ib_LastIndexByte_d0 v → ∃ n, ib_LastIndexByte_L0 (fun x4 => wfD ib_LastIndexByte_d0r (x4, ()) → k .ret (mkD 20 ib_LastIndexByte_d0r (x4, ()))) (wfD ib_LastIndexByte_d0x0 () → k (.exit 0) (mkD 20 ib_LastIndexByte_d0x0 ())) n v.1 v.2.1 v.2.2.1
set_option maxRecDepth 20000 in
theorem ib_LastIndexByte_x0 : SemOk Tryd.prog (at' (bodyOf Tryd.f178) [0, 1, 0, 1]) ib_LastIndexByte_X0 :=
  (SemOk.loop (ex_sound tb_M tb_ok ib_LastIndexByte_Gok (LabsOk.nil) (at' (bodyOf Tryd.f178) [0, 0, 1, 0, 1]) [0, 0, 1, 0, 1] rfl (storesC_at ib_LastIndexByte_st [0, 0, 1, 0, 1])) 20 ib_LastIndexByte_d0 ib_LastIndexByte_dx0).mono fun st k h => ckD_mono h fun v hv hw => (hv hw).elim fun n hn => ⟨n, Eq.mpr (ib_LastIndexByte_v0 k n v) hn⟩
def ib_LastIndexByte_B0 : Labs := ([0, 1, 0, 1], ib_LastIndexByte_X0) :: []
theorem ib_LastIndexByte_b0 : LabsOk Tryd.prog (bodyOf Tryd.f178) ib_LastIndexByte_B0 := LabsOk.cons ib_LastIndexByte_x0 (LabsOk.nil)
def ib_LastIndexByte_raw (s0 : List Int) (c1 : Int) (K : Res → List Cell → Prop) : Prop :=
 (wfD ib_LastIndexByte_d0 (s0, c1, (IntKind.wrap .i64 ((List.length s0 : Int) - (1 : Int))), ()) → ∃ n, ib_LastIndexByte_L0 (fun (x4 : Int) => wfD ib_LastIndexByte_d0r (x4, ()) → (
 K (.one (.v (.int .i64) x4)) [])) (wfD ib_LastIndexByte_d0x0 () → (
 K (.one (.v (.int .i64) (-1 : Int))) [])) n s0 c1 (IntKind.wrap .i64 ((List.length s0 : Int) - (1 : Int))))
def ib_LastIndexByte_A : List AS := [.v (.sl (.int .u8)), .v (.int .u8)]
theorem ib_LastIndexByte_walk (s0 : List Int) (c1 : Int) (K : Res → List Cell → Prop) : runF tb (getG ib_LastIndexByte_G) ib_LastIndexByte_B0 Tryd.f178 [true] (mkA ib_LastIndexByte_A (s0, c1, ())) K = ib_LastIndexByte_raw s0 c1 K := by kernel_rfl
--! pre 0
def lastUp (xs : List Int) (c : Int) : Nat → Int
  | 0 => -1
  | n + 1 => if rd (0 : Int) xs n = c then n else lastUp xs c n
theorem lastUp_le (xs : List Int) (c : Int) : ∀ n, -1 ≤ lastUp xs c n ∧ lastUp xs c n < n
  | 0 => by simp [lastUp]
  | n + 1 => by
    have := lastUp_le xs c n
    unfold lastUp
    split <;> omega
def ib_LastIndexByte_F (xs : List Int) (c : Int) : Int := lastUp xs c xs.length
theorem ib_LastIndexByte_l0 (kr : Int → Prop) (kx0 : Prop) (xs : List Int) (c : Int) (hx : xs.length ≤ 9223372036854775807) : ∀ (n m : Nat), n ≤ xs.length → n < m →
    (∀ i, i = lastUp xs c n → i ≠ -1 → kr i) → (lastUp xs c n = -1 → kx0) → ib_LastIndexByte_L0 kr kx0 m xs c ((n : Int) - 1)
  | _, 0, _, h, _, _ => absurd h (Nat.not_lt_zero _)
  | 0, m + 1, _, _, _, h2 => by
    intro _
    unfold ib_LastIndexByte_T0
    exact brn (fun h => by omega) (fun _ => h2 rfl)
  | n + 1, m + 1, hn, hm, h1, h2 => by
    intro _
    unfold ib_LastIndexByte_T0
    have e : ((n + 1 : Nat) : Int) - 1 = (n : Int) := by omega
    rw [e]
    refine brn (fun _ => asrt (by omega) (brn (fun h => h1 _ ?_ (by omega)) (fun h => ?_))) (fun h => absurd (by omega) h)
    · unfold lastUp; rw [if_pos h]
    · rw [wrap_i64 (by omega) (by omega)]
      have e2 : lastUp xs c (n + 1) = lastUp xs c n := by conv => lhs; unfold lastUp; rw [if_neg h]
      exact ib_LastIndexByte_l0 kr kx0 xs c hx n m (by omega) (by omega) (fun i hi => h1 i (by rw [e2]; exact hi)) (fun hi => h2 (by rw [e2]; exact hi))
theorem ib_LastIndexByte_sp (s : List Int) (c : Int) (K : Res → List Cell → Prop) (hw : wfA ib_LastIndexByte_A (s, c, ())) (h : ∀ r : Int, r = ib_LastIndexByte_F s c → K (.one (.v (.int .i64) r)) []) : ib_LastIndexByte_raw s c K := by
  have hs : s.length ≤ 9223372036854775807 := hw.1.1
  unfold ib_LastIndexByte_raw
  intro _
  rw [wrap_i64 (by omega) (by omega)]
  refine ⟨s.length + 1, ib_LastIndexByte_l0 _ _ s c hs s.length (s.length + 1) (Nat.le_refl _) (Nat.lt_succ_self _) (fun i hi _ _ => h i hi) (fun hi _ => h _ hi.symm)⟩

def ib_LastIndexByte_C (v : valsA ib_LastIndexByte_A) (K : Res → List Cell → Prop) : Prop := ∀ r : Int, r = ib_LastIndexByte_F v.1 v.2.1 → K (.one (.v (.int .i64) r)) []
def ib_LastIndexByte_S : App := specW ib_LastIndexByte_A ib_LastIndexByte_C
theorem ib_LastIndexByte_wv (K : Res → List Cell → Prop) : ∀ v : valsA ib_LastIndexByte_A, runF tb (getG ib_LastIndexByte_G) ib_LastIndexByte_B0 Tryd.f178 [true] (mkA ib_LastIndexByte_A v) K = ib_LastIndexByte_raw v.1 v.2.1 K
  | (s0, c1, ()) => ib_LastIndexByte_walk s0 c1 K
set_option maxRecDepth 20000 in
theorem ib_LastIndexByte_ok : AppOk Tryd.prog 178 ib_LastIndexByte_S :=
  AppOk.specW (spec_ok ((runF_ok tb_M tb_ok ib_LastIndexByte_Gok (ib_LastIndexByte_b0) (f := 178) (fn := Tryd.f178) (by kernel_rfl) (by kernel_rfl) ib_LastIndexByte_st [true])) fun v K hw h => (ib_LastIndexByte_wv K v).mpr (ib_LastIndexByte_sp v.1 v.2.1 K hw h))

end Go.VE
namespace Go.VE
open Go Go.Proofs
/-! ### bytes.LastIndexByte -/
def bytes_LastIndexByte_G : List (Nat × App) := [(178, ib_LastIndexByte_S)]
theorem bytes_LastIndexByte_Gok : GOk Tryd.prog (getG bytes_LastIndexByte_G) := GOk.cons ib_LastIndexByte_ok (GOk.nil)
def bytes_LastIndexByte_raw (s0 : List Int) (c1 : Int) (K : Res → List Cell → Prop) : Prop :=
 ∀ (r1 : Int), r1 = ib_LastIndexByte_F s0 c1 → (
 wfR (.one (.v (.int .i64) r1)) → (
 K (.one (.v (.int .i64) r1)) []))
def bytes_LastIndexByte_A : List AS := [.v (.sl (.int .u8)), .v (.int .u8)]
theorem bytes_LastIndexByte_walk (s0 : List Int) (c1 : Int) (K : Res → List Cell → Prop) : runF tb (getG bytes_LastIndexByte_G) [] Tryd.f177 [true] (mkA bytes_LastIndexByte_A (s0, c1, ())) K = bytes_LastIndexByte_raw s0 c1 K := by kernel_rfl

def bytes_LastIndexByte_F (s0 : List Int) (c1 : Int) : Int :=
 let r1 : Int := ib_LastIndexByte_F s0 c1
 r1
set_option maxRecDepth 20000 in
theorem bytes_LastIndexByte_sp (s0 : List Int) (c1 : Int) (K : Res → List Cell → Prop) (_ : wfA bytes_LastIndexByte_A (s0, c1, ())) (h : ∀ r : Int, r = bytes_LastIndexByte_F s0 c1 → K (.one (.v (.int .i64) r)) []) : bytes_LastIndexByte_raw s0 c1 K := by
  unfold bytes_LastIndexByte_raw
  intro r1 hr1
  subst r1
  intro _
  exact h _ rfl
def bytes_LastIndexByte_C (v : valsA bytes_LastIndexByte_A) (K : Res → List Cell → Prop) : Prop := ∀ r : Int, r = bytes_LastIndexByte_F v.1 v.2.1 → K (.one (.v (.int .i64) r)) []
def bytes_LastIndexByte_S : App := specW bytes_LastIndexByte_A bytes_LastIndexByte_C
theorem bytes_LastIndexByte_wv (K : Res → List Cell → Prop) : ∀ v : valsA bytes_LastIndexByte_A, runF tb (getG bytes_LastIndexByte_G) [] Tryd.f177 [true] (mkA bytes_LastIndexByte_A v) K = bytes_LastIndexByte_raw v.1 v.2.1 K
  | (s0, c1, ()) => bytes_LastIndexByte_walk s0 c1 K
set_option maxRecDepth 20000 in
theorem bytes_LastIndexByte_ok : AppOk Tryd.prog 177 bytes_LastIndexByte_S :=
  AppOk.specW (spec_ok ((runF_ok tb_M tb_ok bytes_LastIndexByte_Gok (LabsOk.nil) (f := 177) (fn := Tryd.f177) (by kernel_rfl) (by kernel_rfl) (by kernel_rfl) [true])) fun v K hw h => (bytes_LastIndexByte_wv K v).mpr (bytes_LastIndexByte_sp v.1 v.2.1 K hw h))

end Go.VE
namespace Go.VE
open Go Go.Proofs
/-! ### quoin/lines.head -/
def lines_head_G : List (Nat × App) := [(177, bytes_LastIndexByte_S)]
theorem lines_head_Gok : GOk Tryd.prog (getG lines_head_G) := GOk.cons bytes_LastIndexByte_ok (GOk.nil)
def lines_head_raw (t0 : List Int) (at1 : Int) (K : Res → List Cell → Prop) : Prop :=
 bif decide (0 ≤ at1 ∧ at1 ≤ (List.length t0 : Int)) then
 ∀ (r1 : Int), r1 = bytes_LastIndexByte_F (List.take (Int.toNat at1) t0) (10 : Int) → (
 wfR (.one (.v (.int .i64) r1)) → (
 K (.one (.v (.int .i64) (IntKind.wrap .i64 (r1 + (1 : Int))))) []))
 else False
def lines_head_A : List AS := [.v (.sl (.int .u8)), .v (.int .i64)]
theorem lines_head_walk (t0 : List Int) (at1 : Int) (K : Res → List Cell → Prop) : runF tb (getG lines_head_G) [] Tryd.f173 [true] (mkA lines_head_A (t0, at1, ())) K = lines_head_raw t0 at1 K := by kernel_rfl

def lines_head_P (t0 : List Int) (at1 : Int) : Prop :=
 (0 ≤ at1 ∧ at1 ≤ (List.length t0 : Int))
def lines_head_F (t0 : List Int) (at1 : Int) : Int :=
 let r1 : Int := bytes_LastIndexByte_F (List.take (Int.toNat at1) t0) (10 : Int)
 (IntKind.wrap .i64 (r1 + (1 : Int)))
set_option maxRecDepth 20000 in
theorem lines_head_sp (t0 : List Int) (at1 : Int) (K : Res → List Cell → Prop) (_ : wfA lines_head_A (t0, at1, ())) (hp : lines_head_P t0 at1) (h : ∀ r : Int, r = lines_head_F t0 at1 → K (.one (.v (.int .i64) r)) []) : lines_head_raw t0 at1 K := by
  unfold lines_head_raw
  unfold lines_head_P at hp
  refine asrt hp ?_
  intro r1 hr1
  subst r1
  intro _
  exact h _ rfl
def lines_head_C (v : valsA lines_head_A) (K : Res → List Cell → Prop) : Prop := lines_head_P v.1 v.2.1 ∧ ∀ r : Int, r = lines_head_F v.1 v.2.1 → K (.one (.v (.int .i64) r)) []
def lines_head_S : App := specW lines_head_A lines_head_C
theorem lines_head_wv (K : Res → List Cell → Prop) : ∀ v : valsA lines_head_A, runF tb (getG lines_head_G) [] Tryd.f173 [true] (mkA lines_head_A v) K = lines_head_raw v.1 v.2.1 K
  | (t0, at1, ()) => lines_head_walk t0 at1 K
set_option maxRecDepth 20000 in
theorem lines_head_ok : AppOk Tryd.prog 173 lines_head_S :=
  AppOk.specW (spec_ok ((runF_ok tb_M tb_ok lines_head_Gok (LabsOk.nil) (f := 173) (fn := Tryd.f173) (by kernel_rfl) (by kernel_rfl) (by kernel_rfl) [true])) fun v K hw h => (lines_head_wv K v).mpr (lines_head_sp v.1 v.2.1 K hw h.1 h.2))

end Go.VE
namespace Go.VE
open Go Go.Proofs
/-! ### quoin/lines.Column -/
def lines_Column_G : List (Nat × App) := [(98, lines_has_S), (173, lines_head_S)]
theorem lines_Column_Gok : GOk Tryd.prog (getG lines_Column_G) := GOk.cons lines_has_ok (GOk.cons lines_head_ok (GOk.nil))
def lines_Column_raw (t0 : List Int) (at1 : Int) (K : Res → List Cell → Prop) : Prop :=
 ∀ (r1 : Bool), r1 = lines_has_F t0 at1 → (
 wfR (.one (.v (.bool) r1)) → (
 bif (!r1) then
 K (.tup [.v (.int .i64) (0 : Int), .v (.int .i64) (2 : Int)]) []
 else
 lines_head_P t0 at1 ∧ (
 ∀ (r2 : Int), r2 = lines_head_F t0 at1 → (
 wfR (.one (.v (.int .i64) r2)) → (
 K (.tup [.v (.int .i64) (IntKind.wrap .i64 (at1 - r2)), .v (.int .i64) (0 : Int)]) [])))))
def lines_Column_A : List AS := [.v (.sl (.int .u8)), .v (.int .i64)]
theorem lines_Column_walk (t0 : List Int) (at1 : Int) (K : Res → List Cell → Prop) : runF tb (getG lines_Column_G) [] Tryd.f160 [true, true] (mkA lines_Column_A (t0, at1, ())) K = lines_Column_raw t0 at1 K := by kernel_rfl

def lines_Column_P (t0 : List Int) (at1 : Int) : Prop :=
 let r1 : Bool := lines_has_F t0 at1
 bif (!r1) then
 True
 else
 lines_head_P t0 at1
def lines_Column_F (t0 : List Int) (at1 : Int) : Int × Int :=
 let r1 : Bool := lines_has_F t0 at1
 bif (!r1) then
 ((0 : Int), (2 : Int))
 else
 let r2 : Int := lines_head_F t0 at1
 ((IntKind.wrap .i64 (at1 - r2)), (0 : Int))
set_option maxRecDepth 20000 in
theorem lines_Column_sp (t0 : List Int) (at1 : Int) (K : Res → List Cell → Prop) (_ : wfA lines_Column_A (t0, at1, ())) (hp : lines_Column_P t0 at1) (h : ∀ r : Int × Int, r = lines_Column_F t0 at1 → K (.tup [.v (.int .i64) r.1, .v (.int .i64) r.2]) []) : lines_Column_raw t0 at1 K := by
  unfold lines_Column_raw
  unfold lines_Column_P at hp
  intro r1 hr1
  subst r1
  intro _
  refine brb (fun c_1 => ?_) (fun c_1 => ?_)
  ·
    clear hp
    have e := h _ ((ctrue c_1) : lines_Column_F t0 at1 = _).symm
    exact e
  ·
    replace hp := cF c_1 hp
    refine ⟨hp, ?_⟩
    intro r2 hr2
    subst r2
    intro _
    have e := h _ ((cfalse c_1) : lines_Column_F t0 at1 = _).symm
    exact e
def lines_Column_C (v : valsA lines_Column_A) (K : Res → List Cell → Prop) : Prop := lines_Column_P v.1 v.2.1 ∧ ∀ r : Int × Int, r = lines_Column_F v.1 v.2.1 → K (.tup [.v (.int .i64) r.1, .v (.int .i64) r.2]) []
def lines_Column_S : App := specW lines_Column_A lines_Column_C
theorem lines_Column_wv (K : Res → List Cell → Prop) : ∀ v : valsA lines_Column_A, runF tb (getG lines_Column_G) [] Tryd.f160 [true, true] (mkA lines_Column_A v) K = lines_Column_raw v.1 v.2.1 K
  | (t0, at1, ()) => lines_Column_walk t0 at1 K
set_option maxRecDepth 20000 in
theorem lines_Column_ok : AppOk Tryd.prog 160 lines_Column_S :=
  AppOk.specW (spec_ok ((runF_ok tb_M tb_ok lines_Column_Gok (LabsOk.nil) (f := 160) (fn := Tryd.f160) (by kernel_rfl) (by kernel_rfl) (by kernel_rfl) [true, true])) fun v K hw h => (lines_Column_wv K v).mpr (lines_Column_sp v.1 v.2.1 K hw h.1 h.2))

end Go.VE
namespace Go.VE
open Go Go.Proofs
/-! ### quoin/lines.At -/
def lines_At_G : List (Nat × App) := [(31, lines_Start_S), (99, lines_tail_S)]
theorem lines_At_Gok : GOk Tryd.prog (getG lines_At_G) := GOk.cons lines_Start_ok (GOk.cons lines_tail_ok (GOk.nil))
def lines_At_raw (t0 : List Int) (line1 : Int) (column2 : Int) (K : Res → List Cell → Prop) : Prop :=
 ∀ (r1 : Int × Int), r1 = lines_Start_F t0 line1 → (
 wfR (.tup [.v (.int .i64) r1.1, .v (.int .i64) r1.2]) → (
 bif (!decide (r1.2 = (0 : Int))) then
 K (.tup [.v (.int .i64) (0 : Int), .v (.int .i64) (2 : Int)]) []
 else
 bif (decide (column2 < (-1 : Int))) then
 K (.tup [.v (.int .i64) (0 : Int), .v (.int .i64) (2 : Int)]) []
 else
 lines_tail_P t0 r1.1 ∧ (
 ∀ (r2 : Int), r2 = lines_tail_F t0 r1.1 → (
 wfR (.one (.v (.int .i64) r2)) → (
 bif (decide (column2 = (-1 : Int))) then
 K (.tup [.v (.int .i64) (mx r1.1 (IntKind.wrap .i64 (r2 - (1 : Int)))), .v (.int .i64) (0 : Int)]) []
 else
 bif (decide ((IntKind.wrap .i64 ((mx r1.1 (IntKind.wrap .i64 (r2 - (1 : Int)))) - r1.1)) < column2)) then
 K (.tup [.v (.int .i64) (mx r1.1 (IntKind.wrap .i64 (r2 - (1 : Int)))), .v (.int .i64) (0 : Int)]) []
 else
 K (.tup [.v (.int .i64) (IntKind.wrap .i64 (r1.1 + column2)), .v (.int .i64) (0 : Int)]) [])))))
def lines_At_A : List AS := [.v (.sl (.int .u8)), .v (.int .i64), .v (.int .i64)]
theorem lines_At_walk (t0 : List Int) (line1 : Int) (column2 : Int) (K : Res → List Cell → Prop) : runF tb (getG lines_At_G) [] Tryd.f161 [true, true] (mkA lines_At_A (t0, line1, column2, ())) K = lines_At_raw t0 line1 column2 K := by kernel_rfl

def lines_At_P (t0 : List Int) (line1 : Int) (column2 : Int) : Prop :=
 let r1 : Int × Int := lines_Start_F t0 line1
 bif (!decide (r1.2 = (0 : Int))) then
 True
 else
 bif (decide (column2 < (-1 : Int))) then
 True
 else
 lines_tail_P t0 r1.1
def lines_At_F (t0 : List Int) (line1 : Int) (column2 : Int) : Int × Int :=
 let r1 : Int × Int := lines_Start_F t0 line1
 bif (!decide (r1.2 = (0 : Int))) then
 ((0 : Int), (2 : Int))
 else
 bif (decide (column2 < (-1 : Int))) then
 ((0 : Int), (2 : Int))
 else
 let r2 : Int := lines_tail_F t0 r1.1
 bif (decide (column2 = (-1 : Int))) then
 ((mx r1.1 (IntKind.wrap .i64 (r2 - (1 : Int)))), (0 : Int))
 else
 bif (decide ((IntKind.wrap .i64 ((mx r1.1 (IntKind.wrap .i64 (r2 - (1 : Int)))) - r1.1)) < column2)) then
 ((mx r1.1 (IntKind.wrap .i64 (r2 - (1 : Int)))), (0 : Int))
 else
 ((IntKind.wrap .i64 (r1.1 + column2)), (0 : Int))
set_option maxRecDepth 20000 in
theorem lines_At_sp (t0 : List Int) (line1 : Int) (column2 : Int) (K : Res → List Cell → Prop) (_ : wfA lines_At_A (t0, line1, column2, ())) (hp : lines_At_P t0 line1 column2) (h : ∀ r : Int × Int, r = lines_At_F t0 line1 column2 → K (.tup [.v (.int .i64) r.1, .v (.int .i64) r.2]) []) : lines_At_raw t0 line1 column2 K := by
  unfold lines_At_raw
  unfold lines_At_P at hp
  intro r1 hr1
  subst r1
  intro _
  refine brb (fun c_1 => ?_) (fun c_1 => ?_)
  ·
    clear hp
    have e := h _ ((ctrue c_1) : lines_At_F t0 line1 column2 = _).symm
    exact e
  ·
    replace hp := cF c_1 hp
    refine brb (fun c_2 => ?_) (fun c_2 => ?_)
    ·
      clear hp
      have e := h _ ((Eq.trans (cfalse c_1) (ctrue c_2)) : lines_At_F t0 line1 column2 = _).symm
      exact e
    ·
      replace hp := cF c_2 hp
      refine ⟨hp, ?_⟩
      intro r2 hr2
      subst r2
      intro _
      refine brb (fun c_3 => ?_) (fun c_3 => ?_)
      ·
        have e := h _ ((Eq.trans (cfalse c_1) (Eq.trans (cfalse c_2) (ctrue c_3))) : lines_At_F t0 line1 column2 = _).symm
        exact e
      ·
        refine brb (fun c_4 => ?_) (fun c_4 => ?_)
        ·
          have e := h _ ((Eq.trans (cfalse c_1) (Eq.trans (cfalse c_2) (Eq.trans (cfalse c_3) (ctrue c_4)))) : lines_At_F t0 line1 column2 = _).symm
          exact e
        ·
          have e := h _ ((Eq.trans (cfalse c_1) (Eq.trans (cfalse c_2) (Eq.trans (cfalse c_3) (cfalse c_4)))) : lines_At_F t0 line1 column2 = _).symm
          exact e
def lines_At_C (v : valsA lines_At_A) (K : Res → List Cell → Prop) : Prop := lines_At_P v.1 v.2.1 v.2.2.1 ∧ ∀ r : Int × Int, r = lines_At_F v.1 v.2.1 v.2.2.1 → K (.tup [.v (.int .i64) r.1, .v (.int .i64) r.2]) []
def lines_At_S : App := specW lines_At_A lines_At_C
theorem lines_At_wv (K : Res → List Cell → Prop) : ∀ v : valsA lines_At_A, runF tb (getG lines_At_G) [] Tryd.f161 [true, true] (mkA lines_At_A v) K = lines_At_raw v.1 v.2.1 v.2.2.1 K
  | (t0, line1, column2, ()) => lines_At_walk t0 line1 column2 K
set_option maxRecDepth 20000 in
theorem lines_At_ok : AppOk Tryd.prog 161 lines_At_S :=
  AppOk.specW (spec_ok ((runF_ok tb_M tb_ok lines_At_Gok (LabsOk.nil) (f := 161) (fn := Tryd.f161) (by kernel_rfl) (by kernel_rfl) (by kernel_rfl) [true, true])) fun v K hw h => (lines_At_wv K v).mpr (lines_At_sp v.1 v.2.1 v.2.2.1 K hw h.1 h.2))

end Go.VE
namespace Go.VE
open Go Go.Proofs
/-! ### (quoin/oper.job).stay -/
def oj_stay_G : List (Nat × App) := [(160, lines_Column_S), (161, lines_At_S)]
theorem oj_stay_Gok : GOk Tryd.prog (getG oj_stay_G) := GOk.cons lines_Column_ok (GOk.cons lines_At_ok (GOk.nil))
def oj_stay_raw (j0 : JbD) (K : Res → List Cell → Prop) : Prop :=
 bif (!j0.2.2.1.2.2.1) then
 K (.one (.v (.int .i64) j0.2.2.1.1)) []
 else
 lines_Column_P j0.1 j0.2.1 ∧ (
 ∀ (r1 : Int × Int), r1 = lines_Column_F j0.1 j0.2.1 → (
 wfR (.tup [.v (.int .i64) r1.1, .v (.int .i64) r1.2]) → (
 lines_At_P j0.1 j0.2.2.2.1 r1.1 ∧ (
 ∀ (r2 : Int × Int), r2 = lines_At_F j0.1 j0.2.2.2.1 r1.1 → (
 wfR (.tup [.v (.int .i64) r2.1, .v (.int .i64) r2.2]) → (
 K (.one (.v (.int .i64) r2.1)) []))))))
def oj_stay_A : List AS := [.v JbT]
theorem oj_stay_walk (j0 : JbD) (K : Res → List Cell → Prop) : runF tb (getG oj_stay_G) [] Tryd.f138 [true] (mkA oj_stay_A (j0, ())) K = oj_stay_raw j0 K := by kernel_rfl

def oj_stay_P (j0 : JbD) : Prop :=
 bif (!j0.2.2.1.2.2.1) then
 True
 else
 lines_Column_P j0.1 j0.2.1 ∧ (
 let r1 : Int × Int := lines_Column_F j0.1 j0.2.1
 lines_At_P j0.1 j0.2.2.2.1 r1.1)
def oj_stay_F (j0 : JbD) : Int :=
 bif (!j0.2.2.1.2.2.1) then
 j0.2.2.1.1
 else
 let r1 : Int × Int := lines_Column_F j0.1 j0.2.1
 let r2 : Int × Int := lines_At_F j0.1 j0.2.2.2.1 r1.1
 r2.1
set_option maxRecDepth 20000 in
theorem oj_stay_sp (j0 : JbD) (K : Res → List Cell → Prop) (_ : wfA oj_stay_A (j0, ())) (hp : oj_stay_P j0) (h : ∀ r : Int, r = oj_stay_F j0 → K (.one (.v (.int .i64) r)) []) : oj_stay_raw j0 K := by
  unfold oj_stay_raw
  unfold oj_stay_P at hp
  refine brb (fun c_1 => ?_) (fun c_1 => ?_)
  ·
    clear hp
    exact h _ ((ctrue c_1) : oj_stay_F j0 = _).symm
  ·
    replace hp := cF c_1 hp
    refine ⟨hp.1, ?_⟩
    replace hp := hp.2
    intro r1 hr1
    subst r1
    intro _
    refine ⟨hp, ?_⟩
    intro r2 hr2
    subst r2
    intro _
    exact h _ ((cfalse c_1) : oj_stay_F j0 = _).symm
def oj_stay_C (v : valsA oj_stay_A) (K : Res → List Cell → Prop) : Prop := oj_stay_P v.1 ∧ ∀ r : Int, r = oj_stay_F v.1 → K (.one (.v (.int .i64) r)) []
def oj_stay_S : App := specW oj_stay_A oj_stay_C
theorem oj_stay_wv (K : Res → List Cell → Prop) : ∀ v : valsA oj_stay_A, runF tb (getG oj_stay_G) [] Tryd.f138 [true] (mkA oj_stay_A v) K = oj_stay_raw v.1 K
  | (j0, ()) => oj_stay_walk j0 K
set_option maxRecDepth 20000 in
theorem oj_stay_ok : AppOk Tryd.prog 138 oj_stay_S :=
  AppOk.specW (spec_ok ((runF_ok tb_M tb_ok oj_stay_Gok (LabsOk.nil) (f := 138) (fn := Tryd.f138) (by kernel_rfl) (by kernel_rfl) (by kernel_rfl) [true])) fun v K hw h => (oj_stay_wv K v).mpr (oj_stay_sp v.1 K hw h.1 h.2))

end Go.VE
namespace Go.VE
open Go Go.Proofs
/-! ### (quoin/oper.job).yanked -/
def oj_yanked_G : List (Nat × App) := [(137, oj_taken_S), (138, oj_stay_S)]
theorem oj_yanked_Gok : GOk Tryd.prog (getG oj_yanked_G) := GOk.cons oj_taken_ok (GOk.cons oj_stay_ok (GOk.nil))
def oj_yanked_raw (j0 : JbD) (K : Res → List Cell → Prop) : Prop :=
 oj_taken_P j0 ∧ (
 ∀ (r1 : (Bool × Bool × List Int) × Int), r1 = oj_taken_F j0 → (
 wfR (.tup [.v (.st (.pair (.bool) (.pair (.bool) (.sl (.int .u8))))) r1.1, .v (.int .i64) r1.2]) → (
 oj_stay_P j0 ∧ (
 ∀ (r2 : Int), r2 = oj_stay_F j0 → (
 wfR (.one (.v (.int .i64) r2)) → (
 K (.tup [.v EfT (([] : List ((Int × List Int × List Int))), r2, r1.1, (1 : Int), false), .v (.int .i64) (0 : Int)]) []))))))
def oj_yanked_A : List AS := [.v JbT]
theorem oj_yanked_walk (j0 : JbD) (K : Res → List Cell → Prop) : runF tb (getG oj_yanked_G) [] Tryd.f105 [true, true] (mkA oj_yanked_A (j0, ())) K = oj_yanked_raw j0 K := by kernel_rfl

def oj_yanked_P (j0 : JbD) : Prop :=
 oj_taken_P j0 ∧ (
 let r1 : (Bool × Bool × List Int) × Int := oj_taken_F j0
 oj_stay_P j0)
def oj_yanked_F (j0 : JbD) : EfD × Int :=
 let r1 : (Bool × Bool × List Int) × Int := oj_taken_F j0
 let r2 : Int := oj_stay_F j0
 ((([] : List ((Int × List Int × List Int))), r2, r1.1, (1 : Int), false), (0 : Int))
set_option maxRecDepth 20000 in
theorem oj_yanked_sp (j0 : JbD) (K : Res → List Cell → Prop) (_ : wfA oj_yanked_A (j0, ())) (hp : oj_yanked_P j0) (h : ∀ r : EfD × Int, r = oj_yanked_F j0 → K (.tup [.v EfT r.1, .v (.int .i64) r.2]) []) : oj_yanked_raw j0 K := by
  unfold oj_yanked_raw
  unfold oj_yanked_P at hp
  refine ⟨hp.1, ?_⟩
  replace hp := hp.2
  intro r1 hr1
  subst r1
  intro _
  refine ⟨hp, ?_⟩
  intro r2 hr2
  subst r2
  intro _
  exact h _ rfl
def oj_yanked_C (v : valsA oj_yanked_A) (K : Res → List Cell → Prop) : Prop := oj_yanked_P v.1 ∧ ∀ r : EfD × Int, r = oj_yanked_F v.1 → K (.tup [.v EfT r.1, .v (.int .i64) r.2]) []
def oj_yanked_S : App := specW oj_yanked_A oj_yanked_C
theorem oj_yanked_wv (K : Res → List Cell → Prop) : ∀ v : valsA oj_yanked_A, runF tb (getG oj_yanked_G) [] Tryd.f105 [true, true] (mkA oj_yanked_A v) K = oj_yanked_raw v.1 K
  | (j0, ()) => oj_yanked_walk j0 K
set_option maxRecDepth 20000 in
theorem oj_yanked_ok : AppOk Tryd.prog 105 oj_yanked_S :=
  AppOk.specW (spec_ok ((runF_ok tb_M tb_ok oj_yanked_Gok (LabsOk.nil) (f := 105) (fn := Tryd.f105) (by kernel_rfl) (by kernel_rfl) (by kernel_rfl) [true, true])) fun v K hw h => (oj_yanked_wv K v).mpr (oj_yanked_sp v.1 K hw h.1 h.2))

end Go.VE
namespace Go.VE
open Go Go.Proofs
def bytes_explode_A : List AS := []
def bytes_explode_S : App := specW bytes_explode_A fun _ _ => False
theorem bytes_explode_ok : AppOk Tryd.prog 143 bytes_explode_S := AppOk.never
end Go.VE
namespace Go.VE
open Go Go.Proofs
/-! ### bytes.genSplit -/
def bytes_genSplit_G : List (Nat × App) := [(143, bytes_explode_S), (68, bytes_Count_S), (102, bytes_Index_S)]
theorem bytes_genSplit_Gok : GOk Tryd.prog (getG bytes_genSplit_G) := GOk.cons bytes_explode_ok (GOk.cons bytes_Count_ok (GOk.cons bytes_Index_ok (GOk.nil)))
theorem bytes_genSplit_st : storesC (bodyOf Tryd.f116) = true := by kernel_rfl
def bytes_genSplit_d0 : List LS := [.v 0 (.sl (.int .u8)), .v 1 (.sl (.int .u8)), .v 2 (.int .i64), .v 3 (.int .i64), .o 9 77 22 (.sl (.int .u8)), .v 10 (.int .i64)]
def bytes_genSplit_d0x0 : List LS := [.v 0 (.sl (.int .u8)), .o 9 77 22 (.sl (.int .u8)), .v 10 (.int .i64)]
def bytes_genSplit_dx0 : DX := ⟨none, none, [(0, bytes_genSplit_d0x0)]⟩
def bytes_genSplit_T0 (Y : List Int → List Int → Int → Int → List (List Int) → Int → Prop) (kx0 : List Int → List (List Int) → Int → Prop) (s0 : List Int) (sep1 : List Int) (sepSave2 : Int) (n3 : Int) (a9 : List (List Int)) (i10 : Int) : Prop :=
 bif (decide (i10 < n3)) then
 bytes_Index_P s0 sep1 ∧ (
 ∀ (r2 : Int), r2 = bytes_Index_F s0 sep1 → (
 wfR (.one (.v (.int .i64) r2)) → (
 bif (decide (r2 < (0 : Int))) then
 kx0 s0 a9 i10
 else
 bif decide (0 ≤ (IntKind.wrap .i64 (r2 + sepSave2)) ∧ (IntKind.wrap .i64 (r2 + sepSave2)) ≤ (IntKind.wrap .i64 (r2 + sepSave2)) ∧ (IntKind.wrap .i64 (r2 + sepSave2)) ≤ (List.length s0 : Int)) then
 bif decide (0 ≤ i10 ∧ i10 < (List.length a9 : Int)) then
 bif decide (0 ≤ (IntKind.wrap .i64 (r2 + (List.length sep1 : Int))) ∧ (IntKind.wrap .i64 (r2 + (List.length sep1 : Int))) ≤ (List.length s0 : Int)) then
 Y (List.drop (Int.toNat (IntKind.wrap .i64 (r2 + (List.length sep1 : Int)))) s0) sep1 sepSave2 n3 (List.set a9 (Int.toNat i10) (List.take (Int.toNat (IntKind.wrap .i64 (r2 + sepSave2))) s0)) (IntKind.wrap .i64 (i10 + (1 : Int)))
 else False
 else False
 else False)))
 else
 kx0 s0 a9 i10
def bytes_genSplit_L0 (kx0 : List Int → List (List Int) → Int → Prop) : Nat → List Int → List Int → Int → Int → List (List Int) → Int → Prop
  | 0, _, _, _, _, _, _ => False
  | n + 1, s0, sep1, sepSave2, n3, a9, i10 => wfD bytes_genSplit_d0 (s0, sep1, sepSave2, n3, a9, i10, ()) → bytes_genSplit_T0 (bytes_genSplit_L0 kx0 n) kx0 s0 sep1 sepSave2 n3 a9 i10
theorem bytes_genSplit_s0 (k : Ex → St → Prop) (Y : vals bytes_genSplit_d0 → Prop) (s0 : List Int) (sep1 : List Int) (sepSave2 : Int) (n3 : Int) (a9 : List (List Int)) (i10 : Int) :
    ex tb (getG bytes_genSplit_G) [] (at' (bodyOf Tryd.f116) [0, 0, 0, 1, 1, 1, 1, 1, 1, 1, 1]) [0, 0, 0, 1, 1, 1, 1, 1, 1, 1, 1] (mkD 70 bytes_genSplit_d0 (s0, sep1, sepSave2, n3, a9, i10, ())) (lpK 70 bytes_genSplit_d0 bytes_genSplit_dx0 k Y) =
    bytes_genSplit_T0 (fun s0 sep1 sepSave2 n3 a9 i10 => Y (s0, sep1, sepSave2, n3, a9, i10, ())) (fun s0 a9 i10 => wfD bytes_genSplit_d0x0 (s0, a9, i10, ()) → k (.exit 0) (mkD 70 bytes_genSplit_d0x0 (s0, a9, i10, ()))) s0 sep1 sepSave2 n3 a9 i10 := by kernel_rfl
theorem bytes_genSplit_e0 (k : Ex → St → Prop) : ∀ (n : Nat) (s0 : List Int) (sep1 : List Int) (sepSave2 : Int) (n3 : Int) (a9 : List (List Int)) (i10 : Int), lpD 70 bytes_genSplit_d0 bytes_genSplit_dx0 (ex tb (getG bytes_genSplit_G) [] (at' (bodyOf Tryd.f116) [0, 0, 0, 1, 1, 1, 1, 1, 1, 1, 1]) [0, 0, 0, 1, 1, 1, 1, 1, 1, 1, 1]) k n (s0, sep1, sepSave2, n3, a9, i10, ()) = bytes_genSplit_L0 (fun s0 a9 i10 => wfD bytes_genSplit_d0x0 (s0, a9, i10, ()) → k (.exit 0) (mkD 70 bytes_genSplit_d0x0 (s0, a9, i10, ()))) n s0 sep1 sepSave2 n3 a9 i10
  | 0, _, _, _, _, _, _ => rfl
  | n + 1, s0, sep1, sepSave2, n3, a9, i10 => congrArg (fun Z : Prop => wfD bytes_genSplit_d0 (s0, sep1, sepSave2, n3, a9, i10, ()) → Z) ((bytes_genSplit_s0 k (lpD 70 bytes_genSplit_d0 bytes_genSplit_dx0 (ex tb (getG bytes_genSplit_G) [] (at' (bodyOf Tryd.f116) [0, 0, 0, 1, 1, 1, 1, 1, 1, 1, 1]) [0, 0, 0, 1, 1, 1, 1, 1, 1, 1, 1]) k n) s0 sep1 sepSave2 n3 a9 i10).trans (congrArg (fun Y => bytes_genSplit_T0 Y (fun s0 a9 i10 => wfD bytes_genSplit_d0x0 (s0, a9, i10, ()) → k (.exit 0) (mkD 70 bytes_genSplit_d0x0 (s0, a9, i10, ()))) s0 sep1 sepSave2 n3 a9 i10) (funext fun s0 => funext fun sep1 => funext fun sepSave2 => funext fun n3 => funext fun a9 => funext fun i10 => bytes_genSplit_e0 k n s0 sep1 sepSave2 n3 a9 i10)))
theorem bytes_genSplit_v0 (k : Ex → St → Prop) (n : Nat) : ∀ v : vals bytes_genSplit_d0, lpD 70 bytes_genSplit_d0 bytes_genSplit_dx0 (ex tb (getG bytes_genSplit_G) [] (at' (bodyOf Tryd.f116) [0, 0, 0, 1, 1, 1, 1, 1, 1, 1, 1]) [0, 0, 0, 1, 1, 1, 1, 1, 1, 1, 1]) k n v = bytes_genSplit_L0 (fun s0 a9 i10 => wfD bytes_genSplit_d0x0 (s0, a9, i10, ()) → k (.exit 0) (mkD 70 bytes_genSplit_d0x0 (s0, a9, i10, ()))) n v.1 v.2.1 v.2.2.1 v.2.2.2.1 v.2.2.2.2.1 v.2.2.2.2.2.1
  | (s0, sep1, sepSave2, n3, a9, i10, ()) => bytes_genSplit_e0 k n s0 sep1 sepSave2 n3 a9 i10
def bytes_genSplit_X0 : Pce := fun st k => ckD 70 bytes_genSplit_d0 st fun v => wfD bytes_genSplit_d0 v → ∃ n, bytes_genSplit_L0 (fun s0 a9 i10 => wfD bytes_genSplit_d0x0 (s0, a9, i10, ()) → k (.exit 0) (mkD 70 bytes_genSplit_d0x0 (s0, a9, i10, ()))) n v.1 v.2.1 v.2.2.1 v.2.2.2.1 v.2.2.2.2.1 v.2.2.2.2.2.1
set_option maxRecDepth 20000 in
theorem bytes_genSplit_x0 : SemOk Tryd.prog (at' (bodyOf Tryd.f116) [0, 0, 1, 1, 1, 1, 1, 1, 1, 1]) bytes_genSplit_X0 :=
  (SemOk.loop (ex_sound tb_M tb_ok bytes_genSplit_Gok (LabsOk.nil) (at' (bodyOf Tryd.f116) [0, 0, 0, 1, 1, 1, 1, 1, 1, 1, 1]) [0, 0, 0, 1, 1, 1, 1, 1, 1, 1, 1] rfl (storesC_at bytes_genSplit_st [0, 0, 0, 1, 1, 1, 1, 1, 1, 1, 1])) 70 bytes_genSplit_d0 bytes_genSplit_dx0).mono fun st k h => ckD_mono h fun v hv hw => (hv hw).elim fun n hn => ⟨n, Eq.mpr (bytes_genSplit_v0 k n v) hn⟩
def bytes_genSplit_B0 : Labs := ([0, 0, 1, 1, 1, 1, 1, 1, 1, 1], bytes_genSplit_X0) :: []
theorem bytes_genSplit_b0 : LabsOk Tryd.prog (bodyOf Tryd.f116) bytes_genSplit_B0 := LabsOk.cons bytes_genSplit_x0 (LabsOk.nil)
def bytes_genSplit_d1 : List LS := [.v 0 (.sl (.int .u8)), .v 1 (.sl (.int .u8)), .v 2 (.int .i64), .v 3 (.int .i64)]
def bytes_genSplit_d1r : List LS := [.o 8 69 22 (.sl (.int .u8))]
def bytes_genSplit_dx1 : DX := ⟨none, some bytes_genSplit_d1r, []⟩
def bytes_genSplit_J1 (kr : List (List Int) → Prop) (s0 : List Int) (sep1 : List Int) (sepSave2 : Int) (n3 : Int) : Prop :=
 bif decide (0 ≤ (mn n3 (IntKind.wrap .i64 ((List.length s0 : Int) + (1 : Int)))) ∧ (mn n3 (IntKind.wrap .i64 ((List.length s0 : Int) + (1 : Int)))) = (mn n3 (IntKind.wrap .i64 ((List.length s0 : Int) + (1 : Int)))) ∧ (mn n3 (IntKind.wrap .i64 ((List.length s0 : Int) + (1 : Int)))) ≤ (lim : Int)) then
 (wfD bytes_genSplit_d0 (s0, sep1, sepSave2, (IntKind.wrap .i64 ((mn n3 (IntKind.wrap .i64 ((List.length s0 : Int) + (1 : Int)))) - (1 : Int))), (List.replicate (Int.toNat (mn n3 (IntKind.wrap .i64 ((List.length s0 : Int) + (1 : Int))))) ([] : List Int)), (0 : Int), ()) → ∃ n, bytes_genSplit_L0 (fun (s0 : List Int) (a9 : List (List Int)) (i10 : Int) => wfD bytes_genSplit_d0x0 (s0, a9, i10, ()) → (
 bif decide (0 ≤ i10 ∧ i10 < (List.length a9 : Int)) then
 bif decide (0 ≤ (IntKind.wrap .i64 (i10 + (1 : Int))) ∧ (IntKind.wrap .i64 (i10 + (1 : Int))) ≤ (List.length (List.set a9 (Int.toNat i10) s0) : Int)) then
 kr (List.take (Int.toNat (IntKind.wrap .i64 (i10 + (1 : Int)))) (List.set a9 (Int.toNat i10) s0))
 else False
 else False)) n s0 sep1 sepSave2 (IntKind.wrap .i64 ((mn n3 (IntKind.wrap .i64 ((List.length s0 : Int) + (1 : Int)))) - (1 : Int))) (List.replicate (Int.toNat (mn n3 (IntKind.wrap .i64 ((List.length s0 : Int) + (1 : Int))))) ([] : List Int)) (0 : Int))
 else False
theorem bytes_genSplit_s1 (k : Ex → St → Prop) (s0 : List Int) (sep1 : List Int) (sepSave2 : Int) (n3 : Int) :
    ex tb (getG bytes_genSplit_G) bytes_genSplit_B0 (at' (bodyOf Tryd.f116) [1, 1, 1, 1]) [1, 1, 1, 1] (mkD 70 bytes_genSplit_d1 (s0, sep1, sepSave2, n3, ())) (wk 70 bytes_genSplit_dx1 k) =
    bytes_genSplit_J1 (fun x8 => wfD bytes_genSplit_d1r (x8, ()) → k .ret (mkD 70 bytes_genSplit_d1r (x8, ()))) s0 sep1 sepSave2 n3 := by kernel_rfl
theorem bytes_genSplit_v1 (k : Ex → St → Prop) : ∀ v : vals bytes_genSplit_d1, ex tb (getG bytes_genSplit_G) bytes_genSplit_B0 (at' (bodyOf Tryd.f116) [1, 1, 1, 1]) [1, 1, 1, 1] (mkD 70 bytes_genSplit_d1 v) (wk 70 bytes_genSplit_dx1 k) = bytes_genSplit_J1 (fun x8 => wfD bytes_genSplit_d1r (x8, ()) → k .ret (mkD 70 bytes_genSplit_d1r (x8, ()))) v.1 v.2.1 v.2.2.1 v.2.2.2.1
  | (s0, sep1, sepSave2, n3, ()) => bytes_genSplit_s1 k s0 sep1 sepSave2 n3
def bytes_genSplit_X1 : Pce := fun st k => ckD 70 bytes_genSplit_d1 st fun v => wfD bytes_genSplit_d1 v → bytes_genSplit_J1 (fun x8 => wfD bytes_genSplit_d1r (x8, ()) → k .ret (mkD 70 bytes_genSplit_d1r (x8, ()))) v.1 v.2.1 v.2.2.1 v.2.2.2.1
set_option maxRecDepth 20000 in
theorem bytes_genSplit_x1 : SemOk Tryd.prog (at' (bodyOf Tryd.f116) [1, 1, 1, 1]) bytes_genSplit_X1 :=
  (SemOk.wk (N := 70) (ds := bytes_genSplit_d1) (dx := bytes_genSplit_dx1) (ex_sound tb_M tb_ok bytes_genSplit_Gok (bytes_genSplit_b0) (at' (bodyOf Tryd.f116) [1, 1, 1, 1]) [1, 1, 1, 1] rfl (storesC_at bytes_genSplit_st [1, 1, 1, 1]))).mono fun st k h => ckD_mono h fun v hv hw => Eq.mpr (bytes_genSplit_v1 k v) (hv hw)
def bytes_genSplit_B1 : Labs := ([1, 1, 1, 1], bytes_genSplit_X1) :: bytes_genSplit_B0
theorem bytes_genSplit_b1 : LabsOk Tryd.prog (bodyOf Tryd.f116) bytes_genSplit_B1 := LabsOk.cons bytes_genSplit_x1 (bytes_genSplit_b0)
def bytes_genSplit_raw (s0 : List Int) (sep1 : List Int) (sepSave2 : Int) (n3 : Int) (K : Res → List Cell → Prop) : Prop :=
 bif (decide (n3 = (0 : Int))) then
 K (.one (.fr 22 (.sl (.int .u8)) ([] : List (List Int)))) []
 else
 bif (decide ((List.length sep1 : Int) = (0 : Int))) then
 False
 else
 bif (decide (n3 < (0 : Int))) then
 bytes_Count_P s0 sep1 ∧ (
 ∀ (r1 : Int), r1 = bytes_Count_F s0 sep1 → (
 wfR (.one (.v (.int .i64) r1)) → (
 (wfD bytes_genSplit_d1 (s0, sep1, sepSave2, (IntKind.wrap .i64 (r1 + (1 : Int))), ()) → bytes_genSplit_J1 (fun (x8 : List (List Int)) => wfD bytes_genSplit_d1r (x8, ()) → (
 K (.one (.fr 22 (.sl (.int .u8)) x8)) [])) s0 sep1 sepSave2 (IntKind.wrap .i64 (r1 + (1 : Int)))))))
 else
 (wfD bytes_genSplit_d1 (s0, sep1, sepSave2, n3, ()) → bytes_genSplit_J1 (fun (x8 : List (List Int)) => wfD bytes_genSplit_d1r (x8, ()) → (
 K (.one (.fr 22 (.sl (.int .u8)) x8)) [])) s0 sep1 sepSave2 n3)
def bytes_genSplit_A : List AS := [.v (.sl (.int .u8)), .v (.sl (.int .u8)), .v (.int .i64), .v (.int .i64)]
theorem bytes_genSplit_walk (s0 : List Int) (sep1 : List Int) (sepSave2 : Int) (n3 : Int) (K : Res → List Cell → Prop) : runF tb (getG bytes_genSplit_G) bytes_genSplit_B1 Tryd.f116 [true] (mkA bytes_genSplit_A (s0, sep1, sepSave2, n3, ())) K = bytes_genSplit_raw s0 sep1 sepSave2 n3 K := by kernel_rfl
--! pre 1
def splN : Nat → List Int → List (List Int)
  | 0, s => [s]
  | n + 1, s => if idxB s 10 < 0 then [s] else s.take (idxB s 10).toNat :: splN n (s.drop ((idxB s 10).toNat + 1))
theorem idxB_in (s : List Int) (c : Int) (h : ¬ idxB s c < 0) : idxB s c < s.length := by
  unfold idxB at h ⊢
  by_cases hc : c ∈ s
  · rw [if_pos hc]; have := List.idxOf_lt_length_of_mem hc; omega
  · rw [if_neg hc] at h; omega
theorem take_set1 {α : Type} (a : List α) (s : α) (i : Nat) (h : i < a.length) : (a.set i s).take (i + 1) = a.take i ++ [s] := by
  rw [List.take_add_one, List.getElem?_set_self h, List.take_set_of_le (Nat.le_refl i)]; rfl
theorem splN_len : ∀ (n : Nat) (s : List Int), 1 ≤ (splN n s).length ∧ (splN n s).length ≤ n + 1
  | 0, s => by simp [splN]
  | n + 1, s => by
    unfold splN
    split
    · simp
    · have := splN_len n (s.drop ((idxB s 10).toNat + 1))
      rw [List.length_cons]; omega
theorem splN_mem : ∀ (n : Nat) (s x : List Int), x ∈ splN n s → x.length ≤ s.length
  | 0, s, x, h => by simp [splN] at h; rw [h]; exact Nat.le_refl _
  | n + 1, s, x, h => by
    unfold splN at h
    split at h
    · simp at h; rw [h]; exact Nat.le_refl _
    · rcases List.mem_cons.1 h with h | h
      · rw [h, List.length_take]; omega
      · have := splN_mem n _ x h
        rw [List.length_drop] at this; omega
def bytes_genSplit_P (s sep : List Int) (save n : Int) : Prop := sep = [10] ∧ save = 0 ∧ n = -1 ∧ s.length < lim
def bytes_genSplit_F (s _ : List Int) (_ _ : Int) : List (List Int) := splN (s.count 10) s
theorem bytes_genSplit_l0 (kx0 : List Int → List (List Int) → Int → Prop) (N : Nat) (hN : N < 9223372036854775807) (R : List (List Int))
    (hk : ∀ (s : List Int) (a : List (List Int)) (i : Nat), i < a.length → i < R.length → (a.set i s).take (i + 1) = R → kx0 s a (i : Int)) :
    ∀ (n m i : Nat) (s : List Int) (a : List (List Int)), m < n → m + i = N → s.length ≤ 9223372036854775807 → a.length = N + 1 → a.take i ++ splN m s = R →
      bytes_genSplit_L0 kx0 n s [10] 0 (N : Int) a (i : Int)
  | 0, m, i, s, a, h, _, _, _, _ => absurd h (Nat.not_lt_zero _)
  | n + 1, m, i, s, a, h, hm, hs, ha, hR => by
    intro _
    unfold bytes_genSplit_T0
    have out : [s] = splN m s → kx0 s a (i : Int) := fun e => by
      rw [← e] at hR
      refine hk s a i (by omega) ?_ (by rw [← hR, take_set1 a s i (by omega)])
      rw [← hR, List.length_append, List.length_take, List.length_singleton]; omega
    refine brn (fun hlt => ?_) (fun hge => ?_)
    · obtain ⟨m, rfl⟩ : ∃ m', m = m' + 1 := ⟨m - 1, by omega⟩
      refine ⟨show bytes_Index_P s [10] from ⟨by decide, by decide⟩, fun r2 hr2 _ => ?_⟩
      replace hr2 : r2 = idxB s 10 := hr2
      subst r2
      refine brn (fun c1 => out (by rw [splN, if_pos c1])) (fun c1 => ?_)
      have hb := idxB_in s 10 c1
      rw [Int.add_zero, wrap_i64 (by omega) (by omega), show ((List.length [(10 : Int)] : Nat) : Int) = 1 from rfl, wrap_i64 (by omega) (by omega)]
      refine asrt ⟨by omega, by omega, by omega⟩ (asrt ⟨by omega, by omega⟩ (asrt ⟨by omega, by omega⟩ ?_))
      rw [wrap_i64 (by omega) (by omega), show (i : Int) + 1 = ((i + 1 : Nat) : Int) by omega]
      refine bytes_genSplit_l0 kx0 N hN R hk n m (i + 1) _ _ (by omega) (by omega) (by rw [List.length_drop]; omega) (by rw [List.length_set]; exact ha) ?_
      rw [← hR, splN, if_neg c1, Int.toNat_natCast, take_set1 a _ i (by omega), List.append_assoc, show (idxB s 10 + 1).toNat = (idxB s 10).toNat + 1 by omega]
      rfl
    · obtain rfl : m = 0 := by omega
      exact out rfl
theorem bytes_genSplit_sp (s sep : List Int) (save n : Int) (K : Res → List Cell → Prop) (_ : wfA bytes_genSplit_A (s, sep, save, n, ())) (hp : bytes_genSplit_P s sep save n) (h : ∀ r : List (List Int), r = bytes_genSplit_F s sep save n → K (.one (.fr 22 (.sl (.int .u8)) r)) []) : bytes_genSplit_raw s sep save n K := by
  obtain ⟨rfl, rfl, rfl, hl⟩ := hp
  have hlim : lim = 1099511627776 := rfl
  have hc := List.count_le_length (a := (10 : Int)) (l := s)
  unfold bytes_genSplit_raw
  refine brn (fun c => absurd c (by omega)) (fun _ => brn (fun c => absurd c (by decide)) (fun _ => brn (fun _ => ?_) (fun c => absurd (by omega) c)))
  refine ⟨rfl, fun r1 hr1 _ _ => ?_⟩
  replace hr1 : r1 = (s.count 10 : Int) := hr1
  subst r1
  unfold bytes_genSplit_J1
  have hmn : mn (IntKind.wrap .i64 ((s.count 10 : Int) + 1)) (IntKind.wrap .i64 ((List.length s : Int) + 1)) = (s.count 10 : Int) + 1 := by
    rw [wrap_i64 (by omega) (by omega), wrap_i64 (by omega) (by omega)]
    unfold mn
    by_cases c : ((List.length s : Int) + 1) < ((s.count 10 : Int) + 1)
    · omega
    · rw [decide_eq_false c]; rfl
  rw [hmn]
  refine asrt ⟨by omega, rfl, by omega⟩ fun _ => ?_
  rw [wrap_i64 (by omega) (by omega), show (s.count 10 : Int) + 1 - 1 = ((s.count 10 : Nat) : Int) by omega]
  have hR := splN_len (s.count 10) s
  refine ⟨_, bytes_genSplit_l0 _ (s.count 10) (by omega) (splN (s.count 10) s) (fun s' a i hi hi2 he _ => ?_) (s.count 10 + 1) (s.count 10) 0 s _ (Nat.lt_succ_self _) (by omega) (by omega) (by rw [List.length_replicate]; omega) rfl⟩
  rw [wrap_i64 (by omega) (by omega), List.length_set, Int.toNat_natCast, show ((i : Int) + 1).toNat = i + 1 by omega, he]
  exact asrt ⟨by omega, by omega⟩ (asrt ⟨by omega, by omega⟩ (fun _ => h _ rfl))

def bytes_genSplit_C (v : valsA bytes_genSplit_A) (K : Res → List Cell → Prop) : Prop := bytes_genSplit_P v.1 v.2.1 v.2.2.1 v.2.2.2.1 ∧ ∀ r : List (List Int), r = bytes_genSplit_F v.1 v.2.1 v.2.2.1 v.2.2.2.1 → K (.one (.fr 22 (.sl (.int .u8)) r)) []
def bytes_genSplit_S : App := specW bytes_genSplit_A bytes_genSplit_C
theorem bytes_genSplit_wv (K : Res → List Cell → Prop) : ∀ v : valsA bytes_genSplit_A, runF tb (getG bytes_genSplit_G) bytes_genSplit_B1 Tryd.f116 [true] (mkA bytes_genSplit_A v) K = bytes_genSplit_raw v.1 v.2.1 v.2.2.1 v.2.2.2.1 K
  | (s0, sep1, sepSave2, n3, ()) => bytes_genSplit_walk s0 sep1 sepSave2 n3 K
set_option maxRecDepth 20000 in
theorem bytes_genSplit_ok : AppOk Tryd.prog 116 bytes_genSplit_S :=
  AppOk.specW (spec_ok ((runF_ok tb_M tb_ok bytes_genSplit_Gok (bytes_genSplit_b1) (f := 116) (fn := Tryd.f116) (by kernel_rfl) (by kernel_rfl) bytes_genSplit_st [true])) fun v K hw h => (bytes_genSplit_wv K v).mpr (bytes_genSplit_sp v.1 v.2.1 v.2.2.1 v.2.2.2.1 K hw h.1 h.2))

end Go.VE
namespace Go.VE
open Go Go.Proofs
/-! ### bytes.Split -/
def bytes_Split_G : List (Nat × App) := [(116, bytes_genSplit_S)]
theorem bytes_Split_Gok : GOk Tryd.prog (getG bytes_Split_G) := GOk.cons bytes_genSplit_ok (GOk.nil)
def bytes_Split_raw (s0 : List Int) (sep1 : List Int) (K : Res → List Cell → Prop) : Prop :=
 bytes_genSplit_P s0 sep1 (0 : Int) (-1 : Int) ∧ (
 ∀ (r1 : List (List Int)), r1 = bytes_genSplit_F s0 sep1 (0 : Int) (-1 : Int) → (
 wfR (.one (.fr 22 (.sl (.int .u8)) r1)) → (
 K (.one (.fr 22 (.sl (.int .u8)) r1)) [])))
def bytes_Split_A : List AS := [.v (.sl (.int .u8)), .v (.sl (.int .u8))]
theorem bytes_Split_walk (s0 : List Int) (sep1 : List Int) (K : Res → List Cell → Prop) : runF tb (getG bytes_Split_G) [] Tryd.f75 [true] (mkA bytes_Split_A (s0, sep1, ())) K = bytes_Split_raw s0 sep1 K := by kernel_rfl

def bytes_Split_P (s0 : List Int) (sep1 : List Int) : Prop :=
 bytes_genSplit_P s0 sep1 (0 : Int) (-1 : Int)
def bytes_Split_F (s0 : List Int) (sep1 : List Int) : List (List Int) :=
 let r1 : List (List Int) := bytes_genSplit_F s0 sep1 (0 : Int) (-1 : Int)
 r1
set_option maxRecDepth 20000 in
theorem bytes_Split_sp (s0 : List Int) (sep1 : List Int) (K : Res → List Cell → Prop) (_ : wfA bytes_Split_A (s0, sep1, ())) (hp : bytes_Split_P s0 sep1) (h : ∀ r : List (List Int), r = bytes_Split_F s0 sep1 → K (.one (.fr 22 (.sl (.int .u8)) r)) []) : bytes_Split_raw s0 sep1 K := by
  unfold bytes_Split_raw
  unfold bytes_Split_P at hp
  refine ⟨hp, ?_⟩
  intro r1 hr1
  subst r1
  intro _
  exact h _ rfl
def bytes_Split_C (v : valsA bytes_Split_A) (K : Res → List Cell → Prop) : Prop := bytes_Split_P v.1 v.2.1 ∧ ∀ r : List (List Int), r = bytes_Split_F v.1 v.2.1 → K (.one (.fr 22 (.sl (.int .u8)) r)) []
def bytes_Split_S : App := specW bytes_Split_A bytes_Split_C
theorem bytes_Split_wv (K : Res → List Cell → Prop) : ∀ v : valsA bytes_Split_A, runF tb (getG bytes_Split_G) [] Tryd.f75 [true] (mkA bytes_Split_A v) K = bytes_Split_raw v.1 v.2.1 K
  | (s0, sep1, ()) => bytes_Split_walk s0 sep1 K
set_option maxRecDepth 20000 in
theorem bytes_Split_ok : AppOk Tryd.prog 75 bytes_Split_S :=
  AppOk.specW (spec_ok ((runF_ok tb_M tb_ok bytes_Split_Gok (LabsOk.nil) (f := 75) (fn := Tryd.f75) (by kernel_rfl) (by kernel_rfl) (by kernel_rfl) [true])) fun v K hw h => (bytes_Split_wv K v).mpr (bytes_Split_sp v.1 v.2.1 K hw h.1 h.2))

end Go.VE
namespace Go.VE
open Go Go.Proofs
/-! ### quoin/lines.Split -/
def lines_Split_G : List (Nat × App) := [(75, bytes_Split_S), (60, bytes_Clone_S)]
theorem lines_Split_Gok : GOk Tryd.prog (getG lines_Split_G) := GOk.cons bytes_Split_ok (GOk.cons bytes_Clone_ok (GOk.nil))
theorem lines_Split_st : storesC (bodyOf Tryd.f35) = true := by kernel_rfl
def lines_Split_d0 : List LS := [.o 3 29 22 (.sl (.int .u8)), .o 8 69 22 (.sl (.int .u8)), .v 9 (.int .i64), .v 10 (.int .i64)]
def lines_Split_d0x0 : List LS := [.o 3 29 22 (.sl (.int .u8))]
def lines_Split_dx0 : DX := ⟨none, none, [(0, lines_Split_d0x0)]⟩
def lines_Split_T0 (Y : List (List Int) → List (List Int) → Int → Int → Prop) (kx0 : List (List Int) → Prop) (out3 : List (List Int)) (x8 : List (List Int)) (x9 : Int) (x10 : Int) : Prop :=
 bif (decide (x10 < x9)) then
 bif decide (0 ≤ x10 ∧ x10 < (List.length x8 : Int)) then
 bytes_Clone_P (rd ([] : List Int) x8 x10) ∧ (
 ∀ (r2 : List Int), r2 = bytes_Clone_F (rd ([] : List Int) x8 x10) → (
 wfR (.one (.fr 5 (.int .u8) r2)) → (
 bif decide (List.length out3 + List.length ([r2] : List (List Int)) ≤ lim) then
 Y (out3 ++ ([r2] : List (List Int))) x8 x9 (IntKind.wrap .i64 (x10 + (1 : Int)))
 else False)))
 else False
 else
 kx0 out3
def lines_Split_L0 (kx0 : List (List Int) → Prop) : Nat → List (List Int) → List (List Int) → Int → Int → Prop
  | 0, _, _, _, _ => False
  | n + 1, out3, x8, x9, x10 => wfD lines_Split_d0 (out3, x8, x9, x10, ()) → lines_Split_T0 (lines_Split_L0 kx0 n) kx0 out3 x8 x9 x10
theorem lines_Split_s0 (k : Ex → St → Prop) (Y : vals lines_Split_d0 → Prop) (out3 : List (List Int)) (x8 : List (List Int)) (x9 : Int) (x10 : Int) :
    ex tb (getG lines_Split_G) [] (at' (bodyOf Tryd.f35) [0, 0, 1, 0, 1, 1]) [0, 0, 1, 0, 1, 1] (mkD 21 lines_Split_d0 (out3, x8, x9, x10, ())) (lpK 21 lines_Split_d0 lines_Split_dx0 k Y) =
    lines_Split_T0 (fun out3 x8 x9 x10 => Y (out3, x8, x9, x10, ())) (fun out3 => wfD lines_Split_d0x0 (out3, ()) → k (.exit 0) (mkD 21 lines_Split_d0x0 (out3, ()))) out3 x8 x9 x10 := by kernel_rfl
theorem lines_Split_e0 (k : Ex → St → Prop) : ∀ (n : Nat) (out3 : List (List Int)) (x8 : List (List Int)) (x9 : Int) (x10 : Int), lpD 21 lines_Split_d0 lines_Split_dx0 (ex tb (getG lines_Split_G) [] (at' (bodyOf Tryd.f35) [0, 0, 1, 0, 1, 1]) [0, 0, 1, 0, 1, 1]) k n (out3, x8, x9, x10, ()) = lines_Split_L0 (fun out3 => wfD lines_Split_d0x0 (out3, ()) → k (.exit 0) (mkD 21 lines_Split_d0x0 (out3, ()))) n out3 x8 x9 x10
  | 0, _, _, _, _ => rfl
  | n + 1, out3, x8, x9, x10 => congrArg (fun Z : Prop => wfD lines_Split_d0 (out3, x8, x9, x10, ()) → Z) ((lines_Split_s0 k (lpD 21 lines_Split_d0 lines_Split_dx0 (ex tb (getG lines_Split_G) [] (at' (bodyOf Tryd.f35) [0, 0, 1, 0, 1, 1]) [0, 0, 1, 0, 1, 1]) k n) out3 x8 x9 x10).trans (congrArg (fun Y => lines_Split_T0 Y (fun out3 => wfD lines_Split_d0x0 (out3, ()) → k (.exit 0) (mkD 21 lines_Split_d0x0 (out3, ()))) out3 x8 x9 x10) (funext fun out3 => funext fun x8 => funext fun x9 => funext fun x10 => lines_Split_e0 k n out3 x8 x9 x10)))
theorem lines_Split_v0 (k : Ex → St → Prop) (n : Nat) : ∀ v : vals lines_Split_d0, lpD 21 lines_Split_d0 lines_Split_dx0 (ex tb (getG lines_Split_G) [] (at' (bodyOf Tryd.f35) [0, 0, 1, 0, 1, 1]) [0, 0, 1, 0, 1, 1]) k n v = lines_Split_L0 (fun out3 => wfD lines_Split_d0x0 (out3, ()) → k (.exit 0) (mkD 21 lines_Split_d0x0 (out3, ()))) n v.1 v.2.1 v.2.2.1 v.2.2.2.1
  | (out3, x8, x9, x10, ()) => lines_Split_e0 k n out3 x8 x9 x10
def lines_Split_X0 : Pce := fun st k => ckD 21 lines_Split_d0 st fun v => wfD lines_Split_d0 v → ∃ n, lines_Split_L0 (fun out3 => wfD lines_Split_d0x0 (out3, ()) → k (.exit 0) (mkD 21 lines_Split_d0x0 (out3, ()))) n v.1 v.2.1 v.2.2.1 v.2.2.2.1
set_option maxRecDepth 20000 in
theorem lines_Split_x0 : SemOk Tryd.prog (at' (bodyOf Tryd.f35) [0, 1, 0, 1, 1]) lines_Split_X0 :=
  (SemOk.loop (ex_sound tb_M tb_ok lines_Split_Gok (LabsOk.nil) (at' (bodyOf Tryd.f35) [0, 0, 1, 0, 1, 1]) [0, 0, 1, 0, 1, 1] rfl (storesC_at lines_Split_st [0, 0, 1, 0, 1, 1])) 21 lines_Split_d0 lines_Split_dx0).mono fun st k h => ckD_mono h fun v hv hw => (hv hw).elim fun n hn => ⟨n, Eq.mpr (lines_Split_v0 k n v) hn⟩
def lines_Split_B0 : Labs := ([0, 1, 0, 1, 1], lines_Split_X0) :: []
theorem lines_Split_b0 : LabsOk Tryd.prog (bodyOf Tryd.f35) lines_Split_B0 := LabsOk.cons lines_Split_x0 (LabsOk.nil)
def lines_Split_raw (t0 : List Int) (K : Res → List Cell → Prop) : Prop :=
 bytes_Split_P t0 ([(10 : Int)] : List Int) ∧ (
 ∀ (r1 : List (List Int)), r1 = bytes_Split_F t0 ([(10 : Int)] : List Int) → (
 wfR (.one (.fr 22 (.sl (.int .u8)) r1)) → (
 (wfD lines_Split_d0 (([] : List (List Int)), r1, (List.length r1 : Int), (0 : Int), ()) → ∃ n, lines_Split_L0 (fun (out3 : List (List Int)) => wfD lines_Split_d0x0 (out3, ()) → (
 K (.one (.fr 22 (.sl (.int .u8)) out3)) [])) n ([] : List (List Int)) r1 (List.length r1 : Int) (0 : Int)))))
def lines_Split_A : List AS := [.v (.sl (.int .u8))]
theorem lines_Split_walk (t0 : List Int) (K : Res → List Cell → Prop) : runF tb (getG lines_Split_G) lines_Split_B0 Tryd.f35 [true] (mkA lines_Split_A (t0, ())) K = lines_Split_raw t0 K := by kernel_rfl
--! pre 1
abbrev EffT := List (Int × List Int × List Int) × Int × (Bool × Bool × List Int) × Int × Bool
def headsL (g : List Int → Int × List Int) : List (List Int) → Int → Int → List (Int × List Int × List Int)
  | [], _, _ => []
  | l :: r, p, grown => if 0 < (g l).1 ∨ 0 < (g l).2.length then (p + grown, l.take (g l).1.toNat, (g l).2) :: headsL g r (p + ((l.length : Int) + 1)) (grown + (((g l).2.length : Int) - (g l).1)) else headsL g r (p + ((l.length : Int) + 1)) grown
def massH (g : List Int → Int × List Int) : List (List Int) → Nat
  | [] => 0
  | l :: r => l.length + 1 + (g l).2.length + massH g r
def lines_Split_P (t : List Int) : Prop := t.length < lim
def lines_Split_F (t : List Int) : List (List Int) := splN (t.count 10) t
theorem lines_Split_l0 (kx0 : List (List Int) → Prop) (t : List Int) (L : List (List Int)) (hL : L.length ≤ 1099511627776) (hm : ∀ x ∈ L, x.length ≤ 1099511627776) (hk : kx0 L) : ∀ (n i : Nat), L.length < n + i → i ≤ L.length →
    lines_Split_L0 kx0 n (L.take i) L (L.length : Int) (i : Int)
  | 0, i, h, h2 => by omega
  | n + 1, i, h, h2 => by
    intro _
    unfold lines_Split_T0
    have hlim : lim = 1099511627776 := rfl
    refine brn (fun hlt => asrt ⟨by omega, hlt⟩ ?_) (fun hge => ?_)
    · have hi : i < L.length := by omega
      rw [rd_nat _ _ _ hi]
      refine ⟨hm _ (List.getElem_mem hi), fun r hr _ => ?_⟩
      replace hr : r = L[i] := hr
      subst r
      refine asrt (by rw [List.length_take, List.length_singleton]; omega) ?_
      rw [wrap_i64 (by omega) (by omega), show (i : Int) + 1 = ((i + 1 : Nat) : Int) by omega, show L.take i ++ [L[i]] = L.take (i + 1) by rw [List.take_add_one, List.getElem?_eq_getElem hi]; rfl]
      exact lines_Split_l0 kx0 t L hL hm hk n (i + 1) (by omega) (by omega)
    · obtain rfl : i = L.length := by omega
      rw [List.take_length]; exact hk
theorem lines_Split_sp (t : List Int) (K : Res → List Cell → Prop) (_ : wfA lines_Split_A (t, ())) (hp : lines_Split_P t) (h : ∀ r : List (List Int), r = lines_Split_F t → K (.one (.fr 22 (.sl (.int .u8)) r)) []) : lines_Split_raw t K := by
  have hp' : t.length < 1099511627776 := hp
  have hc := List.count_le_length (a := (10 : Int)) (l := t)
  have hl := splN_len (t.count 10) t
  unfold lines_Split_raw
  refine ⟨show bytes_Split_P t [10] from ⟨rfl, rfl, rfl, hp⟩, fun r1 hr1 _ _ => ?_⟩
  replace hr1 : r1 = splN (t.count 10) t := hr1
  subst r1
  exact ⟨_, lines_Split_l0 _ t (splN (t.count 10) t) (by omega) (fun x hx => by have := splN_mem _ _ x hx; omega) (fun _ => h _ rfl) ((splN (t.count 10) t).length + 1) 0 (by omega) (Nat.zero_le _)⟩
def HeadsP (g : List Int → Int × List Int) (t : List Int) (a b : Int) : Prop :=
  t.length < lim ∧ 0 ≤ a ∧ a ≤ b + 1 ∧ b + 1 ≤ ((lines_Split_F t).length : Int) ∧ (∀ l ∈ slc (lines_Split_F t) a (b + 1), 0 ≤ (g l).1 ∧ (g l).1 ≤ (l.length : Int)) ∧ t.length + massH g (slc (lines_Split_F t) a (b + 1)) ≤ lim

def lines_Split_C (v : valsA lines_Split_A) (K : Res → List Cell → Prop) : Prop := lines_Split_P v.1 ∧ ∀ r : List (List Int), r = lines_Split_F v.1 → K (.one (.fr 22 (.sl (.int .u8)) r)) []
def lines_Split_S : App := specW lines_Split_A lines_Split_C
theorem lines_Split_wv (K : Res → List Cell → Prop) : ∀ v : valsA lines_Split_A, runF tb (getG lines_Split_G) lines_Split_B0 Tryd.f35 [true] (mkA lines_Split_A v) K = lines_Split_raw v.1 K
  | (t0, ()) => lines_Split_walk t0 K
set_option maxRecDepth 20000 in
theorem lines_Split_ok : AppOk Tryd.prog 35 lines_Split_S :=
  AppOk.specW (spec_ok ((runF_ok tb_M tb_ok lines_Split_Gok (lines_Split_b0) (f := 35) (fn := Tryd.f35) (by kernel_rfl) (by kernel_rfl) lines_Split_st [true])) fun v K hw h => (lines_Split_wv K v).mpr (lines_Split_sp v.1 K hw h.1 h.2))

end Go.VE
namespace Go.VE
open Go Go.Proofs
/-! ### math/bits.Mul64 -/
def math_bits_Mul64_G : List (Nat × App) := []
theorem math_bits_Mul64_Gok : GOk Tryd.prog (getG math_bits_Mul64_G) := GOk.nil
def math_bits_Mul64_raw (x0 : Int) (y1 : Int) (K : Res → List Cell → Prop) : Prop :=
 K (.tup [.v (.int .u64) (IntKind.wrap .u64 ((IntKind.wrap .u64 ((IntKind.wrap .u64 ((Int.fdiv x0 (2 ^ (min (Int.toNat (32 : Int)) (IntKind.bits .u64)))) * (Int.fdiv y1 (2 ^ (min (Int.toNat (32 : Int)) (IntKind.bits .u64)))))) + (Int.fdiv (IntKind.wrap .u64 ((IntKind.wrap .u64 ((Int.fdiv x0 (2 ^ (min (Int.toNat (32 : Int)) (IntKind.bits .u64)))) * (ibits .and .u64 y1 (4294967295 : Int)))) + (Int.fdiv (IntKind.wrap .u64 ((ibits .and .u64 x0 (4294967295 : Int)) * (ibits .and .u64 y1 (4294967295 : Int)))) (2 ^ (min (Int.toNat (32 : Int)) (IntKind.bits .u64)))))) (2 ^ (min (Int.toNat (32 : Int)) (IntKind.bits .u64)))))) + (Int.fdiv (IntKind.wrap .u64 ((ibits .and .u64 (IntKind.wrap .u64 ((IntKind.wrap .u64 ((Int.fdiv x0 (2 ^ (min (Int.toNat (32 : Int)) (IntKind.bits .u64)))) * (ibits .and .u64 y1 (4294967295 : Int)))) + (Int.fdiv (IntKind.wrap .u64 ((ibits .and .u64 x0 (4294967295 : Int)) * (ibits .and .u64 y1 (4294967295 : Int)))) (2 ^ (min (Int.toNat (32 : Int)) (IntKind.bits .u64)))))) (4294967295 : Int)) + (IntKind.wrap .u64 ((ibits .and .u64 x0 (4294967295 : Int)) * (Int.fdiv y1 (2 ^ (min (Int.toNat (32 : Int)) (IntKind.bits .u64)))))))) (2 ^ (min (Int.toNat (32 : Int)) (IntKind.bits .u64)))))), .v (.int .u64) (IntKind.wrap .u64 (x0 * y1))]) []
def math_bits_Mul64_A : List AS := [.v (.int .u64), .v (.int .u64)]
theorem math_bits_Mul64_walk (x0 : Int) (y1 : Int) (K : Res → List Cell → Prop) : runF tb (getG math_bits_Mul64_G) [] Tryd.f132 [true, true] (mkA math_bits_Mul64_A (x0, y1, ())) K = math_bits_Mul64_raw x0 y1 K := by kernel_rfl

def math_bits_Mul64_F (x0 : Int) (y1 : Int) : Int × Int :=
 ((IntKind.wrap .u64 ((IntKind.wrap .u64 ((IntKind.wrap .u64 ((Int.fdiv x0 (2 ^ (min (Int.toNat (32 : Int)) (IntKind.bits .u64)))) * (Int.fdiv y1 (2 ^ (min (Int.toNat (32 : Int)) (IntKind.bits .u64)))))) + (Int.fdiv (IntKind.wrap .u64 ((IntKind.wrap .u64 ((Int.fdiv x0 (2 ^ (min (Int.toNat (32 : Int)) (IntKind.bits .u64)))) * (ibits .and .u64 y1 (4294967295 : Int)))) + (Int.fdiv (IntKind.wrap .u64 ((ibits .and .u64 x0 (4294967295 : Int)) * (ibits .and .u64 y1 (4294967295 : Int)))) (2 ^ (min (Int.toNat (32 : Int)) (IntKind.bits .u64)))))) (2 ^ (min (Int.toNat (32 : Int)) (IntKind.bits .u64)))))) + (Int.fdiv (IntKind.wrap .u64 ((ibits .and .u64 (IntKind.wrap .u64 ((IntKind.wrap .u64 ((Int.fdiv x0 (2 ^ (min (Int.toNat (32 : Int)) (IntKind.bits .u64)))) * (ibits .and .u64 y1 (4294967295 : Int)))) + (Int.fdiv (IntKind.wrap .u64 ((ibits .and .u64 x0 (4294967295 : Int)) * (ibits .and .u64 y1 (4294967295 : Int)))) (2 ^ (min (Int.toNat (32 : Int)) (IntKind.bits .u64)))))) (4294967295 : Int)) + (IntKind.wrap .u64 ((ibits .and .u64 x0 (4294967295 : Int)) * (Int.fdiv y1 (2 ^ (min (Int.toNat (32 : Int)) (IntKind.bits .u64)))))))) (2 ^ (min (Int.toNat (32 : Int)) (IntKind.bits .u64)))))), (IntKind.wrap .u64 (x0 * y1)))
set_option maxRecDepth 20000 in
theorem math_bits_Mul64_sp (x0 : Int) (y1 : Int) (K : Res → List Cell → Prop) (_ : wfA math_bits_Mul64_A (x0, y1, ())) (h : ∀ r : Int × Int, r = math_bits_Mul64_F x0 y1 → K (.tup [.v (.int .u64) r.1, .v (.int .u64) r.2]) []) : math_bits_Mul64_raw x0 y1 K := by
  unfold math_bits_Mul64_raw
  exact h _ rfl
def math_bits_Mul64_C (v : valsA math_bits_Mul64_A) (K : Res → List Cell → Prop) : Prop := ∀ r : Int × Int, r = math_bits_Mul64_F v.1 v.2.1 → K (.tup [.v (.int .u64) r.1, .v (.int .u64) r.2]) []
def math_bits_Mul64_S : App := specW math_bits_Mul64_A math_bits_Mul64_C
theorem math_bits_Mul64_wv (K : Res → List Cell → Prop) : ∀ v : valsA math_bits_Mul64_A, runF tb (getG math_bits_Mul64_G) [] Tryd.f132 [true, true] (mkA math_bits_Mul64_A v) K = math_bits_Mul64_raw v.1 v.2.1 K
  | (x0, y1, ()) => math_bits_Mul64_walk x0 y1 K
set_option maxRecDepth 20000 in
theorem math_bits_Mul64_ok : AppOk Tryd.prog 132 math_bits_Mul64_S :=
  AppOk.specW (spec_ok ((runF_ok tb_M tb_ok math_bits_Mul64_Gok (LabsOk.nil) (f := 132) (fn := Tryd.f132) (by kernel_rfl) (by kernel_rfl) (by kernel_rfl) [true, true])) fun v K hw h => (math_bits_Mul64_wv K v).mpr (math_bits_Mul64_sp v.1 v.2.1 K hw h))
theorem and_mask {a : Int} (h0 : 0 ≤ a) (h1 : a < 18446744073709551616) : ibits .and .u64 a (4294967295 : Int) = a % 4294967296 := by
  obtain ⟨n, rfl⟩ := Int.eq_ofNat_of_zero_le h0
  have hn : n < 18446744073709551616 := by omega
  have e : (BitVec.ofInt 64 (n : Int) &&& BitVec.ofInt 64 4294967295).toNat = n % 4294967296 := by
    rw [BitVec.toNat_and]
    have e1 : (BitVec.ofInt 64 (n : Int)).toNat = n := by rw [BitVec.ofInt_natCast, BitVec.toNat_ofNat]; exact Nat.mod_eq_of_lt hn
    have e2 : (BitVec.ofInt 64 4294967295).toNat = 2 ^ 32 - 1 := by decide
    rw [e1, e2, Nat.and_two_pow_sub_one_eq_mod]
  show IntKind.wrap .u64 ((BitVec.ofInt 64 (n : Int) &&& BitVec.ofInt 64 4294967295).toNat : Int) = _
  rw [e, wrap_u64 (by omega) (by omega)]
  omega
theorem shr32 (a : Int) : Int.fdiv a (2 ^ (min (Int.toNat (32 : Int)) (IntKind.bits .u64))) = a / 4294967296 := by
  have e : (2 ^ (min (Int.toNat (32 : Int)) (IntKind.bits .u64)) : Int) = 4294967296 := by decide
  rw [e, Int.fdiv_eq_ediv_of_nonneg _ (by omega)]
theorem mul_small {a b : Int} (ha : 0 ≤ a) (ha' : a < 4294967296) (hb : 0 ≤ b) (hb' : b < 4294967296) : math_bits_Mul64_F a b = (0, a * b) := by
  have hab : 0 ≤ a * b := Int.mul_nonneg ha hb
  have hab' : a * b ≤ 4294967295 * 4294967295 := Int.le_trans (Int.mul_le_mul_of_nonneg_right (by omega) hb) (Int.mul_le_mul_of_nonneg_left (by omega) (by omega))
  unfold math_bits_Mul64_F
  simp only [shr32]
  have e1 : a / 4294967296 = 0 := by omega
  have e2 : b / 4294967296 = 0 := by omega
  have e3 : ibits .and .u64 a (4294967295 : Int) = a := by rw [and_mask ha (by omega)]; omega
  have e4 : ibits .and .u64 b (4294967295 : Int) = b := by rw [and_mask hb (by omega)]; omega
  rw [e1, e2, e3, e4, wrap_u64 (n := a * b) hab (by omega)]
  have e5 : IntKind.wrap .u64 (0 * b) = 0 := by rw [Int.zero_mul]; exact wrap_u64 (by omega) (by omega)
  have e6 : IntKind.wrap .u64 (a * 0) = 0 := by rw [Int.mul_zero]; exact wrap_u64 (by omega) (by omega)
  have e7 : IntKind.wrap .u64 (0 * 0) = 0 := by rw [Int.mul_zero]; exact wrap_u64 (by omega) (by omega)
  rw [e5, e6, e7]
  simp only [Int.zero_add, Int.add_zero]
  rw [wrap_u64 (n := a * b / 4294967296) (by omega) (by omega), and_mask (by omega) (by omega)]
  have e8 : a * b / 4294967296 / 4294967296 = 0 := by omega
  have e9 : a * b / 4294967296 % 4294967296 / 4294967296 = 0 := by omega
  rw [e8, wrap_u64 (n := a * b / 4294967296 % 4294967296) (by omega) (by omega), wrap_u64 (n := (0 : Int)) (by omega) (by omega), e9, wrap_u64 (by omega) (by omega)]
  rfl

end Go.VE
namespace Go.VE
open Go Go.Proofs
/-! ### math/bits.Mul -/
def math_bits_Mul_G : List (Nat × App) := [(132, math_bits_Mul64_S)]
theorem math_bits_Mul_Gok : GOk Tryd.prog (getG math_bits_Mul_G) := GOk.cons math_bits_Mul64_ok (GOk.nil)
def math_bits_Mul_raw (x0 : Int) (y1 : Int) (K : Res → List Cell → Prop) : Prop :=
 ∀ (r1 : Int × Int), r1 = math_bits_Mul64_F x0 y1 → (
 wfR (.tup [.v (.int .u64) r1.1, .v (.int .u64) r1.2]) → (
 K (.tup [.v (.int .u64) r1.1, .v (.int .u64) r1.2]) []))
def math_bits_Mul_A : List AS := [.v (.int .u64), .v (.int .u64)]
theorem math_bits_Mul_walk (x0 : Int) (y1 : Int) (K : Res → List Cell → Prop) : runF tb (getG math_bits_Mul_G) [] Tryd.f96 [true, true] (mkA math_bits_Mul_A (x0, y1, ())) K = math_bits_Mul_raw x0 y1 K := by kernel_rfl

def math_bits_Mul_F (x0 : Int) (y1 : Int) : Int × Int :=
 let r1 : Int × Int := math_bits_Mul64_F x0 y1
 (r1.1, r1.2)
set_option maxRecDepth 20000 in
theorem math_bits_Mul_sp (x0 : Int) (y1 : Int) (K : Res → List Cell → Prop) (_ : wfA math_bits_Mul_A (x0, y1, ())) (h : ∀ r : Int × Int, r = math_bits_Mul_F x0 y1 → K (.tup [.v (.int .u64) r.1, .v (.int .u64) r.2]) []) : math_bits_Mul_raw x0 y1 K := by
  unfold math_bits_Mul_raw
  intro r1 hr1
  subst r1
  intro _
  exact h _ rfl
def math_bits_Mul_C (v : valsA math_bits_Mul_A) (K : Res → List Cell → Prop) : Prop := ∀ r : Int × Int, r = math_bits_Mul_F v.1 v.2.1 → K (.tup [.v (.int .u64) r.1, .v (.int .u64) r.2]) []
def math_bits_Mul_S : App := specW math_bits_Mul_A math_bits_Mul_C
theorem math_bits_Mul_wv (K : Res → List Cell → Prop) : ∀ v : valsA math_bits_Mul_A, runF tb (getG math_bits_Mul_G) [] Tryd.f96 [true, true] (mkA math_bits_Mul_A v) K = math_bits_Mul_raw v.1 v.2.1 K
  | (x0, y1, ()) => math_bits_Mul_walk x0 y1 K
set_option maxRecDepth 20000 in
theorem math_bits_Mul_ok : AppOk Tryd.prog 96 math_bits_Mul_S :=
  AppOk.specW (spec_ok ((runF_ok tb_M tb_ok math_bits_Mul_Gok (LabsOk.nil) (f := 96) (fn := Tryd.f96) (by kernel_rfl) (by kernel_rfl) (by kernel_rfl) [true, true])) fun v K hw h => (math_bits_Mul_wv K v).mpr (math_bits_Mul_sp v.1 v.2.1 K hw h))

end Go.VE
namespace Go.VE
open Go Go.Proofs
--! external 1
--! args I
--! res fr:B
--! pre 1
--! rel 1
--! import VEu
def ib_MakeNoZero_P (n : Int) : Prop := room_P n
def ib_MakeNoZero_R (n : Int) (r : List Int) : Prop := room_R n r
def ib_MakeNoZero_S : App := specW [.v (.int .i64)] fun v K => ib_MakeNoZero_P v.1 ∧ ∀ r : List Int, ib_MakeNoZero_R v.1 r → K (.one (.fr 5 (.int .u8) r)) []
theorem ib_MakeNoZero_ok : AppOk Tryd.prog 97 ib_MakeNoZero_S :=
  ext_room tb_ok (t := 22) (ps := #[3]) (fn := Tryd.f97) rfl rfl (by kernel_rfl) (by kernel_rfl) (by kernel_rfl) (by kernel_rfl) (by kernel_rfl) rfl

end Go.VE
namespace Go.VE
open Go Go.Proofs
/-! ### bytes.Repeat -/
def bytes_Repeat_G : List (Nat × App) := [(96, math_bits_Mul_S), (97, ib_MakeNoZero_S)]
theorem bytes_Repeat_Gok : GOk Tryd.prog (getG bytes_Repeat_G) := GOk.cons math_bits_Mul_ok (GOk.cons ib_MakeNoZero_ok (GOk.nil))
theorem bytes_Repeat_st : storesC (bodyOf Tryd.f62) = true := by kernel_rfl
def bytes_Repeat_d0 : List LS := [.v 7 (.int .i64), .v 8 (.int .i64), .o 9 77 5 (.int .u8), .v 10 (.int .i64)]
def bytes_Repeat_d0x0 : List LS := [.o 9 77 5 (.int .u8)]
def bytes_Repeat_dx0 : DX := ⟨none, none, [(0, bytes_Repeat_d0x0)]⟩
def bytes_Repeat_T0 (Y : Int → Int → List Int → Int → Prop) (kx0 : List Int → Prop) (n7 : Int) (chunkMax8 : Int) (nb9 : List Int) (bp10 : Int) : Prop :=
 bif (decide (bp10 < n7)) then
 (
 bif decide (0 ≤ bp10 ∧ bp10 ≤ (List.length nb9 : Int)) then
 bif decide (0 ≤ (mn bp10 chunkMax8) ∧ (mn bp10 chunkMax8) ≤ (List.length nb9 : Int)) then
 Y n7 chunkMax8 (ovr (Int.toNat bp10) (List.take (List.length (List.drop (Int.toNat bp10) nb9)) (List.take (Int.toNat (mn bp10 chunkMax8)) nb9)) nb9) (IntKind.wrap .i64 (bp10 + (mn (List.length (List.take (Int.toNat (mn bp10 chunkMax8)) nb9) : Int) (List.length (List.drop (Int.toNat bp10) nb9) : Int))))
 else False
 else False) ∧ (
 bif decide (0 ≤ (mn bp10 chunkMax8) ∧ (mn bp10 chunkMax8) ≤ (List.length nb9 : Int)) then
 bif decide (0 ≤ bp10 ∧ bp10 ≤ (List.length nb9 : Int)) then
 Y n7 chunkMax8 (ovr (Int.toNat bp10) (List.take (List.length (List.drop (Int.toNat bp10) nb9)) (List.take (Int.toNat (mn bp10 chunkMax8)) nb9)) nb9) (IntKind.wrap .i64 (bp10 + (mn (List.length (List.take (Int.toNat (mn bp10 chunkMax8)) nb9) : Int) (List.length (List.drop (Int.toNat bp10) nb9) : Int))))
 else False
 else False) ∧ True
 else
 kx0 nb9
def bytes_Repeat_L0 (kx0 : List Int → Prop) : Nat → Int → Int → List Int → Int → Prop
  | 0, _, _, _, _ => False
  | n + 1, n7, chunkMax8, nb9, bp10 => wfD bytes_Repeat_d0 (n7, chunkMax8, nb9, bp10, ()) → bytes_Repeat_T0 (bytes_Repeat_L0 kx0 n) kx0 n7 chunkMax8 nb9 bp10
theorem bytes_Repeat_s0 (k : Ex → St → Prop) (Y : vals bytes_Repeat_d0 → Prop) (n7 : Int) (chunkMax8 : Int) (nb9 : List Int) (bp10 : Int) :
    ex tb (getG bytes_Repeat_G) [] (at' (bodyOf Tryd.f62) [0, 0, 0, 1, 1, 1, 1, 1, 1, 1, 1, 1, 1, 1]) [0, 0, 0, 1, 1, 1, 1, 1, 1, 1, 1, 1, 1, 1] (mkD 77 bytes_Repeat_d0 (n7, chunkMax8, nb9, bp10, ())) (lpK 77 bytes_Repeat_d0 bytes_Repeat_dx0 k Y) =
    bytes_Repeat_T0 (fun n7 chunkMax8 nb9 bp10 => Y (n7, chunkMax8, nb9, bp10, ())) (fun nb9 => wfD bytes_Repeat_d0x0 (nb9, ()) → k (.exit 0) (mkD 77 bytes_Repeat_d0x0 (nb9, ()))) n7 chunkMax8 nb9 bp10 := by kernel_rfl
theorem bytes_Repeat_e0 (k : Ex → St → Prop) : ∀ (n : Nat) (n7 : Int) (chunkMax8 : Int) (nb9 : List Int) (bp10 : Int), lpD 77 bytes_Repeat_d0 bytes_Repeat_dx0 (ex tb (getG bytes_Repeat_G) [] (at' (bodyOf Tryd.f62) [0, 0, 0, 1, 1, 1, 1, 1, 1, 1, 1, 1, 1, 1]) [0, 0, 0, 1, 1, 1, 1, 1, 1, 1, 1, 1, 1, 1]) k n (n7, chunkMax8, nb9, bp10, ()) = bytes_Repeat_L0 (fun nb9 => wfD bytes_Repeat_d0x0 (nb9, ()) → k (.exit 0) (mkD 77 bytes_Repeat_d0x0 (nb9, ()))) n n7 chunkMax8 nb9 bp10
  | 0, _, _, _, _ => rfl
  | n + 1, n7, chunkMax8, nb9, bp10 => congrArg (fun Z : Prop => wfD bytes_Repeat_d0 (n7, chunkMax8, nb9, bp10, ()) → Z) ((bytes_Repeat_s0 k (lpD 77 bytes_Repeat_d0 bytes_Repeat_dx0 (ex tb (getG bytes_Repeat_G) [] (at' (bodyOf Tryd.f62) [0, 0, 0, 1, 1, 1, 1, 1, 1, 1, 1, 1, 1, 1]) [0, 0, 0, 1, 1, 1, 1, 1, 1, 1, 1, 1, 1, 1]) k n) n7 chunkMax8 nb9 bp10).trans (congrArg (fun Y => bytes_Repeat_T0 Y (fun nb9 => wfD bytes_Repeat_d0x0 (nb9, ()) → k (.exit 0) (mkD 77 bytes_Repeat_d0x0 (nb9, ()))) n7 chunkMax8 nb9 bp10) (funext fun n7 => funext fun chunkMax8 => funext fun nb9 => funext fun bp10 => bytes_Repeat_e0 k n n7 chunkMax8 nb9 bp10)))
theorem bytes_Repeat_v0 (k : Ex → St → Prop) (n : Nat) : ∀ v : vals bytes_Repeat_d0, lpD 77 bytes_Repeat_d0 bytes_Repeat_dx0 (ex tb (getG bytes_Repeat_G) [] (at' (bodyOf Tryd.f62) [0, 0, 0, 1, 1, 1, 1, 1, 1, 1, 1, 1, 1, 1]) [0, 0, 0, 1, 1, 1, 1, 1, 1, 1, 1, 1, 1, 1]) k n v = bytes_Repeat_L0 (fun nb9 => wfD bytes_Repeat_d0x0 (nb9, ()) → k (.exit 0) (mkD 77 bytes_Repeat_d0x0 (nb9, ()))) n v.1 v.2.1 v.2.2.1 v.2.2.2.1
  | (n7, chunkMax8, nb9, bp10, ()) => bytes_Repeat_e0 k n n7 chunkMax8 nb9 bp10
def bytes_Repeat_X0 : Pce := fun st k => ckD 77 bytes_Repeat_d0 st fun v => wfD bytes_Repeat_d0 v → ∃ n, bytes_Repeat_L0 (fun nb9 => wfD bytes_Repeat_d0x0 (nb9, ()) → k (.exit 0) (mkD 77 bytes_Repeat_d0x0 (nb9, ()))) n v.1 v.2.1 v.2.2.1 v.2.2.2.1
set_option maxRecDepth 20000 in
theorem bytes_Repeat_x0 : SemOk Tryd.prog (at' (bodyOf Tryd.f62) [0, 0, 1, 1, 1, 1, 1, 1, 1, 1, 1, 1, 1]) bytes_Repeat_X0 :=
  (SemOk.loop (ex_sound tb_M tb_ok bytes_Repeat_Gok (LabsOk.nil) (at' (bodyOf Tryd.f62) [0, 0, 0, 1, 1, 1, 1, 1, 1, 1, 1, 1, 1, 1]) [0, 0, 0, 1, 1, 1, 1, 1, 1, 1, 1, 1, 1, 1] rfl (storesC_at bytes_Repeat_st [0, 0, 0, 1, 1, 1, 1, 1, 1, 1, 1, 1, 1, 1])) 77 bytes_Repeat_d0 bytes_Repeat_dx0).mono fun st k h => ckD_mono h fun v hv hw => (hv hw).elim fun n hn => ⟨n, Eq.mpr (bytes_Repeat_v0 k n v) hn⟩
def bytes_Repeat_B0 : Labs := ([0, 0, 1, 1, 1, 1, 1, 1, 1, 1, 1, 1, 1], bytes_Repeat_X0) :: []
theorem bytes_Repeat_b0 : LabsOk Tryd.prog (bodyOf Tryd.f62) bytes_Repeat_B0 := LabsOk.cons bytes_Repeat_x0 (LabsOk.nil)
def bytes_Repeat_d1 : List LS := [.v 0 (.sl (.int .u8)), .v 7 (.int .i64), .v 8 (.int .i64)]
def bytes_Repeat_d1r : List LS := [.o 4 37 5 (.int .u8)]
def bytes_Repeat_dx1 : DX := ⟨none, some bytes_Repeat_d1r, []⟩
def bytes_Repeat_J1 (kr : List Int → Prop) (b0 : List Int) (n7 : Int) (chunkMax8 : Int) : Prop :=
 ib_MakeNoZero_P n7 ∧ (
 ∀ (r2 : List Int), ib_MakeNoZero_R n7 r2 → (
 wfR (.one (.fr 5 (.int .u8) r2)) → (
 bif decide (0 ≤ n7 ∧ n7 ≤ n7 ∧ n7 ≤ (List.length r2 : Int)) then
 (wfD bytes_Repeat_d0 (n7, chunkMax8, (ovr 0 (List.take (List.length (List.take (Int.toNat n7) r2)) b0) (List.take (Int.toNat n7) r2)), (mn (List.length b0 : Int) (List.length (List.take (Int.toNat n7) r2) : Int)), ()) → ∃ n, bytes_Repeat_L0 (fun (nb9 : List Int) => wfD bytes_Repeat_d0x0 (nb9, ()) → (
 kr nb9)) n n7 chunkMax8 (ovr 0 (List.take (List.length (List.take (Int.toNat n7) r2)) b0) (List.take (Int.toNat n7) r2)) (mn (List.length b0 : Int) (List.length (List.take (Int.toNat n7) r2) : Int)))
 else False)))
theorem bytes_Repeat_s1 (k : Ex → St → Prop) (b0 : List Int) (n7 : Int) (chunkMax8 : Int) :
    ex tb (getG bytes_Repeat_G) bytes_Repeat_B0 (at' (bodyOf Tryd.f62) [1, 1, 1, 1, 1, 1, 1, 1, 1]) [1, 1, 1, 1, 1, 1, 1, 1, 1] (mkD 77 bytes_Repeat_d1 (b0, n7, chunkMax8, ())) (wk 77 bytes_Repeat_dx1 k) =
    bytes_Repeat_J1 (fun x4 => wfD bytes_Repeat_d1r (x4, ()) → k .ret (mkD 77 bytes_Repeat_d1r (x4, ()))) b0 n7 chunkMax8 := by kernel_rfl
theorem bytes_Repeat_v1 (k : Ex → St → Prop) : ∀ v : vals bytes_Repeat_d1, ex tb (getG bytes_Repeat_G) bytes_Repeat_B0 (at' (bodyOf Tryd.f62) [1, 1, 1, 1, 1, 1, 1, 1, 1]) [1, 1, 1, 1, 1, 1, 1, 1, 1] (mkD 77 bytes_Repeat_d1 v) (wk 77 bytes_Repeat_dx1 k) = bytes_Repeat_J1 (fun x4 => wfD bytes_Repeat_d1r (x4, ()) → k .ret (mkD 77 bytes_Repeat_d1r (x4, ()))) v.1 v.2.1 v.2.2.1
  | (b0, n7, chunkMax8, ()) => bytes_Repeat_s1 k b0 n7 chunkMax8
def bytes_Repeat_X1 : Pce := fun st k => ckD 77 bytes_Repeat_d1 st fun v => wfD bytes_Repeat_d1 v → bytes_Repeat_J1 (fun x4 => wfD bytes_Repeat_d1r (x4, ()) → k .ret (mkD 77 bytes_Repeat_d1r (x4, ()))) v.1 v.2.1 v.2.2.1
set_option maxRecDepth 20000 in
theorem bytes_Repeat_x1 : SemOk Tryd.prog (at' (bodyOf Tryd.f62) [1, 1, 1, 1, 1, 1, 1, 1, 1]) bytes_Repeat_X1 :=
  (SemOk.wk (N := 77) (ds := bytes_Repeat_d1) (dx := bytes_Repeat_dx1) (ex_sound tb_M tb_ok bytes_Repeat_Gok (bytes_Repeat_b0) (at' (bodyOf Tryd.f62) [1, 1, 1, 1, 1, 1, 1, 1, 1]) [1, 1, 1, 1, 1, 1, 1, 1, 1] rfl (storesC_at bytes_Repeat_st [1, 1, 1, 1, 1, 1, 1, 1, 1]))).mono fun st k h => ckD_mono h fun v hv hw => Eq.mpr (bytes_Repeat_v1 k v) (hv hw)
def bytes_Repeat_B1 : Labs := ([1, 1, 1, 1, 1, 1, 1, 1, 1], bytes_Repeat_X1) :: bytes_Repeat_B0
theorem bytes_Repeat_b1 : LabsOk Tryd.prog (bodyOf Tryd.f62) bytes_Repeat_B1 := LabsOk.cons bytes_Repeat_x1 (bytes_Repeat_b0)
def bytes_Repeat_d2 : List LS := [.v 0 (.sl (.int .u8)), .v 6 (.int .u64)]
def bytes_Repeat_d2r : List LS := [.o 4 37 5 (.int .u8)]
def bytes_Repeat_dx2 : DX := ⟨none, some bytes_Repeat_d2r, []⟩
def bytes_Repeat_J2 (kr : List Int → Prop) (b0 : List Int) (lo6 : Int) : Prop :=
 bif (decide ((List.length b0 : Int) = (0 : Int))) then
 kr ([] : List Int)
 else
 bif (decide ((8192 : Int) < (IntKind.wrap .i64 lo6))) then
 bif decide ((List.length b0 : Int) ≠ 0) then
 bif (decide ((IntKind.wrap .i64 ((IntKind.wrap .i64 (Int.tdiv (8192 : Int) (List.length b0 : Int))) * (List.length b0 : Int))) = (0 : Int))) then
 (wfD bytes_Repeat_d1 (b0, (IntKind.wrap .i64 lo6), (List.length b0 : Int), ()) → bytes_Repeat_J1 (fun (x4 : List Int) => wfD bytes_Repeat_d1r (x4, ()) → (
 kr x4)) b0 (IntKind.wrap .i64 lo6) (List.length b0 : Int))
 else
 (wfD bytes_Repeat_d1 (b0, (IntKind.wrap .i64 lo6), (IntKind.wrap .i64 ((IntKind.wrap .i64 (Int.tdiv (8192 : Int) (List.length b0 : Int))) * (List.length b0 : Int))), ()) → bytes_Repeat_J1 (fun (x4 : List Int) => wfD bytes_Repeat_d1r (x4, ()) → (
 kr x4)) b0 (IntKind.wrap .i64 lo6) (IntKind.wrap .i64 ((IntKind.wrap .i64 (Int.tdiv (8192 : Int) (List.length b0 : Int))) * (List.length b0 : Int))))
 else False
 else
 (wfD bytes_Repeat_d1 (b0, (IntKind.wrap .i64 lo6), (IntKind.wrap .i64 lo6), ()) → bytes_Repeat_J1 (fun (x4 : List Int) => wfD bytes_Repeat_d1r (x4, ()) → (
 kr x4)) b0 (IntKind.wrap .i64 lo6) (IntKind.wrap .i64 lo6))
theorem bytes_Repeat_s2 (k : Ex → St → Prop) (b0 : List Int) (lo6 : Int) :
    ex tb (getG bytes_Repeat_G) bytes_Repeat_B1 (at' (bodyOf Tryd.f62) [1, 1, 1, 1, 1]) [1, 1, 1, 1, 1] (mkD 77 bytes_Repeat_d2 (b0, lo6, ())) (wk 77 bytes_Repeat_dx2 k) =
    bytes_Repeat_J2 (fun x4 => wfD bytes_Repeat_d2r (x4, ()) → k .ret (mkD 77 bytes_Repeat_d2r (x4, ()))) b0 lo6 := by kernel_rfl
theorem bytes_Repeat_v2 (k : Ex → St → Prop) : ∀ v : vals bytes_Repeat_d2, ex tb (getG bytes_Repeat_G) bytes_Repeat_B1 (at' (bodyOf Tryd.f62) [1, 1, 1, 1, 1]) [1, 1, 1, 1, 1] (mkD 77 bytes_Repeat_d2 v) (wk 77 bytes_Repeat_dx2 k) = bytes_Repeat_J2 (fun x4 => wfD bytes_Repeat_d2r (x4, ()) → k .ret (mkD 77 bytes_Repeat_d2r (x4, ()))) v.1 v.2.1
  | (b0, lo6, ()) => bytes_Repeat_s2 k b0 lo6
def bytes_Repeat_X2 : Pce := fun st k => ckD 77 bytes_Repeat_d2 st fun v => wfD bytes_Repeat_d2 v → bytes_Repeat_J2 (fun x4 => wfD bytes_Repeat_d2r (x4, ()) → k .ret (mkD 77 bytes_Repeat_d2r (x4, ()))) v.1 v.2.1
set_option maxRecDepth 20000 in
theorem bytes_Repeat_x2 : SemOk Tryd.prog (at' (bodyOf Tryd.f62) [1, 1, 1, 1, 1]) bytes_Repeat_X2 :=
  (SemOk.wk (N := 77) (ds := bytes_Repeat_d2) (dx := bytes_Repeat_dx2) (ex_sound tb_M tb_ok bytes_Repeat_Gok (bytes_Repeat_b1) (at' (bodyOf Tryd.f62) [1, 1, 1, 1, 1]) [1, 1, 1, 1, 1] rfl (storesC_at bytes_Repeat_st [1, 1, 1, 1, 1]))).mono fun st k h => ckD_mono h fun v hv hw => Eq.mpr (bytes_Repeat_v2 k v) (hv hw)
def bytes_Repeat_B2 : Labs := ([1, 1, 1, 1, 1], bytes_Repeat_X2) :: bytes_Repeat_B1
theorem bytes_Repeat_b2 : LabsOk Tryd.prog (bodyOf Tryd.f62) bytes_Repeat_B2 := LabsOk.cons bytes_Repeat_x2 (bytes_Repeat_b1)
def bytes_Repeat_d3 : List LS := [.v 0 (.sl (.int .u8)), .v 1 (.int .i64)]
def bytes_Repeat_d3r : List LS := [.o 4 37 5 (.int .u8)]
def bytes_Repeat_dx3 : DX := ⟨none, some bytes_Repeat_d3r, []⟩
def bytes_Repeat_J3 (kr : List Int → Prop) (b0 : List Int) (count1 : Int) : Prop :=
 ∀ (r1 : Int × Int), r1 = math_bits_Mul_F (IntKind.wrap .u64 (List.length b0 : Int)) (IntKind.wrap .u64 count1) → (
 wfR (.tup [.v (.int .u64) r1.1, .v (.int .u64) r1.2]) → (
 bif (decide ((0 : Int) < r1.1)) then
 False
 else
 bif (decide ((9223372036854775807 : Int) < r1.2)) then
 False
 else
 (wfD bytes_Repeat_d2 (b0, r1.2, ()) → bytes_Repeat_J2 (fun (x4 : List Int) => wfD bytes_Repeat_d2r (x4, ()) → (
 kr x4)) b0 r1.2)))
theorem bytes_Repeat_s3 (k : Ex → St → Prop) (b0 : List Int) (count1 : Int) :
    ex tb (getG bytes_Repeat_G) bytes_Repeat_B2 (at' (bodyOf Tryd.f62) [1, 1, 1]) [1, 1, 1] (mkD 77 bytes_Repeat_d3 (b0, count1, ())) (wk 77 bytes_Repeat_dx3 k) =
    bytes_Repeat_J3 (fun x4 => wfD bytes_Repeat_d3r (x4, ()) → k .ret (mkD 77 bytes_Repeat_d3r (x4, ()))) b0 count1 := by kernel_rfl
theorem bytes_Repeat_v3 (k : Ex → St → Prop) : ∀ v : vals bytes_Repeat_d3, ex tb (getG bytes_Repeat_G) bytes_Repeat_B2 (at' (bodyOf Tryd.f62) [1, 1, 1]) [1, 1, 1] (mkD 77 bytes_Repeat_d3 v) (wk 77 bytes_Repeat_dx3 k) = bytes_Repeat_J3 (fun x4 => wfD bytes_Repeat_d3r (x4, ()) → k .ret (mkD 77 bytes_Repeat_d3r (x4, ()))) v.1 v.2.1
  | (b0, count1, ()) => bytes_Repeat_s3 k b0 count1
def bytes_Repeat_X3 : Pce := fun st k => ckD 77 bytes_Repeat_d3 st fun v => wfD bytes_Repeat_d3 v → bytes_Repeat_J3 (fun x4 => wfD bytes_Repeat_d3r (x4, ()) → k .ret (mkD 77 bytes_Repeat_d3r (x4, ()))) v.1 v.2.1
set_option maxRecDepth 20000 in
theorem bytes_Repeat_x3 : SemOk Tryd.prog (at' (bodyOf Tryd.f62) [1, 1, 1]) bytes_Repeat_X3 :=
  (SemOk.wk (N := 77) (ds := bytes_Repeat_d3) (dx := bytes_Repeat_dx3) (ex_sound tb_M tb_ok bytes_Repeat_Gok (bytes_Repeat_b2) (at' (bodyOf Tryd.f62) [1, 1, 1]) [1, 1, 1] rfl (storesC_at bytes_Repeat_st [1, 1, 1]))).mono fun st k h => ckD_mono h fun v hv hw => Eq.mpr (bytes_Repeat_v3 k v) (hv hw)
def bytes_Repeat_B3 : Labs := ([1, 1, 1], bytes_Repeat_X3) :: bytes_Repeat_B2
theorem bytes_Repeat_b3 : LabsOk Tryd.prog (bodyOf Tryd.f62) bytes_Repeat_B3 := LabsOk.cons bytes_Repeat_x3 (bytes_Repeat_b2)
def bytes_Repeat_raw (b0 : List Int) (count1 : Int) (K : Res → List Cell → Prop) : Prop :=
 bif (decide (count1 = (0 : Int))) then
 K (.one (.fr 5 (.int .u8) ([] : List Int))) []
 else
 bif (decide (count1 < (0 : Int))) then
 False
 else
 (wfD bytes_Repeat_d3 (b0, count1, ()) → bytes_Repeat_J3 (fun (x4 : List Int) => wfD bytes_Repeat_d3r (x4, ()) → (
 K (.one (.fr 5 (.int .u8) x4)) [])) b0 count1)
def bytes_Repeat_A : List AS := [.v (.sl (.int .u8)), .v (.int .i64)]
theorem bytes_Repeat_walk (b0 : List Int) (count1 : Int) (K : Res → List Cell → Prop) : runF tb (getG bytes_Repeat_G) bytes_Repeat_B3 Tryd.f62 [true] (mkA bytes_Repeat_A (b0, count1, ())) K = bytes_Repeat_raw b0 count1 K := by kernel_rfl
--! pre 1
def repB (b : List Int) : Nat → List Int
  | 0 => []
  | n + 1 => b ++ repB b n
theorem repB_length (b : List Int) : ∀ n, (repB b n).length = n * b.length
  | 0 => by simp [repB]
  | n + 1 => by rw [repB, List.length_append, repB_length b n, Nat.succ_mul]; omega
theorem repB_get (b : List Int) : ∀ (n i : Nat), i < n * b.length → (repB b n)[i]? = b[i % b.length]?
  | 0, i, h => by simp at h
  | n + 1, i, h => by
    rw [repB]
    by_cases hi : i < b.length
    · rw [List.getElem?_append_left hi, Nat.mod_eq_of_lt hi]
    · rw [List.getElem?_append_right (by omega), repB_get b n _ (by rw [Nat.succ_mul] at h; omega)]
      congr 1
      exact (Nat.mod_eq_sub_mod (by omega)).symm
def bytes_Repeat_P (b : List Int) (count : Int) : Prop := 0 ≤ count ∧ count < 4294967296 ∧ b.length < 4294967296 ∧ (b.length : Int) * count ≤ (lim : Int)
def bytes_Repeat_F (b : List Int) (count : Int) : List Int := repB b count.toNat
def RInv (b nb : List Int) (n bp : Nat) : Prop := nb.length = n ∧ ∀ i, i < bp → nb[i]? = b[i % b.length]?
theorem rinv_step {b nb : List Int} {n bp c : Nat} (hb : 0 < b.length) (hi : RInv b nb n bp) (hd : b.length ∣ bp) (hc : c ≤ bp) (hn : bp + c ≤ n) : RInv b (ovr bp (nb.take c) nb) n (bp + c) := by
  have hl : (nb.take c).length = c := by rw [List.length_take, hi.1]; omega
  refine ⟨by rw [ovr_length]; exact hi.1, fun i hlt => ?_⟩
  rw [ovr_get _ _ _ _ (by rw [hi.1]; omega), hl]
  by_cases h : bp ≤ i
  · rw [if_pos ⟨h, hlt⟩, List.getElem?_take, if_pos (by omega), hi.2 _ (by omega)]
    congr 1
    obtain ⟨q, rfl⟩ := hd
    have e : i = (i - b.length * q) + b.length * q := by omega
    conv => rhs; rw [e, Nat.add_mul_mod_self_left]
  · rw [if_neg (by omega)]; exact hi.2 i (by omega)
theorem bytes_Repeat_l0 (kx0 : List Int → Prop) (b : List Int) (hb : 0 < b.length) (n cm : Nat) (hn : n ≤ lim) (hnd : b.length ∣ n) (hcm : 0 < cm) (hcd : b.length ∣ cm) (hk : ∀ nb, RInv b nb n n → kx0 nb) :
    ∀ (m bp : Nat) (nb : List Int), n < m + bp → 0 < bp → b.length ∣ bp → bp ≤ n → RInv b nb n bp → bytes_Repeat_L0 kx0 m (n : Int) (cm : Int) nb (bp : Int)
  | 0, bp, nb, h, h2, h3, h4, h5 => by omega
  | m + 1, bp, nb, h, h2, h3, h4, h5 => by
    intro _
    unfold bytes_Repeat_T0
    refine brn (fun hlt => ?_) (fun hge => ?_)
    · have hlt : bp < n := by omega
      have hmn : mn (bp : Int) (cm : Int) = ((min bp cm : Nat) : Int) := by
        unfold mn
        by_cases hc : (cm : Int) < bp
        · simp only [hc, decide_true, cond_true]; omega
        · simp only [hc, decide_false, cond_false]; omega
      have hmd : b.length ∣ min bp cm := by
        rcases Nat.le_total bp cm with h | h
        · rw [Nat.min_eq_left h]; exact h3
        · rw [Nat.min_eq_right h]; exact hcd
      -- so much is copied
      have hcl : (List.take (Int.toNat (mn (bp : Int) (cm : Int))) nb).length = min bp cm := by rw [hmn, Int.toNat_natCast, List.length_take, h5.1]; omega
      have hdl : (List.drop (Int.toNat (bp : Int)) nb).length = n - bp := by rw [Int.toNat_natCast, List.length_drop, h5.1]
      have hc2 : mn (List.length (List.take (Int.toNat (mn (bp : Int) (cm : Int))) nb) : Int) (List.length (List.drop (Int.toNat (bp : Int)) nb) : Int) = ((min (min bp cm) (n - bp) : Nat) : Int) := by
        rw [hcl, hdl]
        unfold mn
        by_cases hc : ((n - bp : Nat) : Int) < ((min bp cm : Nat) : Int)
        · simp only [hc, decide_true, cond_true]; omega
        · simp only [hc, decide_false, cond_false]; omega
      have key : bytes_Repeat_L0 kx0 m (n : Int) (cm : Int) (ovr (Int.toNat (bp : Int)) (List.take (List.length (List.drop (Int.toNat (bp : Int)) nb)) (List.take (Int.toNat (mn (bp : Int) (cm : Int))) nb)) nb) (IntKind.wrap .i64 ((bp : Int) + (mn (List.length (List.take (Int.toNat (mn (bp : Int) (cm : Int))) nb) : Int) (List.length (List.drop (Int.toNat (bp : Int)) nb) : Int)))) := by
        have hlim : n ≤ 1099511627776 := hn
        rw [hc2, hdl, hmn, Int.toNat_natCast, Int.toNat_natCast, List.take_take, wrap_i64 (by omega) (by omega), show min (n - bp) (min bp cm) = min (min bp cm) (n - bp) from Nat.min_comm _ _]
        have hdvd : b.length ∣ min (min bp cm) (n - bp) := by
          rcases Nat.le_total (min bp cm) (n - bp) with h | h
          · rw [Nat.min_eq_left h]; exact hmd
          · rw [Nat.min_eq_right h]; exact Nat.dvd_sub hnd h3
        have hpos : 0 < min (min bp cm) (n - bp) := by omega
        have := bytes_Repeat_l0 kx0 b hb n cm hn hnd hcm hcd hk m (bp + min (min bp cm) (n - bp)) _ (by omega) (by omega) (Nat.dvd_add h3 hdvd) (by omega) (rinv_step hb h5 h3 (by omega) (by omega))
        simpa using this
      have a1 : 0 ≤ (bp : Int) ∧ (bp : Int) ≤ (List.length nb : Int) := by rw [h5.1]; omega
      have a2 : 0 ≤ mn (bp : Int) (cm : Int) ∧ mn (bp : Int) (cm : Int) ≤ (List.length nb : Int) := by rw [h5.1, hmn]; omega
      exact ⟨asrt a1 (asrt a2 key), asrt a2 (asrt a1 key), trivial⟩
    · obtain rfl : bp = n := by omega
      exact hk nb h5
theorem bytes_Repeat_sp (b : List Int) (count : Int) (K : Res → List Cell → Prop) (hw : wfA bytes_Repeat_A (b, count, ())) (hp : bytes_Repeat_P b count) (h : ∀ r : List Int, r = bytes_Repeat_F b count → K (.one (.fr 5 (.int .u8) r)) []) : bytes_Repeat_raw b count K := by
  obtain ⟨h0, h1, h2, h3⟩ := hp
  obtain ⟨c, rfl⟩ := Int.eq_ofNat_of_zero_le h0
  unfold bytes_Repeat_F at h
  rw [Int.toNat_natCast] at h
  unfold bytes_Repeat_raw
  refine brn (fun hz => h _ ?_) (fun hz => brn (fun hn => absurd hn (by omega)) (fun _ _ => ?_))
  · obtain rfl : c = 0 := by omega
    rfl
  unfold bytes_Repeat_J3
  intro r1 hr1 _
  have hmul : r1 = (0, (b.length : Int) * (c : Int)) := by
    rw [hr1, wrap_u64 (by omega) (by omega), wrap_u64 (by omega) (by omega)]
    exact mul_small (by omega) (by omega) (by omega) (by omega)
  have hlc : (b.length : Int) * (c : Int) = ((c * b.length : Nat) : Int) := by rw [Int.mul_comm]; simp
  have hlim : ((c * b.length : Nat) : Int) ≤ 1099511627776 := by rw [← hlc]; exact h3
  rw [hmul, hlc]
  refine brn (fun hn => absurd hn (by simp)) (fun _ => brn (fun hn => absurd hn (by show ¬ (9223372036854775807 : Int) < ((c * b.length : Nat) : Int); omega)) (fun _ _ => ?_))
  show bytes_Repeat_J2 _ b ((c * b.length : Nat) : Int)
  unfold bytes_Repeat_J2
  refine brn (fun hz => ?_) (fun hz => ?_)
  · intro _ _
    refine h _ ?_
    have hb : b = [] := List.eq_nil_of_length_eq_zero (by omega)
    subst hb
    clear h hlc hlim hmul hr1 hw h3
    have : ∀ n, repB [] n = [] := fun n => List.eq_nil_of_length_eq_zero (by rw [repB_length]; simp)
    exact (this c).symm
  have hb : 0 < b.length := by omega
  have hge : b.length ≤ c * b.length := Nat.le_mul_of_pos_left _ (by omega)
  rw [wrap_i64 (n := ((c * b.length : Nat) : Int)) (by omega) (by omega)]
  have main : ∀ (cm : Nat), 0 < cm → b.length ∣ cm → bytes_Repeat_J1 (fun (x4 : List Int) => wfD bytes_Repeat_d1r (x4, ()) → wfD bytes_Repeat_d2r (x4, ()) → wfD bytes_Repeat_d3r (x4, ()) → K (.one (.fr 5 (.int .u8) x4)) []) b ((c * b.length : Nat) : Int) (cm : Int) := by
    intro cm hcm hcd
    unfold bytes_Repeat_J1
    refine ⟨⟨by omega, hlim⟩, fun r2 hr2 _ => asrt ?_ fun _ => ?_⟩
    · have : r2.length = c * b.length := hr2
      rw [this]; omega
    have hr2 : r2.length = c * b.length := hr2
    have htk : List.take (Int.toNat ((c * b.length : Nat) : Int)) r2 = r2 := by rw [Int.toNat_natCast, ← hr2, List.take_length]
    have hmn : mn (List.length b : Int) (List.length r2 : Int) = (b.length : Int) := by
      unfold mn
      have : ¬ ((r2.length : Int) < b.length) := by rw [hr2]; omega
      simp only [this, decide_false, cond_false]
    rw [htk, hmn]
    refine ⟨c * b.length + 1, bytes_Repeat_l0 _ b hb (c * b.length) cm (by show _ ≤ 1099511627776; omega) ⟨c, Nat.mul_comm _ _⟩ hcm hcd (fun nb hnb _ h1 h2 h3 => h nb ?_) _ _ _ (by omega) hb (Nat.dvd_refl _) hge ⟨?_, fun i hi => ?_⟩⟩
    · refine List.ext_getElem? fun i => ?_
      by_cases hi : i < c * b.length
      · rw [hnb.2 i hi, repB_get b c i hi]
      · rw [List.getElem?_eq_none (by rw [hnb.1]; omega), List.getElem?_eq_none (by rw [repB_length]; omega)]
    · rw [ovr_length, hr2]
    · rw [ovr_get _ _ _ _ (by rw [hr2]; omega), List.take_of_length_le (by rw [hr2]; exact hge), if_pos (by omega), Nat.sub_zero, Nat.mod_eq_of_lt hi]
  refine brn (fun hbig => asrt (by omega) ?_) (fun hsm _ => main (c * b.length) (by omega) ⟨c, Nat.mul_comm _ _⟩)
  have hq : Int.tdiv (8192 : Int) (List.length b : Int) = ((8192 / b.length : Nat) : Int) := by
    rw [Int.tdiv_eq_ediv_of_nonneg (by omega)]; rfl
  have hq2 : 8192 / b.length ≤ 8192 := Nat.div_le_self _ _
  have hq3 : 8192 / b.length * b.length ≤ 8192 := Nat.div_mul_le_self _ _
  rw [hq]
  generalize 8192 / b.length = q at hq2 hq3 ⊢
  have hq4 : (q : Int) * (b.length : Int) = ((q * b.length : Nat) : Int) := by simp
  rw [wrap_i64 (n := (q : Int)) (by omega) (by omega), hq4]
  generalize hql : q * b.length = ql at hq3 ⊢
  rw [wrap_i64 (n := (ql : Int)) (by omega) (by omega)]
  refine brn (fun hz _ => main b.length hb (Nat.dvd_refl _)) (fun hz _ => main ql (by omega) ⟨q, by rw [← hql]; exact Nat.mul_comm _ _⟩)

def bytes_Repeat_C (v : valsA bytes_Repeat_A) (K : Res → List Cell → Prop) : Prop := bytes_Repeat_P v.1 v.2.1 ∧ ∀ r : List Int, r = bytes_Repeat_F v.1 v.2.1 → K (.one (.fr 5 (.int .u8) r)) []
def bytes_Repeat_S : App := specW bytes_Repeat_A bytes_Repeat_C
theorem bytes_Repeat_wv (K : Res → List Cell → Prop) : ∀ v : valsA bytes_Repeat_A, runF tb (getG bytes_Repeat_G) bytes_Repeat_B3 Tryd.f62 [true] (mkA bytes_Repeat_A v) K = bytes_Repeat_raw v.1 v.2.1 K
  | (b0, count1, ()) => bytes_Repeat_walk b0 count1 K
set_option maxRecDepth 20000 in
theorem bytes_Repeat_ok : AppOk Tryd.prog 62 bytes_Repeat_S :=
  AppOk.specW (spec_ok ((runF_ok tb_M tb_ok bytes_Repeat_Gok (bytes_Repeat_b3) (f := 62) (fn := Tryd.f62) (by kernel_rfl) (by kernel_rfl) bytes_Repeat_st [true])) fun v K hw h => (bytes_Repeat_wv K v).mpr (bytes_Repeat_sp v.1 v.2.1 K hw h.1 h.2))

end Go.VE
namespace Go.VE
open Go Go.Proofs
def tb1 : Tab := [(3, ⟨.int .i64, 0, [], 8⟩), (4, ⟨.bool, 0, [], 1⟩), (5, ⟨.int .u8, 0, [], 1⟩), (9, ⟨.str, 0, [], 16⟩), (21, ⟨.int .i32, 0, [], 4⟩), (22, ⟨.sl (.int .u8), 5, [], 24⟩), (28, ⟨.int .i64, 0, [], 8⟩), (43, ⟨.st (.pair (.bool) (.pair (.bool) (.sl (.int .u8)))), 0, [], 32⟩), (45, ⟨.st (.pair (.int .i64) (.pair (.int .i64) (.pair (.st (.pair (.bool) (.pair (.bool) (.sl (.int .u8))))) (.bool)))), 0, [], 56⟩), (46, ⟨.sl (.st (.pair (.int .i64) (.pair (.sl (.int .u8)) (.sl (.int .u8))))), 95, [], 24⟩), (48, ⟨.st (.pair (.sl (.st (.pair (.int .i64) (.pair (.sl (.int .u8)) (.sl (.int .u8)))))) (.pair (.int .i64) (.pair (.st (.pair (.bool) (.pair (.bool) (.sl (.int .u8))))) (.pair (.int .i64) (.bool))))), 0, [0, 95], 80⟩), (56, ⟨.sl (.sl (.int .u8)), 22, [], 24⟩), (60, ⟨.st (.pair (.int .i64) (.pair (.int .i64) (.bool))), 1, [], 24⟩), (65, ⟨.st (.pair (.int .i64) (.pair (.int .i64) (.pair (.bool) (.bool)))), 1, [], 24⟩), (77, ⟨.st (.pair (.int .i64) (.pair (.int .i64) (.pair (.str) (.st (.pair (.int .i64) (.pair (.int .i64) (.pair (.bool) (.bool)))))))), 0, [], 56⟩), (79, ⟨.st (.pair (.int .i64) (.pair (.int .i64) (.pair (.int .i64) (.pair (.int .u8) (.str))))), 1, [], 48⟩), (81, ⟨.st (.pair (.st (.pair (.int .i64) (.pair (.int .i64) (.pair (.str) (.st (.pair (.int .i64) (.pair (.int .i64) (.pair (.bool) (.bool))))))))) (.pair (.st (.pair (.int .i64) (.pair (.int .i64) (.pair (.st (.pair (.bool) (.pair (.bool) (.sl (.int .u8))))) (.bool))))) (.st (.pair (.int .i64) (.pair (.int .i64) (.pair (.int .i64) (.pair (.int .u8) (.str)))))))), 0, [], 160⟩), (95, ⟨.st (.pair (.int .i64) (.pair (.sl (.int .u8)) (.sl (.int .u8)))), 0, [], 56⟩), (113, ⟨.st (.pair (.sl (.int .u8)) (.pair (.int .i64) (.pair (.st (.pair (.int .i64) (.pair (.int .i64) (.pair (.bool) (.bool))))) (.pair (.int .i64) (.pair (.int .i64) (.int .i64)))))), 0, [], 80⟩), (133, ⟨.int .u64, 0, [], 8⟩), (140, ⟨.sl (.int .i64), 3, [], 24⟩), (147, ⟨.int .u64, 0, [], 8⟩), (152, ⟨.int .u32, 0, [], 4⟩), (195, ⟨.st (.pair (.int .u8) (.int .u8)), 1, [], 2⟩)]
theorem tb1ty_3 : TySem Tryd.prog tb1 3 ⟨.int .i64, 0, [], 8⟩ := TySem.ofInt (by kernel_rfl) (by kernel_rfl) rfl
theorem tb1ty_4 : TySem Tryd.prog tb1 4 ⟨.bool, 0, [], 1⟩ := TySem.ofBool (by kernel_rfl) (by kernel_rfl) rfl
theorem tb1ty_5 : TySem Tryd.prog tb1 5 ⟨.int .u8, 0, [], 1⟩ := TySem.ofInt (by kernel_rfl) (by kernel_rfl) rfl
theorem tb1ty_9 : TySem Tryd.prog tb1 9 ⟨.str, 0, [], 16⟩ := TySem.ofStr (by kernel_rfl) (by kernel_rfl) rfl
theorem tb1ty_21 : TySem Tryd.prog tb1 21 ⟨.int .i32, 0, [], 4⟩ := TySem.ofInt (by kernel_rfl) (by kernel_rfl) rfl
theorem tb1ty_22 : TySem Tryd.prog tb1 22 ⟨.sl (.int .u8), 5, [], 24⟩ := TySem.ofSl (by kernel_rfl) (by kernel_rfl) rfl (by kernel_rfl)
theorem tb1ty_28 : TySem Tryd.prog tb1 28 ⟨.int .i64, 0, [], 8⟩ := TySem.ofInt (by kernel_rfl) (by kernel_rfl) rfl
theorem tb1ty_43 : TySem Tryd.prog tb1 43 ⟨.st (.pair (.bool) (.pair (.bool) (.sl (.int .u8)))), 0, [], 32⟩ := TySem.ofSt (c := 3) (by kernel_rfl) (by kernel_rfl) (by kernel_rfl) rfl (by kernel_rfl)
theorem tb1ty_45 : TySem Tryd.prog tb1 45 ⟨.st (.pair (.int .i64) (.pair (.int .i64) (.pair (.st (.pair (.bool) (.pair (.bool) (.sl (.int .u8))))) (.bool)))), 0, [], 56⟩ := TySem.ofSt (c := 6) (by kernel_rfl) (by kernel_rfl) (by kernel_rfl) rfl (by kernel_rfl)
theorem tb1ty_46 : TySem Tryd.prog tb1 46 ⟨.sl (.st (.pair (.int .i64) (.pair (.sl (.int .u8)) (.sl (.int .u8))))), 95, [], 24⟩ := TySem.ofSl (by kernel_rfl) (by kernel_rfl) rfl (by kernel_rfl)
theorem tb1ty_48 : TySem Tryd.prog tb1 48 ⟨.st (.pair (.sl (.st (.pair (.int .i64) (.pair (.sl (.int .u8)) (.sl (.int .u8)))))) (.pair (.int .i64) (.pair (.st (.pair (.bool) (.pair (.bool) (.sl (.int .u8))))) (.pair (.int .i64) (.bool))))), 0, [0, 95], 80⟩ := TySem.ofSt (c := 7) (by kernel_rfl) (by kernel_rfl) (by kernel_rfl) rfl (by kernel_rfl)
theorem tb1ty_56 : TySem Tryd.prog tb1 56 ⟨.sl (.sl (.int .u8)), 22, [], 24⟩ := TySem.ofSl (by kernel_rfl) (by kernel_rfl) rfl (by kernel_rfl)
theorem tb1ty_60 : TySem Tryd.prog tb1 60 ⟨.st (.pair (.int .i64) (.pair (.int .i64) (.bool))), 1, [], 24⟩ := TySem.ofStE (c := 3) (by kernel_rfl) (by kernel_rfl) (by kernel_rfl) rfl (by kernel_rfl) (by kernel_rfl)
theorem tb1ty_65 : TySem Tryd.prog tb1 65 ⟨.st (.pair (.int .i64) (.pair (.int .i64) (.pair (.bool) (.bool)))), 1, [], 24⟩ := TySem.ofStE (c := 4) (by kernel_rfl) (by kernel_rfl) (by kernel_rfl) rfl (by kernel_rfl) (by kernel_rfl)
theorem tb1ty_77 : TySem Tryd.prog tb1 77 ⟨.st (.pair (.int .i64) (.pair (.int .i64) (.pair (.str) (.st (.pair (.int .i64) (.pair (.int .i64) (.pair (.bool) (.bool)))))))), 0, [], 56⟩ := TySem.ofSt (c := 7) (by kernel_rfl) (by kernel_rfl) (by kernel_rfl) rfl (by kernel_rfl)
theorem tb1ty_79 : TySem Tryd.prog tb1 79 ⟨.st (.pair (.int .i64) (.pair (.int .i64) (.pair (.int .i64) (.pair (.int .u8) (.str))))), 1, [], 48⟩ := TySem.ofStE (c := 5) (by kernel_rfl) (by kernel_rfl) (by kernel_rfl) rfl (by kernel_rfl) (by kernel_rfl)
theorem tb1ty_81 : TySem Tryd.prog tb1 81 ⟨.st (.pair (.st (.pair (.int .i64) (.pair (.int .i64) (.pair (.str) (.st (.pair (.int .i64) (.pair (.int .i64) (.pair (.bool) (.bool))))))))) (.pair (.st (.pair (.int .i64) (.pair (.int .i64) (.pair (.st (.pair (.bool) (.pair (.bool) (.sl (.int .u8))))) (.bool))))) (.st (.pair (.int .i64) (.pair (.int .i64) (.pair (.int .i64) (.pair (.int .u8) (.str)))))))), 0, [], 160⟩ := TySem.ofSt (c := 18) (by kernel_rfl) (by kernel_rfl) (by kernel_rfl) rfl (by kernel_rfl)
theorem tb1ty_95 : TySem Tryd.prog tb1 95 ⟨.st (.pair (.int .i64) (.pair (.sl (.int .u8)) (.sl (.int .u8)))), 0, [], 56⟩ := TySem.ofSt (c := 3) (by kernel_rfl) (by kernel_rfl) (by kernel_rfl) rfl (by kernel_rfl)
theorem tb1ty_113 : TySem Tryd.prog tb1 113 ⟨.st (.pair (.sl (.int .u8)) (.pair (.int .i64) (.pair (.st (.pair (.int .i64) (.pair (.int .i64) (.pair (.bool) (.bool))))) (.pair (.int .i64) (.pair (.int .i64) (.int .i64)))))), 0, [], 80⟩ := TySem.ofSt (c := 9) (by kernel_rfl) (by kernel_rfl) (by kernel_rfl) rfl (by kernel_rfl)
theorem tb1ty_133 : TySem Tryd.prog tb1 133 ⟨.int .u64, 0, [], 8⟩ := TySem.ofInt (by kernel_rfl) (by kernel_rfl) rfl
theorem tb1ty_140 : TySem Tryd.prog tb1 140 ⟨.sl (.int .i64), 3, [], 24⟩ := TySem.ofSl (by kernel_rfl) (by kernel_rfl) rfl (by kernel_rfl)
theorem tb1ty_147 : TySem Tryd.prog tb1 147 ⟨.int .u64, 0, [], 8⟩ := TySem.ofInt (by kernel_rfl) (by kernel_rfl) rfl
theorem tb1ty_152 : TySem Tryd.prog tb1 152 ⟨.int .u32, 0, [], 4⟩ := TySem.ofInt (by kernel_rfl) (by kernel_rfl) rfl
theorem tb1ty_195 : TySem Tryd.prog tb1 195 ⟨.st (.pair (.int .u8) (.int .u8)), 1, [], 2⟩ := TySem.ofStE (c := 2) (by kernel_rfl) (by kernel_rfl) (by kernel_rfl) rfl (by kernel_rfl) (by kernel_rfl)
theorem tb1_ok : TabOk Tryd.prog tb1 := TabOk.of (all_cons tb1ty_3 (all_cons tb1ty_4 (all_cons tb1ty_5 (all_cons tb1ty_9 (all_cons tb1ty_21 (all_cons tb1ty_22 (all_cons tb1ty_28 (all_cons tb1ty_43 (all_cons tb1ty_45 (all_cons tb1ty_46 (all_cons tb1ty_48 (all_cons tb1ty_56 (all_cons tb1ty_60 (all_cons tb1ty_65 (all_cons tb1ty_77 (all_cons tb1ty_79 (all_cons tb1ty_81 (all_cons tb1ty_95 (all_cons tb1ty_113 (all_cons tb1ty_133 (all_cons tb1ty_140 (all_cons tb1ty_147 (all_cons tb1ty_152 (all_cons tb1ty_195 (all_nil)))))))))))))))))))))))))
end Go.VE
namespace Go.VE
open Go Go.Proofs
/-! ### (quoin/oper.job).indented$1 -/
def oj_indented_1_G : List (Nat × App) := []
theorem oj_indented_1_Gok : GOk Tryd.prog (getG oj_indented_1_G) := GOk.nil
def oj_indented_1_raw (line0 : List Int) (x1 : List Int) (K : Res → List Cell → Prop) : Prop :=
 bif (decide ((List.length line0 : Int) = (0 : Int))) then
 K (.tup [.v (.int .i64) (0 : Int), .v (.sl (.int .u8)) ([] : List Int)]) [⟨.sl (.int .u8), x1⟩]
 else
 K (.tup [.v (.int .i64) (0 : Int), .v (.sl (.int .u8)) x1]) [⟨.sl (.int .u8), x1⟩]
def oj_indented_1_A : List AS := [.v (.sl (.int .u8)), .r none (.sl (.int .u8))]
theorem oj_indented_1_walk (line0 : List Int) (x1 : List Int) (K : Res → List Cell → Prop) : runF tb (getG oj_indented_1_G) [] Tryd.f140 [true, false] (mkA oj_indented_1_A (line0, x1, ())) K = oj_indented_1_raw line0 x1 K := by kernel_rfl

def oj_indented_1_F (line0 : List Int) (x1 : List Int) : Int × List Int :=
 bif (decide ((List.length line0 : Int) = (0 : Int))) then
 ((0 : Int), ([] : List Int))
 else
 ((0 : Int), x1)
set_option maxRecDepth 20000 in
theorem oj_indented_1_sp (line0 : List Int) (x1 : List Int) (K : Res → List Cell → Prop) (_ : wfA oj_indented_1_A (line0, x1, ())) (h : ∀ r : Int × List Int, r = oj_indented_1_F line0 x1 → K (.tup [.v (.int .i64) r.1, .v (.sl (.int .u8)) r.2]) [⟨.sl (.int .u8), x1⟩]) : oj_indented_1_raw line0 x1 K := by
  unfold oj_indented_1_raw
  refine brb (fun c_1 => ?_) (fun c_1 => ?_)
  ·
    have e := h _ ((ctrue c_1) : oj_indented_1_F line0 x1 = _).symm
    exact e
  ·
    have e := h _ ((cfalse c_1) : oj_indented_1_F line0 x1 = _).symm
    exact e
def oj_indented_1_C (v : valsA oj_indented_1_A) (K : Res → List Cell → Prop) : Prop := ∀ r : Int × List Int, r = oj_indented_1_F v.1 v.2.1 → K (.tup [.v (.int .i64) r.1, .v (.sl (.int .u8)) r.2]) [⟨.sl (.int .u8), v.2.1⟩]
def oj_indented_1_S : App := specW oj_indented_1_A oj_indented_1_C
theorem oj_indented_1_wv (K : Res → List Cell → Prop) : ∀ v : valsA oj_indented_1_A, runF tb (getG oj_indented_1_G) [] Tryd.f140 [true, false] (mkA oj_indented_1_A v) K = oj_indented_1_raw v.1 v.2.1 K
  | (line0, x1, ()) => oj_indented_1_walk line0 x1 K
set_option maxRecDepth 20000 in
theorem oj_indented_1_ok : AppOk Tryd.prog 140 oj_indented_1_S :=
  AppOk.specW (spec_ok ((runF_ok tb_M tb_ok oj_indented_1_Gok (LabsOk.nil) (f := 140) (fn := Tryd.f140) (by kernel_rfl) (by kernel_rfl) (by kernel_rfl) [true, false])) fun v K hw h => (oj_indented_1_wv K v).mpr (oj_indented_1_sp v.1 v.2.1 K hw h))

end Go.VE
namespace Go.VE
open Go Go.Proofs
/-! ### (quoin/oper.job).heads -/
def hdI_G : List (Nat × App) := [(35, lines_Split_S), (31, lines_Start_S), (140, oj_indented_1_S), (60, bytes_Clone_S), (67, oper_with_S), (66, lines_First_S)]
theorem hdI_Gok : GOk Tryd.prog (getG hdI_G) := GOk.cons lines_Split_ok (GOk.cons lines_Start_ok (GOk.cons oj_indented_1_ok (GOk.cons bytes_Clone_ok (GOk.cons oper_with_ok (GOk.cons lines_First_ok (GOk.nil))))))
theorem hdI_st : storesC (bodyOf Tryd.f139) = true := by kernel_rfl
def hdI_d0 : List LS := [.f 1 140 [15], .b 2 16 [], .b 4 32 [], .b 5 40 [], .v 6 (.int .i64), .v 8 (.int .i64), .v 31 (.sl (.sl (.int .u8))), .v 32 (.int .i64), .v 33 (.int .i64), .c 15 (.sl (.int .u8)), .c 16 JbT, .c 32 EoT, .c 40 EoT]
def hdI_d0x0 : List LS := [.b 2 16 [], .b 4 32 [], .b 5 40 [], .c 15 (.sl (.int .u8)), .c 16 JbT, .c 32 EoT, .c 40 EoT]
def hdI_dx0 : DX := ⟨none, none, [(0, hdI_d0x0)]⟩
def hdI_T0 (Y : Int → Int → List (List Int) → Int → Int → List Int → JbD → EfD → EfD → Prop) (kx0 : List Int → JbD → EfD → EfD → Prop) (grown6 : Int) (at8 : Int) (x31 : List (List Int)) (x32 : Int) (x33 : Int) (f1b : List Int) (j2b : JbD) (x4b : EfD) (x5b : EfD) : Prop :=
 bif (decide (x33 < x32)) then
 bif decide (0 ≤ x33 ∧ x33 < (List.length x31 : Int)) then
 ∀ (r3 : Int × List Int), r3 = oj_indented_1_F (rd ([] : List Int) x31 x33) f1b → (
 wfR (.tup [.v (.int .i64) r3.1, .v (.sl (.int .u8)) r3.2]) → (
 bif (decide ((0 : Int) < r3.1)) then
 bif decide (0 ≤ r3.1 ∧ r3.1 ≤ (List.length (rd ([] : List Int) x31 x33) : Int)) then
 (
 bytes_Clone_P (List.take (Int.toNat r3.1) (rd ([] : List Int) x31 x33)) ∧ (
 ∀ (r4 : List Int), r4 = bytes_Clone_F (List.take (Int.toNat r3.1) (rd ([] : List Int) x31 x33)) → (
 wfR (.one (.fr 5 (.int .u8) r4)) → (
 bytes_Clone_P r3.2 ∧ (
 ∀ (r5 : List Int), r5 = bytes_Clone_F r3.2 → (
 wfR (.one (.fr 5 (.int .u8) r5)) → (
 bif decide (List.length x5b.1 + List.length ([((IntKind.wrap .i64 (at8 + grown6)), r4, r5)] : List ((Int × List Int × List Int))) ≤ lim) then
 Y (IntKind.wrap .i64 (grown6 + (IntKind.wrap .i64 ((List.length r3.2 : Int) - r3.1)))) (IntKind.wrap .i64 (at8 + (IntKind.wrap .i64 ((List.length (rd ([] : List Int) x31 x33) : Int) + (1 : Int))))) x31 x32 (IntKind.wrap .i64 (x33 + (1 : Int))) f1b j2b x4b ((x5b.1 ++ ([((IntKind.wrap .i64 (at8 + grown6)), r4, r5)] : List ((Int × List Int × List Int)))), x5b.2.1, x5b.2.2.1, x5b.2.2.2.1, x5b.2.2.2.2)
 else False))))))) ∧ (
 bytes_Clone_P (List.take (Int.toNat r3.1) (rd ([] : List Int) x31 x33)) ∧ (
 ∀ (r6 : List Int), r6 = bytes_Clone_F (List.take (Int.toNat r3.1) (rd ([] : List Int) x31 x33)) → (
 wfR (.one (.fr 5 (.int .u8) r6)) → (
 (
 bytes_Clone_P r3.2 ∧ (
 ∀ (r7 : List Int), r7 = bytes_Clone_F r3.2 → (
 wfR (.one (.fr 5 (.int .u8) r7)) → (
 bif decide (List.length x5b.1 + List.length ([((IntKind.wrap .i64 (at8 + grown6)), r6, r7)] : List ((Int × List Int × List Int))) ≤ lim) then
 Y (IntKind.wrap .i64 (grown6 + (IntKind.wrap .i64 ((List.length r3.2 : Int) - r3.1)))) (IntKind.wrap .i64 (at8 + (IntKind.wrap .i64 ((List.length (rd ([] : List Int) x31 x33) : Int) + (1 : Int))))) x31 x32 (IntKind.wrap .i64 (x33 + (1 : Int))) f1b j2b x4b ((x5b.1 ++ ([((IntKind.wrap .i64 (at8 + grown6)), r6, r7)] : List ((Int × List Int × List Int)))), x5b.2.1, x5b.2.2.1, x5b.2.2.2.1, x5b.2.2.2.2)
 else False)))) ∧ (
 bytes_Clone_P r3.2 ∧ (
 ∀ (r8 : List Int), r8 = bytes_Clone_F r3.2 → (
 wfR (.one (.fr 5 (.int .u8) r8)) → (
 (
 bif decide (List.length x5b.1 + List.length ([((IntKind.wrap .i64 (at8 + grown6)), r6, r8)] : List ((Int × List Int × List Int))) ≤ lim) then
 Y (IntKind.wrap .i64 (grown6 + (IntKind.wrap .i64 ((List.length r3.2 : Int) - r3.1)))) (IntKind.wrap .i64 (at8 + (IntKind.wrap .i64 ((List.length (rd ([] : List Int) x31 x33) : Int) + (1 : Int))))) x31 x32 (IntKind.wrap .i64 (x33 + (1 : Int))) f1b j2b x4b ((x5b.1 ++ ([((IntKind.wrap .i64 (at8 + grown6)), r6, r8)] : List ((Int × List Int × List Int)))), x5b.2.1, x5b.2.2.1, x5b.2.2.2.1, x5b.2.2.2.2)
 else False) ∧ (
 (
 bif decide (List.length x5b.1 + List.length ([((IntKind.wrap .i64 (at8 + grown6)), r6, r8)] : List ((Int × List Int × List Int))) ≤ lim) then
 Y (IntKind.wrap .i64 (grown6 + (IntKind.wrap .i64 ((List.length r3.2 : Int) - r3.1)))) (IntKind.wrap .i64 (at8 + (IntKind.wrap .i64 ((List.length (rd ([] : List Int) x31 x33) : Int) + (1 : Int))))) x31 x32 (IntKind.wrap .i64 (x33 + (1 : Int))) f1b j2b x4b ((x5b.1 ++ ([((IntKind.wrap .i64 (at8 + grown6)), r6, r8)] : List ((Int × List Int × List Int)))), x5b.2.1, x5b.2.2.1, x5b.2.2.2.1, x5b.2.2.2.2)
 else False) ∧ (
 bif decide (List.length x5b.1 + List.length ([((IntKind.wrap .i64 (at8 + grown6)), r6, r8)] : List ((Int × List Int × List Int))) ≤ lim) then
 Y (IntKind.wrap .i64 (grown6 + (IntKind.wrap .i64 ((List.length r3.2 : Int) - r3.1)))) (IntKind.wrap .i64 (at8 + (IntKind.wrap .i64 ((List.length (rd ([] : List Int) x31 x33) : Int) + (1 : Int))))) x31 x32 (IntKind.wrap .i64 (x33 + (1 : Int))) f1b j2b x4b ((x5b.1 ++ ([((IntKind.wrap .i64 (at8 + grown6)), r6, r8)] : List ((Int × List Int × List Int)))), x5b.2.1, x5b.2.2.1, x5b.2.2.2.1, x5b.2.2.2.2)
 else False) ∧ True) ∧ True)))) ∧ True)))) ∧ True
 else False
 else
 bif (decide ((0 : Int) < (List.length r3.2 : Int))) then
 bif decide (0 ≤ r3.1 ∧ r3.1 ≤ (List.length (rd ([] : List Int) x31 x33) : Int)) then
 (
 bytes_Clone_P (List.take (Int.toNat r3.1) (rd ([] : List Int) x31 x33)) ∧ (
 ∀ (r9 : List Int), r9 = bytes_Clone_F (List.take (Int.toNat r3.1) (rd ([] : List Int) x31 x33)) → (
 wfR (.one (.fr 5 (.int .u8) r9)) → (
 bytes_Clone_P r3.2 ∧ (
 ∀ (r10 : List Int), r10 = bytes_Clone_F r3.2 → (
 wfR (.one (.fr 5 (.int .u8) r10)) → (
 bif decide (List.length x5b.1 + List.length ([((IntKind.wrap .i64 (at8 + grown6)), r9, r10)] : List ((Int × List Int × List Int))) ≤ lim) then
 Y (IntKind.wrap .i64 (grown6 + (IntKind.wrap .i64 ((List.length r3.2 : Int) - r3.1)))) (IntKind.wrap .i64 (at8 + (IntKind.wrap .i64 ((List.length (rd ([] : List Int) x31 x33) : Int) + (1 : Int))))) x31 x32 (IntKind.wrap .i64 (x33 + (1 : Int))) f1b j2b x4b ((x5b.1 ++ ([((IntKind.wrap .i64 (at8 + grown6)), r9, r10)] : List ((Int × List Int × List Int)))), x5b.2.1, x5b.2.2.1, x5b.2.2.2.1, x5b.2.2.2.2)
 else False))))))) ∧ (
 bytes_Clone_P (List.take (Int.toNat r3.1) (rd ([] : List Int) x31 x33)) ∧ (
 ∀ (r11 : List Int), r11 = bytes_Clone_F (List.take (Int.toNat r3.1) (rd ([] : List Int) x31 x33)) → (
 wfR (.one (.fr 5 (.int .u8) r11)) → (
 (
 bytes_Clone_P r3.2 ∧ (
 ∀ (r12 : List Int), r12 = bytes_Clone_F r3.2 → (
 wfR (.one (.fr 5 (.int .u8) r12)) → (
 bif decide (List.length x5b.1 + List.length ([((IntKind.wrap .i64 (at8 + grown6)), r11, r12)] : List ((Int × List Int × List Int))) ≤ lim) then
 Y (IntKind.wrap .i64 (grown6 + (IntKind.wrap .i64 ((List.length r3.2 : Int) - r3.1)))) (IntKind.wrap .i64 (at8 + (IntKind.wrap .i64 ((List.length (rd ([] : List Int) x31 x33) : Int) + (1 : Int))))) x31 x32 (IntKind.wrap .i64 (x33 + (1 : Int))) f1b j2b x4b ((x5b.1 ++ ([((IntKind.wrap .i64 (at8 + grown6)), r11, r12)] : List ((Int × List Int × List Int)))), x5b.2.1, x5b.2.2.1, x5b.2.2.2.1, x5b.2.2.2.2)
 else False)))) ∧ (
 bytes_Clone_P r3.2 ∧ (
 ∀ (r13 : List Int), r13 = bytes_Clone_F r3.2 → (
 wfR (.one (.fr 5 (.int .u8) r13)) → (
 (
 bif decide (List.length x5b.1 + List.length ([((IntKind.wrap .i64 (at8 + grown6)), r11, r13)] : List ((Int × List Int × List Int))) ≤ lim) then
 Y (IntKind.wrap .i64 (grown6 + (IntKind.wrap .i64 ((List.length r3.2 : Int) - r3.1)))) (IntKind.wrap .i64 (at8 + (IntKind.wrap .i64 ((List.length (rd ([] : List Int) x31 x33) : Int) + (1 : Int))))) x31 x32 (IntKind.wrap .i64 (x33 + (1 : Int))) f1b j2b x4b ((x5b.1 ++ ([((IntKind.wrap .i64 (at8 + grown6)), r11, r13)] : List ((Int × List Int × List Int)))), x5b.2.1, x5b.2.2.1, x5b.2.2.2.1, x5b.2.2.2.2)
 else False) ∧ (
 (
 bif decide (List.length x5b.1 + List.length ([((IntKind.wrap .i64 (at8 + grown6)), r11, r13)] : List ((Int × List Int × List Int))) ≤ lim) then
 Y (IntKind.wrap .i64 (grown6 + (IntKind.wrap .i64 ((List.length r3.2 : Int) - r3.1)))) (IntKind.wrap .i64 (at8 + (IntKind.wrap .i64 ((List.length (rd ([] : List Int) x31 x33) : Int) + (1 : Int))))) x31 x32 (IntKind.wrap .i64 (x33 + (1 : Int))) f1b j2b x4b ((x5b.1 ++ ([((IntKind.wrap .i64 (at8 + grown6)), r11, r13)] : List ((Int × List Int × List Int)))), x5b.2.1, x5b.2.2.1, x5b.2.2.2.1, x5b.2.2.2.2)
 else False) ∧ (
 bif decide (List.length x5b.1 + List.length ([((IntKind.wrap .i64 (at8 + grown6)), r11, r13)] : List ((Int × List Int × List Int))) ≤ lim) then
 Y (IntKind.wrap .i64 (grown6 + (IntKind.wrap .i64 ((List.length r3.2 : Int) - r3.1)))) (IntKind.wrap .i64 (at8 + (IntKind.wrap .i64 ((List.length (rd ([] : List Int) x31 x33) : Int) + (1 : Int))))) x31 x32 (IntKind.wrap .i64 (x33 + (1 : Int))) f1b j2b x4b ((x5b.1 ++ ([((IntKind.wrap .i64 (at8 + grown6)), r11, r13)] : List ((Int × List Int × List Int)))), x5b.2.1, x5b.2.2.1, x5b.2.2.2.1, x5b.2.2.2.2)
 else False) ∧ True) ∧ True)))) ∧ True)))) ∧ True
 else False
 else
 Y grown6 (IntKind.wrap .i64 (at8 + (IntKind.wrap .i64 ((List.length (rd ([] : List Int) x31 x33) : Int) + (1 : Int))))) x31 x32 (IntKind.wrap .i64 (x33 + (1 : Int))) f1b j2b x4b x5b))
 else False
 else
 kx0 f1b j2b x4b x5b
def hdI_L0 (kx0 : List Int → JbD → EfD → EfD → Prop) : Nat → Int → Int → List (List Int) → Int → Int → List Int → JbD → EfD → EfD → Prop
  | 0, _, _, _, _, _, _, _, _, _ => False
  | n + 1, grown6, at8, x31, x32, x33, f1b, j2b, x4b, x5b => wfD hdI_d0 (grown6, at8, x31, x32, x33, f1b, j2b, x4b, x5b, ()) → hdI_T0 (hdI_L0 kx0 n) kx0 grown6 at8 x31 x32 x33 f1b j2b x4b x5b
theorem hdI_s0 (k : Ex → St → Prop) (Y : vals hdI_d0 → Prop) (grown6 : Int) (at8 : Int) (x31 : List (List Int)) (x32 : Int) (x33 : Int) (f1b : List Int) (j2b : JbD) (x4b : EfD) (x5b : EfD) :
    ex tb1 (getG hdI_G) [] (at' (bodyOf Tryd.f139) [0, 0, 1, 0, 1, 1, 1, 1, 1]) [0, 0, 1, 0, 1, 1, 1, 1, 1] (mkD 90 hdI_d0 (grown6, at8, x31, x32, x33, f1b, j2b, x4b, x5b, ())) (lpK 90 hdI_d0 hdI_dx0 k Y) =
    hdI_T0 (fun grown6 at8 x31 x32 x33 f1b j2b x4b x5b => Y (grown6, at8, x31, x32, x33, f1b, j2b, x4b, x5b, ())) (fun f1b j2b x4b x5b => wfD hdI_d0x0 (f1b, j2b, x4b, x5b, ()) → k (.exit 0) (mkD 90 hdI_d0x0 (f1b, j2b, x4b, x5b, ()))) grown6 at8 x31 x32 x33 f1b j2b x4b x5b := by kernel_rfl
theorem hdI_e0 (k : Ex → St → Prop) : ∀ (n : Nat) (grown6 : Int) (at8 : Int) (x31 : List (List Int)) (x32 : Int) (x33 : Int) (f1b : List Int) (j2b : JbD) (x4b : EfD) (x5b : EfD), lpD 90 hdI_d0 hdI_dx0 (ex tb1 (getG hdI_G) [] (at' (bodyOf Tryd.f139) [0, 0, 1, 0, 1, 1, 1, 1, 1]) [0, 0, 1, 0, 1, 1, 1, 1, 1]) k n (grown6, at8, x31, x32, x33, f1b, j2b, x4b, x5b, ()) = hdI_L0 (fun f1b j2b x4b x5b => wfD hdI_d0x0 (f1b, j2b, x4b, x5b, ()) → k (.exit 0) (mkD 90 hdI_d0x0 (f1b, j2b, x4b, x5b, ()))) n grown6 at8 x31 x32 x33 f1b j2b x4b x5b
  | 0, _, _, _, _, _, _, _, _, _ => rfl
  | n + 1, grown6, at8, x31, x32, x33, f1b, j2b, x4b, x5b => congrArg (fun Z : Prop => wfD hdI_d0 (grown6, at8, x31, x32, x33, f1b, j2b, x4b, x5b, ()) → Z) ((hdI_s0 k (lpD 90 hdI_d0 hdI_dx0 (ex tb1 (getG hdI_G) [] (at' (bodyOf Tryd.f139) [0, 0, 1, 0, 1, 1, 1, 1, 1]) [0, 0, 1, 0, 1, 1, 1, 1, 1]) k n) grown6 at8 x31 x32 x33 f1b j2b x4b x5b).trans (congrArg (fun Y => hdI_T0 Y (fun f1b j2b x4b x5b => wfD hdI_d0x0 (f1b, j2b, x4b, x5b, ()) → k (.exit 0) (mkD 90 hdI_d0x0 (f1b, j2b, x4b, x5b, ()))) grown6 at8 x31 x32 x33 f1b j2b x4b x5b) (funext fun grown6 => funext fun at8 => funext fun x31 => funext fun x32 => funext fun x33 => funext fun f1b => funext fun j2b => funext fun x4b => funext fun x5b => hdI_e0 k n grown6 at8 x31 x32 x33 f1b j2b x4b x5b)))
theorem hdI_v0 (k : Ex → St → Prop) (n : Nat) : ∀ v : vals hdI_d0, lpD 90 hdI_d0 hdI_dx0 (ex tb1 (getG hdI_G) [] (at' (bodyOf Tryd.f139) [0, 0, 1, 0, 1, 1, 1, 1, 1]) [0, 0, 1, 0, 1, 1, 1, 1, 1]) k n v = hdI_L0 (fun f1b j2b x4b x5b => wfD hdI_d0x0 (f1b, j2b, x4b, x5b, ()) → k (.exit 0) (mkD 90 hdI_d0x0 (f1b, j2b, x4b, x5b, ()))) n v.1 v.2.1 v.2.2.1 v.2.2.2.1 v.2.2.2.2.1 v.2.2.2.2.2.1 v.2.2.2.2.2.2.1 v.2.2.2.2.2.2.2.1 v.2.2.2.2.2.2.2.2.1
  | (grown6, at8, x31, x32, x33, f1b, j2b, x4b, x5b, ()) => hdI_e0 k n grown6 at8 x31 x32 x33 f1b j2b x4b x5b
def hdI_X0 : Pce := fun st k => ckD 90 hdI_d0 st fun v => wfD hdI_d0 v → ∃ n, hdI_L0 (fun f1b j2b x4b x5b => wfD hdI_d0x0 (f1b, j2b, x4b, x5b, ()) → k (.exit 0) (mkD 90 hdI_d0x0 (f1b, j2b, x4b, x5b, ()))) n v.1 v.2.1 v.2.2.1 v.2.2.2.1 v.2.2.2.2.1 v.2.2.2.2.2.1 v.2.2.2.2.2.2.1 v.2.2.2.2.2.2.2.1 v.2.2.2.2.2.2.2.2.1
set_option maxRecDepth 20000 in
theorem hdI_x0 : SemOk Tryd.prog (at' (bodyOf Tryd.f139) [0, 1, 0, 1, 1, 1, 1, 1]) hdI_X0 :=
  (SemOk.loop (ex_sound tb_M tb1_ok hdI_Gok (LabsOk.nil) (at' (bodyOf Tryd.f139) [0, 0, 1, 0, 1, 1, 1, 1, 1]) [0, 0, 1, 0, 1, 1, 1, 1, 1] rfl (storesC_at hdI_st [0, 0, 1, 0, 1, 1, 1, 1, 1])) 90 hdI_d0 hdI_dx0).mono fun st k h => ckD_mono h fun v hv hw => (hv hw).elim fun n hn => ⟨n, Eq.mpr (hdI_v0 k n v) hn⟩
def hdI_B0 : Labs := ([0, 1, 0, 1, 1, 1, 1, 1], hdI_X0) :: []
theorem hdI_b0 : LabsOk Tryd.prog (bodyOf Tryd.f139) hdI_B0 := LabsOk.cons hdI_x0 (LabsOk.nil)
def hdI_raw (j0 : JbD) (f1 : List Int) (K : Res → List Cell → Prop) : Prop :=
 lines_Split_P j0.1 ∧ (
 ∀ (r1 : List (List Int)), r1 = lines_Split_F j0.1 → (
 wfR (.one (.fr 22 (.sl (.int .u8)) r1)) → (
 ∀ (r2 : Int × Int), r2 = lines_Start_F j0.1 j0.2.2.2.1 → (
 wfR (.tup [.v (.int .i64) r2.1, .v (.int .i64) r2.2]) → (
 bif decide (0 ≤ j0.2.2.2.1 ∧ j0.2.2.2.1 ≤ (IntKind.wrap .i64 (j0.2.2.2.2.1 + (1 : Int))) ∧ (IntKind.wrap .i64 (j0.2.2.2.2.1 + (1 : Int))) ≤ (List.length r1 : Int)) then
 (wfD hdI_d0 ((0 : Int), r2.1, (slc r1 j0.2.2.2.1 (IntKind.wrap .i64 (j0.2.2.2.2.1 + (1 : Int)))), (List.length (slc r1 j0.2.2.2.1 (IntKind.wrap .i64 (j0.2.2.2.2.1 + (1 : Int)))) : Int), (0 : Int), f1, j0, (([] : List ((Int × List Int × List Int))), (0 : Int), (false, false, ([] : List Int)), (0 : Int), false), (([] : List ((Int × List Int × List Int))), (0 : Int), (false, false, ([] : List Int)), (0 : Int), false), ()) → ∃ n, hdI_L0 (fun (f1b : List Int) (j2b : JbD) (x4b : EfD) (x5b : EfD) => wfD hdI_d0x0 (f1b, j2b, x4b, x5b, ()) → (
 oper_with_P j2b.1 x5b.1 ∧ (
 ∀ (r14 : List Int), r14 = oper_with_F j2b.1 x5b.1 → (
 wfR (.one (.fr 5 (.int .u8) r14)) → (
 ∀ (r15 : Int × Int), r15 = lines_First_F r14 j2b.2.2.2.1 → (
 wfR (.tup [.v (.int .i64) r15.1, .v (.int .i64) r15.2]) → (
 K (.one (.v EfT (x5b.1, r15.1, x5b.2.2.1, x5b.2.2.2.1, x5b.2.2.2.2))) [⟨.sl (.int .u8), f1b⟩]))))))) n (0 : Int) r2.1 (slc r1 j0.2.2.2.1 (IntKind.wrap .i64 (j0.2.2.2.2.1 + (1 : Int)))) (List.length (slc r1 j0.2.2.2.1 (IntKind.wrap .i64 (j0.2.2.2.2.1 + (1 : Int)))) : Int) (0 : Int) f1 j0 (([] : List ((Int × List Int × List Int))), (0 : Int), (false, false, ([] : List Int)), (0 : Int), false) (([] : List ((Int × List Int × List Int))), (0 : Int), (false, false, ([] : List Int)), (0 : Int), false))
 else False)))))
def hdI_A : List AS := [.v JbT, .r (some 140) (.sl (.int .u8))]
theorem hdI_walk (j0 : JbD) (f1 : List Int) (K : Res → List Cell → Prop) : runF tb1 (getG hdI_G) hdI_B0 Tryd.f139 [true] (mkA hdI_A (j0, f1, ())) K = hdI_raw j0 f1 K := by kernel_rfl
--! held api.Effect 0
--! fns 1 oj_indented_1 oj_outdented_1
--! pre 1
--! sub_oj_indented_1 CT=List Int|G0=oj_indented_1_F l c|INTRO=fun r3 hr3 _ => ?_|R2=r3.2|E3=e1|OT=.sl (.int .u8)
--! sub_oj_outdented_1 CT=List Int × Int × (Int × Int × Bool × Bool) × Int × Int × Int|G0=((oj_outdented_1_F l c).1, (oj_outdented_1_F l c).2.1)|INTRO=⟨show _ ≤ lim by omega, fun r3 hr3 _ => ?_⟩|R2=r3.2.1|E3=e1, show r3.2.2 = c by rw [hr3]; rfl|OT=.st (.pair (.sl (.int .u8)) (.pair (.int .i64) (.pair (.st (.pair (.int .i64) (.pair (.int .i64) (.pair (.bool) (.bool))))) (.pair (.int .i64) (.pair (.int .i64) (.int .i64))))))
def hdI_g (c : List Int) (l : List Int) : Int × List Int := oj_indented_1_F l c
def hdI_P (j : List Int × Int × (Int × Int × Bool × Bool) × Int × Int × Int) (c : List Int) : Prop :=
 HeadsP (hdI_g c) j.1 j.2.2.2.1 j.2.2.2.2.1 ∧ oper_with_P j.1 (headsL (hdI_g c) (slc (lines_Split_F j.1) j.2.2.2.1 (j.2.2.2.2.1 + 1)) (lines_Start_F j.1 j.2.2.2.1).1 0)
def hdI_F (j : List Int × Int × (Int × Int × Bool × Bool) × Int × Int × Int) (c : List Int) : EffT × (List Int) :=
 ((headsL (hdI_g c) (slc (lines_Split_F j.1) j.2.2.2.1 (j.2.2.2.2.1 + 1)) (lines_Start_F j.1 j.2.2.2.1).1 0, (lines_First_F (oper_with_F j.1 (headsL (hdI_g c) (slc (lines_Split_F j.1) j.2.2.2.1 (j.2.2.2.2.1 + 1)) (lines_Start_F j.1 j.2.2.2.1).1 0)) j.2.2.2.1).1, (false, false, []), 0, false), c)
theorem hdI_l0 (kx0 : List Int → JbD → EffT → EffT → Prop) (L : List (List Int)) (hL : L.length ≤ 1099511627776) (c : List Int) (hg : ∀ l ∈ L, 0 ≤ (hdI_g c l).1 ∧ (hdI_g c l).1 ≤ (l.length : Int)) (j : List Int × Int × (Int × Int × Bool × Bool) × Int × Int × Int) (x4 : EffT) (z : Int) (rg : Bool × Bool × List Int) (ho : Int) (ty : Bool) :
    ∀ (n i : Nat) (p grown : Int) (xs : List (Int × List Int × List Int)), L.length < n + i → i ≤ L.length → 0 ≤ p → p + (massH (hdI_g c) (L.drop i) : Int) ≤ 1099511627776 → -1099511627776 ≤ grown - (massH (hdI_g c) (L.drop i) : Int) → grown + (massH (hdI_g c) (L.drop i) : Int) ≤ 1099511627776 → xs.length + massH (hdI_g c) (L.drop i) ≤ 1099511627776 →
      kx0 c j x4 (xs ++ headsL (hdI_g c) (L.drop i) p grown, z, rg, ho, ty) → hdI_L0 kx0 n grown p L (L.length : Int) (i : Int) c j x4 (xs, z, rg, ho, ty)
  | 0, i, p, grown, xs, h, h2, _, _, _, _, _, _ => by omega
  | n + 1, i, p, grown, xs, h, h2, h0, m1, m2, m3, m4, hk => by
    intro _
    unfold hdI_T0
    have hlim : lim = 1099511627776 := rfl
    refine brn (fun hlt => asrt ⟨by omega, hlt⟩ ?_) (fun hge => ?_)
    · have hi : i < L.length := by omega
      rw [rd_nat _ _ _ hi]
      have hgl := hg L[i] (List.getElem_mem hi)
      rw [List.drop_eq_getElem_cons hi] at m1 m2 m3 m4 hk
      generalize L[i] = l at *
      simp only [massH, headsL] at m1 m2 m3 m4 hk
      refine fun r3 hr3 _ => ?_
      have e1 : r3.1 = (hdI_g c l).1 := by rw [hr3]; rfl
      have e2 : r3.2 = (hdI_g c l).2 := by rw [hr3]; rfl
      rw [e2, e1]
      clear e1 e2 hr3
      generalize (hdI_g c l) = q at *
      have hc1 : (l.take q.1.toNat).length ≤ lim := by rw [List.length_take]; omega
      have hc2 : q.2.length ≤ lim := by omega
      refine brn (fun c1 => asrt hgl ?_) (fun c1 => brn (fun c2 => asrt hgl ?_) (fun c2 => ?_))
      · rw [if_pos (.inl c1)] at hk
        refine ⟨⟨hc1, fun r4 h4 _ => ⟨hc2, fun r5 h5 _ => ?_⟩⟩, ⟨hc1, fun r4 h4 _ => ⟨⟨hc2, fun r5 h5 _ => ?_⟩, ⟨hc2, fun r5 h5 _ => ⟨?_, ⟨?_, ?_, trivial⟩, trivial⟩⟩, trivial⟩⟩, trivial⟩
        all_goals
          replace h4 : r4 = l.take q.1.toNat := h4
          replace h5 : r5 = q.2 := h5
          subst r4 r5
          dsimp only
          refine asrt (by show xs.length + 1 ≤ lim; omega) ?_
          rw [wrap_i64 (n := p + grown) (by omega) (by omega), wrap_i64 (n := (List.length q.2 : Int) - q.1) (by omega) (by omega), wrap_i64 (n := grown + ((List.length q.2 : Int) - q.1)) (by omega) (by omega), wrap_i64 (n := (List.length l : Int) + 1) (by omega) (by omega), wrap_i64 (n := p + ((List.length l : Int) + 1)) (by omega) (by omega), wrap_i64 (n := (i : Int) + 1) (by omega) (by omega), show (i : Int) + 1 = ((i + 1 : Nat) : Int) by omega]
          refine hdI_l0 kx0 L hL c hg j x4 z rg ho ty n (i + 1) _ _ _ (by omega) (by omega) (by omega) (by omega) (by omega) (by omega) (by rw [List.length_append, List.length_singleton]; omega) ?_
          rw [List.append_assoc]
          exact hk
      · rw [if_pos (.inr (by omega))] at hk
        refine ⟨⟨hc1, fun r4 h4 _ => ⟨hc2, fun r5 h5 _ => ?_⟩⟩, ⟨hc1, fun r4 h4 _ => ⟨⟨hc2, fun r5 h5 _ => ?_⟩, ⟨hc2, fun r5 h5 _ => ⟨?_, ⟨?_, ?_, trivial⟩, trivial⟩⟩, trivial⟩⟩, trivial⟩
        all_goals
          replace h4 : r4 = l.take q.1.toNat := h4
          replace h5 : r5 = q.2 := h5
          subst r4 r5
          dsimp only
          refine asrt (by show xs.length + 1 ≤ lim; omega) ?_
          rw [wrap_i64 (n := p + grown) (by omega) (by omega), wrap_i64 (n := (List.length q.2 : Int) - q.1) (by omega) (by omega), wrap_i64 (n := grown + ((List.length q.2 : Int) - q.1)) (by omega) (by omega), wrap_i64 (n := (List.length l : Int) + 1) (by omega) (by omega), wrap_i64 (n := p + ((List.length l : Int) + 1)) (by omega) (by omega), wrap_i64 (n := (i : Int) + 1) (by omega) (by omega), show (i : Int) + 1 = ((i + 1 : Nat) : Int) by omega]
          refine hdI_l0 kx0 L hL c hg j x4 z rg ho ty n (i + 1) _ _ _ (by omega) (by omega) (by omega) (by omega) (by omega) (by omega) (by rw [List.length_append, List.length_singleton]; omega) ?_
          rw [List.append_assoc]
          exact hk
      · rw [if_neg (by omega)] at hk
        rw [wrap_i64 (n := (List.length l : Int) + 1) (by omega) (by omega), wrap_i64 (n := p + ((List.length l : Int) + 1)) (by omega) (by omega), wrap_i64 (n := (i : Int) + 1) (by omega) (by omega), show (i : Int) + 1 = ((i + 1 : Nat) : Int) by omega]
        exact hdI_l0 kx0 L hL c hg j x4 z rg ho ty n (i + 1) _ _ _ (by omega) (by omega) (by omega) (by omega) (by omega) (by omega) (by omega) hk
    · rw [List.drop_eq_nil_of_le (by omega), headsL, List.append_nil] at hk
      exact hk
theorem hdI_sp (j : List Int × Int × (Int × Int × Bool × Bool) × Int × Int × Int) (c : List Int) (K : Res → List Cell → Prop) (_ : wfA hdI_A (j, c, ())) (hp : hdI_P j c)
    (h : ∀ r : EffT × (List Int), r = hdI_F j c → K (.one (.v EfT r.1)) [⟨.sl (.int .u8), r.2⟩]) : hdI_raw j c K := by
  obtain ⟨⟨h1, h2, h3, h4, h5, h6⟩, h7⟩ := hp
  have hlim : lim = 1099511627776 := rfl
  have hs := lines_Start_F_le j.1 j.2.2.2.1
  unfold hdI_raw
  refine ⟨h1, fun r1 hr1 _ r2 hr2 _ => ?_⟩
  subst r1 r2
  have hc := List.count_le_length (a := (10 : Int)) (l := j.1)
  have hsl : (lines_Split_F j.1).length ≤ j.1.length + 1 := by
    have := (splN_len (j.1.count 10) j.1).2
    unfold lines_Split_F; omega
  rw [wrap_i64 (n := j.2.2.2.2.1 + 1) (by omega) (by omega)]
  refine asrt ⟨h2, h3, h4⟩ fun _ => ?_
  have hL : (slc (lines_Split_F j.1) j.2.2.2.1 (j.2.2.2.2.1 + 1)).length ≤ 1099511627776 := by
    unfold slc; rw [List.length_drop, List.length_take]; omega
  refine ⟨_, hdI_l0 _ _ hL c h5 j _ 0 (false, false, []) 0 false ((slc (lines_Split_F j.1) j.2.2.2.1 (j.2.2.2.2.1 + 1)).length + 1) 0 _ 0 [] (by omega) (Nat.zero_le _) hs.1 (by rw [List.drop_zero]; omega) (by rw [List.drop_zero]; omega) (by rw [List.drop_zero]; omega) (by rw [List.drop_zero, List.length_nil]; omega) (fun _ => ?_)⟩
  rw [List.drop_zero, List.nil_append]
  refine ⟨h7, fun r14 e14 _ r15 e15 _ => ?_⟩
  subst r14 r15
  exact h (_, c) rfl

def hdI_C (v : valsA hdI_A) (K : Res → List Cell → Prop) : Prop := hdI_P v.1 v.2.1 ∧ ∀ r : EfD × List Int, r = hdI_F v.1 v.2.1 → K (.one (.v EfT r.1)) [⟨.sl (.int .u8), r.2⟩]
def hdI_S : App := specW hdI_A hdI_C
theorem hdI_wv (K : Res → List Cell → Prop) : ∀ v : valsA hdI_A, runF tb1 (getG hdI_G) hdI_B0 Tryd.f139 [true] (mkA hdI_A v) K = hdI_raw v.1 v.2.1 K
  | (j0, f1, ()) => hdI_walk j0 f1 K
set_option maxRecDepth 20000 in
theorem hdI_ok : AppOk Tryd.prog 139 hdI_S :=
  AppOk.specW (spec_ok ((runF_ok tb_M tb1_ok hdI_Gok (hdI_b0) (f := 139) (fn := Tryd.f139) (by kernel_rfl) (by kernel_rfl) hdI_st [true])) fun v K hw h => (hdI_wv K v).mpr (hdI_sp v.1 v.2.1 K hw h.1 h.2))
end Go.VE
namespace Go.VE
open Go Go.Proofs
/-! ### (quoin/oper.job).indented -/
def oj_indented_G : List (Nat × App) := [(35, lines_Split_S), (62, bytes_Repeat_S), (139, hdI_S)]
theorem oj_indented_Gok : GOk Tryd.prog (getG oj_indented_G) := GOk.cons lines_Split_ok (GOk.cons bytes_Repeat_ok (GOk.cons hdI_ok (GOk.nil)))
theorem oj_indented_st : storesC (bodyOf Tryd.f106) = true := by kernel_rfl
def oj_indented_d0 : List LS := [.b 1 8 [], .b 2 16 [], .v 4 (.int .i64), .v 16 (.sl (.sl (.int .u8))), .v 17 (.int .i64), .v 18 (.int .i64), .c 8 JbT, .c 16 EfT]
def oj_indented_d0x0 : List LS := [.b 1 8 [], .b 2 16 [], .v 4 (.int .i64), .c 8 JbT, .c 16 EfT]
def oj_indented_dx0 : DX := ⟨none, none, [(0, oj_indented_d0x0)]⟩
def oj_indented_T0 (Y : Int → List (List Int) → Int → Int → JbD → EfD → Prop) (kx0 : Int → JbD → EfD → Prop) (n4 : Int) (x16 : List (List Int)) (x17 : Int) (x18 : Int) (j1b : JbD) (x2b : EfD) : Prop :=
 bif (decide (x18 < x17)) then
 bif decide (0 ≤ x18 ∧ x18 < (List.length x16 : Int)) then
 bif (decide ((0 : Int) < (List.length (rd ([] : List Int) x16 x18) : Int))) then
 Y (IntKind.wrap .i64 (n4 + j1b.2.2.2.2.2)) x16 x17 (IntKind.wrap .i64 (x18 + (1 : Int))) j1b x2b
 else
 Y n4 x16 x17 (IntKind.wrap .i64 (x18 + (1 : Int))) j1b x2b
 else False
 else
 kx0 n4 j1b x2b
def oj_indented_L0 (kx0 : Int → JbD → EfD → Prop) : Nat → Int → List (List Int) → Int → Int → JbD → EfD → Prop
  | 0, _, _, _, _, _, _ => False
  | n + 1, n4, x16, x17, x18, j1b, x2b => wfD oj_indented_d0 (n4, x16, x17, x18, j1b, x2b, ()) → oj_indented_T0 (oj_indented_L0 kx0 n) kx0 n4 x16 x17 x18 j1b x2b
theorem oj_indented_s0 (k : Ex → St → Prop) (Y : vals oj_indented_d0 → Prop) (n4 : Int) (x16 : List (List Int)) (x17 : Int) (x18 : Int) (j1b : JbD) (x2b : EfD) :
    ex tb (getG oj_indented_G) [] (at' (bodyOf Tryd.f106) [0, 0, 1, 0, 1, 1]) [0, 0, 1, 0, 1, 1] (mkD 40 oj_indented_d0 (n4, x16, x17, x18, j1b, x2b, ())) (lpK 40 oj_indented_d0 oj_indented_dx0 k Y) =
    oj_indented_T0 (fun n4 x16 x17 x18 j1b x2b => Y (n4, x16, x17, x18, j1b, x2b, ())) (fun n4 j1b x2b => wfD oj_indented_d0x0 (n4, j1b, x2b, ()) → k (.exit 0) (mkD 40 oj_indented_d0x0 (n4, j1b, x2b, ()))) n4 x16 x17 x18 j1b x2b := by kernel_rfl
theorem oj_indented_e0 (k : Ex → St → Prop) : ∀ (n : Nat) (n4 : Int) (x16 : List (List Int)) (x17 : Int) (x18 : Int) (j1b : JbD) (x2b : EfD), lpD 40 oj_indented_d0 oj_indented_dx0 (ex tb (getG oj_indented_G) [] (at' (bodyOf Tryd.f106) [0, 0, 1, 0, 1, 1]) [0, 0, 1, 0, 1, 1]) k n (n4, x16, x17, x18, j1b, x2b, ()) = oj_indented_L0 (fun n4 j1b x2b => wfD oj_indented_d0x0 (n4, j1b, x2b, ()) → k (.exit 0) (mkD 40 oj_indented_d0x0 (n4, j1b, x2b, ()))) n n4 x16 x17 x18 j1b x2b
  | 0, _, _, _, _, _, _ => rfl
  | n + 1, n4, x16, x17, x18, j1b, x2b => congrArg (fun Z : Prop => wfD oj_indented_d0 (n4, x16, x17, x18, j1b, x2b, ()) → Z) ((oj_indented_s0 k (lpD 40 oj_indented_d0 oj_indented_dx0 (ex tb (getG oj_indented_G) [] (at' (bodyOf Tryd.f106) [0, 0, 1, 0, 1, 1]) [0, 0, 1, 0, 1, 1]) k n) n4 x16 x17 x18 j1b x2b).trans (congrArg (fun Y => oj_indented_T0 Y (fun n4 j1b x2b => wfD oj_indented_d0x0 (n4, j1b, x2b, ()) → k (.exit 0) (mkD 40 oj_indented_d0x0 (n4, j1b, x2b, ()))) n4 x16 x17 x18 j1b x2b) (funext fun n4 => funext fun x16 => funext fun x17 => funext fun x18 => funext fun j1b => funext fun x2b => oj_indented_e0 k n n4 x16 x17 x18 j1b x2b)))
theorem oj_indented_v0 (k : Ex → St → Prop) (n : Nat) : ∀ v : vals oj_indented_d0, lpD 40 oj_indented_d0 oj_indented_dx0 (ex tb (getG oj_indented_G) [] (at' (bodyOf Tryd.f106) [0, 0, 1, 0, 1, 1]) [0, 0, 1, 0, 1, 1]) k n v = oj_indented_L0 (fun n4 j1b x2b => wfD oj_indented_d0x0 (n4, j1b, x2b, ()) → k (.exit 0) (mkD 40 oj_indented_d0x0 (n4, j1b, x2b, ()))) n v.1 v.2.1 v.2.2.1 v.2.2.2.1 v.2.2.2.2.1 v.2.2.2.2.2.1
  | (n4, x16, x17, x18, j1b, x2b, ()) => oj_indented_e0 k n n4 x16 x17 x18 j1b x2b
def oj_indented_X0 : Pce := fun st k => ckD 40 oj_indented_d0 st fun v => wfD oj_indented_d0 v → ∃ n, oj_indented_L0 (fun n4 j1b x2b => wfD oj_indented_d0x0 (n4, j1b, x2b, ()) → k (.exit 0) (mkD 40 oj_indented_d0x0 (n4, j1b, x2b, ()))) n v.1 v.2.1 v.2.2.1 v.2.2.2.1 v.2.2.2.2.1 v.2.2.2.2.2.1
set_option maxRecDepth 20000 in
theorem oj_indented_x0 : SemOk Tryd.prog (at' (bodyOf Tryd.f106) [0, 1, 0, 1, 1]) oj_indented_X0 :=
  (SemOk.loop (ex_sound tb_M tb_ok oj_indented_Gok (LabsOk.nil) (at' (bodyOf Tryd.f106) [0, 0, 1, 0, 1, 1]) [0, 0, 1, 0, 1, 1] rfl (storesC_at oj_indented_st [0, 0, 1, 0, 1, 1])) 40 oj_indented_d0 oj_indented_dx0).mono fun st k h => ckD_mono h fun v hv hw => (hv hw).elim fun n hn => ⟨n, Eq.mpr (oj_indented_v0 k n v) hn⟩
def oj_indented_B0 : Labs := ([0, 1, 0, 1, 1], oj_indented_X0) :: []
theorem oj_indented_b0 : LabsOk Tryd.prog (bodyOf Tryd.f106) oj_indented_B0 := LabsOk.cons oj_indented_x0 (LabsOk.nil)
def oj_indented_raw (j0 : JbD) (K : Res → List Cell → Prop) : Prop :=
 lines_Split_P j0.1 ∧ (
 ∀ (r1 : List (List Int)), r1 = lines_Split_F j0.1 → (
 wfR (.one (.fr 22 (.sl (.int .u8)) r1)) → (
 bif decide (0 ≤ j0.2.2.2.1 ∧ j0.2.2.2.1 ≤ (IntKind.wrap .i64 (j0.2.2.2.2.1 + (1 : Int))) ∧ (IntKind.wrap .i64 (j0.2.2.2.2.1 + (1 : Int))) ≤ (List.length r1 : Int)) then
 (wfD oj_indented_d0 ((0 : Int), (slc r1 j0.2.2.2.1 (IntKind.wrap .i64 (j0.2.2.2.2.1 + (1 : Int)))), (List.length (slc r1 j0.2.2.2.1 (IntKind.wrap .i64 (j0.2.2.2.2.1 + (1 : Int)))) : Int), (0 : Int), j0, (([] : List ((Int × List Int × List Int))), (0 : Int), (false, false, ([] : List Int)), (0 : Int), false), ()) → ∃ n, oj_indented_L0 (fun (n4 : Int) (j1b : JbD) (x2b : EfD) => wfD oj_indented_d0x0 (n4, j1b, x2b, ()) → (
 bif (decide ((65536 : Int) < n4)) then
 K (.tup [.v EfT (([] : List ((Int × List Int × List Int))), (0 : Int), (false, false, ([] : List Int)), (0 : Int), false), .v (.int .i64) (1 : Int)]) []
 else
 bytes_Repeat_P ([(9 : Int)] : List Int) j1b.2.2.2.2.2 ∧ (
 ∀ (r2 : List Int), r2 = bytes_Repeat_F ([(9 : Int)] : List Int) j1b.2.2.2.2.2 → (
 wfR (.one (.fr 5 (.int .u8) r2)) → (
 hdI_P j1b r2 ∧ (
 ∀ (r3 : EfD × List Int), r3 = hdI_F j1b r2 → (
 wfR (.one (.v EfT r3.1)) → (
 K (.tup [.v EfT r3.1, .v (.int .i64) (0 : Int)]) [])))))))) n (0 : Int) (slc r1 j0.2.2.2.1 (IntKind.wrap .i64 (j0.2.2.2.2.1 + (1 : Int)))) (List.length (slc r1 j0.2.2.2.1 (IntKind.wrap .i64 (j0.2.2.2.2.1 + (1 : Int)))) : Int) (0 : Int) j0 (([] : List ((Int × List Int × List Int))), (0 : Int), (false, false, ([] : List Int)), (0 : Int), false))
 else False)))
def oj_indented_A : List AS := [.v JbT]
theorem oj_indented_walk (j0 : JbD) (K : Res → List Cell → Prop) : runF tb (getG oj_indented_G) oj_indented_B0 Tryd.f106 [true, true] (mkA oj_indented_A (j0, ())) K = oj_indented_raw j0 K := by kernel_rfl
--! pre 1
def fullC (c : Int) : List (List Int) → Int
  | [] => 0
  | l :: r => if 0 < l.length then c + fullC c r else fullC c r
theorem fullC_le (c : Int) (h0 : 0 ≤ c) (h1 : c ≤ 9999) : ∀ L : List (List Int), 0 ≤ fullC c L ∧ fullC c L ≤ 9999 * (L.length : Int)
  | [] => by simp [fullC]
  | l :: r => by
    have := fullC_le c h0 h1 r
    unfold fullC
    rw [List.length_cons]
    split <;> omega
def oj_indented_P (j : List Int × Int × (Int × Int × Bool × Bool) × Int × Int × Int) : Prop :=
 j.1.length < lim ∧ 0 ≤ j.2.2.2.1 ∧ j.2.2.2.1 ≤ j.2.2.2.2.1 + 1 ∧ j.2.2.2.2.1 + 1 ≤ ((lines_Split_F j.1).length : Int) ∧ 0 ≤ j.2.2.2.2.2 ∧ j.2.2.2.2.2 ≤ 9999 ∧
 (fullC j.2.2.2.2.2 (slc (lines_Split_F j.1) j.2.2.2.1 (j.2.2.2.2.1 + 1)) ≤ 65536 → hdI_P j (bytes_Repeat_F [9] j.2.2.2.2.2))
def oj_indented_F (j : List Int × Int × (Int × Int × Bool × Bool) × Int × Int × Int) : EffT × Int :=
 if 65536 < fullC j.2.2.2.2.2 (slc (lines_Split_F j.1) j.2.2.2.1 (j.2.2.2.2.1 + 1)) then (([], 0, (false, false, []), 0, false), 1)
 else ((hdI_F j (bytes_Repeat_F [9] j.2.2.2.2.2)).1, 0)
theorem oj_indented_l0 (kx0 : Int → JbD → EffT → Prop) (L : List (List Int)) (hL : L.length ≤ 2199023255552) (j : List Int × Int × (Int × Int × Bool × Bool) × Int × Int × Int) (x2 : EffT) (hc : 0 ≤ j.2.2.2.2.2) :
    ∀ (n i : Nat) (acc : Int), L.length < n + i → i ≤ L.length → 0 ≤ acc → acc + fullC j.2.2.2.2.2 (L.drop i) ≤ 9223372036854775807 → (∀ k, 0 ≤ fullC j.2.2.2.2.2 (L.drop k)) → kx0 (acc + fullC j.2.2.2.2.2 (L.drop i)) j x2 →
      oj_indented_L0 kx0 n acc L (L.length : Int) (i : Int) j x2
  | 0, i, acc, h, h2, _, _, _, _ => by omega
  | n + 1, i, acc, h, h2, h0, h1, hz, hk => by
    intro _
    unfold oj_indented_T0
    refine brn (fun hlt => asrt ⟨by omega, hlt⟩ ?_) (fun hge => ?_)
    · have hi : i < L.length := by omega
      rw [rd_nat _ _ _ hi]
      have hz1 := hz (i + 1)
      rw [List.drop_eq_getElem_cons hi, fullC] at h1 hk
      rw [wrap_i64 (n := (i : Int) + 1) (by omega) (by omega), show (i : Int) + 1 = ((i + 1 : Nat) : Int) by omega]
      refine brn (fun c1 => ?_) (fun c1 => ?_)
      · rw [if_pos (by omega)] at h1 hk
        rw [wrap_i64 (by omega) (by omega)]
        refine oj_indented_l0 kx0 L hL j x2 hc n (i + 1) _ (by omega) (by omega) (by omega) (by omega) hz ?_
        rw [Int.add_assoc]; exact hk
      · rw [if_neg (by omega)] at h1 hk
        exact oj_indented_l0 kx0 L hL j x2 hc n (i + 1) _ (by omega) (by omega) (by omega) (by omega) hz hk
    · rw [List.drop_eq_nil_of_le (by omega), fullC, Int.add_zero] at hk
      exact hk
theorem oj_indented_sp (j : List Int × Int × (Int × Int × Bool × Bool) × Int × Int × Int) (K : Res → List Cell → Prop) (_ : wfA oj_indented_A (j, ())) (hp : oj_indented_P j)
    (h : ∀ r : EffT × Int, r = oj_indented_F j → K (.tup [.v EfT r.1, .v (.int .i64) r.2]) []) : oj_indented_raw j K := by
  obtain ⟨h1, h2, h3, h4, h5, h6, h7⟩ := hp
  have hlim : lim = 1099511627776 := rfl
  unfold oj_indented_raw
  refine ⟨h1, fun r1 hr1 _ => ?_⟩
  subst r1
  have hc := List.count_le_length (a := (10 : Int)) (l := j.1)
  have hsl : (lines_Split_F j.1).length ≤ j.1.length + 1 := by
    have := (splN_len (j.1.count 10) j.1).2
    unfold lines_Split_F; omega
  rw [wrap_i64 (n := j.2.2.2.2.1 + 1) (by omega) (by omega)]
  refine asrt ⟨h2, h3, h4⟩ fun _ => ?_
  have hL : (slc (lines_Split_F j.1) j.2.2.2.1 (j.2.2.2.2.1 + 1)).length ≤ 1099511627776 := by
    unfold slc; rw [List.length_drop, List.length_take]; omega
  have hf := fullC_le j.2.2.2.2.2 h5 h6 (slc (lines_Split_F j.1) j.2.2.2.1 (j.2.2.2.2.1 + 1))
  refine ⟨_, oj_indented_l0 _ _ (by omega) j _ h5 ((slc (lines_Split_F j.1) j.2.2.2.1 (j.2.2.2.2.1 + 1)).length + 1) 0 0 (by omega) (Nat.zero_le _) (Int.le_refl _) (by rw [List.drop_zero]; omega) (fun k => (fullC_le _ h5 h6 _).1) (fun _ => ?_)⟩
  rw [List.drop_zero, Int.zero_add]
  refine brn (fun c1 => h (_, 1) (by unfold oj_indented_F; rw [if_pos c1])) (fun c1 => ?_)
  refine ⟨⟨h5, by omega, by decide, by rw [show ((List.length [(9 : Int)] : Nat) : Int) = 1 from rfl]; omega⟩, fun r2 e2 _ => ?_⟩
  subst r2
  refine ⟨h7 (by omega), fun r3 e3 _ => ?_⟩
  subst r3
  exact h (_, 0) (by unfold oj_indented_F; rw [if_neg c1])

def oj_indented_C (v : valsA oj_indented_A) (K : Res → List Cell → Prop) : Prop := oj_indented_P v.1 ∧ ∀ r : EfD × Int, r = oj_indented_F v.1 → K (.tup [.v EfT r.1, .v (.int .i64) r.2]) []
def oj_indented_S : App := specW oj_indented_A oj_indented_C
theorem oj_indented_wv (K : Res → List Cell → Prop) : ∀ v : valsA oj_indented_A, runF tb (getG oj_indented_G) oj_indented_B0 Tryd.f106 [true, true] (mkA oj_indented_A v) K = oj_indented_raw v.1 K
  | (j0, ()) => oj_indented_walk j0 K
set_option maxRecDepth 20000 in
theorem oj_indented_ok : AppOk Tryd.prog 106 oj_indented_S :=
  AppOk.specW (spec_ok ((runF_ok tb_M tb_ok oj_indented_Gok (oj_indented_b0) (f := 106) (fn := Tryd.f106) (by kernel_rfl) (by kernel_rfl) oj_indented_st [true, true])) fun v K hw h => (oj_indented_wv K v).mpr (oj_indented_sp v.1 K hw h.1 h.2))

end Go.VE
namespace Go.VE
open Go Go.Proofs
/-! ### (quoin/oper.job).outdented$1 -/
def oj_outdented_1_G : List (Nat × App) := []
theorem oj_outdented_1_Gok : GOk Tryd.prog (getG oj_outdented_1_G) := GOk.nil
theorem oj_outdented_1_st : storesC (bodyOf Tryd.f141) = true := by kernel_rfl
def oj_outdented_1_d0 : List LS := [.v 0 (.sl (.int .u8)), .v 5 (.int .i64), .v 6 (.int .i64), .v 8 (.int .i64), .v 9 (.int .i64), .c 15 JbT]
def oj_outdented_1_d0x2 : List LS := [.v 0 (.sl (.int .u8)), .v 5 (.int .i64), .v 6 (.int .i64), .v 8 (.int .i64), .v 9 (.int .i64), .c 15 JbT]
def oj_outdented_1_dx0 : DX := ⟨none, none, [(2, oj_outdented_1_d0x2)]⟩
def oj_outdented_1_T0 (Y : List Int → Int → Int → Int → Int → JbD → Prop) (kx2 : List Int → Int → Int → Int → Int → JbD → Prop) (line0 : List Int) (n5 : Int) (m6 : Int) (x8 : Int) (x9 : Int) (x1b : JbD) : Prop :=
 bif (decide (m6 < (List.length line0 : Int))) then
 bif decide (0 ≤ m6 ∧ m6 < (List.length line0 : Int)) then
 bif (decide ((rd (0 : Int) line0 m6) = (32 : Int))) then
 bif (decide (m6 < (IntKind.wrap .i64 (n5 + (8 : Int))))) then
 Y line0 n5 (IntKind.wrap .i64 (m6 + (1 : Int))) x8 x9 x1b
 else
 kx2 line0 n5 m6 x8 x9 x1b
 else
 kx2 line0 n5 m6 x8 x9 x1b
 else False
 else
 kx2 line0 n5 m6 x8 x9 x1b
def oj_outdented_1_L0 (kx2 : List Int → Int → Int → Int → Int → JbD → Prop) : Nat → List Int → Int → Int → Int → Int → JbD → Prop
  | 0, _, _, _, _, _, _ => False
  | n + 1, line0, n5, m6, x8, x9, x1b => wfD oj_outdented_1_d0 (line0, n5, m6, x8, x9, x1b, ()) → oj_outdented_1_T0 (oj_outdented_1_L0 kx2 n) kx2 line0 n5 m6 x8 x9 x1b
theorem oj_outdented_1_s0 (k : Ex → St → Prop) (Y : vals oj_outdented_1_d0 → Prop) (line0 : List Int) (n5 : Int) (m6 : Int) (x8 : Int) (x9 : Int) (x1b : JbD) :
    ex tb (getG oj_outdented_1_G) [] (at' (bodyOf Tryd.f141) [0, 0, 1, 1, 0, 1, 0, 0, 1, 1, 0, 0, 1, 0, 1, 1]) [0, 0, 1, 1, 0, 1, 0, 0, 1, 1, 0, 0, 1, 0, 1, 1] (mkD 50 oj_outdented_1_d0 (line0, n5, m6, x8, x9, x1b, ())) (lpK 50 oj_outdented_1_d0 oj_outdented_1_dx0 k Y) =
    oj_outdented_1_T0 (fun line0 n5 m6 x8 x9 x1b => Y (line0, n5, m6, x8, x9, x1b, ())) (fun line0 n5 m6 x8 x9 x1b => wfD oj_outdented_1_d0x2 (line0, n5, m6, x8, x9, x1b, ()) → k (.exit 2) (mkD 50 oj_outdented_1_d0x2 (line0, n5, m6, x8, x9, x1b, ()))) line0 n5 m6 x8 x9 x1b := by kernel_rfl
theorem oj_outdented_1_e0 (k : Ex → St → Prop) : ∀ (n : Nat) (line0 : List Int) (n5 : Int) (m6 : Int) (x8 : Int) (x9 : Int) (x1b : JbD), lpD 50 oj_outdented_1_d0 oj_outdented_1_dx0 (ex tb (getG oj_outdented_1_G) [] (at' (bodyOf Tryd.f141) [0, 0, 1, 1, 0, 1, 0, 0, 1, 1, 0, 0, 1, 0, 1, 1]) [0, 0, 1, 1, 0, 1, 0, 0, 1, 1, 0, 0, 1, 0, 1, 1]) k n (line0, n5, m6, x8, x9, x1b, ()) = oj_outdented_1_L0 (fun line0 n5 m6 x8 x9 x1b => wfD oj_outdented_1_d0x2 (line0, n5, m6, x8, x9, x1b, ()) → k (.exit 2) (mkD 50 oj_outdented_1_d0x2 (line0, n5, m6, x8, x9, x1b, ()))) n line0 n5 m6 x8 x9 x1b
  | 0, _, _, _, _, _, _ => rfl
  | n + 1, line0, n5, m6, x8, x9, x1b => congrArg (fun Z : Prop => wfD oj_outdented_1_d0 (line0, n5, m6, x8, x9, x1b, ()) → Z) ((oj_outdented_1_s0 k (lpD 50 oj_outdented_1_d0 oj_outdented_1_dx0 (ex tb (getG oj_outdented_1_G) [] (at' (bodyOf Tryd.f141) [0, 0, 1, 1, 0, 1, 0, 0, 1, 1, 0, 0, 1, 0, 1, 1]) [0, 0, 1, 1, 0, 1, 0, 0, 1, 1, 0, 0, 1, 0, 1, 1]) k n) line0 n5 m6 x8 x9 x1b).trans (congrArg (fun Y => oj_outdented_1_T0 Y (fun line0 n5 m6 x8 x9 x1b => wfD oj_outdented_1_d0x2 (line0, n5, m6, x8, x9, x1b, ()) → k (.exit 2) (mkD 50 oj_outdented_1_d0x2 (line0, n5, m6, x8, x9, x1b, ()))) line0 n5 m6 x8 x9 x1b) (funext fun line0 => funext fun n5 => funext fun m6 => funext fun x8 => funext fun x9 => funext fun x1b => oj_outdented_1_e0 k n line0 n5 m6 x8 x9 x1b)))
theorem oj_outdented_1_v0 (k : Ex → St → Prop) (n : Nat) : ∀ v : vals oj_outdented_1_d0, lpD 50 oj_outdented_1_d0 oj_outdented_1_dx0 (ex tb (getG oj_outdented_1_G) [] (at' (bodyOf Tryd.f141) [0, 0, 1, 1, 0, 1, 0, 0, 1, 1, 0, 0, 1, 0, 1, 1]) [0, 0, 1, 1, 0, 1, 0, 0, 1, 1, 0, 0, 1, 0, 1, 1]) k n v = oj_outdented_1_L0 (fun line0 n5 m6 x8 x9 x1b => wfD oj_outdented_1_d0x2 (line0, n5, m6, x8, x9, x1b, ()) → k (.exit 2) (mkD 50 oj_outdented_1_d0x2 (line0, n5, m6, x8, x9, x1b, ()))) n v.1 v.2.1 v.2.2.1 v.2.2.2.1 v.2.2.2.2.1 v.2.2.2.2.2.1
  | (line0, n5, m6, x8, x9, x1b, ()) => oj_outdented_1_e0 k n line0 n5 m6 x8 x9 x1b
def oj_outdented_1_X0 : Pce := fun st k => ckD 50 oj_outdented_1_d0 st fun v => wfD oj_outdented_1_d0 v → ∃ n, oj_outdented_1_L0 (fun line0 n5 m6 x8 x9 x1b => wfD oj_outdented_1_d0x2 (line0, n5, m6, x8, x9, x1b, ()) → k (.exit 2) (mkD 50 oj_outdented_1_d0x2 (line0, n5, m6, x8, x9, x1b, ()))) n v.1 v.2.1 v.2.2.1 v.2.2.2.1 v.2.2.2.2.1 v.2.2.2.2.2.1
set_option maxRecDepth 20000 in
theorem oj_outdented_1_x0 : SemOk Tryd.prog (at' (bodyOf Tryd.f141) [0, 1, 1, 0, 1, 0, 0, 1, 1, 0, 0, 1, 0, 1, 1]) oj_outdented_1_X0 :=
  (SemOk.loop (ex_sound tb_M tb_ok oj_outdented_1_Gok (LabsOk.nil) (at' (bodyOf Tryd.f141) [0, 0, 1, 1, 0, 1, 0, 0, 1, 1, 0, 0, 1, 0, 1, 1]) [0, 0, 1, 1, 0, 1, 0, 0, 1, 1, 0, 0, 1, 0, 1, 1] rfl (storesC_at oj_outdented_1_st [0, 0, 1, 1, 0, 1, 0, 0, 1, 1, 0, 0, 1, 0, 1, 1])) 50 oj_outdented_1_d0 oj_outdented_1_dx0).mono fun st k h => ckD_mono h fun v hv hw => (hv hw).elim fun n hn => ⟨n, Eq.mpr (oj_outdented_1_v0 k n v) hn⟩
def oj_outdented_1_B0 : Labs := ([0, 1, 1, 0, 1, 0, 0, 1, 1, 0, 0, 1, 0, 1, 1], oj_outdented_1_X0) :: []
theorem oj_outdented_1_b0 : LabsOk Tryd.prog (bodyOf Tryd.f141) oj_outdented_1_B0 := LabsOk.cons oj_outdented_1_x0 (LabsOk.nil)
def oj_outdented_1_d1 : List LS := [.v 0 (.sl (.int .u8)), .v 5 (.int .i64), .v 8 (.int .i64), .v 9 (.int .i64), .c 15 JbT]
def oj_outdented_1_d1x0 : List LS := [.v 5 (.int .i64), .c 15 JbT]
def oj_outdented_1_dx1 : DX := ⟨none, none, [(0, oj_outdented_1_d1x0)]⟩
def oj_outdented_1_T1 (Y : List Int → Int → Int → Int → JbD → Prop) (kx0 : Int → JbD → Prop) (line0 : List Int) (n5 : Int) (x8 : Int) (x9 : Int) (x1b : JbD) : Prop :=
 bif (decide (x9 < x8)) then
 bif (decide (n5 < (List.length line0 : Int))) then
 bif decide (0 ≤ n5 ∧ n5 < (List.length line0 : Int)) then
 bif (decide ((rd (0 : Int) line0 n5) = (9 : Int))) then
 bif (decide ((IntKind.wrap .i64 (n5 + (1 : Int))) = n5)) then
 kx0 n5 x1b
 else
 Y line0 (IntKind.wrap .i64 (n5 + (1 : Int))) x8 (IntKind.wrap .i64 (x9 + (1 : Int))) x1b
 else
 (wfD oj_outdented_1_d0 (line0, n5, n5, x8, x9, x1b, ()) → ∃ n, oj_outdented_1_L0 (fun (line0 : List Int) (n5 : Int) (m6 : Int) (x8 : Int) (x9 : Int) (x1b : JbD) => wfD oj_outdented_1_d0x2 (line0, n5, m6, x8, x9, x1b, ()) → (
 bif (decide (m6 = n5)) then
 kx0 n5 x1b
 else
 Y line0 m6 x8 (IntKind.wrap .i64 (x9 + (1 : Int))) x1b)) n line0 n5 n5 x8 x9 x1b)
 else False
 else
 (wfD oj_outdented_1_d0 (line0, n5, n5, x8, x9, x1b, ()) → ∃ n, oj_outdented_1_L0 (fun (line0 : List Int) (n5 : Int) (m6 : Int) (x8 : Int) (x9 : Int) (x1b : JbD) => wfD oj_outdented_1_d0x2 (line0, n5, m6, x8, x9, x1b, ()) → (
 bif (decide (m6 = n5)) then
 kx0 n5 x1b
 else
 Y line0 m6 x8 (IntKind.wrap .i64 (x9 + (1 : Int))) x1b)) n line0 n5 n5 x8 x9 x1b)
 else
 kx0 n5 x1b
def oj_outdented_1_L1 (kx0 : Int → JbD → Prop) : Nat → List Int → Int → Int → Int → JbD → Prop
  | 0, _, _, _, _, _ => False
  | n + 1, line0, n5, x8, x9, x1b => wfD oj_outdented_1_d1 (line0, n5, x8, x9, x1b, ()) → oj_outdented_1_T1 (oj_outdented_1_L1 kx0 n) kx0 line0 n5 x8 x9 x1b
theorem oj_outdented_1_s1 (k : Ex → St → Prop) (Y : vals oj_outdented_1_d1 → Prop) (line0 : List Int) (n5 : Int) (x8 : Int) (x9 : Int) (x1b : JbD) :
    ex tb (getG oj_outdented_1_G) oj_outdented_1_B0 (at' (bodyOf Tryd.f141) [0, 0, 1, 0, 1, 1]) [0, 0, 1, 0, 1, 1] (mkD 50 oj_outdented_1_d1 (line0, n5, x8, x9, x1b, ())) (lpK 50 oj_outdented_1_d1 oj_outdented_1_dx1 k Y) =
    oj_outdented_1_T1 (fun line0 n5 x8 x9 x1b => Y (line0, n5, x8, x9, x1b, ())) (fun n5 x1b => wfD oj_outdented_1_d1x0 (n5, x1b, ()) → k (.exit 0) (mkD 50 oj_outdented_1_d1x0 (n5, x1b, ()))) line0 n5 x8 x9 x1b := by kernel_rfl
theorem oj_outdented_1_e1 (k : Ex → St → Prop) : ∀ (n : Nat) (line0 : List Int) (n5 : Int) (x8 : Int) (x9 : Int) (x1b : JbD), lpD 50 oj_outdented_1_d1 oj_outdented_1_dx1 (ex tb (getG oj_outdented_1_G) oj_outdented_1_B0 (at' (bodyOf Tryd.f141) [0, 0, 1, 0, 1, 1]) [0, 0, 1, 0, 1, 1]) k n (line0, n5, x8, x9, x1b, ()) = oj_outdented_1_L1 (fun n5 x1b => wfD oj_outdented_1_d1x0 (n5, x1b, ()) → k (.exit 0) (mkD 50 oj_outdented_1_d1x0 (n5, x1b, ()))) n line0 n5 x8 x9 x1b
  | 0, _, _, _, _, _ => rfl
  | n + 1, line0, n5, x8, x9, x1b => congrArg (fun Z : Prop => wfD oj_outdented_1_d1 (line0, n5, x8, x9, x1b, ()) → Z) ((oj_outdented_1_s1 k (lpD 50 oj_outdented_1_d1 oj_outdented_1_dx1 (ex tb (getG oj_outdented_1_G) oj_outdented_1_B0 (at' (bodyOf Tryd.f141) [0, 0, 1, 0, 1, 1]) [0, 0, 1, 0, 1, 1]) k n) line0 n5 x8 x9 x1b).trans (congrArg (fun Y => oj_outdented_1_T1 Y (fun n5 x1b => wfD oj_outdented_1_d1x0 (n5, x1b, ()) → k (.exit 0) (mkD 50 oj_outdented_1_d1x0 (n5, x1b, ()))) line0 n5 x8 x9 x1b) (funext fun line0 => funext fun n5 => funext fun x8 => funext fun x9 => funext fun x1b => oj_outdented_1_e1 k n line0 n5 x8 x9 x1b)))
theorem oj_outdented_1_v1 (k : Ex → St → Prop) (n : Nat) : ∀ v : vals oj_outdented_1_d1, lpD 50 oj_outdented_1_d1 oj_outdented_1_dx1 (ex tb (getG oj_outdented_1_G) oj_outdented_1_B0 (at' (bodyOf Tryd.f141) [0, 0, 1, 0, 1, 1]) [0, 0, 1, 0, 1, 1]) k n v = oj_outdented_1_L1 (fun n5 x1b => wfD oj_outdented_1_d1x0 (n5, x1b, ()) → k (.exit 0) (mkD 50 oj_outdented_1_d1x0 (n5, x1b, ()))) n v.1 v.2.1 v.2.2.1 v.2.2.2.1 v.2.2.2.2.1
  | (line0, n5, x8, x9, x1b, ()) => oj_outdented_1_e1 k n line0 n5 x8 x9 x1b
def oj_outdented_1_X1 : Pce := fun st k => ckD 50 oj_outdented_1_d1 st fun v => wfD oj_outdented_1_d1 v → ∃ n, oj_outdented_1_L1 (fun n5 x1b => wfD oj_outdented_1_d1x0 (n5, x1b, ()) → k (.exit 0) (mkD 50 oj_outdented_1_d1x0 (n5, x1b, ()))) n v.1 v.2.1 v.2.2.1 v.2.2.2.1 v.2.2.2.2.1
set_option maxRecDepth 20000 in
theorem oj_outdented_1_x1 : SemOk Tryd.prog (at' (bodyOf Tryd.f141) [0, 1, 0, 1, 1]) oj_outdented_1_X1 :=
  (SemOk.loop (ex_sound tb_M tb_ok oj_outdented_1_Gok (oj_outdented_1_b0) (at' (bodyOf Tryd.f141) [0, 0, 1, 0, 1, 1]) [0, 0, 1, 0, 1, 1] rfl (storesC_at oj_outdented_1_st [0, 0, 1, 0, 1, 1])) 50 oj_outdented_1_d1 oj_outdented_1_dx1).mono fun st k h => ckD_mono h fun v hv hw => (hv hw).elim fun n hn => ⟨n, Eq.mpr (oj_outdented_1_v1 k n v) hn⟩
def oj_outdented_1_B1 : Labs := ([0, 1, 0, 1, 1], oj_outdented_1_X1) :: oj_outdented_1_B0
theorem oj_outdented_1_b1 : LabsOk Tryd.prog (bodyOf Tryd.f141) oj_outdented_1_B1 := LabsOk.cons oj_outdented_1_x1 (oj_outdented_1_b0)
def oj_outdented_1_raw (line0 : List Int) (x1 : JbD) (K : Res → List Cell → Prop) : Prop :=
 (wfD oj_outdented_1_d1 (line0, (0 : Int), x1.2.2.2.2.2, (0 : Int), x1, ()) → ∃ n, oj_outdented_1_L1 (fun (n5 : Int) (x1b : JbD) => wfD oj_outdented_1_d1x0 (n5, x1b, ()) → (
 K (.tup [.v (.int .i64) n5, .fr 5 (.int .u8) ([] : List Int)]) [⟨.st (.pair (.sl (.int .u8)) (.pair (.int .i64) (.pair (.st (.pair (.int .i64) (.pair (.int .i64) (.pair (.bool) (.bool))))) (.pair (.int .i64) (.pair (.int .i64) (.int .i64)))))), x1b⟩])) n line0 (0 : Int) x1.2.2.2.2.2 (0 : Int) x1)
def oj_outdented_1_A : List AS := [.v (.sl (.int .u8)), .r none JbT]
theorem oj_outdented_1_walk (line0 : List Int) (x1 : JbD) (K : Res → List Cell → Prop) : runF tb (getG oj_outdented_1_G) oj_outdented_1_B1 Tryd.f141 [true, true] (mkA oj_outdented_1_A (line0, x1, ())) K = oj_outdented_1_raw line0 x1 K := by kernel_rfl
--! pre 1
abbrev JobT := List Int × Int × (Int × Int × Bool × Bool) × Int × Int × Int
def spc : Nat → List Int → Nat
  | k + 1, c :: r => if c = 32 then spc k r + 1 else 0
  | _, _ => 0
def stepO (l : List Int) : Nat := if l.head? = some 9 then 1 else spc 8 l
def outN : Nat → List Int → Nat
  | 0, _ => 0
  | c + 1, l => if stepO l = 0 then 0 else stepO l + outN c (l.drop (stepO l))
theorem spc_le : ∀ (k : Nat) (l : List Int), spc k l ≤ l.length ∧ spc k l ≤ k
  | 0, l => by unfold spc; simp
  | k + 1, [] => by unfold spc; simp
  | k + 1, c :: r => by
    have := spc_le k r
    unfold spc
    split
    · rw [List.length_cons]; omega
    · simp
theorem stepO_le (l : List Int) : stepO l ≤ l.length := by
  unfold stepO
  split
  · rename_i h
    cases l with
    | nil => cases h
    | cons a r => rw [List.length_cons]; omega
  · exact (spc_le 8 l).1
theorem outN_le : ∀ (c : Nat) (l : List Int), outN c l ≤ l.length
  | 0, l => Nat.zero_le _
  | c + 1, l => by
    unfold outN
    split
    · exact Nat.zero_le _
    · have := outN_le c (l.drop (stepO l))
      have := stepO_le l
      rw [List.length_drop] at *; omega
def oj_outdented_1_P (line : List Int) (_ : JobT) : Prop := line.length ≤ lim
def oj_outdented_1_F (line : List Int) (j : JobT) : Int × List Int × JobT := ((outN j.2.2.2.2.2.toNat line : Int), [], j)
theorem oj_outdented_1_l0 (kx2 : List Int → Int → Int → Int → Int → JobT → Prop) (line : List Int) (hl : line.length ≤ 1099511627776) (p : Nat) (hp : p ≤ line.length) (x8 x9 : Int) (j : JobT) : ∀ (n k m : Nat), k < n → m + k = p + 8 → m ≤ line.length →
    kx2 line (p : Int) ((m + spc k (line.drop m) : Nat) : Int) x8 x9 j → oj_outdented_1_L0 kx2 n line (p : Int) (m : Int) x8 x9 j
  | 0, k, m, h, _, _, _ => by omega
  | n + 1, k, m, h, hk, hm, hx => by
    intro _
    unfold oj_outdented_1_T0
    have stop : spc k (line.drop m) = 0 → kx2 line (p : Int) (m : Int) x8 x9 j := fun e => by rw [e] at hx; exact hx
    refine brn (fun hlt => asrt ⟨by omega, hlt⟩ ?_) (fun hge => stop (by rw [List.drop_eq_nil_of_le (by omega)]; cases k <;> rfl))
    have hi : m < line.length := by omega
    rw [rd_nat _ _ _ hi, wrap_i64 (by omega) (by omega)]
    have hd : line.drop m = line[m] :: line.drop (m + 1) := List.drop_eq_getElem_cons hi
    refine brn (fun c1 => brn (fun c2 => ?_) (fun c2 => ?_)) (fun c1 => stop (by rw [hd]; cases k with
      | zero => rfl
      | succ k => rw [spc, if_neg c1]))
    · obtain ⟨k, rfl⟩ : ∃ k', k = k' + 1 := ⟨k - 1, by omega⟩
      rw [wrap_i64 (by omega) (by omega), show (m : Int) + 1 = ((m + 1 : Nat) : Int) by omega]
      refine oj_outdented_1_l0 kx2 line hl p hp x8 x9 j n k (m + 1) (by omega) (by omega) (by omega) ?_
      rw [hd, spc, if_pos c1] at hx
      rw [show m + 1 + spc k (line.drop (m + 1)) = m + (spc k (line.drop (m + 1)) + 1) by omega]
      exact hx
    · obtain rfl : k = 0 := by omega
      exact stop (by cases line.drop m <;> rfl)
theorem oj_outdented_1_l1 (kx0 : Int → JobT → Prop) (line : List Int) (hl : line.length ≤ 1099511627776) (x8 : Int) (h8 : x8 ≤ 9223372036854775807) (j : JobT) : ∀ (n c p : Nat) (x9 : Int), c < n → (x8 - x9).toNat = c → 0 ≤ x9 → p ≤ line.length →
    kx0 ((p + outN c (line.drop p) : Nat) : Int) j → oj_outdented_1_L1 kx0 n line (p : Int) x8 x9 j
  | 0, c, p, x9, h, _, _, _, _ => by omega
  | n + 1, c, p, x9, h, hc, h0, hp, hx => by
    intro _
    unfold oj_outdented_1_T1
    refine brn (fun hlt => ?_) (fun hge => ?_)
    · obtain ⟨c, rfl⟩ : ∃ c', c = c' + 1 := ⟨c - 1, by omega⟩
      have next : ∀ q : Nat, q = p + stepO (line.drop p) → q ≠ p → oj_outdented_1_L1 kx0 n line (q : Int) x8 (IntKind.wrap .i64 (x9 + 1)) j := fun q hq hne => by
        subst q
        have hle := stepO_le (line.drop p)
        rw [List.length_drop] at hle
        rw [wrap_i64 (by omega) (by omega)]
        refine oj_outdented_1_l1 kx0 line hl x8 h8 j n c _ _ (by omega) (by omega) (by omega) (by omega) ?_
        rw [outN, if_neg (by omega), List.drop_drop, ← Nat.add_assoc] at hx
        exact hx
      have inner : (line.drop p).head? ≠ some 9 → ∃ f, oj_outdented_1_L0 (fun line0 n5 m6 x8 x9 x1b => wfD oj_outdented_1_d0x2 (line0, n5, m6, x8, x9, x1b, ()) → (
            bif (decide (m6 = n5)) then kx0 n5 x1b else oj_outdented_1_L1 kx0 n line0 m6 x8 (IntKind.wrap .i64 (x9 + (1 : Int))) x1b)) f line (p : Int) (p : Int) x8 x9 j := fun hh => by
        have hst : stepO (line.drop p) = spc 8 (line.drop p) := by unfold stepO; rw [if_neg hh]
        refine ⟨9, oj_outdented_1_l0 _ line hl p hp x8 x9 j 9 8 p (by omega) rfl hp (fun _ => brn (fun c1 => ?_) (fun c1 => next _ (by rw [hst]) (by omega)))⟩
        rw [outN, if_pos (by omega)] at hx
        exact hx
      refine brn (fun c1 => asrt ⟨by omega, c1⟩ ?_) (fun c1 => fun _ => inner (by rw [List.drop_eq_nil_of_le (by omega)]; simp))
      have hi : p < line.length := by omega
      rw [rd_nat _ _ _ hi]
      have hd : (line.drop p).head? = some line[p] := by rw [List.drop_eq_getElem_cons hi]; rfl
      refine brn (fun c2 => brn (fun c3 => ?_) (fun c3 => ?_)) (fun c2 _ => inner (by rw [hd]; intro e; injection e with e; exact c2 e))
      · rw [wrap_i64 (by omega) (by omega)] at c3; omega
      · have e9 : stepO (line.drop p) = 1 := by unfold stepO; rw [hd, if_pos (by rw [c2])]
        have := next (p + 1) (by rw [e9]) (by omega)
        rw [wrap_i64 (by omega) (by omega), show (p : Int) + 1 = ((p + 1 : Nat) : Int) by omega]
        exact this
    · obtain rfl : c = 0 := by omega
      rw [outN] at hx
      exact hx
theorem oj_outdented_1_sp (line : List Int) (j : JobT) (K : Res → List Cell → Prop) (hw : wfA oj_outdented_1_A (line, j, ())) (hp : oj_outdented_1_P line j)
    (h : ∀ r : Int × List Int × JobT, r = oj_outdented_1_F line j → K (.tup [.v (.int .i64) r.1, .fr 5 (.int .u8) r.2.1]) [⟨.st (.pair (.sl (.int .u8)) (.pair (.int .i64) (.pair (.st (.pair (.int .i64) (.pair (.int .i64) (.pair (.bool) (.bool))))) (.pair (.int .i64) (.pair (.int .i64) (.int .i64)))))), r.2.2⟩]) : oj_outdented_1_raw line j K := by
  have hp : line.length ≤ 1099511627776 := hp
  have h8 : j.2.2.2.2.2 ≤ 9223372036854775807 := hw.2.1.2.2.2.2.2.2
  unfold oj_outdented_1_raw
  intro _
  refine ⟨_, oj_outdented_1_l1 _ line hp j.2.2.2.2.2 h8 j (j.2.2.2.2.2.toNat + 1) j.2.2.2.2.2.toNat 0 0 (Nat.lt_succ_self _) (by rw [Int.sub_zero]) (Int.le_refl _) (Nat.zero_le _) (fun _ => h (_, [], j) ?_)⟩
  unfold oj_outdented_1_F
  rw [List.drop_zero, Nat.zero_add]

def oj_outdented_1_C (v : valsA oj_outdented_1_A) (K : Res → List Cell → Prop) : Prop := oj_outdented_1_P v.1 v.2.1 ∧ ∀ r : Int × List Int × JbD, r = oj_outdented_1_F v.1 v.2.1 → K (.tup [.v (.int .i64) r.1, .fr 5 (.int .u8) r.2.1]) [⟨.st (.pair (.sl (.int .u8)) (.pair (.int .i64) (.pair (.st (.pair (.int .i64) (.pair (.int .i64) (.pair (.bool) (.bool))))) (.pair (.int .i64) (.pair (.int .i64) (.int .i64)))))), r.2.2⟩]
def oj_outdented_1_S : App := specW oj_outdented_1_A oj_outdented_1_C
theorem oj_outdented_1_wv (K : Res → List Cell → Prop) : ∀ v : valsA oj_outdented_1_A, runF tb (getG oj_outdented_1_G) oj_outdented_1_B1 Tryd.f141 [true, true] (mkA oj_outdented_1_A v) K = oj_outdented_1_raw v.1 v.2.1 K
  | (line0, x1, ()) => oj_outdented_1_walk line0 x1 K
set_option maxRecDepth 20000 in
theorem oj_outdented_1_ok : AppOk Tryd.prog 141 oj_outdented_1_S :=
  AppOk.specW (spec_ok ((runF_ok tb_M tb_ok oj_outdented_1_Gok (oj_outdented_1_b1) (f := 141) (fn := Tryd.f141) (by kernel_rfl) (by kernel_rfl) oj_outdented_1_st [true, true])) fun v K hw h => (oj_outdented_1_wv K v).mpr (oj_outdented_1_sp v.1 v.2.1 K hw h.1 h.2))

end Go.VE
