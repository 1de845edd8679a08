/- OperBack: whatever the input, up to the bulk that the statement names, the law answers true, and what was handed in reads as it did. Its conditions: the bound of the given statement and the tables that its card ties, no other. -/
import Derived.Test.YtmnhjhamgacdnaaDoorOK113
import Derived.Lib.Hide
set_option linter.unusedVariables false
set_option linter.unusedSectionVars false
set_option linter.unusedSimpArgs false
namespace Go.Proofs
open Go.Shelf Go.RowKit Go.Lib Go.VE
set_option maxHeartbeats 4000000 in
set_option maxRecDepth 100000 in
/-- of nil -/
theorem rep_nil (w : World) (A : Option Addr) (m vc : Nat) (xs : List Int) (hs : SrcB Tryd.prog w w.heap.size A m vc xs) (hl : m ≤ lim) :
    Calls Tryd.prog 72 #[.slice none 0 0, .int .i64 0, .int .i64 0, .slice A m vc] w fun e w' => ∃ v', e = .returned v' ∧ ((m = 0 ∧ v' = .slice none 0 0 ∧ w' = w) ∨ DoneB w w.heap.size (bv xs) v' w') := by
  have mixed := tb_M
  have e58 : ∀ args w, (callFunc 112 args).run Tryd.prog w = .ok (.enter 112 args) w := VE.enters_of Tryd.func112 (by kernel_rfl)
  have hx := hs.len
  rcases Nat.eq_zero_or_pos m with rfl | hm
  · have hins : Calls Tryd.prog 112 #[.slice none 0 0, .int .i64 0, .slice A 0 vc] w fun e w' => e = .returned (.slice none 0 0) ∧ w' = w := by
      go_enter Tryd.func112, Tryd.ntmps112
      go_wp2
      all_goals (go_ret; exact ⟨rfl, rfl⟩)
    go_enter Tryd.func72, Tryd.ntmps72
    go_wp2_with (first
      | (go_at_fn 112; refine hins.mono ?_; rintro e w' ⟨rfl, rfl⟩))
    all_goals (go_ret; exact ⟨_, rfl, .inl (by simp)⟩)
  · have hu22 : Tryd.prog.underlying 22 = some (.slice 5) := by kernel_rfl
    obtain ⟨ti, g1, g2, g3, g4⟩ := u8info
    have hrun : ∀ ty, (Builtin.append_ #[22, 22] ty #[.slice none 0 0, .slice A m vc]).run Tryd.prog w = .ok (.slice (some ⟨w.heap.size, 0, none⟩) m (grownCap w m 0 5)) (w.drew.alloc (.cells ((bv xs).toArray ++ Builtin.zeroCells (zeroV (.int .u8)).cells (grownCap w m 0 5 - m)) 5)) := fun ty => by
      have := (run_append_src (P := Tryd.prog) (w := w) (ty := ty) (e := .int .u8) hu22 g1 g2 g3 (by omega) (hs.src (t' := 22) hu22)).1.2 (by rw [hx]; exact hm) (by rw [hx]; exact hl)
      rw [hx] at this
      exact this
    have hge := grownCap_ge w m 0 5
    have hle := grownCap_le_maxLen w m 0 5 (by unfold lim at hl; unfold maxLen; omega)
    have hdone : DoneB w w.heap.size (bv xs) (.slice (some ⟨w.heap.size, 0, none⟩) m (grownCap w m 0 5)) (w.drew.alloc (.cells ((bv xs).toArray ++ Builtin.zeroCells (zeroV (.int .u8)).cells (grownCap w m 0 5 - m)) 5)) := by
      refine done_new (by rw [bv_length, hx]) hge hle (heap_alloc_new w.drew _) ?_ ?_ (by show _ ≤ (w.heap.push _).size; simp) (fun k hk => heap_alloc_old w.drew _ hk) rfl rfl rfl
      · simp only [Array.size_append, List.size_toArray, bv_length, hx, size_zeroCells, zeroV, Value.cells]
        simp [Ty.agg, zeroC]; omega
      · rw [Array.toList_append, List.take_append_of_le_length (by simp [bv_length, hx]), List.take_of_length_le (by simp [bv_length, hx])]
    generalize w.drew.alloc (.cells ((bv xs).toArray ++ Builtin.zeroCells (zeroV (.int .u8)).cells (grownCap w m 0 5 - m)) 5) = W2 at hrun hdone
    generalize grownCap w m 0 5 = G at hrun hdone
    clear hs hge hle
    have hz1 : ¬ ((m : Int) = 0) := by omega
    have hins : Calls Tryd.prog 112 #[.slice none 0 0, .int .i64 0, .slice A m vc] w fun e w' => e = .returned (.slice (some ⟨w.heap.size, 0, none⟩) m G) ∧ w' = W2 := by
      clear hdone
      go_enter Tryd.func112, Tryd.ntmps112
      go_wp2_with (at_builtin; refine Lib.wpList_append_run _ rfl _ _ _ _ rfl _ _ rfl rfl _ _ (hrun _) ?_)
      all_goals (go_ret; exact ⟨rfl, rfl⟩)
    clear hrun
    have hdone := Lib.hid hdone
    go_enter Tryd.func72, Tryd.ntmps72
    go_wp2_with (first
      | (go_at_fn 112; refine hins.mono ?_; rintro e w' ⟨rfl, rfl⟩))
    all_goals (go_ret; exact ⟨_, rfl, .inr hdone.out⟩)
end Go.Proofs
namespace Go.VE
open Go Go.RowKit Go.Lib
def rep_A : List AS := [.o 5 (.int .u8), .v (.int .i64), .v (.int .i64), .v (.sl (.int .u8))]

/-- plain bytes, as they are put in -/
theorem srcB_of {I : Nat → Prop} {w : World} {xs : List Int} {v : Value} (h : RepV I w (.sl (.int .u8)) xs v) (hI : ∀ b, I b → b < w.heap.size) (b : Nat) (hb : ¬ I b) :
    ∃ A vc, v = .slice A xs.length vc ∧ SrcB Go.Proofs.Tryd.prog w b A xs.length vc xs := by
  obtain ⟨A, vc, hc, hl, hm, hr⟩ := h.list
  have hv : v = .slice A (List.length xs) vc := by
    obtain ⟨u, hu, hcs⟩ := (h.list).one rfl
    obtain ⟨cs, h1, h2, h3, h4⟩ := h
    have h5 := h4 rfl
    rw [h5] at h2
    rw [h2] at hc
    simpa using hc
  have hr' : ∀ i (hi : i < xs.length), ∃ b' o, A = some ⟨b', o, none⟩ ∧ I b' ∧ inR .u8 xs[i] ∧ w.cell? ⟨b', o + i, none⟩ = some (.int .u8 xs[i]) := by
    intro i hi
    obtain ⟨b', o, h1, h2, cs, ⟨h3, h4⟩, h5, h6⟩ := hr i hi
    refine ⟨b', o, h1, h2, h3, ?_⟩
    have := h6 0 (.int .u8 xs[i]) (by rw [h4]; rfl)
    simpa [Ty.cells] using this
  refine ⟨A, vc, hv, rfl, fun x hx => ?_, fun w' hw' => ?_, fun hpos => ?_⟩
  · obtain ⟨i, hi, rfl⟩ := List.mem_iff_getElem.1 hx
    obtain ⟨_, _, _, _, h, _⟩ := hr' i hi
    exact h
  · rcases Nat.eq_zero_or_pos xs.length with h0 | hpos
    · have : xs = [] := List.eq_nil_of_length_eq_zero h0
      subst this
      exact reads_nil (A := A) rfl
    · obtain ⟨b', o, rfl, hb', _⟩ := hr' 0 hpos
      refine reads_of fun j u hj => ?_
      have hj' : j < xs.length := by
        rcases Nat.lt_or_ge j xs.length with h | h
        · exact h
        · rw [List.getElem?_eq_none (by rw [bv_length]; exact h)] at hj; cases hj
      obtain ⟨b2, o2, e, _, _, hcell⟩ := hr' j hj'
      injection e with e; injection e with e1 e2; subst e1; subst e2
      rw [cell_same (hw' b' (fun e => by subst e; exact hb hb') (hI b' hb')), hcell, ← hj]
      simp [bv, hj']
  · obtain ⟨b', o, rfl, hb', _, hcell⟩ := hr' 0 hpos
    refine ⟨b', o, rfl, fun e => by subst e; exact hb hb', hI b' hb', ?_⟩
    unfold World.cell? at hcell
    split at hcell
    · rename_i cs t fr hh
      refine ⟨t, cs.size, by simp [World.shape?, hh], fun e => ?_⟩
      have : cs = #[] := Array.eq_empty_of_size_eq_zero e
      subst this
      simp at hcell
    · cases hcell

theorem done_own {I : Nat → Prop} {w w' : World} {b : Nat} {zs : List Int} {v : Value} (hz : ∀ x ∈ zs, inR .u8 x) (h : DoneB w b (bv zs) v w') :
    ∃ b', (b' = b ∨ b' = w.heap.size) ∧ b' < w'.heap.size ∧ OwnRow I w' 5 (.int .u8) zs v b' ∧ w.heap.size ≤ w'.heap.size ∧ (∀ k, k ≠ b → k < w.heap.size → w'.heap[k]? = w.heap[k]?) ∧ w'.os = w.os ∧ w'.tape = w.tape ∧ w'.output = w.output := by
  obtain ⟨b', cap, cur, fr, rfl, hb, hl, hm, hh, hfr, hR, ht, hs, ho, h1, h2, h3⟩ := h
  rw [bv_length] at hl ht ⊢
  refine ⟨b', hb, ?_, ⟨cap, cur, fr, rfl, hl, hm, hh, .inl hfr, by simpa [Ty.cells] using hR, fun i hi => ?_⟩, hs, ho, h1, h2, h3⟩
  · rcases Nat.lt_or_ge b' w'.heap.size with h | h
    · exact h
    · rw [Array.getElem?_eq_none h] at hh; cases hh
  · refine ⟨[.int .u8 zs[i]], ⟨hz _ (List.getElem_mem hi), rfl⟩, fun j u hu => ?_⟩
    cases j with
    | succ j => simp at hu
    | zero =>
      simp at hu; subst hu
      have := congrArg (fun l : List Value => l[i]?) ht
      simpa [hi, bv, Ty.cells] using this

theorem rep_spec (ys xs : List Int) (i j : Int) (h0 : 0 ≤ i) (hij : i ≤ j) (hj : j ≤ (ys.length : Int)) (hl : ys.length + xs.length ≤ lim) {Ok : Res → List Cell → Prop} (hK : Ok (.one (.fr 5 (.int .u8) (ys.take i.toNat ++ xs ++ ys.drop j.toNat))) []) :
    CallSpec Go.Proofs.Tryd.prog 72 (mkA rep_A (ys, i, j, xs, ())) Ok := by
  intro I w vs bs hI hg ha
  have hlen := ha.length
  obtain ⟨sv, iv, jv, xv, rfl⟩ : ∃ a b c d, vs = [a, b, c, d] := by
    match vs, hlen with
    | [a, b, c, d], _ => exact ⟨a, b, c, d, rfl⟩
  obtain ⟨b, rfl⟩ : ∃ b, bs = [b] := by
    cases bs with
    | nil => exact ha.elim
    | cons b bs =>
      cases bs with
      | nil => exact ⟨b, rfl⟩
      | cons c bs => exact ha.2.2.2.2.elim
  obtain ⟨hs, hi2, hj2, hx2, _⟩ := ha
  obtain ⟨_, rfl⟩ := RepV.int_eq hi2
  obtain ⟨_, rfl⟩ := RepV.int_eq hj2
  obtain ⟨i, rfl⟩ := Int.eq_ofNat_of_zero_le h0
  obtain ⟨j, rfl⟩ := Int.eq_ofNat_of_zero_le (Int.le_trans h0 hij)
  have hij : i ≤ j := Int.ofNat_le.1 hij
  have hj : j ≤ ys.length := Int.ofNat_le.1 hj
  rw [Int.toNat_natCast, Int.toNat_natCast] at hK
  have hxs : ∀ x ∈ xs, inR .u8 x := fun x hx => by
    have := (RepV.wf hx2).2 x hx
    exact this
  -- behind, out of what was done
  have fin : ∀ (b0 : Nat) (v' : Value) (w' : World) (zs : List Int), (b0 = b ∨ b0 = w.heap.size) → (∀ x ∈ zs, inR .u8 x) → Ok (.one (.fr 5 (.int .u8) zs)) [] → DoneB w b0 (bv zs) v' w' →
      Behind I w [b] (refsOf (mkA rep_A (ys, (i : Int), (j : Int), xs, ())) [b]) Ok v' w' := by
    intro b0 v' w' zs hb0 hz hok hd
    obtain ⟨b', hb', hlt, hown, hsz, ho, h1, h2, h3⟩ := done_own (I := orP I fun _ => False) hz hd
    refine ⟨_, [], fun _ => False, [some b'], hok, ⟨h1, h2, h3, hsz, fun k hk hF => ho k (fun e => ?_) hk⟩, fun b h => h.elim, fun q b1 hq => ?_, ⟨_, rfl, hown⟩, trivial⟩
    · rcases hb0 with rfl | rfl
      · exact hF (by subst e; exact List.mem_singleton.2 rfl)
      · omega
    · cases q with
      | succ q => simp at hq
      | zero =>
        simp at hq; subst hq
        refine ⟨?_, hlt, fun h => h, fun r hr => ?_⟩
        · rcases hb' with rfl | rfl
          · rcases hb0 with rfl | rfl
            · exact .inr ⟨List.mem_singleton.2 rfl, by show b' ∉ ([] : List Nat); simp⟩
            · exact .inl (Nat.le_refl _)
          · exact .inl (Nat.le_refl _)
        · cases r with
          | zero => rfl
          | succ r => simp at hr
  rcases hs with ⟨rfl, rfl, hbw⟩ | ⟨⟨cap, cur, fr, rfl, hle, hm, hh, hfr, hcz, hrow⟩, hbI, hbw, _⟩
  · have hj0 : j = 0 := by simpa using hj
    subst hj0
    obtain rfl : i = 0 := by omega
    obtain ⟨A, vc, rfl, hsrc⟩ := srcB_of hx2 hI w.heap.size (fun h => absurd (hI _ h) (Nat.lt_irrefl _))
    refine (Go.Proofs.rep_nil w A xs.length vc xs hsrc (by simpa using hl)).mono ?_
    rintro e w' ⟨v', rfl, ⟨hm0, rfl, rfl⟩ | hd⟩
    · have hx0 : xs = [] := List.eq_nil_of_length_eq_zero hm0
      subst hx0
      refine ⟨_, rfl, .one (.fr 5 (.int .u8) []), [], fun _ => False, [none], hK, ⟨rfl, rfl, rfl, Nat.le_refl _, fun _ _ _ => rfl⟩, fun b h => h.elim, fun q b1 hq => ?_, ⟨none, rfl, rfl, rfl⟩, trivial⟩
      cases q with
      | zero => simp at hq
      | succ q => simp at hq
    · exact ⟨_, rfl, fin w.heap.size v' w' _ (.inr rfl) (by simpa using hxs) (by simpa using hK) (by simpa using hd)⟩
  · have hfr' : fr.1 = fr.2 := by
      rcases hfr with h | h
      · exact h
      · exact absurd h.1 (by decide)
    have hcs : cur.toList.take ys.length = bv ys := by
      refine List.ext_getElem? fun q => ?_
      rw [List.getElem?_take]
      by_cases hq : q < ys.length
      · obtain ⟨cs, ⟨_, h2⟩, h3⟩ := hrow q hq
        have := h3 0 (.int .u8 ys[q]) (by rw [h2]; rfl)
        rw [if_pos hq]
        simpa [bv, hq, Ty.cells] using this
      · rw [if_neg hq, List.getElem?_eq_none (by rw [bv_length]; omega)]
    have hys : ∀ x ∈ ys, inR .u8 x := fun x hx => by
      obtain ⟨q, hq, rfl⟩ := List.mem_iff_getElem.1 hx
      obtain ⟨cs, ⟨h1, _⟩, _⟩ := hrow q hq
      exact h1
    obtain ⟨A, vc, rfl, hsrc⟩ := srcB_of hx2 hI b hbI
    refine (Go.Proofs.rep_all b ys.length cap cur fr w hh hfr' hle hm (by simpa [Ty.cells] using hcz) A xs.length vc xs ys hsrc hcs i j hij hj hl).mono ?_
    rintro e w' ⟨v', rfl, hd⟩
    refine ⟨_, rfl, fin b v' w' _ (.inl rfl) (fun x hx => ?_) hK hd⟩
    rcases List.mem_append.1 hx with hx | hx
    · rcases List.mem_append.1 hx with hx | hx
      · exact hys x (List.mem_of_mem_take hx)
      · exact hxs x hx
    · exact hys x (List.mem_of_mem_drop hx)

def slices_Replace_byte_byte_P (xs : List Int) (i j : Int) (v : List Int) : Prop := 0 ≤ i ∧ i ≤ j ∧ j ≤ (xs.length : Int) ∧ xs.length + v.length ≤ lim
def slices_Replace_byte_byte_F (xs : List Int) (i j : Int) (v : List Int) : List Int := xs.take i.toNat ++ v ++ xs.drop j.toNat
def slices_Replace_byte_byte_C (v : valsA rep_A) (K : Res → List Cell → Prop) : Prop := slices_Replace_byte_byte_P v.1 v.2.1 v.2.2.1 v.2.2.2.1 ∧ ∀ r : List Int, r = slices_Replace_byte_byte_F v.1 v.2.1 v.2.2.1 v.2.2.2.1 → K (.one (.fr 5 (.int .u8) r)) []
def slices_Replace_byte_byte_S : App := specW rep_A slices_Replace_byte_byte_C
theorem slices_Replace_byte_byte_ok : AppOk Go.Proofs.Tryd.prog 72 slices_Replace_byte_byte_S := by
  refine AppOk.specW fun ags K hs => ?_
  obtain ⟨v, rfl, hP, hK⟩ := rdA_of _ ags _ hs
  obtain ⟨ys, i, j, xs, ⟨⟩⟩ := v
  obtain ⟨h0, h1, h2, h3⟩ := hP
  exact .inl ⟨enters_of Go.Proofs.Tryd.func72 (by kernel_rfl), rep_spec ys xs i j h0 h1 h2 h3 (hK _ rfl)⟩
end Go.VE
namespace Go.VE
open Go Go.Proofs
--! external 1
--! args o:B I I B
--! res fr:B
--! import RF

end Go.VE
namespace Go.VE
open Go Go.Proofs
/-! ### quoin/change.Apply -/
def change_Apply_G : List (Nat × App) := [(71, bytes_HasPrefix_S), (72, slices_Replace_byte_byte_S)]
theorem change_Apply_Gok : GOk Tryd.prog (getG change_Apply_G) := GOk.cons bytes_HasPrefix_ok (GOk.cons slices_Replace_byte_byte_ok (GOk.nil))
theorem change_Apply_st : storesC (bodyOf Tryd.f29) = true := by kernel_rfl
def change_Apply_d0 : List LS := [.o 6 53 5 (.int .u8), .v 12 (.sl (.st (.pair (.int .i64) (.pair (.sl (.int .u8)) (.sl (.int .u8)))))), .v 13 (.int .i64), .v 14 (.int .i64)]
def change_Apply_d0r : List LS := [.o 4 37 5 (.int .u8), .v 5 (.int .i64)]
def change_Apply_d0x0 : List LS := [.o 6 53 5 (.int .u8)]
def change_Apply_dx0 : DX := ⟨none, some change_Apply_d0r, [(0, change_Apply_d0x0)]⟩
def change_Apply_T0 (Y : List Int → List ((Int × List Int × List Int)) → Int → Int → Prop) (kr : List Int → Int → Prop) (kx0 : List Int → Prop) (out6 : List Int) (x12 : List ((Int × List Int × List Int))) (x13 : Int) (x14 : Int) : Prop :=
 bif (decide (x14 < x13)) then
 bif decide (0 ≤ x14 ∧ x14 < (List.length x12 : Int)) then
 bif (decide ((rd ((0 : Int), ([] : List Int), ([] : List Int)) x12 x14).1 < (0 : Int))) then
 kr ([] : List Int) (170 : Int)
 else
 bif (decide ((List.length out6 : Int) < (rd ((0 : Int), ([] : List Int), ([] : List Int)) x12 x14).1)) then
 kr ([] : List Int) (170 : Int)
 else
 bif decide (0 ≤ (rd ((0 : Int), ([] : List Int), ([] : List Int)) x12 x14).1 ∧ (rd ((0 : Int), ([] : List Int), ([] : List Int)) x12 x14).1 ≤ (List.length out6 : Int)) then
 bytes_HasPrefix_P (List.drop (Int.toNat ((rd ((0 : Int), ([] : List Int), ([] : List Int)) x12 x14).1)) out6) ((rd ((0 : Int), ([] : List Int), ([] : List Int)) x12 x14).2.1) ∧ (
 ∀ (r1 : Bool), r1 = bytes_HasPrefix_F (List.drop (Int.toNat ((rd ((0 : Int), ([] : List Int), ([] : List Int)) x12 x14).1)) out6) ((rd ((0 : Int), ([] : List Int), ([] : List Int)) x12 x14).2.1) → (
 wfR (.one (.v (.bool) r1)) → (
 bif (!r1) then
 kr ([] : List Int) (170 : Int)
 else
 slices_Replace_byte_byte_P out6 ((rd ((0 : Int), ([] : List Int), ([] : List Int)) x12 x14).1) (IntKind.wrap .i64 (((rd ((0 : Int), ([] : List Int), ([] : List Int)) x12 x14).1) + (List.length ((rd ((0 : Int), ([] : List Int), ([] : List Int)) x12 x14).2.1) : Int))) ((rd ((0 : Int), ([] : List Int), ([] : List Int)) x12 x14).2.2) ∧ (
 ∀ (r2 : List Int), r2 = slices_Replace_byte_byte_F out6 ((rd ((0 : Int), ([] : List Int), ([] : List Int)) x12 x14).1) (IntKind.wrap .i64 (((rd ((0 : Int), ([] : List Int), ([] : List Int)) x12 x14).1) + (List.length ((rd ((0 : Int), ([] : List Int), ([] : List Int)) x12 x14).2.1) : Int))) ((rd ((0 : Int), ([] : List Int), ([] : List Int)) x12 x14).2.2) → (
 wfR (.one (.fr 5 (.int .u8) r2)) → (
 Y r2 x12 x13 (IntKind.wrap .i64 (x14 + (1 : Int)))))))))
 else False
 else False
 else
 kx0 out6
def change_Apply_L0 (kr : List Int → Int → Prop) (kx0 : List Int → Prop) : Nat → List Int → List ((Int × List Int × List Int)) → Int → Int → Prop
  | 0, _, _, _, _ => False
  | n + 1, out6, x12, x13, x14 => wfD change_Apply_d0 (out6, x12, x13, x14, ()) → change_Apply_T0 (change_Apply_L0 kr kx0 n) kr kx0 out6 x12 x13 x14
theorem change_Apply_s0 (k : Ex → St → Prop) (Y : vals change_Apply_d0 → Prop) (out6 : List Int) (x12 : List ((Int × List Int × List Int))) (x13 : Int) (x14 : Int) :
    ex tb (getG change_Apply_G) [] (at' (bodyOf Tryd.f29) [0, 0, 1, 0, 1, 1]) [0, 0, 1, 0, 1, 1] (mkD 52 change_Apply_d0 (out6, x12, x13, x14, ())) (lpK 52 change_Apply_d0 change_Apply_dx0 k Y) =
    change_Apply_T0 (fun out6 x12 x13 x14 => Y (out6, x12, x13, x14, ())) (fun x4 x5 => wfD change_Apply_d0r (x4, x5, ()) → k .ret (mkD 52 change_Apply_d0r (x4, x5, ()))) (fun out6 => wfD change_Apply_d0x0 (out6, ()) → k (.exit 0) (mkD 52 change_Apply_d0x0 (out6, ()))) out6 x12 x13 x14 := by kernel_rfl
theorem change_Apply_e0 (k : Ex → St → Prop) : ∀ (n : Nat) (out6 : List Int) (x12 : List ((Int × List Int × List Int))) (x13 : Int) (x14 : Int), lpD 52 change_Apply_d0 change_Apply_dx0 (ex tb (getG change_Apply_G) [] (at' (bodyOf Tryd.f29) [0, 0, 1, 0, 1, 1]) [0, 0, 1, 0, 1, 1]) k n (out6, x12, x13, x14, ()) = change_Apply_L0 (fun x4 x5 => wfD change_Apply_d0r (x4, x5, ()) → k .ret (mkD 52 change_Apply_d0r (x4, x5, ()))) (fun out6 => wfD change_Apply_d0x0 (out6, ()) → k (.exit 0) (mkD 52 change_Apply_d0x0 (out6, ()))) n out6 x12 x13 x14
  | 0, _, _, _, _ => rfl
  | n + 1, out6, x12, x13, x14 => congrArg (fun Z : Prop => wfD change_Apply_d0 (out6, x12, x13, x14, ()) → Z) ((change_Apply_s0 k (lpD 52 change_Apply_d0 change_Apply_dx0 (ex tb (getG change_Apply_G) [] (at' (bodyOf Tryd.f29) [0, 0, 1, 0, 1, 1]) [0, 0, 1, 0, 1, 1]) k n) out6 x12 x13 x14).trans (congrArg (fun Y => change_Apply_T0 Y (fun x4 x5 => wfD change_Apply_d0r (x4, x5, ()) → k .ret (mkD 52 change_Apply_d0r (x4, x5, ()))) (fun out6 => wfD change_Apply_d0x0 (out6, ()) → k (.exit 0) (mkD 52 change_Apply_d0x0 (out6, ()))) out6 x12 x13 x14) (funext fun out6 => funext fun x12 => funext fun x13 => funext fun x14 => change_Apply_e0 k n out6 x12 x13 x14)))
theorem change_Apply_v0 (k : Ex → St → Prop) (n : Nat) : ∀ v : vals change_Apply_d0, lpD 52 change_Apply_d0 change_Apply_dx0 (ex tb (getG change_Apply_G) [] (at' (bodyOf Tryd.f29) [0, 0, 1, 0, 1, 1]) [0, 0, 1, 0, 1, 1]) k n v = change_Apply_L0 (fun x4 x5 => wfD change_Apply_d0r (x4, x5, ()) → k .ret (mkD 52 change_Apply_d0r (x4, x5, ()))) (fun out6 => wfD change_Apply_d0x0 (out6, ()) → k (.exit 0) (mkD 52 change_Apply_d0x0 (out6, ()))) n v.1 v.2.1 v.2.2.1 v.2.2.2.1
  | (out6, x12, x13, x14, ()) => change_Apply_e0 k n out6 x12 x13 x14
def change_Apply_X0 : Pce := fun st k => ckD 52 change_Apply_d0 st fun v => wfD change_Apply_d0 v → ∃ n, change_Apply_L0 (fun x4 x5 => wfD change_Apply_d0r (x4, x5, ()) → k .ret (mkD 52 change_Apply_d0r (x4, x5, ()))) (fun out6 => wfD change_Apply_d0x0 (out6, ()) → k (.exit 0) (mkD 52 change_Apply_d0x0 (out6, ()))) n v.1 v.2.1 v.2.2.1 v.2.2.2.1
set_option maxRecDepth 20000 in
theorem change_Apply_x0 : SemOk Tryd.prog (at' (bodyOf Tryd.f29) [0, 1, 0, 1, 1]) change_Apply_X0 :=
  (SemOk.loop (ex_sound tb_M tb_ok change_Apply_Gok (LabsOk.nil) (at' (bodyOf Tryd.f29) [0, 0, 1, 0, 1, 1]) [0, 0, 1, 0, 1, 1] rfl (storesC_at change_Apply_st [0, 0, 1, 0, 1, 1])) 52 change_Apply_d0 change_Apply_dx0).mono fun st k h => ckD_mono h fun v hv hw => (hv hw).elim fun n hn => ⟨n, Eq.mpr (change_Apply_v0 k n v) hn⟩
def change_Apply_B0 : Labs := ([0, 1, 0, 1, 1], change_Apply_X0) :: []
theorem change_Apply_b0 : LabsOk Tryd.prog (bodyOf Tryd.f29) change_Apply_B0 := LabsOk.cons change_Apply_x0 (LabsOk.nil)
def change_Apply_raw (t0 : List Int) (edits1 : List ((Int × List Int × List Int))) (K : Res → List Cell → Prop) : Prop :=
 bif decide (List.length ([] : List Int) + List.length t0 ≤ lim) then
 (wfD change_Apply_d0 ((([] : List Int) ++ t0), edits1, (List.length edits1 : Int), (0 : Int), ()) → ∃ n, change_Apply_L0 (fun (x4 : List Int) (x5 : Int) => wfD change_Apply_d0r (x4, x5, ()) → (
 K (.tup [.fr 5 (.int .u8) x4, .v (.int .i64) x5]) [])) (fun (out6 : List Int) => wfD change_Apply_d0x0 (out6, ()) → (
 K (.tup [.fr 5 (.int .u8) out6, .v (.int .i64) (0 : Int)]) [])) n (([] : List Int) ++ t0) edits1 (List.length edits1 : Int) (0 : Int))
 else False
def change_Apply_A : List AS := [.v (.sl (.int .u8)), .v (.sl (.st (.pair (.int .i64) (.pair (.sl (.int .u8)) (.sl (.int .u8))))))]
theorem change_Apply_walk (t0 : List Int) (edits1 : List ((Int × List Int × List Int))) (K : Res → List Cell → Prop) : runF tb (getG change_Apply_G) change_Apply_B0 Tryd.f29 [true, true] (mkA change_Apply_A (t0, edits1, ())) K = change_Apply_raw t0 edits1 K := by kernel_rfl
--! pre 1
abbrev Edit := Int × List Int × List Int
/-- the edits made, one behind the other -/
def applyL : List Edit → List Int → Option (List Int)
  | [], out => some out
  | e :: r, out => if 0 ≤ e.1 ∧ e.1 ≤ out.length ∧ bytes_HasPrefix_F (out.drop e.1.toNat) e.2.1 = true then applyL r (slices_Replace_byte_byte_F out e.1 (e.1 + (e.2.1.length : Int)) e.2.2) else none
/-- how many bytes they put -/
def newsL : List Edit → Nat
  | [] => 0
  | e :: r => e.2.2.length + newsL r
theorem hasP_le {s p : List Int} (h : bytes_HasPrefix_F s p = true) : p.length ≤ s.length := by
  unfold bytes_HasPrefix_F at h
  by_cases c : (List.length p : Int) ≤ (List.length s : Int)
  · omega
  · rw [decide_eq_false c] at h; cases h
theorem hasP_P (s p : List Int) : bytes_HasPrefix_P s p := by
  unfold bytes_HasPrefix_P
  by_cases c : (List.length p : Int) ≤ (List.length s : Int)
  · rw [decide_eq_true c]; exact ⟨by omega, c⟩
  · rw [decide_eq_false c]; exact trivial
def change_Apply_P (t : List Int) (edits : List Edit) : Prop := t.length + newsL edits ≤ lim
def change_Apply_F (t : List Int) (edits : List Edit) : List Int × Int :=
 match applyL edits t with
 | some out => (out, 0)
 | none => ([], 170)
theorem change_Apply_l0 (kr : List Int → Int → Prop) (kx0 : List Int → Prop) (edits : List Edit) (hl : edits.length ≤ 9223372036854775807) (t : List Int)
    (hk : ∀ r, r = change_Apply_F t edits → (r.2 = 170 → kr [] 170) ∧ (r.2 = 0 → kx0 r.1)) :
    ∀ (n i : Nat) (out : List Int), edits.length < n + i → i ≤ edits.length → applyL (edits.drop i) out = applyL edits t → out.length + newsL (edits.drop i) ≤ lim →
      change_Apply_L0 kr kx0 n out edits (edits.length : Int) (i : Int)
  | 0, i, out, h, h2, _, _ => by omega
  | n + 1, i, out, h, h2, he, hr => by
    intro _
    unfold change_Apply_T0
    have hlim : lim = 1099511627776 := rfl
    refine brn (fun hlt => ?_) (fun hge => ?_)
    · have hlt : i < edits.length := by omega
      have hd : edits.drop i = edits[i] :: edits.drop (i + 1) := List.drop_eq_getElem_cons hlt
      rw [hd] at he hr
      refine asrt ⟨by omega, by omega⟩ ?_
      rw [rd_nat _ _ _ hlt]
      generalize edits[i] = e at *
      have hbad : ¬ (0 ≤ e.1 ∧ e.1 ≤ out.length ∧ bytes_HasPrefix_F (out.drop e.1.toNat) e.2.1 = true) → kr [] 170 := fun hb => by
        have : change_Apply_F t edits = ([], 170) := by
          unfold change_Apply_F
          rw [← he, applyL, if_neg hb]
        exact (hk _ rfl).1 (by rw [this])
      refine brn (fun c1 => hbad (by omega)) (fun c1 => brn (fun c2 => hbad (by omega)) (fun c2 => asrt (by omega) ⟨hasP_P _ _, fun r1 hr1 _ => brb (fun c3 => hbad ?_) (fun c3 => ?_)⟩))
      · rw [hr1] at c3
        rintro ⟨_, _, h3⟩
        rw [h3] at c3; cases c3
      · have c3 : bytes_HasPrefix_F (out.drop e.1.toNat) e.2.1 = true := by rw [hr1] at c3; simpa using c3
        have hle := hasP_le c3
        rw [List.length_drop] at hle
        simp only [newsL] at hr
        have hw : IntKind.wrap .i64 (e.1 + (List.length e.2.1 : Int)) = e.1 + (List.length e.2.1 : Int) := wrap_i64 (by omega) (by omega)
        rw [hw]
        refine ⟨⟨by omega, by omega, by omega, by omega⟩, fun r2 hr2 _ => ?_⟩
        rw [wrap_i64 (by omega) (by omega), show (i : Int) + 1 = ((i + 1 : Nat) : Int) by omega]
        refine change_Apply_l0 kr kx0 edits hl t hk n (i + 1) r2 (by omega) (by omega) ?_ ?_
        · rw [← he, applyL, if_pos ⟨by omega, by omega, c3⟩, hr2]
        · rw [hr2]
          unfold slices_Replace_byte_byte_F
          rw [List.length_append, List.length_append, List.length_take, List.length_drop]
          omega
    · have hi : i = edits.length := by omega
      subst hi
      rw [List.drop_length, applyL] at he
      have : change_Apply_F t edits = (out, 0) := by
        unfold change_Apply_F
        rw [← he]
      have := (hk _ rfl).2 (by rw [this])
      rw [‹change_Apply_F t edits = (out, 0)›] at this
      exact this
theorem change_Apply_sp (t : List Int) (edits : List Edit) (K : Res → List Cell → Prop) (hw : wfA change_Apply_A (t, edits, ())) (hp : change_Apply_P t edits) (h : ∀ r : List Int × Int, r = change_Apply_F t edits → K (.tup [.fr 5 (.int .u8) r.1, .v (.int .i64) r.2]) []) : change_Apply_raw t edits K := by
  unfold change_Apply_P at hp
  unfold change_Apply_raw
  refine asrt (by simp only [List.length_nil]; omega) ?_
  intro _
  refine ⟨edits.length + 1, change_Apply_l0 _ _ edits hw.2.1.1 t (fun r hr => ⟨fun h170 _ => ?_, fun h0 _ => ?_⟩) _ 0 _ (by omega) (Nat.zero_le _) rfl (by simpa using hp)⟩
  · have h1 : r = ([], 170) := by
      rw [hr] at h170 ⊢
      unfold change_Apply_F at h170 ⊢
      split
      · rename_i out ho; rw [ho] at h170; cases h170
      · rfl
    have := h r hr
    rw [h1] at this
    exact this
  · have := h r hr
    have e : r.2 = 0 := h0
    rw [e] at this
    exact this

def change_Apply_C (v : valsA change_Apply_A) (K : Res → List Cell → Prop) : Prop := change_Apply_P v.1 v.2.1 ∧ ∀ r : List Int × Int, r = change_Apply_F v.1 v.2.1 → K (.tup [.fr 5 (.int .u8) r.1, .v (.int .i64) r.2]) []
def change_Apply_S : App := specW change_Apply_A change_Apply_C
theorem change_Apply_wv (K : Res → List Cell → Prop) : ∀ v : valsA change_Apply_A, runF tb (getG change_Apply_G) change_Apply_B0 Tryd.f29 [true, true] (mkA change_Apply_A v) K = change_Apply_raw v.1 v.2.1 K
  | (t0, edits1, ()) => change_Apply_walk t0 edits1 K
set_option maxRecDepth 20000 in
theorem change_Apply_ok : AppOk Tryd.prog 29 change_Apply_S :=
  AppOk.specW (spec_ok ((runF_ok tb_M tb_ok change_Apply_Gok (change_Apply_b0) (f := 29) (fn := Tryd.f29) (by kernel_rfl) (by kernel_rfl) change_Apply_st [true, true])) fun v K hw h => (change_Apply_wv K v).mpr (change_Apply_sp v.1 v.2.1 K hw h.1 h.2))

end Go.VE
namespace Go.VE
open Go Go.Proofs
/-! ### quoin/oper.with -/
def oper_with_G : List (Nat × App) := [(29, change_Apply_S)]
theorem oper_with_Gok : GOk Tryd.prog (getG oper_with_G) := GOk.cons change_Apply_ok (GOk.nil)
def oper_with_raw (t0 : List Int) (edits1 : List ((Int × List Int × List Int))) (K : Res → List Cell → Prop) : Prop :=
 change_Apply_P t0 edits1 ∧ (
 ∀ (r1 : List Int × Int), r1 = change_Apply_F t0 edits1 → (
 wfR (.tup [.fr 5 (.int .u8) r1.1, .v (.int .i64) r1.2]) → (
 K (.one (.fr 5 (.int .u8) r1.1)) [])))
def oper_with_A : List AS := [.v (.sl (.int .u8)), .v (.sl (.st (.pair (.int .i64) (.pair (.sl (.int .u8)) (.sl (.int .u8))))))]
theorem oper_with_walk (t0 : List Int) (edits1 : List ((Int × List Int × List Int))) (K : Res → List Cell → Prop) : runF tb (getG oper_with_G) [] Tryd.f67 [true] (mkA oper_with_A (t0, edits1, ())) K = oper_with_raw t0 edits1 K := by kernel_rfl

def oper_with_P (t0 : List Int) (edits1 : List ((Int × List Int × List Int))) : Prop :=
 change_Apply_P t0 edits1
def oper_with_F (t0 : List Int) (edits1 : List ((Int × List Int × List Int))) : List Int :=
 let r1 : List Int × Int := change_Apply_F t0 edits1
 r1.1
set_option maxRecDepth 20000 in
theorem oper_with_sp (t0 : List Int) (edits1 : List ((Int × List Int × List Int))) (K : Res → List Cell → Prop) (_ : wfA oper_with_A (t0, edits1, ())) (hp : oper_with_P t0 edits1) (h : ∀ r : List Int, r = oper_with_F t0 edits1 → K (.one (.fr 5 (.int .u8) r)) []) : oper_with_raw t0 edits1 K := by
  unfold oper_with_raw
  unfold oper_with_P at hp
  refine ⟨hp, ?_⟩
  intro r1 hr1
  subst r1
  intro _
  exact h _ rfl
def oper_with_C (v : valsA oper_with_A) (K : Res → List Cell → Prop) : Prop := oper_with_P v.1 v.2.1 ∧ ∀ r : List Int, r = oper_with_F v.1 v.2.1 → K (.one (.fr 5 (.int .u8) r)) []
def oper_with_S : App := specW oper_with_A oper_with_C
theorem oper_with_wv (K : Res → List Cell → Prop) : ∀ v : valsA oper_with_A, runF tb (getG oper_with_G) [] Tryd.f67 [true] (mkA oper_with_A v) K = oper_with_raw v.1 v.2.1 K
  | (t0, edits1, ()) => oper_with_walk t0 edits1 K
set_option maxRecDepth 20000 in
theorem oper_with_ok : AppOk Tryd.prog 67 oper_with_S :=
  AppOk.specW (spec_ok ((runF_ok tb_M tb_ok oper_with_Gok (LabsOk.nil) (f := 67) (fn := Tryd.f67) (by kernel_rfl) (by kernel_rfl) (by kernel_rfl) [true])) fun v K hw h => (oper_with_wv K v).mpr (oper_with_sp v.1 v.2.1 K hw h.1 h.2))

end Go.VE
namespace Go.VE
open Go Go.Proofs
/-! ### quoin/lines.tail -/
def lines_tail_G : List (Nat × App) := [(43, bytes_IndexByte_S)]
theorem lines_tail_Gok : GOk Tryd.prog (getG lines_tail_G) := GOk.cons bytes_IndexByte_ok (GOk.nil)
def lines_tail_raw (t0 : List Int) (at1 : Int) (K : Res → List Cell → Prop) : Prop :=
 bif decide (0 ≤ at1 ∧ at1 ≤ (List.length t0 : Int)) then
 ∀ (r1 : Int), r1 = bytes_IndexByte_F (List.drop (Int.toNat at1) t0) (10 : Int) → (
 wfR (.one (.v (.int .i64) r1)) → (
 bif (decide ((0 : Int) ≤ r1)) then
 K (.one (.v (.int .i64) (IntKind.wrap .i64 (at1 + r1)))) []
 else
 K (.one (.v (.int .i64) (List.length t0 : Int))) []))
 else False
def lines_tail_A : List AS := [.v (.sl (.int .u8)), .v (.int .i64)]
theorem lines_tail_walk (t0 : List Int) (at1 : Int) (K : Res → List Cell → Prop) : runF tb (getG lines_tail_G) [] Tryd.f99 [true] (mkA lines_tail_A (t0, at1, ())) K = lines_tail_raw t0 at1 K := by kernel_rfl

def lines_tail_P (t0 : List Int) (at1 : Int) : Prop :=
 (0 ≤ at1 ∧ at1 ≤ (List.length t0 : Int))
def lines_tail_F (t0 : List Int) (at1 : Int) : Int :=
 let r1 : Int := bytes_IndexByte_F (List.drop (Int.toNat at1) t0) (10 : Int)
 bif (decide ((0 : Int) ≤ r1)) then
 (IntKind.wrap .i64 (at1 + r1))
 else
 (List.length t0 : Int)
set_option maxRecDepth 20000 in
theorem lines_tail_sp (t0 : List Int) (at1 : Int) (K : Res → List Cell → Prop) (_ : wfA lines_tail_A (t0, at1, ())) (hp : lines_tail_P t0 at1) (h : ∀ r : Int, r = lines_tail_F t0 at1 → K (.one (.v (.int .i64) r)) []) : lines_tail_raw t0 at1 K := by
  unfold lines_tail_raw
  unfold lines_tail_P at hp
  refine asrt hp ?_
  intro r1 hr1
  subst r1
  intro _
  refine brb (fun c_1 => ?_) (fun c_1 => ?_)
  ·
    exact h _ ((ctrue c_1) : lines_tail_F t0 at1 = _).symm
  ·
    exact h _ ((cfalse c_1) : lines_tail_F t0 at1 = _).symm
def lines_tail_C (v : valsA lines_tail_A) (K : Res → List Cell → Prop) : Prop := lines_tail_P v.1 v.2.1 ∧ ∀ r : Int, r = lines_tail_F v.1 v.2.1 → K (.one (.v (.int .i64) r)) []
def lines_tail_S : App := specW lines_tail_A lines_tail_C
theorem lines_tail_wv (K : Res → List Cell → Prop) : ∀ v : valsA lines_tail_A, runF tb (getG lines_tail_G) [] Tryd.f99 [true] (mkA lines_tail_A v) K = lines_tail_raw v.1 v.2.1 K
  | (t0, at1, ()) => lines_tail_walk t0 at1 K
set_option maxRecDepth 20000 in
theorem lines_tail_ok : AppOk Tryd.prog 99 lines_tail_S :=
  AppOk.specW (spec_ok ((runF_ok tb_M tb_ok lines_tail_Gok (LabsOk.nil) (f := 99) (fn := Tryd.f99) (by kernel_rfl) (by kernel_rfl) (by kernel_rfl) [true])) fun v K hw h => (lines_tail_wv K v).mpr (lines_tail_sp v.1 v.2.1 K hw h.1 h.2))

end Go.VE
namespace Go.VE
open Go Go.Proofs
/-! ### quoin/lines.First -/
def lines_First_G : List (Nat × App) := [(31, lines_Start_S), (99, lines_tail_S)]
theorem lines_First_Gok : GOk Tryd.prog (getG lines_First_G) := GOk.cons lines_Start_ok (GOk.cons lines_tail_ok (GOk.nil))
theorem lines_First_st : storesC (bodyOf Tryd.f66) = true := by kernel_rfl
def lines_First_d0 : List LS := [.v 0 (.sl (.int .u8)), .v 6 (.int .i64), .v 8 (.int .i64), .v 9 (.int .i64)]
def lines_First_d0r : List LS := [.v 4 (.int .i64), .v 5 (.int .i64)]
def lines_First_d0x0 : List LS := [.v 6 (.int .i64), .v 8 (.int .i64)]
def lines_First_dx0 : DX := ⟨none, some lines_First_d0r, [(0, lines_First_d0x0)]⟩
def lines_First_T0 (Y : List Int → Int → Int → Int → Prop) (kr : Int → Int → Prop) (kx0 : Int → Int → Prop) (t0 : List Int) (from6 : Int) (to8 : Int) (i9 : Int) : Prop :=
 bif (decide (i9 < to8)) then
 bif decide (0 ≤ i9 ∧ i9 < (List.length t0 : Int)) then
 bif (!decide ((rd (0 : Int) t0 i9) = (32 : Int))) then
 bif decide (0 ≤ i9 ∧ i9 < (List.length t0 : Int)) then
 bif (!decide ((rd (0 : Int) t0 i9) = (9 : Int))) then
 kr i9 (0 : Int)
 else
 Y t0 from6 to8 (IntKind.wrap .i64 (i9 + (1 : Int)))
 else False
 else
 Y t0 from6 to8 (IntKind.wrap .i64 (i9 + (1 : Int)))
 else False
 else
 kx0 from6 to8
def lines_First_L0 (kr : Int → Int → Prop) (kx0 : Int → Int → Prop) : Nat → List Int → Int → Int → Int → Prop
  | 0, _, _, _, _ => False
  | n + 1, t0, from6, to8, i9 => wfD lines_First_d0 (t0, from6, to8, i9, ()) → lines_First_T0 (lines_First_L0 kr kx0 n) kr kx0 t0 from6 to8 i9
theorem lines_First_s0 (k : Ex → St → Prop) (Y : vals lines_First_d0 → Prop) (t0 : List Int) (from6 : Int) (to8 : Int) (i9 : Int) :
    ex tb (getG lines_First_G) [] (at' (bodyOf Tryd.f66) [0, 0, 1, 0, 1, 1, 1, 1]) [0, 0, 1, 0, 1, 1, 1, 1] (mkD 45 lines_First_d0 (t0, from6, to8, i9, ())) (lpK 45 lines_First_d0 lines_First_dx0 k Y) =
    lines_First_T0 (fun t0 from6 to8 i9 => Y (t0, from6, to8, i9, ())) (fun x4 x5 => wfD lines_First_d0r (x4, x5, ()) → k .ret (mkD 45 lines_First_d0r (x4, x5, ()))) (fun from6 to8 => wfD lines_First_d0x0 (from6, to8, ()) → k (.exit 0) (mkD 45 lines_First_d0x0 (from6, to8, ()))) t0 from6 to8 i9 := by kernel_rfl
theorem lines_First_e0 (k : Ex → St → Prop) : ∀ (n : Nat) (t0 : List Int) (from6 : Int) (to8 : Int) (i9 : Int), lpD 45 lines_First_d0 lines_First_dx0 (ex tb (getG lines_First_G) [] (at' (bodyOf Tryd.f66) [0, 0, 1, 0, 1, 1, 1, 1]) [0, 0, 1, 0, 1, 1, 1, 1]) k n (t0, from6, to8, i9, ()) = lines_First_L0 (fun x4 x5 => wfD lines_First_d0r (x4, x5, ()) → k .ret (mkD 45 lines_First_d0r (x4, x5, ()))) (fun from6 to8 => wfD lines_First_d0x0 (from6, to8, ()) → k (.exit 0) (mkD 45 lines_First_d0x0 (from6, to8, ()))) n t0 from6 to8 i9
  | 0, _, _, _, _ => rfl
  | n + 1, t0, from6, to8, i9 => congrArg (fun Z : Prop => wfD lines_First_d0 (t0, from6, to8, i9, ()) → Z) ((lines_First_s0 k (lpD 45 lines_First_d0 lines_First_dx0 (ex tb (getG lines_First_G) [] (at' (bodyOf Tryd.f66) [0, 0, 1, 0, 1, 1, 1, 1]) [0, 0, 1, 0, 1, 1, 1, 1]) k n) t0 from6 to8 i9).trans (congrArg (fun Y => lines_First_T0 Y (fun x4 x5 => wfD lines_First_d0r (x4, x5, ()) → k .ret (mkD 45 lines_First_d0r (x4, x5, ()))) (fun from6 to8 => wfD lines_First_d0x0 (from6, to8, ()) → k (.exit 0) (mkD 45 lines_First_d0x0 (from6, to8, ()))) t0 from6 to8 i9) (funext fun t0 => funext fun from6 => funext fun to8 => funext fun i9 => lines_First_e0 k n t0 from6 to8 i9)))
theorem lines_First_v0 (k : Ex → St → Prop) (n : Nat) : ∀ v : vals lines_First_d0, lpD 45 lines_First_d0 lines_First_dx0 (ex tb (getG lines_First_G) [] (at' (bodyOf Tryd.f66) [0, 0, 1, 0, 1, 1, 1, 1]) [0, 0, 1, 0, 1, 1, 1, 1]) k n v = lines_First_L0 (fun x4 x5 => wfD lines_First_d0r (x4, x5, ()) → k .ret (mkD 45 lines_First_d0r (x4, x5, ()))) (fun from6 to8 => wfD lines_First_d0x0 (from6, to8, ()) → k (.exit 0) (mkD 45 lines_First_d0x0 (from6, to8, ()))) n v.1 v.2.1 v.2.2.1 v.2.2.2.1
  | (t0, from6, to8, i9, ()) => lines_First_e0 k n t0 from6 to8 i9
def lines_First_X0 : Pce := fun st k => ckD 45 lines_First_d0 st fun v => wfD lines_First_d0 v → ∃ n, lines_First_L0 (fun x4 x5 => wfD lines_First_d0r (x4, x5, ()) → k .ret (mkD 45 lines_First_d0r (x4, x5, ()))) (fun from6 to8 => wfD lines_First_d0x0 (from6, to8, ()) → k (.exit 0) (mkD 45 lines_First_d0x0 (from6, to8, ()))) n v.1 v.2.1 v.2.2.1 v.2.2.2.1
set_option maxRecDepth 20000 in
theorem lines_First_x0 : SemOk Tryd.prog (at' (bodyOf Tryd.f66) [0, 1, 0, 1, 1, 1, 1]) lines_First_X0 :=
  (SemOk.loop (ex_sound tb_M tb_ok lines_First_Gok (LabsOk.nil) (at' (bodyOf Tryd.f66) [0, 0, 1, 0, 1, 1, 1, 1]) [0, 0, 1, 0, 1, 1, 1, 1] rfl (storesC_at lines_First_st [0, 0, 1, 0, 1, 1, 1, 1])) 45 lines_First_d0 lines_First_dx0).mono fun st k h => ckD_mono h fun v hv hw => (hv hw).elim fun n hn => ⟨n, Eq.mpr (lines_First_v0 k n v) hn⟩
def lines_First_B0 : Labs := ([0, 1, 0, 1, 1, 1, 1], lines_First_X0) :: []
theorem lines_First_b0 : LabsOk Tryd.prog (bodyOf Tryd.f66) lines_First_B0 := LabsOk.cons lines_First_x0 (LabsOk.nil)
def lines_First_raw (t0 : List Int) (line1 : Int) (K : Res → List Cell → Prop) : Prop :=
 ∀ (r1 : Int × Int), r1 = lines_Start_F t0 line1 → (
 wfR (.tup [.v (.int .i64) r1.1, .v (.int .i64) r1.2]) → (
 bif (!decide (r1.2 = (0 : Int))) then
 K (.tup [.v (.int .i64) (0 : Int), .v (.int .i64) r1.2]) []
 else
 lines_tail_P t0 r1.1 ∧ (
 ∀ (r2 : Int), r2 = lines_tail_F t0 r1.1 → (
 wfR (.one (.v (.int .i64) r2)) → (
 (wfD lines_First_d0 (t0, r1.1, r2, r1.1, ()) → ∃ n, lines_First_L0 (fun (x4 : Int) (x5 : Int) => wfD lines_First_d0r (x4, x5, ()) → (
 K (.tup [.v (.int .i64) x4, .v (.int .i64) x5]) [])) (fun (from6 : Int) (to8 : Int) => wfD lines_First_d0x0 (from6, to8, ()) → (
 K (.tup [.v (.int .i64) (mx from6 (IntKind.wrap .i64 (to8 - (1 : Int)))), .v (.int .i64) (0 : Int)]) [])) n t0 r1.1 r2 r1.1))))))
def lines_First_A : List AS := [.v (.sl (.int .u8)), .v (.int .i64)]
theorem lines_First_walk (t0 : List Int) (line1 : Int) (K : Res → List Cell → Prop) : runF tb (getG lines_First_G) lines_First_B0 Tryd.f66 [true, true] (mkA lines_First_A (t0, line1, ())) K = lines_First_raw t0 line1 K := by kernel_rfl
--! pre 0
/-- the first byte that is no blank, among m from i on -/
def scanB (t : List Int) : Nat → Nat → Option Nat
  | 0, _ => none
  | m + 1, i => if rd (0 : Int) t (i : Int) = 32 ∨ rd (0 : Int) t (i : Int) = 9 then scanB t m (i + 1) else some i
theorem tail_range (t : List Int) (ht : t.length ≤ 9223372036854775807) (p : Int) (h0 : 0 ≤ p) (h1 : p ≤ t.length) : p ≤ lines_tail_F t p ∧ lines_tail_F t p ≤ t.length := by
  unfold lines_tail_F
  have hb := idxB_lt (t.drop p.toNat) 10
  rw [List.length_drop] at hb
  have e : bytes_IndexByte_F (List.drop p.toNat t) 10 = idxB (t.drop p.toNat) 10 := rfl
  dsimp only
  rw [e]
  generalize idxB (t.drop p.toNat) 10 = q at hb
  by_cases hc : 0 ≤ q
  · rw [decide_eq_true hc, cond_true]
    rw [wrap_i64 (by rcases hb with hb | hb <;> omega) (by rcases hb with hb | hb <;> omega)]
    rcases hb with hb | hb <;> omega
  · rw [decide_eq_false hc, cond_false]; omega
def lines_First_F (t : List Int) (line : Int) : Int × Int :=
 if (lines_Start_F t line).2 = 0 then
 match scanB t (lines_tail_F t (lines_Start_F t line).1 - (lines_Start_F t line).1).toNat (lines_Start_F t line).1.toNat with
 | some i => ((i : Int), 0)
 | none => (mx (lines_Start_F t line).1 (IntKind.wrap .i64 (lines_tail_F t (lines_Start_F t line).1 - 1)), 0)
 else (0, (lines_Start_F t line).2)
theorem lines_First_l0 (kr : Int → Int → Prop) (kx0 : Int → Int → Prop) (t : List Int) (p e : Int) (hl : t.length ≤ 9223372036854775807) (he : e ≤ t.length) : ∀ (n m i : Nat), m < n → (e - i).toNat = m → 0 ≤ e →
    (∀ j, scanB t m i = some j → kr (j : Int) 0) → (scanB t m i = none → kx0 p e) → lines_First_L0 kr kx0 n t p e (i : Int)
  | 0, m, i, h, _, _, _, _ => absurd h (Nat.not_lt_zero _)
  | n + 1, 0, i, h, hm, h0, h1, h2 => by
    intro _
    unfold lines_First_T0
    exact brn (fun hlt => absurd hm (by omega)) (fun _ => h2 rfl)
  | n + 1, m + 1, i, h, hm, h0, h1, h2 => by
    intro _
    unfold lines_First_T0
    have next : (rd (0 : Int) t (i : Int) = 32 ∨ rd (0 : Int) t (i : Int) = 9) → lines_First_L0 kr kx0 n t p e (IntKind.wrap .i64 ((i : Int) + 1)) := fun hc => by
      rw [wrap_i64 (by omega) (by omega), show (i : Int) + 1 = ((i + 1 : Nat) : Int) by omega]
      have e1 : scanB t (m + 1) i = scanB t m (i + 1) := by rw [scanB, if_pos hc]
      exact lines_First_l0 kr kx0 t p e hl he n m (i + 1) (by omega) (by omega) h0 (fun j hj => h1 j (by rw [e1]; exact hj)) (fun hj => h2 (by rw [e1]; exact hj))
    refine brn (fun hlt => asrt ⟨by omega, by omega⟩ ?_) (fun hge => absurd hm (by omega))
    refine brx (fun c1 => asrt ⟨by omega, by omega⟩ (brx (fun c2 => ?_) (fun c2 => next (.inr (by omega))))) (fun c1 => next (.inl (by omega)))
    exact h1 i (by rw [scanB, if_neg (by omega)])
theorem lines_First_sp (t : List Int) (line : Int) (K : Res → List Cell → Prop) (hw : wfA lines_First_A (t, line, ())) (h : ∀ r : Int × Int, r = lines_First_F t line → K (.tup [.v (.int .i64) r.1, .v (.int .i64) r.2]) []) : lines_First_raw t line K := by
  have ht : t.length ≤ 9223372036854775807 := hw.1.1
  unfold lines_First_raw
  intro r1 h1 _
  subst h1
  have hs := lines_Start_F_le t line
  refine brx (fun hn => h (_, _) (by unfold lines_First_F; rw [if_neg hn])) (fun hn => ?_)
  refine ⟨hs, fun r2 h2 _ => ?_⟩
  have hn : (lines_Start_F t line).2 = 0 := by omega
  have hr := tail_range t ht _ hs.1 hs.2
  rw [← h2] at hr
  intro _
  have key := fun kr kx0 h1 h2 => lines_First_l0 kr kx0 t (lines_Start_F t line).1 r2 ht hr.2 ((r2 - (lines_Start_F t line).1).toNat + 1) (r2 - (lines_Start_F t line).1).toNat (lines_Start_F t line).1.toNat (Nat.lt_succ_self _) (by omega) (by omega) h1 h2
  rw [Int.toNat_of_nonneg hs.1] at key
  refine ⟨_, key _ _ (fun j hj _ => h ((j : Int), 0) ?_) (fun hj _ => h (_, 0) ?_)⟩
  · unfold lines_First_F; rw [if_pos hn, ← h2, hj]
  · unfold lines_First_F; rw [if_pos hn, ← h2, hj]; rfl

def lines_First_C (v : valsA lines_First_A) (K : Res → List Cell → Prop) : Prop := ∀ r : Int × Int, r = lines_First_F v.1 v.2.1 → K (.tup [.v (.int .i64) r.1, .v (.int .i64) r.2]) []
def lines_First_S : App := specW lines_First_A lines_First_C
theorem lines_First_wv (K : Res → List Cell → Prop) : ∀ v : valsA lines_First_A, runF tb (getG lines_First_G) lines_First_B0 Tryd.f66 [true, true] (mkA lines_First_A v) K = lines_First_raw v.1 v.2.1 K
  | (t0, line1, ()) => lines_First_walk t0 line1 K
set_option maxRecDepth 20000 in
theorem lines_First_ok : AppOk Tryd.prog 66 lines_First_S :=
  AppOk.specW (spec_ok ((runF_ok tb_M tb_ok lines_First_Gok (lines_First_b0) (f := 66) (fn := Tryd.f66) (by kernel_rfl) (by kernel_rfl) lines_First_st [true, true])) fun v K hw h => (lines_First_wv K v).mpr (lines_First_sp v.1 v.2.1 K hw h))

end Go.VE
namespace Go.VE
open Go Go.Proofs
/-! ### (quoin/oper.job).deleted -/
def oper_job_deleted_G : List (Nat × App) := [(64, oper_edited_S), (137, oper_job_taken_S), (67, oper_with_S), (26, lines_Count_S), (66, lines_First_S)]
theorem oper_job_deleted_Gok : GOk Tryd.prog (getG oper_job_deleted_G) := GOk.cons oper_edited_ok (GOk.cons oper_job_taken_ok (GOk.cons oper_with_ok (GOk.cons lines_Count_ok (GOk.cons lines_First_ok (GOk.nil)))))
def oper_job_deleted_raw (j0 : (List Int × Int × (Int × Int × Bool × Bool) × Int × Int × Int)) (K : Res → List Cell → Prop) : Prop :=
 (
 oper_edited_P j0.1 j0.2.2.1.1 j0.2.2.1.2.1 ([] : List Int) ∧ (
 ∀ (r1 : List ((Int × List Int × List Int))), r1 = oper_edited_F j0.1 j0.2.2.1.1 j0.2.2.1.2.1 ([] : List Int) → (
 wfR (.one (.fr 95 (.st (.pair (.int .i64) (.pair (.sl (.int .u8)) (.sl (.int .u8))))) r1)) → (
 (
 oper_job_taken_P j0 ∧ (
 ∀ (r2 : (Bool × Bool × List Int) × Int), r2 = oper_job_taken_F j0 → (
 wfR (.tup [.v (.st (.pair (.bool) (.pair (.bool) (.sl (.int .u8))))) r2.1, .v (.int .i64) r2.2]) → (
 bif j0.2.2.1.2.2.1 then
 oper_with_P j0.1 r1 ∧ (
 ∀ (r3 : List Int), r3 = oper_with_F j0.1 r1 → (
 wfR (.one (.fr 5 (.int .u8) r3)) → (
 lines_Count_P r3 ∧ (
 ∀ (r4 : Int), r4 = lines_Count_F r3 → (
 wfR (.one (.v (.int .i64) r4)) → (
 ∀ (r5 : Int × Int), r5 = lines_First_F r3 (mn j0.2.2.2.1 (IntKind.wrap .i64 (r4 - (1 : Int)))) → (
 wfR (.tup [.v (.int .i64) r5.1, .v (.int .i64) r5.2]) → (
 K (.tup [.v (.st (.pair (.sl (.st (.pair (.int .i64) (.pair (.sl (.int .u8)) (.sl (.int .u8)))))) (.pair (.int .i64) (.pair (.st (.pair (.bool) (.pair (.bool) (.sl (.int .u8))))) (.pair (.int .i64) (.bool)))))) (r1, r5.1, r2.1, r2.2, false), .v (.int .i64) (0 : Int)]) []))))))))
 else
 K (.tup [.v (.st (.pair (.sl (.st (.pair (.int .i64) (.pair (.sl (.int .u8)) (.sl (.int .u8)))))) (.pair (.int .i64) (.pair (.st (.pair (.bool) (.pair (.bool) (.sl (.int .u8))))) (.pair (.int .i64) (.bool)))))) (r1, j0.2.2.1.1, r2.1, r2.2, false), .v (.int .i64) (0 : Int)]) [])))) ∧ (
 oper_job_taken_P j0 ∧ (
 ∀ (r6 : (Bool × Bool × List Int) × Int), r6 = oper_job_taken_F j0 → (
 wfR (.tup [.v (.st (.pair (.bool) (.pair (.bool) (.sl (.int .u8))))) r6.1, .v (.int .i64) r6.2]) → (
 bif j0.2.2.1.2.2.1 then
 oper_with_P j0.1 r1 ∧ (
 ∀ (r7 : List Int), r7 = oper_with_F j0.1 r1 → (
 wfR (.one (.fr 5 (.int .u8) r7)) → (
 lines_Count_P r7 ∧ (
 ∀ (r8 : Int), r8 = lines_Count_F r7 → (
 wfR (.one (.v (.int .i64) r8)) → (
 ∀ (r9 : Int × Int), r9 = lines_First_F r7 (mn j0.2.2.2.1 (IntKind.wrap .i64 (r8 - (1 : Int)))) → (
 wfR (.tup [.v (.int .i64) r9.1, .v (.int .i64) r9.2]) → (
 K (.tup [.v (.st (.pair (.sl (.st (.pair (.int .i64) (.pair (.sl (.int .u8)) (.sl (.int .u8)))))) (.pair (.int .i64) (.pair (.st (.pair (.bool) (.pair (.bool) (.sl (.int .u8))))) (.pair (.int .i64) (.bool)))))) (r1, r9.1, r6.1, r6.2, false), .v (.int .i64) (0 : Int)]) []))))))))
 else
 K (.tup [.v (.st (.pair (.sl (.st (.pair (.int .i64) (.pair (.sl (.int .u8)) (.sl (.int .u8)))))) (.pair (.int .i64) (.pair (.st (.pair (.bool) (.pair (.bool) (.sl (.int .u8))))) (.pair (.int .i64) (.bool)))))) (r1, j0.2.2.1.1, r6.1, r6.2, false), .v (.int .i64) (0 : Int)]) [])))) ∧ True)))) ∧ (
 oper_edited_P j0.1 j0.2.2.1.1 j0.2.2.1.2.1 ([] : List Int) ∧ (
 ∀ (r10 : List ((Int × List Int × List Int))), r10 = oper_edited_F j0.1 j0.2.2.1.1 j0.2.2.1.2.1 ([] : List Int) → (
 wfR (.one (.fr 95 (.st (.pair (.int .i64) (.pair (.sl (.int .u8)) (.sl (.int .u8))))) r10)) → (
 oper_job_taken_P j0 ∧ (
 ∀ (r11 : (Bool × Bool × List Int) × Int), r11 = oper_job_taken_F j0 → (
 wfR (.tup [.v (.st (.pair (.bool) (.pair (.bool) (.sl (.int .u8))))) r11.1, .v (.int .i64) r11.2]) → (
 bif j0.2.2.1.2.2.1 then
 oper_with_P j0.1 r10 ∧ (
 ∀ (r12 : List Int), r12 = oper_with_F j0.1 r10 → (
 wfR (.one (.fr 5 (.int .u8) r12)) → (
 lines_Count_P r12 ∧ (
 ∀ (r13 : Int), r13 = lines_Count_F r12 → (
 wfR (.one (.v (.int .i64) r13)) → (
 ∀ (r14 : Int × Int), r14 = lines_First_F r12 (mn j0.2.2.2.1 (IntKind.wrap .i64 (r13 - (1 : Int)))) → (
 wfR (.tup [.v (.int .i64) r14.1, .v (.int .i64) r14.2]) → (
 K (.tup [.v (.st (.pair (.sl (.st (.pair (.int .i64) (.pair (.sl (.int .u8)) (.sl (.int .u8)))))) (.pair (.int .i64) (.pair (.st (.pair (.bool) (.pair (.bool) (.sl (.int .u8))))) (.pair (.int .i64) (.bool)))))) (r10, r14.1, r11.1, r11.2, false), .v (.int .i64) (0 : Int)]) []))))))))
 else
 K (.tup [.v (.st (.pair (.sl (.st (.pair (.int .i64) (.pair (.sl (.int .u8)) (.sl (.int .u8)))))) (.pair (.int .i64) (.pair (.st (.pair (.bool) (.pair (.bool) (.sl (.int .u8))))) (.pair (.int .i64) (.bool)))))) (r10, j0.2.2.1.1, r11.1, r11.2, false), .v (.int .i64) (0 : Int)]) []))))))) ∧ True
def oper_job_deleted_A : List AS := [.v (.st (.pair (.sl (.int .u8)) (.pair (.int .i64) (.pair (.st (.pair (.int .i64) (.pair (.int .i64) (.pair (.bool) (.bool))))) (.pair (.int .i64) (.pair (.int .i64) (.int .i64)))))))]
theorem oper_job_deleted_walk (j0 : (List Int × Int × (Int × Int × Bool × Bool) × Int × Int × Int)) (K : Res → List Cell → Prop) : runF tb (getG oper_job_deleted_G) [] Tryd.f103 [true, true] (mkA oper_job_deleted_A (j0, ())) K = oper_job_deleted_raw j0 K := by kernel_rfl

def oper_job_deleted_P (j0 : (List Int × Int × (Int × Int × Bool × Bool) × Int × Int × Int)) : Prop :=
 oper_edited_P j0.1 j0.2.2.1.1 j0.2.2.1.2.1 ([] : List Int) ∧ (
 let r1 : List ((Int × List Int × List Int)) := oper_edited_F j0.1 j0.2.2.1.1 j0.2.2.1.2.1 ([] : List Int)
 oper_job_taken_P j0 ∧ (
 let r2 : (Bool × Bool × List Int) × Int := oper_job_taken_F j0
 bif j0.2.2.1.2.2.1 then
 oper_with_P j0.1 r1 ∧ (
 let r3 : List Int := oper_with_F j0.1 r1
 lines_Count_P r3)
 else
 True))
def oper_job_deleted_F (j0 : (List Int × Int × (Int × Int × Bool × Bool) × Int × Int × Int)) : (List ((Int × List Int × List Int)) × Int × (Bool × Bool × List Int) × Int × Bool) × Int :=
 let r1 : List ((Int × List Int × List Int)) := oper_edited_F j0.1 j0.2.2.1.1 j0.2.2.1.2.1 ([] : List Int)
 let r2 : (Bool × Bool × List Int) × Int := oper_job_taken_F j0
 bif j0.2.2.1.2.2.1 then
 let r3 : List Int := oper_with_F j0.1 r1
 let r4 : Int := lines_Count_F r3
 let r5 : Int × Int := lines_First_F r3 (mn j0.2.2.2.1 (IntKind.wrap .i64 (r4 - (1 : Int))))
 ((r1, r5.1, r2.1, r2.2, false), (0 : Int))
 else
 ((r1, j0.2.2.1.1, r2.1, r2.2, false), (0 : Int))
set_option maxRecDepth 20000 in
theorem oper_job_deleted_sp (j0 : (List Int × Int × (Int × Int × Bool × Bool) × Int × Int × Int)) (K : Res → List Cell → Prop) (_ : wfA oper_job_deleted_A (j0, ())) (hp : oper_job_deleted_P j0) (h : ∀ r : (List ((Int × List Int × List Int)) × Int × (Bool × Bool × List Int) × Int × Bool) × Int, r = oper_job_deleted_F j0 → K (.tup [.v (.st (.pair (.sl (.st (.pair (.int .i64) (.pair (.sl (.int .u8)) (.sl (.int .u8)))))) (.pair (.int .i64) (.pair (.st (.pair (.bool) (.pair (.bool) (.sl (.int .u8))))) (.pair (.int .i64) (.bool)))))) r.1, .v (.int .i64) r.2]) []) : oper_job_deleted_raw j0 K := by
  unfold oper_job_deleted_raw
  unfold oper_job_deleted_P at hp
  refine ⟨?_, ?_, trivial⟩
  ·
    refine ⟨hp.1, ?_⟩
    replace hp := hp.2
    intro r1 hr1
    subst r1
    intro _
    refine ⟨?_, ?_, trivial⟩
    ·
      refine ⟨hp.1, ?_⟩
      replace hp := hp.2
      intro r2 hr2
      subst r2
      intro _
      refine brb (fun c_1 => ?_) (fun c_1 => ?_)
      ·
        replace hp := cT c_1 hp
        refine ⟨hp.1, ?_⟩
        replace hp := hp.2
        intro r3 hr3
        subst r3
        intro _
        refine ⟨hp, ?_⟩
        intro r4 hr4
        subst r4
        intro _
        intro r5 hr5
        subst r5
        intro _
        have e := h _ ((ctrue c_1) : oper_job_deleted_F j0 = _).symm
        exact e
      ·
        clear hp
        have e := h _ ((cfalse c_1) : oper_job_deleted_F j0 = _).symm
        exact e
    ·
      refine ⟨hp.1, ?_⟩
      replace hp := hp.2
      intro r6 hr6
      subst r6
      intro _
      refine brb (fun c_2 => ?_) (fun c_2 => ?_)
      ·
        replace hp := cT c_2 hp
        refine ⟨hp.1, ?_⟩
        replace hp := hp.2
        intro r7 hr7
        subst r7
        intro _
        refine ⟨hp, ?_⟩
        intro r8 hr8
        subst r8
        intro _
        intro r9 hr9
        subst r9
        intro _
        have e := h _ ((ctrue c_2) : oper_job_deleted_F j0 = _).symm
        exact e
      ·
        clear hp
        have e := h _ ((cfalse c_2) : oper_job_deleted_F j0 = _).symm
        exact e
  ·
    refine ⟨hp.1, ?_⟩
    replace hp := hp.2
    intro r10 hr10
    subst r10
    intro _
    refine ⟨hp.1, ?_⟩
    replace hp := hp.2
    intro r11 hr11
    subst r11
    intro _
    refine brb (fun c_3 => ?_) (fun c_3 => ?_)
    ·
      replace hp := cT c_3 hp
      refine ⟨hp.1, ?_⟩
      replace hp := hp.2
      intro r12 hr12
      subst r12
      intro _
      refine ⟨hp, ?_⟩
      intro r13 hr13
      subst r13
      intro _
      intro r14 hr14
      subst r14
      intro _
      have e := h _ ((ctrue c_3) : oper_job_deleted_F j0 = _).symm
      exact e
    ·
      clear hp
      have e := h _ ((cfalse c_3) : oper_job_deleted_F j0 = _).symm
      exact e
def oper_job_deleted_C (v : valsA oper_job_deleted_A) (K : Res → List Cell → Prop) : Prop := oper_job_deleted_P v.1 ∧ ∀ r : (List ((Int × List Int × List Int)) × Int × (Bool × Bool × List Int) × Int × Bool) × Int, r = oper_job_deleted_F v.1 → K (.tup [.v (.st (.pair (.sl (.st (.pair (.int .i64) (.pair (.sl (.int .u8)) (.sl (.int .u8)))))) (.pair (.int .i64) (.pair (.st (.pair (.bool) (.pair (.bool) (.sl (.int .u8))))) (.pair (.int .i64) (.bool)))))) r.1, .v (.int .i64) r.2]) []
def oper_job_deleted_S : App := specW oper_job_deleted_A oper_job_deleted_C
theorem oper_job_deleted_wv (K : Res → List Cell → Prop) : ∀ v : valsA oper_job_deleted_A, runF tb (getG oper_job_deleted_G) [] Tryd.f103 [true, true] (mkA oper_job_deleted_A v) K = oper_job_deleted_raw v.1 K
  | (j0, ()) => oper_job_deleted_walk j0 K
set_option maxRecDepth 20000 in
theorem oper_job_deleted_ok : AppOk Tryd.prog 103 oper_job_deleted_S :=
  AppOk.specW (spec_ok ((runF_ok tb_M tb_ok oper_job_deleted_Gok (LabsOk.nil) (f := 103) (fn := Tryd.f103) (by kernel_rfl) (by kernel_rfl) (by kernel_rfl) [true, true])) fun v K hw h => (oper_job_deleted_wv K v).mpr (oper_job_deleted_sp v.1 K hw h.1 h.2))

end Go.VE
namespace Go.VE
open Go Go.Proofs
/-! ### quoin/class.small -/
def class_small_G : List (Nat × App) := []
theorem class_small_Gok : GOk Tryd.prog (getG class_small_G) := GOk.nil
def class_small_raw (b0 : Int) (K : Res → List Cell → Prop) : Prop :=
 bif (decide ((97 : Int) ≤ b0)) then
 K (.one (.v (.bool) (decide (b0 ≤ (122 : Int))))) []
 else
 K (.one (.v (.bool) false)) []
def class_small_A : List AS := [.v (.int .u8)]
theorem class_small_walk (b0 : Int) (K : Res → List Cell → Prop) : runF tb (getG class_small_G) [] Tryd.f74 [true] (mkA class_small_A (b0, ())) K = class_small_raw b0 K := by kernel_rfl

def class_small_F (b0 : Int) : Bool :=
 bif (decide ((97 : Int) ≤ b0)) then
 (decide (b0 ≤ (122 : Int)))
 else
 false
set_option maxRecDepth 20000 in
theorem class_small_sp (b0 : Int) (K : Res → List Cell → Prop) (_ : wfA class_small_A (b0, ())) (h : ∀ r : Bool, r = class_small_F b0 → K (.one (.v (.bool) r)) []) : class_small_raw b0 K := by
  unfold class_small_raw
  refine brb (fun c_1 => ?_) (fun c_1 => ?_)
  ·
    exact h _ ((ctrue c_1) : class_small_F b0 = _).symm
  ·
    exact h _ ((cfalse c_1) : class_small_F b0 = _).symm
def class_small_C (v : valsA class_small_A) (K : Res → List Cell → Prop) : Prop := ∀ r : Bool, r = class_small_F v.1 → K (.one (.v (.bool) r)) []
def class_small_S : App := specW class_small_A class_small_C
theorem class_small_wv (K : Res → List Cell → Prop) : ∀ v : valsA class_small_A, runF tb (getG class_small_G) [] Tryd.f74 [true] (mkA class_small_A v) K = class_small_raw v.1 K
  | (b0, ()) => class_small_walk b0 K
set_option maxRecDepth 20000 in
theorem class_small_ok : AppOk Tryd.prog 74 class_small_S :=
  AppOk.specW (spec_ok ((runF_ok tb_M tb_ok class_small_Gok (LabsOk.nil) (f := 74) (fn := Tryd.f74) (by kernel_rfl) (by kernel_rfl) (by kernel_rfl) [true])) fun v K hw h => (class_small_wv K v).mpr (class_small_sp v.1 K hw h))

end Go.VE
namespace Go.VE
open Go Go.Proofs
/-! ### quoin/class.Upper -/
def class_Upper_G : List (Nat × App) := [(74, class_small_S)]
theorem class_Upper_Gok : GOk Tryd.prog (getG class_Upper_G) := GOk.cons class_small_ok (GOk.nil)
def class_Upper_raw (b0 : Int) (K : Res → List Cell → Prop) : Prop :=
 ∀ (r1 : Bool), r1 = class_small_F b0 → (
 wfR (.one (.v (.bool) r1)) → (
 bif r1 then
 K (.one (.v (.int .u8) (IntKind.wrap .u8 (b0 - (32 : Int))))) []
 else
 K (.one (.v (.int .u8) b0)) []))
def class_Upper_A : List AS := [.v (.int .u8)]
theorem class_Upper_walk (b0 : Int) (K : Res → List Cell → Prop) : runF tb (getG class_Upper_G) [] Tryd.f33 [true] (mkA class_Upper_A (b0, ())) K = class_Upper_raw b0 K := by kernel_rfl

def class_Upper_F (b0 : Int) : Int :=
 let r1 : Bool := class_small_F b0
 bif r1 then
 (IntKind.wrap .u8 (b0 - (32 : Int)))
 else
 b0
set_option maxRecDepth 20000 in
theorem class_Upper_sp (b0 : Int) (K : Res → List Cell → Prop) (_ : wfA class_Upper_A (b0, ())) (h : ∀ r : Int, r = class_Upper_F b0 → K (.one (.v (.int .u8) r)) []) : class_Upper_raw b0 K := by
  unfold class_Upper_raw
  intro r1 hr1
  subst r1
  intro _
  refine brb (fun c_1 => ?_) (fun c_1 => ?_)
  ·
    exact h _ ((ctrue c_1) : class_Upper_F b0 = _).symm
  ·
    exact h _ ((cfalse c_1) : class_Upper_F b0 = _).symm
def class_Upper_C (v : valsA class_Upper_A) (K : Res → List Cell → Prop) : Prop := ∀ r : Int, r = class_Upper_F v.1 → K (.one (.v (.int .u8) r)) []
def class_Upper_S : App := specW class_Upper_A class_Upper_C
theorem class_Upper_wv (K : Res → List Cell → Prop) : ∀ v : valsA class_Upper_A, runF tb (getG class_Upper_G) [] Tryd.f33 [true] (mkA class_Upper_A v) K = class_Upper_raw v.1 K
  | (b0, ()) => class_Upper_walk b0 K
set_option maxRecDepth 20000 in
theorem class_Upper_ok : AppOk Tryd.prog 33 class_Upper_S :=
  AppOk.specW (spec_ok ((runF_ok tb_M tb_ok class_Upper_Gok (LabsOk.nil) (f := 33) (fn := Tryd.f33) (by kernel_rfl) (by kernel_rfl) (by kernel_rfl) [true])) fun v K hw h => (class_Upper_wv K v).mpr (class_Upper_sp v.1 K hw h))

end Go.VE
namespace Go.VE
open Go Go.Proofs
/-! ### quoin/class.great -/
def class_great_G : List (Nat × App) := []
theorem class_great_Gok : GOk Tryd.prog (getG class_great_G) := GOk.nil
def class_great_raw (b0 : Int) (K : Res → List Cell → Prop) : Prop :=
 bif (decide ((65 : Int) ≤ b0)) then
 K (.one (.v (.bool) (decide (b0 ≤ (90 : Int))))) []
 else
 K (.one (.v (.bool) false)) []
def class_great_A : List AS := [.v (.int .u8)]
theorem class_great_walk (b0 : Int) (K : Res → List Cell → Prop) : runF tb (getG class_great_G) [] Tryd.f73 [true] (mkA class_great_A (b0, ())) K = class_great_raw b0 K := by kernel_rfl

def class_great_F (b0 : Int) : Bool :=
 bif (decide ((65 : Int) ≤ b0)) then
 (decide (b0 ≤ (90 : Int)))
 else
 false
set_option maxRecDepth 20000 in
theorem class_great_sp (b0 : Int) (K : Res → List Cell → Prop) (_ : wfA class_great_A (b0, ())) (h : ∀ r : Bool, r = class_great_F b0 → K (.one (.v (.bool) r)) []) : class_great_raw b0 K := by
  unfold class_great_raw
  refine brb (fun c_1 => ?_) (fun c_1 => ?_)
  ·
    exact h _ ((ctrue c_1) : class_great_F b0 = _).symm
  ·
    exact h _ ((cfalse c_1) : class_great_F b0 = _).symm
def class_great_C (v : valsA class_great_A) (K : Res → List Cell → Prop) : Prop := ∀ r : Bool, r = class_great_F v.1 → K (.one (.v (.bool) r)) []
def class_great_S : App := specW class_great_A class_great_C
theorem class_great_wv (K : Res → List Cell → Prop) : ∀ v : valsA class_great_A, runF tb (getG class_great_G) [] Tryd.f73 [true] (mkA class_great_A v) K = class_great_raw v.1 K
  | (b0, ()) => class_great_walk b0 K
set_option maxRecDepth 20000 in
theorem class_great_ok : AppOk Tryd.prog 73 class_great_S :=
  AppOk.specW (spec_ok ((runF_ok tb_M tb_ok class_great_Gok (LabsOk.nil) (f := 73) (fn := Tryd.f73) (by kernel_rfl) (by kernel_rfl) (by kernel_rfl) [true])) fun v K hw h => (class_great_wv K v).mpr (class_great_sp v.1 K hw h))

end Go.VE
namespace Go.VE
open Go Go.Proofs
/-! ### quoin/class.Lower -/
def class_Lower_G : List (Nat × App) := [(73, class_great_S)]
theorem class_Lower_Gok : GOk Tryd.prog (getG class_Lower_G) := GOk.cons class_great_ok (GOk.nil)
def class_Lower_raw (b0 : Int) (K : Res → List Cell → Prop) : Prop :=
 ∀ (r1 : Bool), r1 = class_great_F b0 → (
 wfR (.one (.v (.bool) r1)) → (
 bif r1 then
 K (.one (.v (.int .u8) (IntKind.wrap .u8 (b0 + (32 : Int))))) []
 else
 K (.one (.v (.int .u8) b0)) []))
def class_Lower_A : List AS := [.v (.int .u8)]
theorem class_Lower_walk (b0 : Int) (K : Res → List Cell → Prop) : runF tb (getG class_Lower_G) [] Tryd.f32 [true] (mkA class_Lower_A (b0, ())) K = class_Lower_raw b0 K := by kernel_rfl

def class_Lower_F (b0 : Int) : Int :=
 let r1 : Bool := class_great_F b0
 bif r1 then
 (IntKind.wrap .u8 (b0 + (32 : Int)))
 else
 b0
set_option maxRecDepth 20000 in
theorem class_Lower_sp (b0 : Int) (K : Res → List Cell → Prop) (_ : wfA class_Lower_A (b0, ())) (h : ∀ r : Int, r = class_Lower_F b0 → K (.one (.v (.int .u8) r)) []) : class_Lower_raw b0 K := by
  unfold class_Lower_raw
  intro r1 hr1
  subst r1
  intro _
  refine brb (fun c_1 => ?_) (fun c_1 => ?_)
  ·
    exact h _ ((ctrue c_1) : class_Lower_F b0 = _).symm
  ·
    exact h _ ((cfalse c_1) : class_Lower_F b0 = _).symm
def class_Lower_C (v : valsA class_Lower_A) (K : Res → List Cell → Prop) : Prop := ∀ r : Int, r = class_Lower_F v.1 → K (.one (.v (.int .u8) r)) []
def class_Lower_S : App := specW class_Lower_A class_Lower_C
theorem class_Lower_wv (K : Res → List Cell → Prop) : ∀ v : valsA class_Lower_A, runF tb (getG class_Lower_G) [] Tryd.f32 [true] (mkA class_Lower_A v) K = class_Lower_raw v.1 K
  | (b0, ()) => class_Lower_walk b0 K
set_option maxRecDepth 20000 in
theorem class_Lower_ok : AppOk Tryd.prog 32 class_Lower_S :=
  AppOk.specW (spec_ok ((runF_ok tb_M tb_ok class_Lower_Gok (LabsOk.nil) (f := 32) (fn := Tryd.f32) (by kernel_rfl) (by kernel_rfl) (by kernel_rfl) [true])) fun v K hw h => (class_Lower_wv K v).mpr (class_Lower_sp v.1 K hw h))

end Go.VE
namespace Go.VE
open Go Go.Proofs
/-! ### quoin/class.Toggle -/
def class_Toggle_G : List (Nat × App) := [(74, class_small_S), (33, class_Upper_S), (32, class_Lower_S)]
theorem class_Toggle_Gok : GOk Tryd.prog (getG class_Toggle_G) := GOk.cons class_small_ok (GOk.cons class_Upper_ok (GOk.cons class_Lower_ok (GOk.nil)))
def class_Toggle_raw (b0 : Int) (K : Res → List Cell → Prop) : Prop :=
 ∀ (r1 : Bool), r1 = class_small_F b0 → (
 wfR (.one (.v (.bool) r1)) → (
 bif r1 then
 ∀ (r2 : Int), r2 = class_Upper_F b0 → (
 wfR (.one (.v (.int .u8) r2)) → (
 K (.one (.v (.int .u8) r2)) []))
 else
 ∀ (r3 : Int), r3 = class_Lower_F b0 → (
 wfR (.one (.v (.int .u8) r3)) → (
 K (.one (.v (.int .u8) r3)) []))))
def class_Toggle_A : List AS := [.v (.int .u8)]
theorem class_Toggle_walk (b0 : Int) (K : Res → List Cell → Prop) : runF tb (getG class_Toggle_G) [] Tryd.f34 [true] (mkA class_Toggle_A (b0, ())) K = class_Toggle_raw b0 K := by kernel_rfl

def class_Toggle_F (b0 : Int) : Int :=
 let r1 : Bool := class_small_F b0
 bif r1 then
 let r2 : Int := class_Upper_F b0
 r2
 else
 let r3 : Int := class_Lower_F b0
 r3
set_option maxRecDepth 20000 in
theorem class_Toggle_sp (b0 : Int) (K : Res → List Cell → Prop) (_ : wfA class_Toggle_A (b0, ())) (h : ∀ r : Int, r = class_Toggle_F b0 → K (.one (.v (.int .u8) r)) []) : class_Toggle_raw b0 K := by
  unfold class_Toggle_raw
  intro r1 hr1
  subst r1
  intro _
  refine brb (fun c_1 => ?_) (fun c_1 => ?_)
  ·
    intro r2 hr2
    subst r2
    intro _
    exact h _ ((ctrue c_1) : class_Toggle_F b0 = _).symm
  ·
    intro r3 hr3
    subst r3
    intro _
    exact h _ ((cfalse c_1) : class_Toggle_F b0 = _).symm
def class_Toggle_C (v : valsA class_Toggle_A) (K : Res → List Cell → Prop) : Prop := ∀ r : Int, r = class_Toggle_F v.1 → K (.one (.v (.int .u8) r)) []
def class_Toggle_S : App := specW class_Toggle_A class_Toggle_C
theorem class_Toggle_wv (K : Res → List Cell → Prop) : ∀ v : valsA class_Toggle_A, runF tb (getG class_Toggle_G) [] Tryd.f34 [true] (mkA class_Toggle_A v) K = class_Toggle_raw v.1 K
  | (b0, ()) => class_Toggle_walk b0 K
set_option maxRecDepth 20000 in
theorem class_Toggle_ok : AppOk Tryd.prog 34 class_Toggle_S :=
  AppOk.specW (spec_ok ((runF_ok tb_M tb_ok class_Toggle_Gok (LabsOk.nil) (f := 34) (fn := Tryd.f34) (by kernel_rfl) (by kernel_rfl) (by kernel_rfl) [true])) fun v K hw h => (class_Toggle_wv K v).mpr (class_Toggle_sp v.1 K hw h))

end Go.VE
namespace Go.VE
open Go Go.Proofs
/-! ### internal/bytealg.LastIndexByte -/
def internal_bytealg_LastIndexByte_G : List (Nat × App) := []
theorem internal_bytealg_LastIndexByte_Gok : GOk Tryd.prog (getG internal_bytealg_LastIndexByte_G) := GOk.nil
theorem internal_bytealg_LastIndexByte_st : storesC (bodyOf Tryd.f178) = true := by kernel_rfl
def internal_bytealg_LastIndexByte_d0 : List LS := [.v 0 (.sl (.int .u8)), .v 1 (.int .u8), .v 5 (.int .i64)]
def internal_bytealg_LastIndexByte_d0r : List LS := [.v 4 (.int .i64)]
def internal_bytealg_LastIndexByte_d0x0 : List LS := []
def internal_bytealg_LastIndexByte_dx0 : DX := ⟨none, some internal_bytealg_LastIndexByte_d0r, [(0, internal_bytealg_LastIndexByte_d0x0)]⟩
def internal_bytealg_LastIndexByte_T0 (Y : List Int → Int → Int → Prop) (kr : Int → Prop) (kx0 : Prop) (s0 : List Int) (c1 : Int) (i5 : Int) : Prop :=
 bif (decide ((0 : Int) ≤ i5)) then
 bif decide (0 ≤ i5 ∧ i5 < (List.length s0 : Int)) then
 bif (decide ((rd (0 : Int) s0 i5) = c1)) then
 kr i5
 else
 Y s0 c1 (IntKind.wrap .i64 (i5 - (1 : Int)))
 else False
 else
 kx0
def internal_bytealg_LastIndexByte_L0 (kr : Int → Prop) (kx0 : Prop) : Nat → List Int → Int → Int → Prop
  | 0, _, _, _ => False
  | n + 1, s0, c1, i5 => wfD internal_bytealg_LastIndexByte_d0 (s0, c1, i5, ()) → internal_bytealg_LastIndexByte_T0 (internal_bytealg_LastIndexByte_L0 kr kx0 n) kr kx0 s0 c1 i5
theorem internal_bytealg_LastIndexByte_s0 (k : Ex → St → Prop) (Y : vals internal_bytealg_LastIndexByte_d0 → Prop) (s0 : List Int) (c1 : Int) (i5 : Int) :
    ex tb (getG internal_bytealg_LastIndexByte_G) [] (at' (bodyOf Tryd.f178) [0, 0, 1, 0, 1]) [0, 0, 1, 0, 1] (mkD 20 internal_bytealg_LastIndexByte_d0 (s0, c1, i5, ())) (lpK 20 internal_bytealg_LastIndexByte_d0 internal_bytealg_LastIndexByte_dx0 k Y) =
    internal_bytealg_LastIndexByte_T0 (fun s0 c1 i5 => Y (s0, c1, i5, ())) (fun x4 => wfD internal_bytealg_LastIndexByte_d0r (x4, ()) → k .ret (mkD 20 internal_bytealg_LastIndexByte_d0r (x4, ()))) (wfD internal_bytealg_LastIndexByte_d0x0 () → k (.exit 0) (mkD 20 internal_bytealg_LastIndexByte_d0x0 ())) s0 c1 i5 := by kernel_rfl
theorem internal_bytealg_LastIndexByte_e0 (k : Ex → St → Prop) : ∀ (n : Nat) (s0 : List Int) (c1 : Int) (i5 : Int), lpD 20 internal_bytealg_LastIndexByte_d0 internal_bytealg_LastIndexByte_dx0 (ex tb (getG internal_bytealg_LastIndexByte_G) [] (at' (bodyOf Tryd.f178) [0, 0, 1, 0, 1]) [0, 0, 1, 0, 1]) k n (s0, c1, i5, ()) = internal_bytealg_LastIndexByte_L0 (fun x4 => wfD internal_bytealg_LastIndexByte_d0r (x4, ()) → k .ret (mkD 20 internal_bytealg_LastIndexByte_d0r (x4, ()))) (wfD internal_bytealg_LastIndexByte_d0x0 () → k (.exit 0) (mkD 20 internal_bytealg_LastIndexByte_d0x0 ())) n s0 c1 i5
  | 0, _, _, _ => rfl
  | n + 1, s0, c1, i5 => congrArg (fun Z : Prop => wfD internal_bytealg_LastIndexByte_d0 (s0, c1, i5, ()) → Z) ((internal_bytealg_LastIndexByte_s0 k (lpD 20 internal_bytealg_LastIndexByte_d0 internal_bytealg_LastIndexByte_dx0 (ex tb (getG internal_bytealg_LastIndexByte_G) [] (at' (bodyOf Tryd.f178) [0, 0, 1, 0, 1]) [0, 0, 1, 0, 1]) k n) s0 c1 i5).trans (congrArg (fun Y => internal_bytealg_LastIndexByte_T0 Y (fun x4 => wfD internal_bytealg_LastIndexByte_d0r (x4, ()) → k .ret (mkD 20 internal_bytealg_LastIndexByte_d0r (x4, ()))) (wfD internal_bytealg_LastIndexByte_d0x0 () → k (.exit 0) (mkD 20 internal_bytealg_LastIndexByte_d0x0 ())) s0 c1 i5) (funext fun s0 => funext fun c1 => funext fun i5 => internal_bytealg_LastIndexByte_e0 k n s0 c1 i5)))
theorem internal_bytealg_LastIndexByte_v0 (k : Ex → St → Prop) (n : Nat) : ∀ v : vals internal_bytealg_LastIndexByte_d0, lpD 20 internal_bytealg_LastIndexByte_d0 internal_bytealg_LastIndexByte_dx0 (ex tb (getG internal_bytealg_LastIndexByte_G) [] (at' (bodyOf Tryd.f178) [0, 0, 1, 0, 1]) [0, 0, 1, 0, 1]) k n v = internal_bytealg_LastIndexByte_L0 (fun x4 => wfD internal_bytealg_LastIndexByte_d0r (x4, ()) → k .ret (mkD 20 internal_bytealg_LastIndexByte_d0r (x4, ()))) (wfD internal_bytealg_LastIndexByte_d0x0 () → k (.exit 0) (mkD 20 internal_bytealg_LastIndexByte_d0x0 ())) n v.1 v.2.1 v.2.2.1
  | (s0, c1, i5, ()) => internal_bytealg_LastIndexByte_e0 k n s0 c1 i5
def internal_bytealg_LastIndexByte_X0 : Pce := fun st k => ckD 20 internal_bytealg_LastIndexByte_d0 st fun v => wfD internal_bytealg_LastIndexByte_d0 v → ∃ n, internal_bytealg_LastIndexByte_L0 (fun x4 => wfD internal_bytealg_LastIndexByte_d0r (x4, ()) → k .ret (mkD 20 internal_bytealg_LastIndexByte_d0r (x4, ()))) (wfD internal_bytealg_LastIndexByte_d0x0 () → k (.exit 0) (mkD 20 internal_bytealg_LastIndexByte_d0x0 ())) n v.1 v.2.1 v.2.2.1
set_option maxRecDepth 20000 in
theorem internal_bytealg_LastIndexByte_x0 : SemOk Tryd.prog (at' (bodyOf Tryd.f178) [0, 1, 0, 1]) internal_bytealg_LastIndexByte_X0 :=
  (SemOk.loop (ex_sound tb_M tb_ok internal_bytealg_LastIndexByte_Gok (LabsOk.nil) (at' (bodyOf Tryd.f178) [0, 0, 1, 0, 1]) [0, 0, 1, 0, 1] rfl (storesC_at internal_bytealg_LastIndexByte_st [0, 0, 1, 0, 1])) 20 internal_bytealg_LastIndexByte_d0 internal_bytealg_LastIndexByte_dx0).mono fun st k h => ckD_mono h fun v hv hw => (hv hw).elim fun n hn => ⟨n, Eq.mpr (internal_bytealg_LastIndexByte_v0 k n v) hn⟩
def internal_bytealg_LastIndexByte_B0 : Labs := ([0, 1, 0, 1], internal_bytealg_LastIndexByte_X0) :: []
theorem internal_bytealg_LastIndexByte_b0 : LabsOk Tryd.prog (bodyOf Tryd.f178) internal_bytealg_LastIndexByte_B0 := LabsOk.cons internal_bytealg_LastIndexByte_x0 (LabsOk.nil)
def internal_bytealg_LastIndexByte_raw (s0 : List Int) (c1 : Int) (K : Res → List Cell → Prop) : Prop :=
 (wfD internal_bytealg_LastIndexByte_d0 (s0, c1, (IntKind.wrap .i64 ((List.length s0 : Int) - (1 : Int))), ()) → ∃ n, internal_bytealg_LastIndexByte_L0 (fun (x4 : Int) => wfD internal_bytealg_LastIndexByte_d0r (x4, ()) → (
 K (.one (.v (.int .i64) x4)) [])) (wfD internal_bytealg_LastIndexByte_d0x0 () → (
 K (.one (.v (.int .i64) (-1 : Int))) [])) n s0 c1 (IntKind.wrap .i64 ((List.length s0 : Int) - (1 : Int))))
def internal_bytealg_LastIndexByte_A : List AS := [.v (.sl (.int .u8)), .v (.int .u8)]
theorem internal_bytealg_LastIndexByte_walk (s0 : List Int) (c1 : Int) (K : Res → List Cell → Prop) : runF tb (getG internal_bytealg_LastIndexByte_G) internal_bytealg_LastIndexByte_B0 Tryd.f178 [true] (mkA internal_bytealg_LastIndexByte_A (s0, c1, ())) K = internal_bytealg_LastIndexByte_raw s0 c1 K := by kernel_rfl
--! pre 0
def lastUp (xs : List Int) (c : Int) : Nat → Int
  | 0 => -1
  | n + 1 => if rd (0 : Int) xs n = c then n else lastUp xs c n
theorem lastUp_le (xs : List Int) (c : Int) : ∀ n, -1 ≤ lastUp xs c n ∧ lastUp xs c n < n
  | 0 => by simp [lastUp]
  | n + 1 => by
    have := lastUp_le xs c n
    unfold lastUp
    split <;> omega
def internal_bytealg_LastIndexByte_F (xs : List Int) (c : Int) : Int := lastUp xs c xs.length
theorem internal_bytealg_LastIndexByte_l0 (kr : Int → Prop) (kx0 : Prop) (xs : List Int) (c : Int) (hx : xs.length ≤ 9223372036854775807) : ∀ (n m : Nat), n ≤ xs.length → n < m →
    (∀ i, i = lastUp xs c n → i ≠ -1 → kr i) → (lastUp xs c n = -1 → kx0) → internal_bytealg_LastIndexByte_L0 kr kx0 m xs c ((n : Int) - 1)
  | _, 0, _, h, _, _ => absurd h (Nat.not_lt_zero _)
  | 0, m + 1, _, _, _, h2 => by
    intro _
    unfold internal_bytealg_LastIndexByte_T0
    exact brn (fun h => by omega) (fun _ => h2 rfl)
  | n + 1, m + 1, hn, hm, h1, h2 => by
    intro _
    unfold internal_bytealg_LastIndexByte_T0
    have e : ((n + 1 : Nat) : Int) - 1 = (n : Int) := by omega
    rw [e]
    refine brn (fun _ => asrt (by omega) (brn (fun h => h1 _ ?_ (by omega)) (fun h => ?_))) (fun h => absurd (by omega) h)
    · unfold lastUp; rw [if_pos h]
    · rw [wrap_i64 (by omega) (by omega)]
      have e2 : lastUp xs c (n + 1) = lastUp xs c n := by conv => lhs; unfold lastUp; rw [if_neg h]
      exact internal_bytealg_LastIndexByte_l0 kr kx0 xs c hx n m (by omega) (by omega) (fun i hi => h1 i (by rw [e2]; exact hi)) (fun hi => h2 (by rw [e2]; exact hi))
theorem internal_bytealg_LastIndexByte_sp (s : List Int) (c : Int) (K : Res → List Cell → Prop) (hw : wfA internal_bytealg_LastIndexByte_A (s, c, ())) (h : ∀ r : Int, r = internal_bytealg_LastIndexByte_F s c → K (.one (.v (.int .i64) r)) []) : internal_bytealg_LastIndexByte_raw s c K := by
  have hs : s.length ≤ 9223372036854775807 := hw.1.1
  unfold internal_bytealg_LastIndexByte_raw
  intro _
  rw [wrap_i64 (by omega) (by omega)]
  refine ⟨s.length + 1, internal_bytealg_LastIndexByte_l0 _ _ s c hs s.length (s.length + 1) (Nat.le_refl _) (Nat.lt_succ_self _) (fun i hi _ _ => h i hi) (fun hi _ => h _ hi.symm)⟩

def internal_bytealg_LastIndexByte_C (v : valsA internal_bytealg_LastIndexByte_A) (K : Res → List Cell → Prop) : Prop := ∀ r : Int, r = internal_bytealg_LastIndexByte_F v.1 v.2.1 → K (.one (.v (.int .i64) r)) []
def internal_bytealg_LastIndexByte_S : App := specW internal_bytealg_LastIndexByte_A internal_bytealg_LastIndexByte_C
theorem internal_bytealg_LastIndexByte_wv (K : Res → List Cell → Prop) : ∀ v : valsA internal_bytealg_LastIndexByte_A, runF tb (getG internal_bytealg_LastIndexByte_G) internal_bytealg_LastIndexByte_B0 Tryd.f178 [true] (mkA internal_bytealg_LastIndexByte_A v) K = internal_bytealg_LastIndexByte_raw v.1 v.2.1 K
  | (s0, c1, ()) => internal_bytealg_LastIndexByte_walk s0 c1 K
set_option maxRecDepth 20000 in
theorem internal_bytealg_LastIndexByte_ok : AppOk Tryd.prog 178 internal_bytealg_LastIndexByte_S :=
  AppOk.specW (spec_ok ((runF_ok tb_M tb_ok internal_bytealg_LastIndexByte_Gok (internal_bytealg_LastIndexByte_b0) (f := 178) (fn := Tryd.f178) (by kernel_rfl) (by kernel_rfl) internal_bytealg_LastIndexByte_st [true])) fun v K hw h => (internal_bytealg_LastIndexByte_wv K v).mpr (internal_bytealg_LastIndexByte_sp v.1 v.2.1 K hw h))

end Go.VE
namespace Go.VE
open Go Go.Proofs
/-! ### bytes.LastIndexByte -/
def bytes_LastIndexByte_G : List (Nat × App) := [(178, internal_bytealg_LastIndexByte_S)]
theorem bytes_LastIndexByte_Gok : GOk Tryd.prog (getG bytes_LastIndexByte_G) := GOk.cons internal_bytealg_LastIndexByte_ok (GOk.nil)
def bytes_LastIndexByte_raw (s0 : List Int) (c1 : Int) (K : Res → List Cell → Prop) : Prop :=
 ∀ (r1 : Int), r1 = internal_bytealg_LastIndexByte_F s0 c1 → (
 wfR (.one (.v (.int .i64) r1)) → (
 K (.one (.v (.int .i64) r1)) []))
def bytes_LastIndexByte_A : List AS := [.v (.sl (.int .u8)), .v (.int .u8)]
theorem bytes_LastIndexByte_walk (s0 : List Int) (c1 : Int) (K : Res → List Cell → Prop) : runF tb (getG bytes_LastIndexByte_G) [] Tryd.f177 [true] (mkA bytes_LastIndexByte_A (s0, c1, ())) K = bytes_LastIndexByte_raw s0 c1 K := by kernel_rfl

def bytes_LastIndexByte_F (s0 : List Int) (c1 : Int) : Int :=
 let r1 : Int := internal_bytealg_LastIndexByte_F s0 c1
 r1
set_option maxRecDepth 20000 in
theorem bytes_LastIndexByte_sp (s0 : List Int) (c1 : Int) (K : Res → List Cell → Prop) (_ : wfA bytes_LastIndexByte_A (s0, c1, ())) (h : ∀ r : Int, r = bytes_LastIndexByte_F s0 c1 → K (.one (.v (.int .i64) r)) []) : bytes_LastIndexByte_raw s0 c1 K := by
  unfold bytes_LastIndexByte_raw
  intro r1 hr1
  subst r1
  intro _
  exact h _ rfl
def bytes_LastIndexByte_C (v : valsA bytes_LastIndexByte_A) (K : Res → List Cell → Prop) : Prop := ∀ r : Int, r = bytes_LastIndexByte_F v.1 v.2.1 → K (.one (.v (.int .i64) r)) []
def bytes_LastIndexByte_S : App := specW bytes_LastIndexByte_A bytes_LastIndexByte_C
theorem bytes_LastIndexByte_wv (K : Res → List Cell → Prop) : ∀ v : valsA bytes_LastIndexByte_A, runF tb (getG bytes_LastIndexByte_G) [] Tryd.f177 [true] (mkA bytes_LastIndexByte_A v) K = bytes_LastIndexByte_raw v.1 v.2.1 K
  | (s0, c1, ()) => bytes_LastIndexByte_walk s0 c1 K
set_option maxRecDepth 20000 in
theorem bytes_LastIndexByte_ok : AppOk Tryd.prog 177 bytes_LastIndexByte_S :=
  AppOk.specW (spec_ok ((runF_ok tb_M tb_ok bytes_LastIndexByte_Gok (LabsOk.nil) (f := 177) (fn := Tryd.f177) (by kernel_rfl) (by kernel_rfl) (by kernel_rfl) [true])) fun v K hw h => (bytes_LastIndexByte_wv K v).mpr (bytes_LastIndexByte_sp v.1 v.2.1 K hw h))

end Go.VE
namespace Go.VE
open Go Go.Proofs
/-! ### quoin/lines.head -/
def lines_head_G : List (Nat × App) := [(177, bytes_LastIndexByte_S)]
theorem lines_head_Gok : GOk Tryd.prog (getG lines_head_G) := GOk.cons bytes_LastIndexByte_ok (GOk.nil)
def lines_head_raw (t0 : List Int) (at1 : Int) (K : Res → List Cell → Prop) : Prop :=
 bif decide (0 ≤ at1 ∧ at1 ≤ (List.length t0 : Int)) then
 ∀ (r1 : Int), r1 = bytes_LastIndexByte_F (List.take (Int.toNat at1) t0) (10 : Int) → (
 wfR (.one (.v (.int .i64) r1)) → (
 K (.one (.v (.int .i64) (IntKind.wrap .i64 (r1 + (1 : Int))))) []))
 else False
def lines_head_A : List AS := [.v (.sl (.int .u8)), .v (.int .i64)]
theorem lines_head_walk (t0 : List Int) (at1 : Int) (K : Res → List Cell → Prop) : runF tb (getG lines_head_G) [] Tryd.f173 [true] (mkA lines_head_A (t0, at1, ())) K = lines_head_raw t0 at1 K := by kernel_rfl

def lines_head_P (t0 : List Int) (at1 : Int) : Prop :=
 (0 ≤ at1 ∧ at1 ≤ (List.length t0 : Int))
def lines_head_F (t0 : List Int) (at1 : Int) : Int :=
 let r1 : Int := bytes_LastIndexByte_F (List.take (Int.toNat at1) t0) (10 : Int)
 (IntKind.wrap .i64 (r1 + (1 : Int)))
set_option maxRecDepth 20000 in
theorem lines_head_sp (t0 : List Int) (at1 : Int) (K : Res → List Cell → Prop) (_ : wfA lines_head_A (t0, at1, ())) (hp : lines_head_P t0 at1) (h : ∀ r : Int, r = lines_head_F t0 at1 → K (.one (.v (.int .i64) r)) []) : lines_head_raw t0 at1 K := by
  unfold lines_head_raw
  unfold lines_head_P at hp
  refine asrt hp ?_
  intro r1 hr1
  subst r1
  intro _
  exact h _ rfl
def lines_head_C (v : valsA lines_head_A) (K : Res → List Cell → Prop) : Prop := lines_head_P v.1 v.2.1 ∧ ∀ r : Int, r = lines_head_F v.1 v.2.1 → K (.one (.v (.int .i64) r)) []
def lines_head_S : App := specW lines_head_A lines_head_C
theorem lines_head_wv (K : Res → List Cell → Prop) : ∀ v : valsA lines_head_A, runF tb (getG lines_head_G) [] Tryd.f173 [true] (mkA lines_head_A v) K = lines_head_raw v.1 v.2.1 K
  | (t0, at1, ()) => lines_head_walk t0 at1 K
set_option maxRecDepth 20000 in
theorem lines_head_ok : AppOk Tryd.prog 173 lines_head_S :=
  AppOk.specW (spec_ok ((runF_ok tb_M tb_ok lines_head_Gok (LabsOk.nil) (f := 173) (fn := Tryd.f173) (by kernel_rfl) (by kernel_rfl) (by kernel_rfl) [true])) fun v K hw h => (lines_head_wv K v).mpr (lines_head_sp v.1 v.2.1 K hw h.1 h.2))

end Go.VE
namespace Go.VE
open Go Go.Proofs
/-! ### quoin/lines.Column -/
def lines_Column_G : List (Nat × App) := [(98, lines_has_S), (173, lines_head_S)]
theorem lines_Column_Gok : GOk Tryd.prog (getG lines_Column_G) := GOk.cons lines_has_ok (GOk.cons lines_head_ok (GOk.nil))
def lines_Column_raw (t0 : List Int) (at1 : Int) (K : Res → List Cell → Prop) : Prop :=
 ∀ (r1 : Bool), r1 = lines_has_F t0 at1 → (
 wfR (.one (.v (.bool) r1)) → (
 bif (!r1) then
 K (.tup [.v (.int .i64) (0 : Int), .v (.int .i64) (2 : Int)]) []
 else
 lines_head_P t0 at1 ∧ (
 ∀ (r2 : Int), r2 = lines_head_F t0 at1 → (
 wfR (.one (.v (.int .i64) r2)) → (
 K (.tup [.v (.int .i64) (IntKind.wrap .i64 (at1 - r2)), .v (.int .i64) (0 : Int)]) [])))))
def lines_Column_A : List AS := [.v (.sl (.int .u8)), .v (.int .i64)]
theorem lines_Column_walk (t0 : List Int) (at1 : Int) (K : Res → List Cell → Prop) : runF tb (getG lines_Column_G) [] Tryd.f160 [true, true] (mkA lines_Column_A (t0, at1, ())) K = lines_Column_raw t0 at1 K := by kernel_rfl

def lines_Column_P (t0 : List Int) (at1 : Int) : Prop :=
 let r1 : Bool := lines_has_F t0 at1
 bif (!r1) then
 True
 else
 lines_head_P t0 at1
def lines_Column_F (t0 : List Int) (at1 : Int) : Int × Int :=
 let r1 : Bool := lines_has_F t0 at1
 bif (!r1) then
 ((0 : Int), (2 : Int))
 else
 let r2 : Int := lines_head_F t0 at1
 ((IntKind.wrap .i64 (at1 - r2)), (0 : Int))
set_option maxRecDepth 20000 in
theorem lines_Column_sp (t0 : List Int) (at1 : Int) (K : Res → List Cell → Prop) (_ : wfA lines_Column_A (t0, at1, ())) (hp : lines_Column_P t0 at1) (h : ∀ r : Int × Int, r = lines_Column_F t0 at1 → K (.tup [.v (.int .i64) r.1, .v (.int .i64) r.2]) []) : lines_Column_raw t0 at1 K := by
  unfold lines_Column_raw
  unfold lines_Column_P at hp
  intro r1 hr1
  subst r1
  intro _
  refine brb (fun c_1 => ?_) (fun c_1 => ?_)
  ·
    clear hp
    have e := h _ ((ctrue c_1) : lines_Column_F t0 at1 = _).symm
    exact e
  ·
    replace hp := cF c_1 hp
    refine ⟨hp, ?_⟩
    intro r2 hr2
    subst r2
    intro _
    have e := h _ ((cfalse c_1) : lines_Column_F t0 at1 = _).symm
    exact e
def lines_Column_C (v : valsA lines_Column_A) (K : Res → List Cell → Prop) : Prop := lines_Column_P v.1 v.2.1 ∧ ∀ r : Int × Int, r = lines_Column_F v.1 v.2.1 → K (.tup [.v (.int .i64) r.1, .v (.int .i64) r.2]) []
def lines_Column_S : App := specW lines_Column_A lines_Column_C
theorem lines_Column_wv (K : Res → List Cell → Prop) : ∀ v : valsA lines_Column_A, runF tb (getG lines_Column_G) [] Tryd.f160 [true, true] (mkA lines_Column_A v) K = lines_Column_raw v.1 v.2.1 K
  | (t0, at1, ()) => lines_Column_walk t0 at1 K
set_option maxRecDepth 20000 in
theorem lines_Column_ok : AppOk Tryd.prog 160 lines_Column_S :=
  AppOk.specW (spec_ok ((runF_ok tb_M tb_ok lines_Column_Gok (LabsOk.nil) (f := 160) (fn := Tryd.f160) (by kernel_rfl) (by kernel_rfl) (by kernel_rfl) [true, true])) fun v K hw h => (lines_Column_wv K v).mpr (lines_Column_sp v.1 v.2.1 K hw h.1 h.2))

end Go.VE
namespace Go.VE
open Go Go.Proofs
/-! ### quoin/lines.At -/
def lines_At_G : List (Nat × App) := [(31, lines_Start_S), (99, lines_tail_S)]
theorem lines_At_Gok : GOk Tryd.prog (getG lines_At_G) := GOk.cons lines_Start_ok (GOk.cons lines_tail_ok (GOk.nil))
def lines_At_raw (t0 : List Int) (line1 : Int) (column2 : Int) (K : Res → List Cell → Prop) : Prop :=
 ∀ (r1 : Int × Int), r1 = lines_Start_F t0 line1 → (
 wfR (.tup [.v (.int .i64) r1.1, .v (.int .i64) r1.2]) → (
 bif (!decide (r1.2 = (0 : Int))) then
 K (.tup [.v (.int .i64) (0 : Int), .v (.int .i64) (2 : Int)]) []
 else
 bif (decide (column2 < (-1 : Int))) then
 K (.tup [.v (.int .i64) (0 : Int), .v (.int .i64) (2 : Int)]) []
 else
 lines_tail_P t0 r1.1 ∧ (
 ∀ (r2 : Int), r2 = lines_tail_F t0 r1.1 → (
 wfR (.one (.v (.int .i64) r2)) → (
 bif (decide (column2 = (-1 : Int))) then
 K (.tup [.v (.int .i64) (mx r1.1 (IntKind.wrap .i64 (r2 - (1 : Int)))), .v (.int .i64) (0 : Int)]) []
 else
 bif (decide ((IntKind.wrap .i64 ((mx r1.1 (IntKind.wrap .i64 (r2 - (1 : Int)))) - r1.1)) < column2)) then
 K (.tup [.v (.int .i64) (mx r1.1 (IntKind.wrap .i64 (r2 - (1 : Int)))), .v (.int .i64) (0 : Int)]) []
 else
 K (.tup [.v (.int .i64) (IntKind.wrap .i64 (r1.1 + column2)), .v (.int .i64) (0 : Int)]) [])))))
def lines_At_A : List AS := [.v (.sl (.int .u8)), .v (.int .i64), .v (.int .i64)]
theorem lines_At_walk (t0 : List Int) (line1 : Int) (column2 : Int) (K : Res → List Cell → Prop) : runF tb (getG lines_At_G) [] Tryd.f161 [true, true] (mkA lines_At_A (t0, line1, column2, ())) K = lines_At_raw t0 line1 column2 K := by kernel_rfl

def lines_At_P (t0 : List Int) (line1 : Int) (column2 : Int) : Prop :=
 let r1 : Int × Int := lines_Start_F t0 line1
 bif (!decide (r1.2 = (0 : Int))) then
 True
 else
 bif (decide (column2 < (-1 : Int))) then
 True
 else
 lines_tail_P t0 r1.1
def lines_At_F (t0 : List Int) (line1 : Int) (column2 : Int) : Int × Int :=
 let r1 : Int × Int := lines_Start_F t0 line1
 bif (!decide (r1.2 = (0 : Int))) then
 ((0 : Int), (2 : Int))
 else
 bif (decide (column2 < (-1 : Int))) then
 ((0 : Int), (2 : Int))
 else
 let r2 : Int := lines_tail_F t0 r1.1
 bif (decide (column2 = (-1 : Int))) then
 ((mx r1.1 (IntKind.wrap .i64 (r2 - (1 : Int)))), (0 : Int))
 else
 bif (decide ((IntKind.wrap .i64 ((mx r1.1 (IntKind.wrap .i64 (r2 - (1 : Int)))) - r1.1)) < column2)) then
 ((mx r1.1 (IntKind.wrap .i64 (r2 - (1 : Int)))), (0 : Int))
 else
 ((IntKind.wrap .i64 (r1.1 + column2)), (0 : Int))
set_option maxRecDepth 20000 in
theorem lines_At_sp (t0 : List Int) (line1 : Int) (column2 : Int) (K : Res → List Cell → Prop) (_ : wfA lines_At_A (t0, line1, column2, ())) (hp : lines_At_P t0 line1 column2) (h : ∀ r : Int × Int, r = lines_At_F t0 line1 column2 → K (.tup [.v (.int .i64) r.1, .v (.int .i64) r.2]) []) : lines_At_raw t0 line1 column2 K := by
  unfold lines_At_raw
  unfold lines_At_P at hp
  intro r1 hr1
  subst r1
  intro _
  refine brb (fun c_1 => ?_) (fun c_1 => ?_)
  ·
    clear hp
    have e := h _ ((ctrue c_1) : lines_At_F t0 line1 column2 = _).symm
    exact e
  ·
    replace hp := cF c_1 hp
    refine brb (fun c_2 => ?_) (fun c_2 => ?_)
    ·
      clear hp
      have e := h _ ((Eq.trans (cfalse c_1) (ctrue c_2)) : lines_At_F t0 line1 column2 = _).symm
      exact e
    ·
      replace hp := cF c_2 hp
      refine ⟨hp, ?_⟩
      intro r2 hr2
      subst r2
      intro _
      refine brb (fun c_3 => ?_) (fun c_3 => ?_)
      ·
        have e := h _ ((Eq.trans (cfalse c_1) (Eq.trans (cfalse c_2) (ctrue c_3))) : lines_At_F t0 line1 column2 = _).symm
        exact e
      ·
        refine brb (fun c_4 => ?_) (fun c_4 => ?_)
        ·
          have e := h _ ((Eq.trans (cfalse c_1) (Eq.trans (cfalse c_2) (Eq.trans (cfalse c_3) (ctrue c_4)))) : lines_At_F t0 line1 column2 = _).symm
          exact e
        ·
          have e := h _ ((Eq.trans (cfalse c_1) (Eq.trans (cfalse c_2) (Eq.trans (cfalse c_3) (cfalse c_4)))) : lines_At_F t0 line1 column2 = _).symm
          exact e
def lines_At_C (v : valsA lines_At_A) (K : Res → List Cell → Prop) : Prop := lines_At_P v.1 v.2.1 v.2.2.1 ∧ ∀ r : Int × Int, r = lines_At_F v.1 v.2.1 v.2.2.1 → K (.tup [.v (.int .i64) r.1, .v (.int .i64) r.2]) []
def lines_At_S : App := specW lines_At_A lines_At_C
theorem lines_At_wv (K : Res → List Cell → Prop) : ∀ v : valsA lines_At_A, runF tb (getG lines_At_G) [] Tryd.f161 [true, true] (mkA lines_At_A v) K = lines_At_raw v.1 v.2.1 v.2.2.1 K
  | (t0, line1, column2, ()) => lines_At_walk t0 line1 column2 K
set_option maxRecDepth 20000 in
theorem lines_At_ok : AppOk Tryd.prog 161 lines_At_S :=
  AppOk.specW (spec_ok ((runF_ok tb_M tb_ok lines_At_Gok (LabsOk.nil) (f := 161) (fn := Tryd.f161) (by kernel_rfl) (by kernel_rfl) (by kernel_rfl) [true, true])) fun v K hw h => (lines_At_wv K v).mpr (lines_At_sp v.1 v.2.1 v.2.2.1 K hw h.1 h.2))

end Go.VE
namespace Go.VE
open Go Go.Proofs
/-! ### (quoin/oper.job).stay -/
def oper_job_stay_G : List (Nat × App) := [(160, lines_Column_S), (161, lines_At_S)]
theorem oper_job_stay_Gok : GOk Tryd.prog (getG oper_job_stay_G) := GOk.cons lines_Column_ok (GOk.cons lines_At_ok (GOk.nil))
def oper_job_stay_raw (j0 : (List Int × Int × (Int × Int × Bool × Bool) × Int × Int × Int)) (K : Res → List Cell → Prop) : Prop :=
 bif (!j0.2.2.1.2.2.1) then
 K (.one (.v (.int .i64) j0.2.2.1.1)) []
 else
 lines_Column_P j0.1 j0.2.1 ∧ (
 ∀ (r1 : Int × Int), r1 = lines_Column_F j0.1 j0.2.1 → (
 wfR (.tup [.v (.int .i64) r1.1, .v (.int .i64) r1.2]) → (
 lines_At_P j0.1 j0.2.2.2.1 r1.1 ∧ (
 ∀ (r2 : Int × Int), r2 = lines_At_F j0.1 j0.2.2.2.1 r1.1 → (
 wfR (.tup [.v (.int .i64) r2.1, .v (.int .i64) r2.2]) → (
 K (.one (.v (.int .i64) r2.1)) []))))))
def oper_job_stay_A : List AS := [.v (.st (.pair (.sl (.int .u8)) (.pair (.int .i64) (.pair (.st (.pair (.int .i64) (.pair (.int .i64) (.pair (.bool) (.bool))))) (.pair (.int .i64) (.pair (.int .i64) (.int .i64)))))))]
theorem oper_job_stay_walk (j0 : (List Int × Int × (Int × Int × Bool × Bool) × Int × Int × Int)) (K : Res → List Cell → Prop) : runF tb (getG oper_job_stay_G) [] Tryd.f138 [true] (mkA oper_job_stay_A (j0, ())) K = oper_job_stay_raw j0 K := by kernel_rfl

def oper_job_stay_P (j0 : (List Int × Int × (Int × Int × Bool × Bool) × Int × Int × Int)) : Prop :=
 bif (!j0.2.2.1.2.2.1) then
 True
 else
 lines_Column_P j0.1 j0.2.1 ∧ (
 let r1 : Int × Int := lines_Column_F j0.1 j0.2.1
 lines_At_P j0.1 j0.2.2.2.1 r1.1)
def oper_job_stay_F (j0 : (List Int × Int × (Int × Int × Bool × Bool) × Int × Int × Int)) : Int :=
 bif (!j0.2.2.1.2.2.1) then
 j0.2.2.1.1
 else
 let r1 : Int × Int := lines_Column_F j0.1 j0.2.1
 let r2 : Int × Int := lines_At_F j0.1 j0.2.2.2.1 r1.1
 r2.1
set_option maxRecDepth 20000 in
theorem oper_job_stay_sp (j0 : (List Int × Int × (Int × Int × Bool × Bool) × Int × Int × Int)) (K : Res → List Cell → Prop) (_ : wfA oper_job_stay_A (j0, ())) (hp : oper_job_stay_P j0) (h : ∀ r : Int, r = oper_job_stay_F j0 → K (.one (.v (.int .i64) r)) []) : oper_job_stay_raw j0 K := by
  unfold oper_job_stay_raw
  unfold oper_job_stay_P at hp
  refine brb (fun c_1 => ?_) (fun c_1 => ?_)
  ·
    clear hp
    exact h _ ((ctrue c_1) : oper_job_stay_F j0 = _).symm
  ·
    replace hp := cF c_1 hp
    refine ⟨hp.1, ?_⟩
    replace hp := hp.2
    intro r1 hr1
    subst r1
    intro _
    refine ⟨hp, ?_⟩
    intro r2 hr2
    subst r2
    intro _
    exact h _ ((cfalse c_1) : oper_job_stay_F j0 = _).symm
def oper_job_stay_C (v : valsA oper_job_stay_A) (K : Res → List Cell → Prop) : Prop := oper_job_stay_P v.1 ∧ ∀ r : Int, r = oper_job_stay_F v.1 → K (.one (.v (.int .i64) r)) []
def oper_job_stay_S : App := specW oper_job_stay_A oper_job_stay_C
theorem oper_job_stay_wv (K : Res → List Cell → Prop) : ∀ v : valsA oper_job_stay_A, runF tb (getG oper_job_stay_G) [] Tryd.f138 [true] (mkA oper_job_stay_A v) K = oper_job_stay_raw v.1 K
  | (j0, ()) => oper_job_stay_walk j0 K
set_option maxRecDepth 20000 in
theorem oper_job_stay_ok : AppOk Tryd.prog 138 oper_job_stay_S :=
  AppOk.specW (spec_ok ((runF_ok tb_M tb_ok oper_job_stay_Gok (LabsOk.nil) (f := 138) (fn := Tryd.f138) (by kernel_rfl) (by kernel_rfl) (by kernel_rfl) [true])) fun v K hw h => (oper_job_stay_wv K v).mpr (oper_job_stay_sp v.1 K hw h.1 h.2))

end Go.VE
namespace Go.VE
open Go Go.Proofs
/-! ### (quoin/oper.job).turned -/
def oper_job_turned_class_Toggle_G : List (Nat × App) := [(60, bytes_Clone_S), (34, class_Toggle_S), (64, oper_edited_S), (138, oper_job_stay_S)]
theorem oper_job_turned_class_Toggle_Gok : GOk Tryd.prog (getG oper_job_turned_class_Toggle_G) := GOk.cons bytes_Clone_ok (GOk.cons class_Toggle_ok (GOk.cons oper_edited_ok (GOk.cons oper_job_stay_ok (GOk.nil))))
theorem oper_job_turned_class_Toggle_st : storesC (bodyOf Tryd.f109) = true := by kernel_rfl
def oper_job_turned_class_Toggle_d0 : List LS := [.f 1 34 [], .b 2 16 [], .b 4 32 [], .o 6 53 5 (.int .u8), .o 19 53 5 (.int .u8), .v 20 (.int .i64), .v 21 (.int .i64), .c 16 (.st (.pair (.sl (.int .u8)) (.pair (.int .i64) (.pair (.st (.pair (.int .i64) (.pair (.int .i64) (.pair (.bool) (.bool))))) (.pair (.int .i64) (.pair (.int .i64) (.int .i64))))))), .c 32 (.st (.pair (.sl (.st (.pair (.int .i64) (.pair (.sl (.int .u8)) (.sl (.int .u8)))))) (.pair (.int .i64) (.pair (.st (.pair (.bool) (.pair (.bool) (.sl (.int .u8))))) (.pair (.int .i64) (.bool))))))]
def oper_job_turned_class_Toggle_d0x0 : List LS := [.b 2 16 [], .b 4 32 [], .o 6 53 5 (.int .u8), .c 16 (.st (.pair (.sl (.int .u8)) (.pair (.int .i64) (.pair (.st (.pair (.int .i64) (.pair (.int .i64) (.pair (.bool) (.bool))))) (.pair (.int .i64) (.pair (.int .i64) (.int .i64))))))), .c 32 (.st (.pair (.sl (.st (.pair (.int .i64) (.pair (.sl (.int .u8)) (.sl (.int .u8)))))) (.pair (.int .i64) (.pair (.st (.pair (.bool) (.pair (.bool) (.sl (.int .u8))))) (.pair (.int .i64) (.bool))))))]
def oper_job_turned_class_Toggle_dx0 : DX := ⟨none, none, [(0, oper_job_turned_class_Toggle_d0x0)]⟩
def oper_job_turned_class_Toggle_T0 (Y : List Int → List Int → Int → Int → (List Int × Int × (Int × Int × Bool × Bool) × Int × Int × Int) → (List ((Int × List Int × List Int)) × Int × (Bool × Bool × List Int) × Int × Bool) → Prop) (kx0 : List Int → (List Int × Int × (Int × Int × Bool × Bool) × Int × Int × Int) → (List ((Int × List Int × List Int)) × Int × (Bool × Bool × List Int) × Int × Bool) → Prop) (p6 : List Int) (x19 : List Int) (x20 : Int) (x21 : Int) (j2b : (List Int × Int × (Int × Int × Bool × Bool) × Int × Int × Int)) (x4b : (List ((Int × List Int × List Int)) × Int × (Bool × Bool × List Int) × Int × Bool)) : Prop :=
 bif (decide (x21 < x20)) then
 bif decide (0 ≤ x21 ∧ x21 < (List.length x19 : Int)) then
 ∀ (r2 : Int), r2 = class_Toggle_F (rd (0 : Int) x19 x21) → (
 wfR (.one (.v (.int .u8) r2)) → (
 bif decide (0 ≤ x21 ∧ x21 < (List.length p6 : Int)) then
 Y (List.set p6 (Int.toNat x21) r2) (List.set x19 (Int.toNat x21) r2) x20 (IntKind.wrap .i64 (x21 + (1 : Int))) j2b x4b
 else False))
 else False
 else
 kx0 p6 j2b x4b
def oper_job_turned_class_Toggle_L0 (kx0 : List Int → (List Int × Int × (Int × Int × Bool × Bool) × Int × Int × Int) → (List ((Int × List Int × List Int)) × Int × (Bool × Bool × List Int) × Int × Bool) → Prop) : Nat → List Int → List Int → Int → Int → (List Int × Int × (Int × Int × Bool × Bool) × Int × Int × Int) → (List ((Int × List Int × List Int)) × Int × (Bool × Bool × List Int) × Int × Bool) → Prop
  | 0, _, _, _, _, _, _ => False
  | n + 1, p6, x19, x20, x21, j2b, x4b => wfD oper_job_turned_class_Toggle_d0 (p6, x19, x20, x21, j2b, x4b, ()) → oper_job_turned_class_Toggle_T0 (oper_job_turned_class_Toggle_L0 kx0 n) kx0 p6 x19 x20 x21 j2b x4b
theorem oper_job_turned_class_Toggle_s0 (k : Ex → St → Prop) (Y : vals oper_job_turned_class_Toggle_d0 → Prop) (p6 : List Int) (x19 : List Int) (x20 : Int) (x21 : Int) (j2b : (List Int × Int × (Int × Int × Bool × Bool) × Int × Int × Int)) (x4b : (List ((Int × List Int × List Int)) × Int × (Bool × Bool × List Int) × Int × Bool)) :
    ex tb (getG oper_job_turned_class_Toggle_G) [] (at' (bodyOf Tryd.f109) [0, 0, 1, 0, 1, 1]) [0, 0, 1, 0, 1, 1] (mkD 46 oper_job_turned_class_Toggle_d0 (p6, x19, x20, x21, j2b, x4b, ())) (lpK 46 oper_job_turned_class_Toggle_d0 oper_job_turned_class_Toggle_dx0 k Y) =
    oper_job_turned_class_Toggle_T0 (fun p6 x19 x20 x21 j2b x4b => Y (p6, x19, x20, x21, j2b, x4b, ())) (fun p6 j2b x4b => wfD oper_job_turned_class_Toggle_d0x0 (p6, j2b, x4b, ()) → k (.exit 0) (mkD 46 oper_job_turned_class_Toggle_d0x0 (p6, j2b, x4b, ()))) p6 x19 x20 x21 j2b x4b := by kernel_rfl
theorem oper_job_turned_class_Toggle_e0 (k : Ex → St → Prop) : ∀ (n : Nat) (p6 : List Int) (x19 : List Int) (x20 : Int) (x21 : Int) (j2b : (List Int × Int × (Int × Int × Bool × Bool) × Int × Int × Int)) (x4b : (List ((Int × List Int × List Int)) × Int × (Bool × Bool × List Int) × Int × Bool)), lpD 46 oper_job_turned_class_Toggle_d0 oper_job_turned_class_Toggle_dx0 (ex tb (getG oper_job_turned_class_Toggle_G) [] (at' (bodyOf Tryd.f109) [0, 0, 1, 0, 1, 1]) [0, 0, 1, 0, 1, 1]) k n (p6, x19, x20, x21, j2b, x4b, ()) = oper_job_turned_class_Toggle_L0 (fun p6 j2b x4b => wfD oper_job_turned_class_Toggle_d0x0 (p6, j2b, x4b, ()) → k (.exit 0) (mkD 46 oper_job_turned_class_Toggle_d0x0 (p6, j2b, x4b, ()))) n p6 x19 x20 x21 j2b x4b
  | 0, _, _, _, _, _, _ => rfl
  | n + 1, p6, x19, x20, x21, j2b, x4b => congrArg (fun Z : Prop => wfD oper_job_turned_class_Toggle_d0 (p6, x19, x20, x21, j2b, x4b, ()) → Z) ((oper_job_turned_class_Toggle_s0 k (lpD 46 oper_job_turned_class_Toggle_d0 oper_job_turned_class_Toggle_dx0 (ex tb (getG oper_job_turned_class_Toggle_G) [] (at' (bodyOf Tryd.f109) [0, 0, 1, 0, 1, 1]) [0, 0, 1, 0, 1, 1]) k n) p6 x19 x20 x21 j2b x4b).trans (congrArg (fun Y => oper_job_turned_class_Toggle_T0 Y (fun p6 j2b x4b => wfD oper_job_turned_class_Toggle_d0x0 (p6, j2b, x4b, ()) → k (.exit 0) (mkD 46 oper_job_turned_class_Toggle_d0x0 (p6, j2b, x4b, ()))) p6 x19 x20 x21 j2b x4b) (funext fun p6 => funext fun x19 => funext fun x20 => funext fun x21 => funext fun j2b => funext fun x4b => oper_job_turned_class_Toggle_e0 k n p6 x19 x20 x21 j2b x4b)))
theorem oper_job_turned_class_Toggle_v0 (k : Ex → St → Prop) (n : Nat) : ∀ v : vals oper_job_turned_class_Toggle_d0, lpD 46 oper_job_turned_class_Toggle_d0 oper_job_turned_class_Toggle_dx0 (ex tb (getG oper_job_turned_class_Toggle_G) [] (at' (bodyOf Tryd.f109) [0, 0, 1, 0, 1, 1]) [0, 0, 1, 0, 1, 1]) k n v = oper_job_turned_class_Toggle_L0 (fun p6 j2b x4b => wfD oper_job_turned_class_Toggle_d0x0 (p6, j2b, x4b, ()) → k (.exit 0) (mkD 46 oper_job_turned_class_Toggle_d0x0 (p6, j2b, x4b, ()))) n v.1 v.2.1 v.2.2.1 v.2.2.2.1 v.2.2.2.2.1 v.2.2.2.2.2.1
  | (p6, x19, x20, x21, j2b, x4b, ()) => oper_job_turned_class_Toggle_e0 k n p6 x19 x20 x21 j2b x4b
def oper_job_turned_class_Toggle_X0 : Pce := fun st k => ckD 46 oper_job_turned_class_Toggle_d0 st fun v => wfD oper_job_turned_class_Toggle_d0 v → ∃ n, oper_job_turned_class_Toggle_L0 (fun p6 j2b x4b => wfD oper_job_turned_class_Toggle_d0x0 (p6, j2b, x4b, ()) → k (.exit 0) (mkD 46 oper_job_turned_class_Toggle_d0x0 (p6, j2b, x4b, ()))) n v.1 v.2.1 v.2.2.1 v.2.2.2.1 v.2.2.2.2.1 v.2.2.2.2.2.1
set_option maxRecDepth 20000 in
theorem oper_job_turned_class_Toggle_x0 : SemOk Tryd.prog (at' (bodyOf Tryd.f109) [0, 1, 0, 1, 1]) oper_job_turned_class_Toggle_X0 :=
  (SemOk.loop (ex_sound tb_M tb_ok oper_job_turned_class_Toggle_Gok (LabsOk.nil) (at' (bodyOf Tryd.f109) [0, 0, 1, 0, 1, 1]) [0, 0, 1, 0, 1, 1] rfl (storesC_at oper_job_turned_class_Toggle_st [0, 0, 1, 0, 1, 1])) 46 oper_job_turned_class_Toggle_d0 oper_job_turned_class_Toggle_dx0).mono fun st k h => ckD_mono h fun v hv hw => (hv hw).elim fun n hn => ⟨n, Eq.mpr (oper_job_turned_class_Toggle_v0 k n v) hn⟩
def oper_job_turned_class_Toggle_B0 : Labs := ([0, 1, 0, 1, 1], oper_job_turned_class_Toggle_X0) :: []
theorem oper_job_turned_class_Toggle_b0 : LabsOk Tryd.prog (bodyOf Tryd.f109) oper_job_turned_class_Toggle_B0 := LabsOk.cons oper_job_turned_class_Toggle_x0 (LabsOk.nil)
def oper_job_turned_class_Toggle_raw (j0 : (List Int × Int × (Int × Int × Bool × Bool) × Int × Int × Int)) (f1 : Unit) (K : Res → List Cell → Prop) : Prop :=
 bif decide (0 ≤ j0.2.2.1.1 ∧ j0.2.2.1.1 ≤ j0.2.2.1.2.1 ∧ j0.2.2.1.2.1 ≤ (List.length j0.1 : Int)) then
 bytes_Clone_P (slc j0.1 j0.2.2.1.1 j0.2.2.1.2.1) ∧ (
 ∀ (r1 : List Int), r1 = bytes_Clone_F (slc j0.1 j0.2.2.1.1 j0.2.2.1.2.1) → (
 wfR (.one (.fr 5 (.int .u8) r1)) → (
 (wfD oper_job_turned_class_Toggle_d0 (r1, r1, (List.length r1 : Int), (0 : Int), j0, (([] : List ((Int × List Int × List Int))), (0 : Int), (false, false, ([] : List Int)), (0 : Int), false), ()) → ∃ n, oper_job_turned_class_Toggle_L0 (fun (p6 : List Int) (j2b : (List Int × Int × (Int × Int × Bool × Bool) × Int × Int × Int)) (x4b : (List ((Int × List Int × List Int)) × Int × (Bool × Bool × List Int) × Int × Bool)) => wfD oper_job_turned_class_Toggle_d0x0 (p6, j2b, x4b, ()) → (
 oper_edited_P j2b.1 j2b.2.2.1.1 j2b.2.2.1.2.1 p6 ∧ (
 ∀ (r3 : List ((Int × List Int × List Int))), r3 = oper_edited_F j2b.1 j2b.2.2.1.1 j2b.2.2.1.2.1 p6 → (
 wfR (.one (.fr 95 (.st (.pair (.int .i64) (.pair (.sl (.int .u8)) (.sl (.int .u8))))) r3)) → (
 oper_job_stay_P j2b ∧ (
 ∀ (r4 : Int), r4 = oper_job_stay_F j2b → (
 wfR (.one (.v (.int .i64) r4)) → (
 K (.tup [.v (.st (.pair (.sl (.st (.pair (.int .i64) (.pair (.sl (.int .u8)) (.sl (.int .u8)))))) (.pair (.int .i64) (.pair (.st (.pair (.bool) (.pair (.bool) (.sl (.int .u8))))) (.pair (.int .i64) (.bool)))))) (r3, r4, (false, false, ([] : List Int)), (0 : Int), false), .v (.int .i64) (0 : Int)]) [])))))))) n r1 r1 (List.length r1 : Int) (0 : Int) j0 (([] : List ((Int × List Int × List Int))), (0 : Int), (false, false, ([] : List Int)), (0 : Int), false)))))
 else False
def oper_job_turned_class_Toggle_A : List AS := [.v (.st (.pair (.sl (.int .u8)) (.pair (.int .i64) (.pair (.st (.pair (.int .i64) (.pair (.int .i64) (.pair (.bool) (.bool))))) (.pair (.int .i64) (.pair (.int .i64) (.int .i64))))))), .f 34]
theorem oper_job_turned_class_Toggle_walk (j0 : (List Int × Int × (Int × Int × Bool × Bool) × Int × Int × Int)) (f1 : Unit) (K : Res → List Cell → Prop) : runF tb (getG oper_job_turned_class_Toggle_G) oper_job_turned_class_Toggle_B0 Tryd.f109 [true, true] (mkA oper_job_turned_class_Toggle_A (j0, f1, ())) K = oper_job_turned_class_Toggle_raw j0 f1 K := by kernel_rfl
--! fns 1 class_Toggle class_Lower class_Upper
--! pre 1
def oper_job_turned_class_Toggle_P (j : List Int × Int × (Int × Int × Bool × Bool) × Int × Int × Int) (_ : Unit) : Prop :=
 (0 ≤ j.2.2.1.1 ∧ j.2.2.1.1 ≤ j.2.2.1.2.1 ∧ j.2.2.1.2.1 ≤ (j.1.length : Int)) ∧ j.1.length ≤ 1099511627776 ∧ oper_edited_P j.1 j.2.2.1.1 j.2.2.1.2.1 ((slc j.1 j.2.2.1.1 j.2.2.1.2.1).map class_Toggle_F) ∧ oper_job_stay_P j
def oper_job_turned_class_Toggle_F (j : List Int × Int × (Int × Int × Bool × Bool) × Int × Int × Int) (_ : Unit) : (List (Int × List Int × List Int) × Int × (Bool × Bool × List Int) × Int × Bool) × Int :=
 ((oper_edited_F j.1 j.2.2.1.1 j.2.2.1.2.1 ((slc j.1 j.2.2.1.1 j.2.2.1.2.1).map class_Toggle_F), oper_job_stay_F j, (false, false, []), 0, false), 0)
theorem oper_job_turned_class_Toggle_l0 (kx : List Int → (List Int × Int × (Int × Int × Bool × Bool) × Int × Int × Int) → (List (Int × List Int × List Int) × Int × (Bool × Bool × List Int) × Int × Bool) → Prop) (s : List Int) (hl : s.length ≤ 1099511627776) (j x) (hx : kx (s.map class_Toggle_F) j x) :
    ∀ (m i : Nat), s.length < m + i → i ≤ s.length → oper_job_turned_class_Toggle_L0 kx m ((s.take i).map class_Toggle_F ++ s.drop i) ((s.take i).map class_Toggle_F ++ s.drop i) (s.length : Int) (i : Int) j x
  | 0, i, h, h2 => by omega
  | m + 1, i, h, h2 => by
    intro _
    have hlen : ((s.take i).map class_Toggle_F ++ s.drop i).length = s.length := by
      rw [List.length_append, List.length_map, List.length_take, List.length_drop]; omega
    unfold oper_job_turned_class_Toggle_T0
    refine brn (fun hlt => asrt ⟨by omega, by rw [hlen]; exact hlt⟩ fun r hr _ => asrt ⟨by omega, by rw [hlen]; exact hlt⟩ ?_) (fun hge => ?_)
    · have hi : i < s.length := by omega
      have hil : ((s.take i).map class_Toggle_F).length = i := by rw [List.length_map, List.length_take]; omega
      have e : rd (0 : Int) ((s.take i).map class_Toggle_F ++ s.drop i) (i : Int) = s[i] := by
        rw [rd_nat _ _ _ (by omega), List.getElem_append_right (by omega), List.getElem_drop]
        congr 1; omega
      rw [e] at hr
      subst hr
      have es : ((s.take i).map class_Toggle_F ++ s.drop i).set i (class_Toggle_F s[i]) = (s.take (i + 1)).map class_Toggle_F ++ s.drop (i + 1) := by
        have e2 : s.take (i + 1) = s.take i ++ [s[i]] := by rw [List.take_add_one, List.getElem?_eq_getElem hi]; rfl
        rw [List.set_append_right _ _ (by omega), hil, Nat.sub_self, List.drop_eq_getElem_cons hi, List.set_cons_zero, e2, List.map_append, List.append_assoc]
        rfl
      rw [Int.toNat_natCast, es, wrap_i64 (by omega) (by omega), show (i : Int) + 1 = ((i + 1 : Nat) : Int) by omega]
      exact oper_job_turned_class_Toggle_l0 kx s hl j x hx m (i + 1) (by omega) (by omega)
    · obtain rfl : i = s.length := by omega
      rw [List.take_length, List.drop_length, List.append_nil]
      exact hx
theorem oper_job_turned_class_Toggle_sp (j : List Int × Int × (Int × Int × Bool × Bool) × Int × Int × Int) (f : Unit) (K : Res → List Cell → Prop) (_ : wfA oper_job_turned_class_Toggle_A (j, f, ())) (hp : oper_job_turned_class_Toggle_P j f)
    (h : ∀ r : (List (Int × List Int × List Int) × Int × (Bool × Bool × List Int) × Int × Bool) × Int, r = oper_job_turned_class_Toggle_F j f → K (.tup [.v (.st (.pair (.sl (.st (.pair (.int .i64) (.pair (.sl (.int .u8)) (.sl (.int .u8)))))) (.pair (.int .i64) (.pair (.st (.pair (.bool) (.pair (.bool) (.sl (.int .u8))))) (.pair (.int .i64) (.bool)))))) r.1, .v (.int .i64) r.2]) []) : oper_job_turned_class_Toggle_raw j f K := by
  obtain ⟨h1, h2, h3, h4⟩ := hp
  have hs : (slc j.1 j.2.2.1.1 j.2.2.1.2.1).length ≤ j.1.length := by
    unfold slc; rw [List.length_drop, List.length_take]; omega
  unfold oper_job_turned_class_Toggle_raw
  refine asrt h1 ⟨show _ ≤ lim by unfold lim; omega, fun r1 e1 _ => ?_⟩
  have e1 : r1 = slc j.1 j.2.2.1.1 j.2.2.1.2.1 := e1
  subst e1
  intro _
  refine ⟨_, oper_job_turned_class_Toggle_l0 _ (slc j.1 j.2.2.1.1 j.2.2.1.2.1) (by omega) j _ ?_ ((slc j.1 j.2.2.1.1 j.2.2.1.2.1).length + 1) 0 (by omega) (Nat.zero_le _)⟩
  intro _
  refine ⟨h3, fun r3 e3 _ => ⟨h4, fun r4 e4 _ => ?_⟩⟩
  subst e3; subst e4
  exact h _ rfl

def oper_job_turned_class_Toggle_C (v : valsA oper_job_turned_class_Toggle_A) (K : Res → List Cell → Prop) : Prop := oper_job_turned_class_Toggle_P v.1 v.2.1 ∧ ∀ r : (List ((Int × List Int × List Int)) × Int × (Bool × Bool × List Int) × Int × Bool) × Int, r = oper_job_turned_class_Toggle_F v.1 v.2.1 → K (.tup [.v (.st (.pair (.sl (.st (.pair (.int .i64) (.pair (.sl (.int .u8)) (.sl (.int .u8)))))) (.pair (.int .i64) (.pair (.st (.pair (.bool) (.pair (.bool) (.sl (.int .u8))))) (.pair (.int .i64) (.bool)))))) r.1, .v (.int .i64) r.2]) []
def oper_job_turned_class_Toggle_S : App := specW oper_job_turned_class_Toggle_A oper_job_turned_class_Toggle_C
theorem oper_job_turned_class_Toggle_wv (K : Res → List Cell → Prop) : ∀ v : valsA oper_job_turned_class_Toggle_A, runF tb (getG oper_job_turned_class_Toggle_G) oper_job_turned_class_Toggle_B0 Tryd.f109 [true, true] (mkA oper_job_turned_class_Toggle_A v) K = oper_job_turned_class_Toggle_raw v.1 v.2.1 K
  | (j0, f1, ()) => oper_job_turned_class_Toggle_walk j0 f1 K
set_option maxRecDepth 20000 in
theorem oper_job_turned_class_Toggle_ok : AppOk Tryd.prog 109 oper_job_turned_class_Toggle_S :=
  AppOk.specW (spec_ok ((runF_ok tb_M tb_ok oper_job_turned_class_Toggle_Gok (oper_job_turned_class_Toggle_b0) (f := 109) (fn := Tryd.f109) (by kernel_rfl) (by kernel_rfl) oper_job_turned_class_Toggle_st [true, true])) fun v K hw h => (oper_job_turned_class_Toggle_wv K v).mpr (oper_job_turned_class_Toggle_sp v.1 v.2.1 K hw h.1 h.2))
end Go.VE
namespace Go.VE
open Go Go.Proofs
/-! ### quoin/oper.operators$1 -/
def oper_operators_1_G : List (Nat × App) := [(109, oper_job_turned_class_Toggle_S)]
theorem oper_operators_1_Gok : GOk Tryd.prog (getG oper_operators_1_G) := GOk.cons oper_job_turned_class_Toggle_ok (GOk.nil)
def oper_operators_1_raw (j0 : (List Int × Int × (Int × Int × Bool × Bool) × Int × Int × Int)) (K : Res → List Cell → Prop) : Prop :=
 oper_job_turned_class_Toggle_P j0 () ∧ (
 ∀ (r1 : (List ((Int × List Int × List Int)) × Int × (Bool × Bool × List Int) × Int × Bool) × Int), r1 = oper_job_turned_class_Toggle_F j0 () → (
 wfR (.tup [.v (.st (.pair (.sl (.st (.pair (.int .i64) (.pair (.sl (.int .u8)) (.sl (.int .u8)))))) (.pair (.int .i64) (.pair (.st (.pair (.bool) (.pair (.bool) (.sl (.int .u8))))) (.pair (.int .i64) (.bool)))))) r1.1, .v (.int .i64) r1.2]) → (
 K (.tup [.v (.st (.pair (.sl (.st (.pair (.int .i64) (.pair (.sl (.int .u8)) (.sl (.int .u8)))))) (.pair (.int .i64) (.pair (.st (.pair (.bool) (.pair (.bool) (.sl (.int .u8))))) (.pair (.int .i64) (.bool)))))) r1.1, .v (.int .i64) r1.2]) [])))
def oper_operators_1_A : List AS := [.v (.st (.pair (.sl (.int .u8)) (.pair (.int .i64) (.pair (.st (.pair (.int .i64) (.pair (.int .i64) (.pair (.bool) (.bool))))) (.pair (.int .i64) (.pair (.int .i64) (.int .i64)))))))]
theorem oper_operators_1_walk (j0 : (List Int × Int × (Int × Int × Bool × Bool) × Int × Int × Int)) (K : Res → List Cell → Prop) : runF tb (getG oper_operators_1_G) [] Tryd.f108 [true, true] (mkA oper_operators_1_A (j0, ())) K = oper_operators_1_raw j0 K := by kernel_rfl

def oper_operators_1_P (j0 : (List Int × Int × (Int × Int × Bool × Bool) × Int × Int × Int)) : Prop :=
 oper_job_turned_class_Toggle_P j0 ()
def oper_operators_1_F (j0 : (List Int × Int × (Int × Int × Bool × Bool) × Int × Int × Int)) : (List ((Int × List Int × List Int)) × Int × (Bool × Bool × List Int) × Int × Bool) × Int :=
 let r1 : (List ((Int × List Int × List Int)) × Int × (Bool × Bool × List Int) × Int × Bool) × Int := oper_job_turned_class_Toggle_F j0 ()
 (r1.1, r1.2)
set_option maxRecDepth 20000 in
theorem oper_operators_1_sp (j0 : (List Int × Int × (Int × Int × Bool × Bool) × Int × Int × Int)) (K : Res → List Cell → Prop) (_ : wfA oper_operators_1_A (j0, ())) (hp : oper_operators_1_P j0) (h : ∀ r : (List ((Int × List Int × List Int)) × Int × (Bool × Bool × List Int) × Int × Bool) × Int, r = oper_operators_1_F j0 → K (.tup [.v (.st (.pair (.sl (.st (.pair (.int .i64) (.pair (.sl (.int .u8)) (.sl (.int .u8)))))) (.pair (.int .i64) (.pair (.st (.pair (.bool) (.pair (.bool) (.sl (.int .u8))))) (.pair (.int .i64) (.bool)))))) r.1, .v (.int .i64) r.2]) []) : oper_operators_1_raw j0 K := by
  unfold oper_operators_1_raw
  unfold oper_operators_1_P at hp
  refine ⟨hp, ?_⟩
  intro r1 hr1
  subst r1
  intro _
  exact h _ rfl
def oper_operators_1_C (v : valsA oper_operators_1_A) (K : Res → List Cell → Prop) : Prop := oper_operators_1_P v.1 ∧ ∀ r : (List ((Int × List Int × List Int)) × Int × (Bool × Bool × List Int) × Int × Bool) × Int, r = oper_operators_1_F v.1 → K (.tup [.v (.st (.pair (.sl (.st (.pair (.int .i64) (.pair (.sl (.int .u8)) (.sl (.int .u8)))))) (.pair (.int .i64) (.pair (.st (.pair (.bool) (.pair (.bool) (.sl (.int .u8))))) (.pair (.int .i64) (.bool)))))) r.1, .v (.int .i64) r.2]) []
def oper_operators_1_S : App := specW oper_operators_1_A oper_operators_1_C
theorem oper_operators_1_wv (K : Res → List Cell → Prop) : ∀ v : valsA oper_operators_1_A, runF tb (getG oper_operators_1_G) [] Tryd.f108 [true, true] (mkA oper_operators_1_A v) K = oper_operators_1_raw v.1 K
  | (j0, ()) => oper_operators_1_walk j0 K
set_option maxRecDepth 20000 in
theorem oper_operators_1_ok : AppOk Tryd.prog 108 oper_operators_1_S :=
  AppOk.specW (spec_ok ((runF_ok tb_M tb_ok oper_operators_1_Gok (LabsOk.nil) (f := 108) (fn := Tryd.f108) (by kernel_rfl) (by kernel_rfl) (by kernel_rfl) [true, true])) fun v K hw h => (oper_operators_1_wv K v).mpr (oper_operators_1_sp v.1 K hw h.1 h.2))

end Go.VE
namespace Go.VE
open Go Go.Proofs
/-! ### (quoin/oper.job).turned -/
def oper_job_turned_class_Lower_G : List (Nat × App) := [(60, bytes_Clone_S), (32, class_Lower_S), (64, oper_edited_S), (138, oper_job_stay_S)]
theorem oper_job_turned_class_Lower_Gok : GOk Tryd.prog (getG oper_job_turned_class_Lower_G) := GOk.cons bytes_Clone_ok (GOk.cons class_Lower_ok (GOk.cons oper_edited_ok (GOk.cons oper_job_stay_ok (GOk.nil))))
theorem oper_job_turned_class_Lower_st : storesC (bodyOf Tryd.f109) = true := by kernel_rfl
def oper_job_turned_class_Lower_d0 : List LS := [.f 1 32 [], .b 2 16 [], .b 4 32 [], .o 6 53 5 (.int .u8), .o 19 53 5 (.int .u8), .v 20 (.int .i64), .v 21 (.int .i64), .c 16 (.st (.pair (.sl (.int .u8)) (.pair (.int .i64) (.pair (.st (.pair (.int .i64) (.pair (.int .i64) (.pair (.bool) (.bool))))) (.pair (.int .i64) (.pair (.int .i64) (.int .i64))))))), .c 32 (.st (.pair (.sl (.st (.pair (.int .i64) (.pair (.sl (.int .u8)) (.sl (.int .u8)))))) (.pair (.int .i64) (.pair (.st (.pair (.bool) (.pair (.bool) (.sl (.int .u8))))) (.pair (.int .i64) (.bool))))))]
def oper_job_turned_class_Lower_d0x0 : List LS := [.b 2 16 [], .b 4 32 [], .o 6 53 5 (.int .u8), .c 16 (.st (.pair (.sl (.int .u8)) (.pair (.int .i64) (.pair (.st (.pair (.int .i64) (.pair (.int .i64) (.pair (.bool) (.bool))))) (.pair (.int .i64) (.pair (.int .i64) (.int .i64))))))), .c 32 (.st (.pair (.sl (.st (.pair (.int .i64) (.pair (.sl (.int .u8)) (.sl (.int .u8)))))) (.pair (.int .i64) (.pair (.st (.pair (.bool) (.pair (.bool) (.sl (.int .u8))))) (.pair (.int .i64) (.bool))))))]
def oper_job_turned_class_Lower_dx0 : DX := ⟨none, none, [(0, oper_job_turned_class_Lower_d0x0)]⟩
def oper_job_turned_class_Lower_T0 (Y : List Int → List Int → Int → Int → (List Int × Int × (Int × Int × Bool × Bool) × Int × Int × Int) → (List ((Int × List Int × List Int)) × Int × (Bool × Bool × List Int) × Int × Bool) → Prop) (kx0 : List Int → (List Int × Int × (Int × Int × Bool × Bool) × Int × Int × Int) → (List ((Int × List Int × List Int)) × Int × (Bool × Bool × List Int) × Int × Bool) → Prop) (p6 : List Int) (x19 : List Int) (x20 : Int) (x21 : Int) (j2b : (List Int × Int × (Int × Int × Bool × Bool) × Int × Int × Int)) (x4b : (List ((Int × List Int × List Int)) × Int × (Bool × Bool × List Int) × Int × Bool)) : Prop :=
 bif (decide (x21 < x20)) then
 bif decide (0 ≤ x21 ∧ x21 < (List.length x19 : Int)) then
 ∀ (r2 : Int), r2 = class_Lower_F (rd (0 : Int) x19 x21) → (
 wfR (.one (.v (.int .u8) r2)) → (
 bif decide (0 ≤ x21 ∧ x21 < (List.length p6 : Int)) then
 Y (List.set p6 (Int.toNat x21) r2) (List.set x19 (Int.toNat x21) r2) x20 (IntKind.wrap .i64 (x21 + (1 : Int))) j2b x4b
 else False))
 else False
 else
 kx0 p6 j2b x4b
def oper_job_turned_class_Lower_L0 (kx0 : List Int → (List Int × Int × (Int × Int × Bool × Bool) × Int × Int × Int) → (List ((Int × List Int × List Int)) × Int × (Bool × Bool × List Int) × Int × Bool) → Prop) : Nat → List Int → List Int → Int → Int → (List Int × Int × (Int × Int × Bool × Bool) × Int × Int × Int) → (List ((Int × List Int × List Int)) × Int × (Bool × Bool × List Int) × Int × Bool) → Prop
  | 0, _, _, _, _, _, _ => False
  | n + 1, p6, x19, x20, x21, j2b, x4b => wfD oper_job_turned_class_Lower_d0 (p6, x19, x20, x21, j2b, x4b, ()) → oper_job_turned_class_Lower_T0 (oper_job_turned_class_Lower_L0 kx0 n) kx0 p6 x19 x20 x21 j2b x4b
theorem oper_job_turned_class_Lower_s0 (k : Ex → St → Prop) (Y : vals oper_job_turned_class_Lower_d0 → Prop) (p6 : List Int) (x19 : List Int) (x20 : Int) (x21 : Int) (j2b : (List Int × Int × (Int × Int × Bool × Bool) × Int × Int × Int)) (x4b : (List ((Int × List Int × List Int)) × Int × (Bool × Bool × List Int) × Int × Bool)) :
    ex tb (getG oper_job_turned_class_Lower_G) [] (at' (bodyOf Tryd.f109) [0, 0, 1, 0, 1, 1]) [0, 0, 1, 0, 1, 1] (mkD 46 oper_job_turned_class_Lower_d0 (p6, x19, x20, x21, j2b, x4b, ())) (lpK 46 oper_job_turned_class_Lower_d0 oper_job_turned_class_Lower_dx0 k Y) =
    oper_job_turned_class_Lower_T0 (fun p6 x19 x20 x21 j2b x4b => Y (p6, x19, x20, x21, j2b, x4b, ())) (fun p6 j2b x4b => wfD oper_job_turned_class_Lower_d0x0 (p6, j2b, x4b, ()) → k (.exit 0) (mkD 46 oper_job_turned_class_Lower_d0x0 (p6, j2b, x4b, ()))) p6 x19 x20 x21 j2b x4b := by kernel_rfl
theorem oper_job_turned_class_Lower_e0 (k : Ex → St → Prop) : ∀ (n : Nat) (p6 : List Int) (x19 : List Int) (x20 : Int) (x21 : Int) (j2b : (List Int × Int × (Int × Int × Bool × Bool) × Int × Int × Int)) (x4b : (List ((Int × List Int × List Int)) × Int × (Bool × Bool × List Int) × Int × Bool)), lpD 46 oper_job_turned_class_Lower_d0 oper_job_turned_class_Lower_dx0 (ex tb (getG oper_job_turned_class_Lower_G) [] (at' (bodyOf Tryd.f109) [0, 0, 1, 0, 1, 1]) [0, 0, 1, 0, 1, 1]) k n (p6, x19, x20, x21, j2b, x4b, ()) = oper_job_turned_class_Lower_L0 (fun p6 j2b x4b => wfD oper_job_turned_class_Lower_d0x0 (p6, j2b, x4b, ()) → k (.exit 0) (mkD 46 oper_job_turned_class_Lower_d0x0 (p6, j2b, x4b, ()))) n p6 x19 x20 x21 j2b x4b
  | 0, _, _, _, _, _, _ => rfl
  | n + 1, p6, x19, x20, x21, j2b, x4b => congrArg (fun Z : Prop => wfD oper_job_turned_class_Lower_d0 (p6, x19, x20, x21, j2b, x4b, ()) → Z) ((oper_job_turned_class_Lower_s0 k (lpD 46 oper_job_turned_class_Lower_d0 oper_job_turned_class_Lower_dx0 (ex tb (getG oper_job_turned_class_Lower_G) [] (at' (bodyOf Tryd.f109) [0, 0, 1, 0, 1, 1]) [0, 0, 1, 0, 1, 1]) k n) p6 x19 x20 x21 j2b x4b).trans (congrArg (fun Y => oper_job_turned_class_Lower_T0 Y (fun p6 j2b x4b => wfD oper_job_turned_class_Lower_d0x0 (p6, j2b, x4b, ()) → k (.exit 0) (mkD 46 oper_job_turned_class_Lower_d0x0 (p6, j2b, x4b, ()))) p6 x19 x20 x21 j2b x4b) (funext fun p6 => funext fun x19 => funext fun x20 => funext fun x21 => funext fun j2b => funext fun x4b => oper_job_turned_class_Lower_e0 k n p6 x19 x20 x21 j2b x4b)))
theorem oper_job_turned_class_Lower_v0 (k : Ex → St → Prop) (n : Nat) : ∀ v : vals oper_job_turned_class_Lower_d0, lpD 46 oper_job_turned_class_Lower_d0 oper_job_turned_class_Lower_dx0 (ex tb (getG oper_job_turned_class_Lower_G) [] (at' (bodyOf Tryd.f109) [0, 0, 1, 0, 1, 1]) [0, 0, 1, 0, 1, 1]) k n v = oper_job_turned_class_Lower_L0 (fun p6 j2b x4b => wfD oper_job_turned_class_Lower_d0x0 (p6, j2b, x4b, ()) → k (.exit 0) (mkD 46 oper_job_turned_class_Lower_d0x0 (p6, j2b, x4b, ()))) n v.1 v.2.1 v.2.2.1 v.2.2.2.1 v.2.2.2.2.1 v.2.2.2.2.2.1
  | (p6, x19, x20, x21, j2b, x4b, ()) => oper_job_turned_class_Lower_e0 k n p6 x19 x20 x21 j2b x4b
def oper_job_turned_class_Lower_X0 : Pce := fun st k => ckD 46 oper_job_turned_class_Lower_d0 st fun v => wfD oper_job_turned_class_Lower_d0 v → ∃ n, oper_job_turned_class_Lower_L0 (fun p6 j2b x4b => wfD oper_job_turned_class_Lower_d0x0 (p6, j2b, x4b, ()) → k (.exit 0) (mkD 46 oper_job_turned_class_Lower_d0x0 (p6, j2b, x4b, ()))) n v.1 v.2.1 v.2.2.1 v.2.2.2.1 v.2.2.2.2.1 v.2.2.2.2.2.1
set_option maxRecDepth 20000 in
theorem oper_job_turned_class_Lower_x0 : SemOk Tryd.prog (at' (bodyOf Tryd.f109) [0, 1, 0, 1, 1]) oper_job_turned_class_Lower_X0 :=
  (SemOk.loop (ex_sound tb_M tb_ok oper_job_turned_class_Lower_Gok (LabsOk.nil) (at' (bodyOf Tryd.f109) [0, 0, 1, 0, 1, 1]) [0, 0, 1, 0, 1, 1] rfl (storesC_at oper_job_turned_class_Lower_st [0, 0, 1, 0, 1, 1])) 46 oper_job_turned_class_Lower_d0 oper_job_turned_class_Lower_dx0).mono fun st k h => ckD_mono h fun v hv hw => (hv hw).elim fun n hn => ⟨n, Eq.mpr (oper_job_turned_class_Lower_v0 k n v) hn⟩
def oper_job_turned_class_Lower_B0 : Labs := ([0, 1, 0, 1, 1], oper_job_turned_class_Lower_X0) :: []
theorem oper_job_turned_class_Lower_b0 : LabsOk Tryd.prog (bodyOf Tryd.f109) oper_job_turned_class_Lower_B0 := LabsOk.cons oper_job_turned_class_Lower_x0 (LabsOk.nil)
def oper_job_turned_class_Lower_raw (j0 : (List Int × Int × (Int × Int × Bool × Bool) × Int × Int × Int)) (f1 : Unit) (K : Res → List Cell → Prop) : Prop :=
 bif decide (0 ≤ j0.2.2.1.1 ∧ j0.2.2.1.1 ≤ j0.2.2.1.2.1 ∧ j0.2.2.1.2.1 ≤ (List.length j0.1 : Int)) then
 bytes_Clone_P (slc j0.1 j0.2.2.1.1 j0.2.2.1.2.1) ∧ (
 ∀ (r1 : List Int), r1 = bytes_Clone_F (slc j0.1 j0.2.2.1.1 j0.2.2.1.2.1) → (
 wfR (.one (.fr 5 (.int .u8) r1)) → (
 (wfD oper_job_turned_class_Lower_d0 (r1, r1, (List.length r1 : Int), (0 : Int), j0, (([] : List ((Int × List Int × List Int))), (0 : Int), (false, false, ([] : List Int)), (0 : Int), false), ()) → ∃ n, oper_job_turned_class_Lower_L0 (fun (p6 : List Int) (j2b : (List Int × Int × (Int × Int × Bool × Bool) × Int × Int × Int)) (x4b : (List ((Int × List Int × List Int)) × Int × (Bool × Bool × List Int) × Int × Bool)) => wfD oper_job_turned_class_Lower_d0x0 (p6, j2b, x4b, ()) → (
 oper_edited_P j2b.1 j2b.2.2.1.1 j2b.2.2.1.2.1 p6 ∧ (
 ∀ (r3 : List ((Int × List Int × List Int))), r3 = oper_edited_F j2b.1 j2b.2.2.1.1 j2b.2.2.1.2.1 p6 → (
 wfR (.one (.fr 95 (.st (.pair (.int .i64) (.pair (.sl (.int .u8)) (.sl (.int .u8))))) r3)) → (
 oper_job_stay_P j2b ∧ (
 ∀ (r4 : Int), r4 = oper_job_stay_F j2b → (
 wfR (.one (.v (.int .i64) r4)) → (
 K (.tup [.v (.st (.pair (.sl (.st (.pair (.int .i64) (.pair (.sl (.int .u8)) (.sl (.int .u8)))))) (.pair (.int .i64) (.pair (.st (.pair (.bool) (.pair (.bool) (.sl (.int .u8))))) (.pair (.int .i64) (.bool)))))) (r3, r4, (false, false, ([] : List Int)), (0 : Int), false), .v (.int .i64) (0 : Int)]) [])))))))) n r1 r1 (List.length r1 : Int) (0 : Int) j0 (([] : List ((Int × List Int × List Int))), (0 : Int), (false, false, ([] : List Int)), (0 : Int), false)))))
 else False
def oper_job_turned_class_Lower_A : List AS := [.v (.st (.pair (.sl (.int .u8)) (.pair (.int .i64) (.pair (.st (.pair (.int .i64) (.pair (.int .i64) (.pair (.bool) (.bool))))) (.pair (.int .i64) (.pair (.int .i64) (.int .i64))))))), .f 32]
theorem oper_job_turned_class_Lower_walk (j0 : (List Int × Int × (Int × Int × Bool × Bool) × Int × Int × Int)) (f1 : Unit) (K : Res → List Cell → Prop) : runF tb (getG oper_job_turned_class_Lower_G) oper_job_turned_class_Lower_B0 Tryd.f109 [true, true] (mkA oper_job_turned_class_Lower_A (j0, f1, ())) K = oper_job_turned_class_Lower_raw j0 f1 K := by kernel_rfl
--! fns 1 class_Toggle class_Lower class_Upper
--! pre 1
def oper_job_turned_class_Lower_P (j : List Int × Int × (Int × Int × Bool × Bool) × Int × Int × Int) (_ : Unit) : Prop :=
 (0 ≤ j.2.2.1.1 ∧ j.2.2.1.1 ≤ j.2.2.1.2.1 ∧ j.2.2.1.2.1 ≤ (j.1.length : Int)) ∧ j.1.length ≤ 1099511627776 ∧ oper_edited_P j.1 j.2.2.1.1 j.2.2.1.2.1 ((slc j.1 j.2.2.1.1 j.2.2.1.2.1).map class_Lower_F) ∧ oper_job_stay_P j
def oper_job_turned_class_Lower_F (j : List Int × Int × (Int × Int × Bool × Bool) × Int × Int × Int) (_ : Unit) : (List (Int × List Int × List Int) × Int × (Bool × Bool × List Int) × Int × Bool) × Int :=
 ((oper_edited_F j.1 j.2.2.1.1 j.2.2.1.2.1 ((slc j.1 j.2.2.1.1 j.2.2.1.2.1).map class_Lower_F), oper_job_stay_F j, (false, false, []), 0, false), 0)
theorem oper_job_turned_class_Lower_l0 (kx : List Int → (List Int × Int × (Int × Int × Bool × Bool) × Int × Int × Int) → (List (Int × List Int × List Int) × Int × (Bool × Bool × List Int) × Int × Bool) → Prop) (s : List Int) (hl : s.length ≤ 1099511627776) (j x) (hx : kx (s.map class_Lower_F) j x) :
    ∀ (m i : Nat), s.length < m + i → i ≤ s.length → oper_job_turned_class_Lower_L0 kx m ((s.take i).map class_Lower_F ++ s.drop i) ((s.take i).map class_Lower_F ++ s.drop i) (s.length : Int) (i : Int) j x
  | 0, i, h, h2 => by omega
  | m + 1, i, h, h2 => by
    intro _
    have hlen : ((s.take i).map class_Lower_F ++ s.drop i).length = s.length := by
      rw [List.length_append, List.length_map, List.length_take, List.length_drop]; omega
    unfold oper_job_turned_class_Lower_T0
    refine brn (fun hlt => asrt ⟨by omega, by rw [hlen]; exact hlt⟩ fun r hr _ => asrt ⟨by omega, by rw [hlen]; exact hlt⟩ ?_) (fun hge => ?_)
    · have hi : i < s.length := by omega
      have hil : ((s.take i).map class_Lower_F).length = i := by rw [List.length_map, List.length_take]; omega
      have e : rd (0 : Int) ((s.take i).map class_Lower_F ++ s.drop i) (i : Int) = s[i] := by
        rw [rd_nat _ _ _ (by omega), List.getElem_append_right (by omega), List.getElem_drop]
        congr 1; omega
      rw [e] at hr
      subst hr
      have es : ((s.take i).map class_Lower_F ++ s.drop i).set i (class_Lower_F s[i]) = (s.take (i + 1)).map class_Lower_F ++ s.drop (i + 1) := by
        have e2 : s.take (i + 1) = s.take i ++ [s[i]] := by rw [List.take_add_one, List.getElem?_eq_getElem hi]; rfl
        rw [List.set_append_right _ _ (by omega), hil, Nat.sub_self, List.drop_eq_getElem_cons hi, List.set_cons_zero, e2, List.map_append, List.append_assoc]
        rfl
      rw [Int.toNat_natCast, es, wrap_i64 (by omega) (by omega), show (i : Int) + 1 = ((i + 1 : Nat) : Int) by omega]
      exact oper_job_turned_class_Lower_l0 kx s hl j x hx m (i + 1) (by omega) (by omega)
    · obtain rfl : i = s.length := by omega
      rw [List.take_length, List.drop_length, List.append_nil]
      exact hx
theorem oper_job_turned_class_Lower_sp (j : List Int × Int × (Int × Int × Bool × Bool) × Int × Int × Int) (f : Unit) (K : Res → List Cell → Prop) (_ : wfA oper_job_turned_class_Lower_A (j, f, ())) (hp : oper_job_turned_class_Lower_P j f)
    (h : ∀ r : (List (Int × List Int × List Int) × Int × (Bool × Bool × List Int) × Int × Bool) × Int, r = oper_job_turned_class_Lower_F j f → K (.tup [.v (.st (.pair (.sl (.st (.pair (.int .i64) (.pair (.sl (.int .u8)) (.sl (.int .u8)))))) (.pair (.int .i64) (.pair (.st (.pair (.bool) (.pair (.bool) (.sl (.int .u8))))) (.pair (.int .i64) (.bool)))))) r.1, .v (.int .i64) r.2]) []) : oper_job_turned_class_Lower_raw j f K := by
  obtain ⟨h1, h2, h3, h4⟩ := hp
  have hs : (slc j.1 j.2.2.1.1 j.2.2.1.2.1).length ≤ j.1.length := by
    unfold slc; rw [List.length_drop, List.length_take]; omega
  unfold oper_job_turned_class_Lower_raw
  refine asrt h1 ⟨show _ ≤ lim by unfold lim; omega, fun r1 e1 _ => ?_⟩
  have e1 : r1 = slc j.1 j.2.2.1.1 j.2.2.1.2.1 := e1
  subst e1
  intro _
  refine ⟨_, oper_job_turned_class_Lower_l0 _ (slc j.1 j.2.2.1.1 j.2.2.1.2.1) (by omega) j _ ?_ ((slc j.1 j.2.2.1.1 j.2.2.1.2.1).length + 1) 0 (by omega) (Nat.zero_le _)⟩
  intro _
  refine ⟨h3, fun r3 e3 _ => ⟨h4, fun r4 e4 _ => ?_⟩⟩
  subst e3; subst e4
  exact h _ rfl

def oper_job_turned_class_Lower_C (v : valsA oper_job_turned_class_Lower_A) (K : Res → List Cell → Prop) : Prop := oper_job_turned_class_Lower_P v.1 v.2.1 ∧ ∀ r : (List ((Int × List Int × List Int)) × Int × (Bool × Bool × List Int) × Int × Bool) × Int, r = oper_job_turned_class_Lower_F v.1 v.2.1 → K (.tup [.v (.st (.pair (.sl (.st (.pair (.int .i64) (.pair (.sl (.int .u8)) (.sl (.int .u8)))))) (.pair (.int .i64) (.pair (.st (.pair (.bool) (.pair (.bool) (.sl (.int .u8))))) (.pair (.int .i64) (.bool)))))) r.1, .v (.int .i64) r.2]) []
def oper_job_turned_class_Lower_S : App := specW oper_job_turned_class_Lower_A oper_job_turned_class_Lower_C
theorem oper_job_turned_class_Lower_wv (K : Res → List Cell → Prop) : ∀ v : valsA oper_job_turned_class_Lower_A, runF tb (getG oper_job_turned_class_Lower_G) oper_job_turned_class_Lower_B0 Tryd.f109 [true, true] (mkA oper_job_turned_class_Lower_A v) K = oper_job_turned_class_Lower_raw v.1 v.2.1 K
  | (j0, f1, ()) => oper_job_turned_class_Lower_walk j0 f1 K
set_option maxRecDepth 20000 in
theorem oper_job_turned_class_Lower_ok : AppOk Tryd.prog 109 oper_job_turned_class_Lower_S :=
  AppOk.specW (spec_ok ((runF_ok tb_M tb_ok oper_job_turned_class_Lower_Gok (oper_job_turned_class_Lower_b0) (f := 109) (fn := Tryd.f109) (by kernel_rfl) (by kernel_rfl) oper_job_turned_class_Lower_st [true, true])) fun v K hw h => (oper_job_turned_class_Lower_wv K v).mpr (oper_job_turned_class_Lower_sp v.1 v.2.1 K hw h.1 h.2))
end Go.VE
namespace Go.VE
open Go Go.Proofs
/-! ### quoin/oper.operators$2 -/
def oper_operators_2_G : List (Nat × App) := [(109, oper_job_turned_class_Lower_S)]
theorem oper_operators_2_Gok : GOk Tryd.prog (getG oper_operators_2_G) := GOk.cons oper_job_turned_class_Lower_ok (GOk.nil)
def oper_operators_2_raw (j0 : (List Int × Int × (Int × Int × Bool × Bool) × Int × Int × Int)) (K : Res → List Cell → Prop) : Prop :=
 oper_job_turned_class_Lower_P j0 () ∧ (
 ∀ (r1 : (List ((Int × List Int × List Int)) × Int × (Bool × Bool × List Int) × Int × Bool) × Int), r1 = oper_job_turned_class_Lower_F j0 () → (
 wfR (.tup [.v (.st (.pair (.sl (.st (.pair (.int .i64) (.pair (.sl (.int .u8)) (.sl (.int .u8)))))) (.pair (.int .i64) (.pair (.st (.pair (.bool) (.pair (.bool) (.sl (.int .u8))))) (.pair (.int .i64) (.bool)))))) r1.1, .v (.int .i64) r1.2]) → (
 K (.tup [.v (.st (.pair (.sl (.st (.pair (.int .i64) (.pair (.sl (.int .u8)) (.sl (.int .u8)))))) (.pair (.int .i64) (.pair (.st (.pair (.bool) (.pair (.bool) (.sl (.int .u8))))) (.pair (.int .i64) (.bool)))))) r1.1, .v (.int .i64) r1.2]) [])))
def oper_operators_2_A : List AS := [.v (.st (.pair (.sl (.int .u8)) (.pair (.int .i64) (.pair (.st (.pair (.int .i64) (.pair (.int .i64) (.pair (.bool) (.bool))))) (.pair (.int .i64) (.pair (.int .i64) (.int .i64)))))))]
theorem oper_operators_2_walk (j0 : (List Int × Int × (Int × Int × Bool × Bool) × Int × Int × Int)) (K : Res → List Cell → Prop) : runF tb (getG oper_operators_2_G) [] Tryd.f110 [true, true] (mkA oper_operators_2_A (j0, ())) K = oper_operators_2_raw j0 K := by kernel_rfl

def oper_operators_2_P (j0 : (List Int × Int × (Int × Int × Bool × Bool) × Int × Int × Int)) : Prop :=
 oper_job_turned_class_Lower_P j0 ()
def oper_operators_2_F (j0 : (List Int × Int × (Int × Int × Bool × Bool) × Int × Int × Int)) : (List ((Int × List Int × List Int)) × Int × (Bool × Bool × List Int) × Int × Bool) × Int :=
 let r1 : (List ((Int × List Int × List Int)) × Int × (Bool × Bool × List Int) × Int × Bool) × Int := oper_job_turned_class_Lower_F j0 ()
 (r1.1, r1.2)
set_option maxRecDepth 20000 in
theorem oper_operators_2_sp (j0 : (List Int × Int × (Int × Int × Bool × Bool) × Int × Int × Int)) (K : Res → List Cell → Prop) (_ : wfA oper_operators_2_A (j0, ())) (hp : oper_operators_2_P j0) (h : ∀ r : (List ((Int × List Int × List Int)) × Int × (Bool × Bool × List Int) × Int × Bool) × Int, r = oper_operators_2_F j0 → K (.tup [.v (.st (.pair (.sl (.st (.pair (.int .i64) (.pair (.sl (.int .u8)) (.sl (.int .u8)))))) (.pair (.int .i64) (.pair (.st (.pair (.bool) (.pair (.bool) (.sl (.int .u8))))) (.pair (.int .i64) (.bool)))))) r.1, .v (.int .i64) r.2]) []) : oper_operators_2_raw j0 K := by
  unfold oper_operators_2_raw
  unfold oper_operators_2_P at hp
  refine ⟨hp, ?_⟩
  intro r1 hr1
  subst r1
  intro _
  exact h _ rfl
def oper_operators_2_C (v : valsA oper_operators_2_A) (K : Res → List Cell → Prop) : Prop := oper_operators_2_P v.1 ∧ ∀ r : (List ((Int × List Int × List Int)) × Int × (Bool × Bool × List Int) × Int × Bool) × Int, r = oper_operators_2_F v.1 → K (.tup [.v (.st (.pair (.sl (.st (.pair (.int .i64) (.pair (.sl (.int .u8)) (.sl (.int .u8)))))) (.pair (.int .i64) (.pair (.st (.pair (.bool) (.pair (.bool) (.sl (.int .u8))))) (.pair (.int .i64) (.bool)))))) r.1, .v (.int .i64) r.2]) []
def oper_operators_2_S : App := specW oper_operators_2_A oper_operators_2_C
theorem oper_operators_2_wv (K : Res → List Cell → Prop) : ∀ v : valsA oper_operators_2_A, runF tb (getG oper_operators_2_G) [] Tryd.f110 [true, true] (mkA oper_operators_2_A v) K = oper_operators_2_raw v.1 K
  | (j0, ()) => oper_operators_2_walk j0 K
set_option maxRecDepth 20000 in
theorem oper_operators_2_ok : AppOk Tryd.prog 110 oper_operators_2_S :=
  AppOk.specW (spec_ok ((runF_ok tb_M tb_ok oper_operators_2_Gok (LabsOk.nil) (f := 110) (fn := Tryd.f110) (by kernel_rfl) (by kernel_rfl) (by kernel_rfl) [true, true])) fun v K hw h => (oper_operators_2_wv K v).mpr (oper_operators_2_sp v.1 K hw h.1 h.2))

end Go.VE
namespace Go.VE
open Go Go.Proofs
/-! ### (quoin/oper.job).turned -/
def oper_job_turned_class_Upper_G : List (Nat × App) := [(60, bytes_Clone_S), (33, class_Upper_S), (64, oper_edited_S), (138, oper_job_stay_S)]
theorem oper_job_turned_class_Upper_Gok : GOk Tryd.prog (getG oper_job_turned_class_Upper_G) := GOk.cons bytes_Clone_ok (GOk.cons class_Upper_ok (GOk.cons oper_edited_ok (GOk.cons oper_job_stay_ok (GOk.nil))))
theorem oper_job_turned_class_Upper_st : storesC (bodyOf Tryd.f109) = true := by kernel_rfl
def oper_job_turned_class_Upper_d0 : List LS := [.f 1 33 [], .b 2 16 [], .b 4 32 [], .o 6 53 5 (.int .u8), .o 19 53 5 (.int .u8), .v 20 (.int .i64), .v 21 (.int .i64), .c 16 (.st (.pair (.sl (.int .u8)) (.pair (.int .i64) (.pair (.st (.pair (.int .i64) (.pair (.int .i64) (.pair (.bool) (.bool))))) (.pair (.int .i64) (.pair (.int .i64) (.int .i64))))))), .c 32 (.st (.pair (.sl (.st (.pair (.int .i64) (.pair (.sl (.int .u8)) (.sl (.int .u8)))))) (.pair (.int .i64) (.pair (.st (.pair (.bool) (.pair (.bool) (.sl (.int .u8))))) (.pair (.int .i64) (.bool))))))]
def oper_job_turned_class_Upper_d0x0 : List LS := [.b 2 16 [], .b 4 32 [], .o 6 53 5 (.int .u8), .c 16 (.st (.pair (.sl (.int .u8)) (.pair (.int .i64) (.pair (.st (.pair (.int .i64) (.pair (.int .i64) (.pair (.bool) (.bool))))) (.pair (.int .i64) (.pair (.int .i64) (.int .i64))))))), .c 32 (.st (.pair (.sl (.st (.pair (.int .i64) (.pair (.sl (.int .u8)) (.sl (.int .u8)))))) (.pair (.int .i64) (.pair (.st (.pair (.bool) (.pair (.bool) (.sl (.int .u8))))) (.pair (.int .i64) (.bool))))))]
def oper_job_turned_class_Upper_dx0 : DX := ⟨none, none, [(0, oper_job_turned_class_Upper_d0x0)]⟩
def oper_job_turned_class_Upper_T0 (Y : List Int → List Int → Int → Int → (List Int × Int × (Int × Int × Bool × Bool) × Int × Int × Int) → (List ((Int × List Int × List Int)) × Int × (Bool × Bool × List Int) × Int × Bool) → Prop) (kx0 : List Int → (List Int × Int × (Int × Int × Bool × Bool) × Int × Int × Int) → (List ((Int × List Int × List Int)) × Int × (Bool × Bool × List Int) × Int × Bool) → Prop) (p6 : List Int) (x19 : List Int) (x20 : Int) (x21 : Int) (j2b : (List Int × Int × (Int × Int × Bool × Bool) × Int × Int × Int)) (x4b : (List ((Int × List Int × List Int)) × Int × (Bool × Bool × List Int) × Int × Bool)) : Prop :=
 bif (decide (x21 < x20)) then
 bif decide (0 ≤ x21 ∧ x21 < (List.length x19 : Int)) then
 ∀ (r2 : Int), r2 = class_Upper_F (rd (0 : Int) x19 x21) → (
 wfR (.one (.v (.int .u8) r2)) → (
 bif decide (0 ≤ x21 ∧ x21 < (List.length p6 : Int)) then
 Y (List.set p6 (Int.toNat x21) r2) (List.set x19 (Int.toNat x21) r2) x20 (IntKind.wrap .i64 (x21 + (1 : Int))) j2b x4b
 else False))
 else False
 else
 kx0 p6 j2b x4b
def oper_job_turned_class_Upper_L0 (kx0 : List Int → (List Int × Int × (Int × Int × Bool × Bool) × Int × Int × Int) → (List ((Int × List Int × List Int)) × Int × (Bool × Bool × List Int) × Int × Bool) → Prop) : Nat → List Int → List Int → Int → Int → (List Int × Int × (Int × Int × Bool × Bool) × Int × Int × Int) → (List ((Int × List Int × List Int)) × Int × (Bool × Bool × List Int) × Int × Bool) → Prop
  | 0, _, _, _, _, _, _ => False
  | n + 1, p6, x19, x20, x21, j2b, x4b => wfD oper_job_turned_class_Upper_d0 (p6, x19, x20, x21, j2b, x4b, ()) → oper_job_turned_class_Upper_T0 (oper_job_turned_class_Upper_L0 kx0 n) kx0 p6 x19 x20 x21 j2b x4b
theorem oper_job_turned_class_Upper_s0 (k : Ex → St → Prop) (Y : vals oper_job_turned_class_Upper_d0 → Prop) (p6 : List Int) (x19 : List Int) (x20 : Int) (x21 : Int) (j2b : (List Int × Int × (Int × Int × Bool × Bool) × Int × Int × Int)) (x4b : (List ((Int × List Int × List Int)) × Int × (Bool × Bool × List Int) × Int × Bool)) :
    ex tb (getG oper_job_turned_class_Upper_G) [] (at' (bodyOf Tryd.f109) [0, 0, 1, 0, 1, 1]) [0, 0, 1, 0, 1, 1] (mkD 46 oper_job_turned_class_Upper_d0 (p6, x19, x20, x21, j2b, x4b, ())) (lpK 46 oper_job_turned_class_Upper_d0 oper_job_turned_class_Upper_dx0 k Y) =
    oper_job_turned_class_Upper_T0 (fun p6 x19 x20 x21 j2b x4b => Y (p6, x19, x20, x21, j2b, x4b, ())) (fun p6 j2b x4b => wfD oper_job_turned_class_Upper_d0x0 (p6, j2b, x4b, ()) → k (.exit 0) (mkD 46 oper_job_turned_class_Upper_d0x0 (p6, j2b, x4b, ()))) p6 x19 x20 x21 j2b x4b := by kernel_rfl
theorem oper_job_turned_class_Upper_e0 (k : Ex → St → Prop) : ∀ (n : Nat) (p6 : List Int) (x19 : List Int) (x20 : Int) (x21 : Int) (j2b : (List Int × Int × (Int × Int × Bool × Bool) × Int × Int × Int)) (x4b : (List ((Int × List Int × List Int)) × Int × (Bool × Bool × List Int) × Int × Bool)), lpD 46 oper_job_turned_class_Upper_d0 oper_job_turned_class_Upper_dx0 (ex tb (getG oper_job_turned_class_Upper_G) [] (at' (bodyOf Tryd.f109) [0, 0, 1, 0, 1, 1]) [0, 0, 1, 0, 1, 1]) k n (p6, x19, x20, x21, j2b, x4b, ()) = oper_job_turned_class_Upper_L0 (fun p6 j2b x4b => wfD oper_job_turned_class_Upper_d0x0 (p6, j2b, x4b, ()) → k (.exit 0) (mkD 46 oper_job_turned_class_Upper_d0x0 (p6, j2b, x4b, ()))) n p6 x19 x20 x21 j2b x4b
  | 0, _, _, _, _, _, _ => rfl
  | n + 1, p6, x19, x20, x21, j2b, x4b => congrArg (fun Z : Prop => wfD oper_job_turned_class_Upper_d0 (p6, x19, x20, x21, j2b, x4b, ()) → Z) ((oper_job_turned_class_Upper_s0 k (lpD 46 oper_job_turned_class_Upper_d0 oper_job_turned_class_Upper_dx0 (ex tb (getG oper_job_turned_class_Upper_G) [] (at' (bodyOf Tryd.f109) [0, 0, 1, 0, 1, 1]) [0, 0, 1, 0, 1, 1]) k n) p6 x19 x20 x21 j2b x4b).trans (congrArg (fun Y => oper_job_turned_class_Upper_T0 Y (fun p6 j2b x4b => wfD oper_job_turned_class_Upper_d0x0 (p6, j2b, x4b, ()) → k (.exit 0) (mkD 46 oper_job_turned_class_Upper_d0x0 (p6, j2b, x4b, ()))) p6 x19 x20 x21 j2b x4b) (funext fun p6 => funext fun x19 => funext fun x20 => funext fun x21 => funext fun j2b => funext fun x4b => oper_job_turned_class_Upper_e0 k n p6 x19 x20 x21 j2b x4b)))
theorem oper_job_turned_class_Upper_v0 (k : Ex → St → Prop) (n : Nat) : ∀ v : vals oper_job_turned_class_Upper_d0, lpD 46 oper_job_turned_class_Upper_d0 oper_job_turned_class_Upper_dx0 (ex tb (getG oper_job_turned_class_Upper_G) [] (at' (bodyOf Tryd.f109) [0, 0, 1, 0, 1, 1]) [0, 0, 1, 0, 1, 1]) k n v = oper_job_turned_class_Upper_L0 (fun p6 j2b x4b => wfD oper_job_turned_class_Upper_d0x0 (p6, j2b, x4b, ()) → k (.exit 0) (mkD 46 oper_job_turned_class_Upper_d0x0 (p6, j2b, x4b, ()))) n v.1 v.2.1 v.2.2.1 v.2.2.2.1 v.2.2.2.2.1 v.2.2.2.2.2.1
  | (p6, x19, x20, x21, j2b, x4b, ()) => oper_job_turned_class_Upper_e0 k n p6 x19 x20 x21 j2b x4b
def oper_job_turned_class_Upper_X0 : Pce := fun st k => ckD 46 oper_job_turned_class_Upper_d0 st fun v => wfD oper_job_turned_class_Upper_d0 v → ∃ n, oper_job_turned_class_Upper_L0 (fun p6 j2b x4b => wfD oper_job_turned_class_Upper_d0x0 (p6, j2b, x4b, ()) → k (.exit 0) (mkD 46 oper_job_turned_class_Upper_d0x0 (p6, j2b, x4b, ()))) n v.1 v.2.1 v.2.2.1 v.2.2.2.1 v.2.2.2.2.1 v.2.2.2.2.2.1
set_option maxRecDepth 20000 in
theorem oper_job_turned_class_Upper_x0 : SemOk Tryd.prog (at' (bodyOf Tryd.f109) [0, 1, 0, 1, 1]) oper_job_turned_class_Upper_X0 :=
  (SemOk.loop (ex_sound tb_M tb_ok oper_job_turned_class_Upper_Gok (LabsOk.nil) (at' (bodyOf Tryd.f109) [0, 0, 1, 0, 1, 1]) [0, 0, 1, 0, 1, 1] rfl (storesC_at oper_job_turned_class_Upper_st [0, 0, 1, 0, 1, 1])) 46 oper_job_turned_class_Upper_d0 oper_job_turned_class_Upper_dx0).mono fun st k h => ckD_mono h fun v hv hw => (hv hw).elim fun n hn => ⟨n, Eq.mpr (oper_job_turned_class_Upper_v0 k n v) hn⟩
def oper_job_turned_class_Upper_B0 : Labs := ([0, 1, 0, 1, 1], oper_job_turned_class_Upper_X0) :: []
theorem oper_job_turned_class_Upper_b0 : LabsOk Tryd.prog (bodyOf Tryd.f109) oper_job_turned_class_Upper_B0 := LabsOk.cons oper_job_turned_class_Upper_x0 (LabsOk.nil)
def oper_job_turned_class_Upper_raw (j0 : (List Int × Int × (Int × Int × Bool × Bool) × Int × Int × Int)) (f1 : Unit) (K : Res → List Cell → Prop) : Prop :=
 bif decide (0 ≤ j0.2.2.1.1 ∧ j0.2.2.1.1 ≤ j0.2.2.1.2.1 ∧ j0.2.2.1.2.1 ≤ (List.length j0.1 : Int)) then
 bytes_Clone_P (slc j0.1 j0.2.2.1.1 j0.2.2.1.2.1) ∧ (
 ∀ (r1 : List Int), r1 = bytes_Clone_F (slc j0.1 j0.2.2.1.1 j0.2.2.1.2.1) → (
 wfR (.one (.fr 5 (.int .u8) r1)) → (
 (wfD oper_job_turned_class_Upper_d0 (r1, r1, (List.length r1 : Int), (0 : Int), j0, (([] : List ((Int × List Int × List Int))), (0 : Int), (false, false, ([] : List Int)), (0 : Int), false), ()) → ∃ n, oper_job_turned_class_Upper_L0 (fun (p6 : List Int) (j2b : (List Int × Int × (Int × Int × Bool × Bool) × Int × Int × Int)) (x4b : (List ((Int × List Int × List Int)) × Int × (Bool × Bool × List Int) × Int × Bool)) => wfD oper_job_turned_class_Upper_d0x0 (p6, j2b, x4b, ()) → (
 oper_edited_P j2b.1 j2b.2.2.1.1 j2b.2.2.1.2.1 p6 ∧ (
 ∀ (r3 : List ((Int × List Int × List Int))), r3 = oper_edited_F j2b.1 j2b.2.2.1.1 j2b.2.2.1.2.1 p6 → (
 wfR (.one (.fr 95 (.st (.pair (.int .i64) (.pair (.sl (.int .u8)) (.sl (.int .u8))))) r3)) → (
 oper_job_stay_P j2b ∧ (
 ∀ (r4 : Int), r4 = oper_job_stay_F j2b → (
 wfR (.one (.v (.int .i64) r4)) → (
 K (.tup [.v (.st (.pair (.sl (.st (.pair (.int .i64) (.pair (.sl (.int .u8)) (.sl (.int .u8)))))) (.pair (.int .i64) (.pair (.st (.pair (.bool) (.pair (.bool) (.sl (.int .u8))))) (.pair (.int .i64) (.bool)))))) (r3, r4, (false, false, ([] : List Int)), (0 : Int), false), .v (.int .i64) (0 : Int)]) [])))))))) n r1 r1 (List.length r1 : Int) (0 : Int) j0 (([] : List ((Int × List Int × List Int))), (0 : Int), (false, false, ([] : List Int)), (0 : Int), false)))))
 else False
def oper_job_turned_class_Upper_A : List AS := [.v (.st (.pair (.sl (.int .u8)) (.pair (.int .i64) (.pair (.st (.pair (.int .i64) (.pair (.int .i64) (.pair (.bool) (.bool))))) (.pair (.int .i64) (.pair (.int .i64) (.int .i64))))))), .f 33]
theorem oper_job_turned_class_Upper_walk (j0 : (List Int × Int × (Int × Int × Bool × Bool) × Int × Int × Int)) (f1 : Unit) (K : Res → List Cell → Prop) : runF tb (getG oper_job_turned_class_Upper_G) oper_job_turned_class_Upper_B0 Tryd.f109 [true, true] (mkA oper_job_turned_class_Upper_A (j0, f1, ())) K = oper_job_turned_class_Upper_raw j0 f1 K := by kernel_rfl
--! fns 1 class_Toggle class_Lower class_Upper
--! pre 1
def oper_job_turned_class_Upper_P (j : List Int × Int × (Int × Int × Bool × Bool) × Int × Int × Int) (_ : Unit) : Prop :=
 (0 ≤ j.2.2.1.1 ∧ j.2.2.1.1 ≤ j.2.2.1.2.1 ∧ j.2.2.1.2.1 ≤ (j.1.length : Int)) ∧ j.1.length ≤ 1099511627776 ∧ oper_edited_P j.1 j.2.2.1.1 j.2.2.1.2.1 ((slc j.1 j.2.2.1.1 j.2.2.1.2.1).map class_Upper_F) ∧ oper_job_stay_P j
def oper_job_turned_class_Upper_F (j : List Int × Int × (Int × Int × Bool × Bool) × Int × Int × Int) (_ : Unit) : (List (Int × List Int × List Int) × Int × (Bool × Bool × List Int) × Int × Bool) × Int :=
 ((oper_edited_F j.1 j.2.2.1.1 j.2.2.1.2.1 ((slc j.1 j.2.2.1.1 j.2.2.1.2.1).map class_Upper_F), oper_job_stay_F j, (false, false, []), 0, false), 0)
theorem oper_job_turned_class_Upper_l0 (kx : List Int → (List Int × Int × (Int × Int × Bool × Bool) × Int × Int × Int) → (List (Int × List Int × List Int) × Int × (Bool × Bool × List Int) × Int × Bool) → Prop) (s : List Int) (hl : s.length ≤ 1099511627776) (j x) (hx : kx (s.map class_Upper_F) j x) :
    ∀ (m i : Nat), s.length < m + i → i ≤ s.length → oper_job_turned_class_Upper_L0 kx m ((s.take i).map class_Upper_F ++ s.drop i) ((s.take i).map class_Upper_F ++ s.drop i) (s.length : Int) (i : Int) j x
  | 0, i, h, h2 => by omega
  | m + 1, i, h, h2 => by
    intro _
    have hlen : ((s.take i).map class_Upper_F ++ s.drop i).length = s.length := by
      rw [List.length_append, List.length_map, List.length_take, List.length_drop]; omega
    unfold oper_job_turned_class_Upper_T0
    refine brn (fun hlt => asrt ⟨by omega, by rw [hlen]; exact hlt⟩ fun r hr _ => asrt ⟨by omega, by rw [hlen]; exact hlt⟩ ?_) (fun hge => ?_)
    · have hi : i < s.length := by omega
      have hil : ((s.take i).map class_Upper_F).length = i := by rw [List.length_map, List.length_take]; omega
      have e : rd (0 : Int) ((s.take i).map class_Upper_F ++ s.drop i) (i : Int) = s[i] := by
        rw [rd_nat _ _ _ (by omega), List.getElem_append_right (by omega), List.getElem_drop]
        congr 1; omega
      rw [e] at hr
      subst hr
      have es : ((s.take i).map class_Upper_F ++ s.drop i).set i (class_Upper_F s[i]) = (s.take (i + 1)).map class_Upper_F ++ s.drop (i + 1) := by
        have e2 : s.take (i + 1) = s.take i ++ [s[i]] := by rw [List.take_add_one, List.getElem?_eq_getElem hi]; rfl
        rw [List.set_append_right _ _ (by omega), hil, Nat.sub_self, List.drop_eq_getElem_cons hi, List.set_cons_zero, e2, List.map_append, List.append_assoc]
        rfl
      rw [Int.toNat_natCast, es, wrap_i64 (by omega) (by omega), show (i : Int) + 1 = ((i + 1 : Nat) : Int) by omega]
      exact oper_job_turned_class_Upper_l0 kx s hl j x hx m (i + 1) (by omega) (by omega)
    · obtain rfl : i = s.length := by omega
      rw [List.take_length, List.drop_length, List.append_nil]
      exact hx
theorem oper_job_turned_class_Upper_sp (j : List Int × Int × (Int × Int × Bool × Bool) × Int × Int × Int) (f : Unit) (K : Res → List Cell → Prop) (_ : wfA oper_job_turned_class_Upper_A (j, f, ())) (hp : oper_job_turned_class_Upper_P j f)
    (h : ∀ r : (List (Int × List Int × List Int) × Int × (Bool × Bool × List Int) × Int × Bool) × Int, r = oper_job_turned_class_Upper_F j f → K (.tup [.v (.st (.pair (.sl (.st (.pair (.int .i64) (.pair (.sl (.int .u8)) (.sl (.int .u8)))))) (.pair (.int .i64) (.pair (.st (.pair (.bool) (.pair (.bool) (.sl (.int .u8))))) (.pair (.int .i64) (.bool)))))) r.1, .v (.int .i64) r.2]) []) : oper_job_turned_class_Upper_raw j f K := by
  obtain ⟨h1, h2, h3, h4⟩ := hp
  have hs : (slc j.1 j.2.2.1.1 j.2.2.1.2.1).length ≤ j.1.length := by
    unfold slc; rw [List.length_drop, List.length_take]; omega
  unfold oper_job_turned_class_Upper_raw
  refine asrt h1 ⟨show _ ≤ lim by unfold lim; omega, fun r1 e1 _ => ?_⟩
  have e1 : r1 = slc j.1 j.2.2.1.1 j.2.2.1.2.1 := e1
  subst e1
  intro _
  refine ⟨_, oper_job_turned_class_Upper_l0 _ (slc j.1 j.2.2.1.1 j.2.2.1.2.1) (by omega) j _ ?_ ((slc j.1 j.2.2.1.1 j.2.2.1.2.1).length + 1) 0 (by omega) (Nat.zero_le _)⟩
  intro _
  refine ⟨h3, fun r3 e3 _ => ⟨h4, fun r4 e4 _ => ?_⟩⟩
  subst e3; subst e4
  exact h _ rfl

def oper_job_turned_class_Upper_C (v : valsA oper_job_turned_class_Upper_A) (K : Res → List Cell → Prop) : Prop := oper_job_turned_class_Upper_P v.1 v.2.1 ∧ ∀ r : (List ((Int × List Int × List Int)) × Int × (Bool × Bool × List Int) × Int × Bool) × Int, r = oper_job_turned_class_Upper_F v.1 v.2.1 → K (.tup [.v (.st (.pair (.sl (.st (.pair (.int .i64) (.pair (.sl (.int .u8)) (.sl (.int .u8)))))) (.pair (.int .i64) (.pair (.st (.pair (.bool) (.pair (.bool) (.sl (.int .u8))))) (.pair (.int .i64) (.bool)))))) r.1, .v (.int .i64) r.2]) []
def oper_job_turned_class_Upper_S : App := specW oper_job_turned_class_Upper_A oper_job_turned_class_Upper_C
theorem oper_job_turned_class_Upper_wv (K : Res → List Cell → Prop) : ∀ v : valsA oper_job_turned_class_Upper_A, runF tb (getG oper_job_turned_class_Upper_G) oper_job_turned_class_Upper_B0 Tryd.f109 [true, true] (mkA oper_job_turned_class_Upper_A v) K = oper_job_turned_class_Upper_raw v.1 v.2.1 K
  | (j0, f1, ()) => oper_job_turned_class_Upper_walk j0 f1 K
set_option maxRecDepth 20000 in
theorem oper_job_turned_class_Upper_ok : AppOk Tryd.prog 109 oper_job_turned_class_Upper_S :=
  AppOk.specW (spec_ok ((runF_ok tb_M tb_ok oper_job_turned_class_Upper_Gok (oper_job_turned_class_Upper_b0) (f := 109) (fn := Tryd.f109) (by kernel_rfl) (by kernel_rfl) oper_job_turned_class_Upper_st [true, true])) fun v K hw h => (oper_job_turned_class_Upper_wv K v).mpr (oper_job_turned_class_Upper_sp v.1 v.2.1 K hw h.1 h.2))
end Go.VE
namespace Go.VE
open Go Go.Proofs
/-! ### quoin/oper.operators$3 -/
def oper_operators_3_G : List (Nat × App) := [(109, oper_job_turned_class_Upper_S)]
theorem oper_operators_3_Gok : GOk Tryd.prog (getG oper_operators_3_G) := GOk.cons oper_job_turned_class_Upper_ok (GOk.nil)
def oper_operators_3_raw (j0 : (List Int × Int × (Int × Int × Bool × Bool) × Int × Int × Int)) (K : Res → List Cell → Prop) : Prop :=
 oper_job_turned_class_Upper_P j0 () ∧ (
 ∀ (r1 : (List ((Int × List Int × List Int)) × Int × (Bool × Bool × List Int) × Int × Bool) × Int), r1 = oper_job_turned_class_Upper_F j0 () → (
 wfR (.tup [.v (.st (.pair (.sl (.st (.pair (.int .i64) (.pair (.sl (.int .u8)) (.sl (.int .u8)))))) (.pair (.int .i64) (.pair (.st (.pair (.bool) (.pair (.bool) (.sl (.int .u8))))) (.pair (.int .i64) (.bool)))))) r1.1, .v (.int .i64) r1.2]) → (
 K (.tup [.v (.st (.pair (.sl (.st (.pair (.int .i64) (.pair (.sl (.int .u8)) (.sl (.int .u8)))))) (.pair (.int .i64) (.pair (.st (.pair (.bool) (.pair (.bool) (.sl (.int .u8))))) (.pair (.int .i64) (.bool)))))) r1.1, .v (.int .i64) r1.2]) [])))
def oper_operators_3_A : List AS := [.v (.st (.pair (.sl (.int .u8)) (.pair (.int .i64) (.pair (.st (.pair (.int .i64) (.pair (.int .i64) (.pair (.bool) (.bool))))) (.pair (.int .i64) (.pair (.int .i64) (.int .i64)))))))]
theorem oper_operators_3_walk (j0 : (List Int × Int × (Int × Int × Bool × Bool) × Int × Int × Int)) (K : Res → List Cell → Prop) : runF tb (getG oper_operators_3_G) [] Tryd.f111 [true, true] (mkA oper_operators_3_A (j0, ())) K = oper_operators_3_raw j0 K := by kernel_rfl

def oper_operators_3_P (j0 : (List Int × Int × (Int × Int × Bool × Bool) × Int × Int × Int)) : Prop :=
 oper_job_turned_class_Upper_P j0 ()
def oper_operators_3_F (j0 : (List Int × Int × (Int × Int × Bool × Bool) × Int × Int × Int)) : (List ((Int × List Int × List Int)) × Int × (Bool × Bool × List Int) × Int × Bool) × Int :=
 let r1 : (List ((Int × List Int × List Int)) × Int × (Bool × Bool × List Int) × Int × Bool) × Int := oper_job_turned_class_Upper_F j0 ()
 (r1.1, r1.2)
set_option maxRecDepth 20000 in
theorem oper_operators_3_sp (j0 : (List Int × Int × (Int × Int × Bool × Bool) × Int × Int × Int)) (K : Res → List Cell → Prop) (_ : wfA oper_operators_3_A (j0, ())) (hp : oper_operators_3_P j0) (h : ∀ r : (List ((Int × List Int × List Int)) × Int × (Bool × Bool × List Int) × Int × Bool) × Int, r = oper_operators_3_F j0 → K (.tup [.v (.st (.pair (.sl (.st (.pair (.int .i64) (.pair (.sl (.int .u8)) (.sl (.int .u8)))))) (.pair (.int .i64) (.pair (.st (.pair (.bool) (.pair (.bool) (.sl (.int .u8))))) (.pair (.int .i64) (.bool)))))) r.1, .v (.int .i64) r.2]) []) : oper_operators_3_raw j0 K := by
  unfold oper_operators_3_raw
  unfold oper_operators_3_P at hp
  refine ⟨hp, ?_⟩
  intro r1 hr1
  subst r1
  intro _
  exact h _ rfl
def oper_operators_3_C (v : valsA oper_operators_3_A) (K : Res → List Cell → Prop) : Prop := oper_operators_3_P v.1 ∧ ∀ r : (List ((Int × List Int × List Int)) × Int × (Bool × Bool × List Int) × Int × Bool) × Int, r = oper_operators_3_F v.1 → K (.tup [.v (.st (.pair (.sl (.st (.pair (.int .i64) (.pair (.sl (.int .u8)) (.sl (.int .u8)))))) (.pair (.int .i64) (.pair (.st (.pair (.bool) (.pair (.bool) (.sl (.int .u8))))) (.pair (.int .i64) (.bool)))))) r.1, .v (.int .i64) r.2]) []
def oper_operators_3_S : App := specW oper_operators_3_A oper_operators_3_C
theorem oper_operators_3_wv (K : Res → List Cell → Prop) : ∀ v : valsA oper_operators_3_A, runF tb (getG oper_operators_3_G) [] Tryd.f111 [true, true] (mkA oper_operators_3_A v) K = oper_operators_3_raw v.1 K
  | (j0, ()) => oper_operators_3_walk j0 K
set_option maxRecDepth 20000 in
theorem oper_operators_3_ok : AppOk Tryd.prog 111 oper_operators_3_S :=
  AppOk.specW (spec_ok ((runF_ok tb_M tb_ok oper_operators_3_Gok (LabsOk.nil) (f := 111) (fn := Tryd.f111) (by kernel_rfl) (by kernel_rfl) (by kernel_rfl) [true, true])) fun v K hw h => (oper_operators_3_wv K v).mpr (oper_operators_3_sp v.1 K hw h.1 h.2))

end Go.VE
