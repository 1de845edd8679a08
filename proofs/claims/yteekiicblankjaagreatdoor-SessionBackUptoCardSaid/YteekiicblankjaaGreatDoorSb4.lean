import Derived.Test.YteekiicblankjaaGreatDoorSb3
import Derived.Laws.Strings
import Derived.Laws.Small
set_option linter.unusedVariables false
set_option linter.unusedSectionVars false
set_option linter.unusedSimpArgs false
namespace Go.VE
variable [M9]
open Go Go.RowKit
section
variable {P : Program} {tb : Tab} {Γ : Nat → Option App} {Kp : Int → St → Prop} {w0 : World} {F : Nat → Prop} {Fn : Nat → Option Nat} {I0 : Nat → Prop} {W : Nat → Prop} {Zc : Nat → Option Obj} {G : g0} {I : Nat → Prop}
 {st : St} {tm : Array Value} {ds : List Deferred} {w : World} {k : St → Prop} {next : Act → World → Prop} {Q : Exit → Act → World → Prop} {o : Oper}
theorem M7 (g o : Nat) (t : TypeId) (fr : Nat × Nat) : ∀ (vs : List Value) (i : Nat) (cur : Array Value) (w : World), w.heap[g]? = some (.cells cur t fr) → o + i + vs.length ≤ cur.size → (∀ v ∈ vs, v.oneCell' = true) →
  a3A fr cur.size →
  (storeCells ⟨g, o, none⟩ vs i).run P w = .ok () (w.setRow g (cur.toList.take (o + i) ++ vs ++ cur.toList.drop (o + i + vs.length)).toArray)
 | [], i, cur, w, hg, _, _, _ => by
  simp only [storeCells, List.append_nil, List.length_nil, Nat.add_zero, List.take_append_drop, Array.toArray_toList]
  rw [setRow_self w g cur t fr hg]
  rfl
 | v :: rest, i, cur, w, hg, hl, h1, hfr => by
  have hi : o + i < cur.size := by simp at hl; omega
  have hcell : w.cell? ⟨g, o + i, none⟩ = some cur[o + i] := by simp [World.cell?, hg, hi]
  have hfro : w.frozen? ⟨g, o + i, none⟩ = false := by
   have := hfr.all (o + i) hi
   simp only [World.frozen?, hg, Bool.and_eq_false_iff, decide_eq_false_iff_not]
   by_cases h : fr.1 ≤ o + i
   ·exact .inr fun h2 => this ⟨h, h2⟩
   ·exact .inl h
  have hst : (store ((⟨g, o, none⟩ : Addr).add i) v).run P w = .ok () (w.setRow g (cur.setIfInBounds (o + i) v)) := by
   rw [C2, run_store P w _ v _ (h1 v (by simp)), hcell]
   simp [hfro, setCell_eq_setRow w g (o + i) cur t fr v hg]
  have ih := M7 g o t fr rest (i + 1) (cur.setIfInBounds (o + i) v) (w.setRow g (cur.setIfInBounds (o + i) v)) (setRow_heap w g cur _ t _ hg) (by simp at hl ⊢; omega) (fun x hx => h1 x (by simp [hx])) (by simpa using hfr)
  simp only [storeCells, Sem.run_bind, hst, Result.andThen_ok, ih, setRow_setRow]
  congr 3
  have e := list_seg_step cur.toList (o + i) v rest (by simp at hl ⊢; omega)
  simpa [Array.toList_setIfInBounds, Nat.add_assoc] using e
theorem a34 {w : World} {b q : Nat} {cs cs' : Array Value} {et : Nat} {fr : Nat × Nat} (hh : w.heap[b]? = some (.cells cs et fr)) : (w.setRow b cs').cell? ⟨b, q, none⟩ = cs'[q]? := by
 have := setRow_heap w b cs cs' et fr hh
 simp [World.cell?, this]
theorem a6A {c c' : Cell} {b : Nat} {p : List Nat} {s : j4} (h : a8c c b p s = some c') : ∃ et e xs i a x0 s', s = .own (b + 4) et e xs ∧ p = [i] ∧ c = ⟨.st a, x0⟩ ∧ b % 8 = 0 ∧ a4R (S3 a) i (a0U a x0) ⟨.osl et e, xs⟩ = some s' ∧ c' = ⟨.st s'.t, s'.x⟩ := by
 unfold a8c at h
 split at h
 ·rename_i n et e xs
  split at h
  ·rename_i i a x0 h1 h2
   split at h
   ·rename_i s' hs
    injection h with h
    have := Nat.eq_of_beq_eq_true h1
    subst this
    exact ⟨et, e, xs, i, a, x0, s', rfl, rfl, rfl, Nat.eq_of_beq_eq_true h2, hs, h.symm⟩
   ·cases h
  ·cases h
 ·cases h
theorem HV.row {G : g0} {I : Nat → Prop} {w : World} {k b q et : Nat} {e : Ty} {xs : List e.den} {cs cs' : Array Value} {n : Nat} (hh : w.heap[b]? = some (.cells cs n (0, 0))) (hq : cs'[q]? = cs[q]?) (hkeep : p5 I I w (w.setRow b cs'))
  (hne : ∀ b', G (k + 4) = some (.tok (some b')) → b' ≠ b) (h : HV G I w k b q et e xs) : HV G I (w.setRow b cs') k b q et e xs := by
 obtain ⟨v, hv, hx⟩ := h
 have e1 : w.cell? ⟨b, q, none⟩ = cs[q]? := by simp [World.cell?, hh]
 refine ⟨v, by rw [a34 hh, hq, ← e1]; exact hv, ?_⟩
 exact R5.move (s := fun n => Nat.beq n (k + 4)) (by simp) ⟨hkeep, fun j o hj hGj => ⟨hGj, fun b' e => setRow_other w b b' cs' (hne b' (by have := Nat.eq_of_beq_eq_true hj; subst this; rw [hGj, e]))⟩⟩ hx
theorem a6l (hT : o4 P tb) {t : TypeId} {a x : Operand} (hWs : ∀ n p, st.ev a = .box n p → W n) (hop : o.op = .store t a x) (hd : o.dst = none) (hI : Inv w0 F Fn I0 W Zc G I st tm w) (hk : p6 w0 F Fn I0 W Zc ds k next) (h : opk tb Γ Kp o st k) : o.wp P ⟨tm, ds⟩ w next Q := by
 unfold opk at h
 rw [hop] at h
 dsimp only at h
 split at h
 ·rename_i ti y n p ht hy ha
  split at h
  ·cases h
  ·rename_i hbeq
   have hsa := hI.ev a ds
   rw [ha] at hsa
   obtain ⟨b, t', off, u, hG, hp, hv⟩ := hsa
   have hs := hT t ti ht
   have e := Ty.beq_eq hbeq
   -- the cells that are written
   have wr : ∀ {G1 : g0} {I1 : Nat → Prop} {st1 : St} (c : Cell) (c' : Cell) (pre mid post : List Value) (cs : Array Value) (et : Nat), Inv w0 F Fn I0 W Zc G1 I1 st1 tm w → G1 n = some (.box b c.t.era) → w.heap[b]? = some (.cells cs et (0, 0)) → cs.toList = pre ++ mid ++ post → pre.length = off → mid.length = y.t.cells →
     g6 I1 w y.t y.x ((Act.mk tm ds).eval x) → c'.t.era = c.t.era → (∀ w', p5 I1 I1 w w' → l0 I1 w' c'.t c'.x (pre ++ ((Act.mk tm ds).eval x).cells.toList ++ post)) →
     (n % 8 = 0 → ∀ cs' : Array Value, cs'.toList = pre ++ ((Act.mk tm ds).eval x).cells.toList ++ post → p5 I1 I1 w (w.setRow b cs') → OLv (HV G1 I1 (w.setRow b cs') n b) 0 c'.t c'.x) →
     k ⟨st1.tmps, a06 st1.boxes n c'⟩ → o.wp P ⟨tm, ds⟩ w next Q := by
    intro G1 I1 st1 c c' pre mid post cs et h1 hG1 hh g1 g2 g3 hr het hrep hol hkk
    have hyl : ((Act.mk tm ds).eval x).cells.toList.length = y.t.cells := hr.list.len
    have hst := run_storeCells_at P b off et ((Act.mk tm ds).eval x).cells.toList 0 cs w hh
     (by have := congrArg List.length g1; simp only [Array.length_toList, List.length_append] at this; rw [hyl]; omega) hr.list.oneCell
    have hw := fun cs' => setRow_heap w b cs cs' et (0, 0) hh
    generalize hcs' : (cs.toList.take (off + 0) ++ ((Act.mk tm ds).eval x).cells.toList ++ cs.toList.drop (off + 0 + ((Act.mk tm ds).eval x).cells.toList.length)).toArray = cs' at hst
    have hcl : cs'.toList = pre ++ ((Act.mk tm ds).eval x).cells.toList ++ post := by
     rw [← hcs', hyl, ← g3, g1, ← g2]
     simp [List.append_assoc]
    have hbI := h1.own n _ b hG1 rfl
    have hkeep : p5 I1 I1 w (w.setRow b cs') := ⟨fun _ h => h, fun j hj => setRow_other w b j cs' (by intro e; subst e; exact hbI.1 hj)⟩
    have h2 := h1.write (c := c') (w' := w.setRow b cs') (hsh := a3v hh (hw cs') (by
     have z1 := congrArg List.length hcl; have z2 := congrArg List.length g1
     have z3 := hyl; simp only [Array.length_toList, List.length_append] at z1 z2 z3; omega)) (hWs n p ha) (by rw [het]; exact hG1) (by simp) (fun j hj => setRow_other w b j cs' hj) rfl rfl rfl
     ⟨⟨cs', et, hw cs', by rw [hcl]; exact hrep _ hkeep⟩, fun h8 => hol h8 cs' hcl hkeep⟩
    unfold Oper.wp
    have hrun : (execOp (Act.mk tm ds).eval o).run P w = .ok .skip (w.setRow b cs') := by
     unfold execOp; rw [hop]
     have hsz : ((Act.mk tm ds).eval x).cells.size = ti.ty.cells := by rw [← Array.length_toList, hyl, e]
     simp [Instr.storeAt, Instr.sureAddr, hv, storeVar, u0 hs, hsz, hst]
    rw [hrun]
    simp only [Oper.upon, hd, Act.put]
    exact hk _ _ _ _ _ hkk h2
   split at h
   ·cases h
   ·rename_i c hc
    split at h
    ·rename_i c' hc'
     -- a slice of the variable's own
     obtain ⟨et, e2, xs, i, a0, x0, s', hx, rfl, rfl, h8, hset, rfl⟩ := a6A hc'
     have hsx := hI.ev x ds
     rw [hx] at hsx hy
     simp only [a3f, Option.some.injEq] at hy; subst hy
     obtain ⟨b', hG', ⟨cs, ce, hh, hrc⟩, _⟩ := hI.box n _ hc
     rw [hG] at hG'; injection hG' with e1; injection e1 with e1 e3; subst e1; subst e3
     obtain ⟨q1, off', u', q2, q3, q4, q5⟩ := a7E hset
     have hoff : off = off' := by
      have := a1n q2
      rw [a09] at this
      rw [show (Ty.st a0).era = .st a0.era from rfl] at hp
      simp only [j8, this, Option.bind_some, N2, Option.map_some, Option.some.injEq, Prod.mk.injEq] at hp
      omega
     subst hoff
     obtain ⟨pre, mid, post, g1, g2, g3, g4⟩ := q4 I w cs.toList (l0.hole (t := a0) hrc)
     have hval : ∃ A k m, (Act.mk tm ds).eval x = .slice A k m := by
      obtain ⟨bo, _, ⟨_, hv, _⟩ | ⟨_, _, cap, _, _, hv, _⟩⟩ := hsx
      ·exact ⟨_, _, _, hv⟩
      ·exact ⟨_, _, _, hv⟩
     have hrv : g6 (a6n I G (n + 4)) w (.sl e2) xs ((Act.mk tm ds).eval x) := R5.rep hsx
     have hcells : ((Act.mk tm ds).eval x).cells.toList = [(Act.mk tm ds).eval x] := by
      obtain ⟨A, k', m, he⟩ := hval; rw [he]; rfl
     -- the run, by hand: what is stored may lean on the token's block
     have hyl : ((Act.mk tm ds).eval x).cells.toList.length = 1 := by rw [hcells]; rfl
     have hst := run_storeCells_at P b off ce ((Act.mk tm ds).eval x).cells.toList 0 cs w hh
      (by have := congrArg List.length g1; simp only [Array.length_toList, List.length_append] at this; rw [hyl]; have g3' : mid.length = 1 := g3; omega) hrv.list.oneCell
     generalize hcs' : (cs.toList.take (off + 0) ++ ((Act.mk tm ds).eval x).cells.toList ++ cs.toList.drop (off + 0 + ((Act.mk tm ds).eval x).cells.toList.length)).toArray = cs' at hst
     have hcl : cs'.toList = pre ++ ((Act.mk tm ds).eval x).cells.toList ++ post := by
      have g3' : mid.length = 1 := g3
      rw [← hcs', hyl, ← g3', g1, ← g2]
      simp [List.append_assoc]
     have hbI := hI.own n _ b hG rfl
     have hkeep : p5 I I w (w.setRow b cs') := ⟨fun _ h => h, fun j hj => setRow_other w b j cs' (by intro e; subst e; exact hbI.1 hj)⟩
     have hcell : (w.setRow b cs').cell? ⟨b, off, none⟩ = some ((Act.mk tm ds).eval x) := by
      rw [a34 hh, ← Array.getElem?_toList, hcl, hcells, ← g2]; simp
     have hown2 : R5 G I (w.setRow b cs') (n + 4) et e2 xs ((Act.mk tm ds).eval x) :=
      R5.move (s := fun m => Nat.beq m (n + 4)) (by simp) ⟨hkeep, fun j o hj hGj => ⟨hGj, fun b' e => setRow_other w b b' cs' (by
       intro e'; subst e'; subst e
       have := hI.inj j n _ _ b' hGj hG rfl rfl
       subst this; rw [hG] at hGj; cases hGj)⟩⟩ hsx
     have h2 := hI.write (c := ⟨.st s'.t, s'.x⟩) (w' := w.setRow b cs') (hsh := a3v hh (setRow_heap w b cs cs' ce (0, 0) hh) (by
      have z1 := congrArg List.length hcl; have z2 := congrArg List.length g1; have g3' : mid.length = 1 := g3
      have z3 := hyl; simp only [Array.length_toList, List.length_append] at z1 z2 z3; omega)) (hWs n [i] ha) (by show _ = some (Own.box b (Ty.st s'.t).era); rw [show (Ty.st s'.t).era = .st s'.t.era from rfl, q1, a09]; exact hG) (by simp) (fun j hj => setRow_other w b j cs' hj) rfl rfl rfl
      ⟨⟨cs', ce, setRow_heap w b cs cs' ce (0, 0) hh, by
       rw [hcl]
       exact g4 I _ _ hkeep (by rw [hcells]; obtain ⟨A, k', m, he⟩ := hval; exact ⟨A, k', m, by rw [he]⟩)⟩,
       fun _ => q5 _ 0 OLv.hole (by rw [Nat.zero_add]; exact ⟨_, hcell, hown2⟩)⟩
     unfold Oper.wp
     have hrun : (execOp (Act.mk tm ds).eval o).run P w = .ok .skip (w.setRow b cs') := by
      unfold execOp; rw [hop]
      have hsz : ((Act.mk tm ds).eval x).cells.size = ti.ty.cells := by rw [← Array.length_toList, hyl, e]; rfl
      simp [Instr.storeAt, Instr.sureAddr, hv, storeVar, u0 hs, hsz, hst]
     rw [hrun]
     simp only [Oper.upon, hd, Act.put]
     exact hk _ _ _ _ _ h h2
    ·have last : ∀ {G1 : g0} {I1 : Nat → Prop} {st1 : St} (c1 c' : Cell), Inv w0 F Fn I0 W Zc G1 I1 st1 tm w → G1 n = some (.box b t') → g6 I1 w y.t y.x ((Act.mk tm ds).eval x) →
       l6 st1.boxes n = some c1 → setPath p c1 y = some c' → k ⟨st1.tmps, a06 st1.boxes n c'⟩ → o.wp P ⟨tm, ds⟩ w next Q := by
      intro G1 I1 st1 c1 c' h1 hG1 hr hc1 hc' hkk
      obtain ⟨b', hG', ⟨cs, et, hh, hrc⟩, hol⟩ := h1.box n c1 hc1
      rw [hG1] at hG'; injection hG' with e1; injection e1 with e1 e3; subst e1; subst e3
      obtain ⟨o', ho', hct, hset⟩ := a0Z hc'
      have ho2 := B7 ho'
      rw [hp] at ho2; injection ho2 with e4; injection e4 with e4 _; subst e4
      obtain ⟨pre, mid, post, g1, g2, g3, g4⟩ := hset I1 w cs.toList hrc
      have hyl : ((Act.mk tm ds).eval x).cells.toList.length = y.t.cells := hr.list.len
      refine wr c1 c' pre mid post cs et h1 hG1 hh g1 g2 g3 hr (by rw [hct]) (fun w' hkeep => g4 I1 w' _ hkeep (hr.list.keep hkeep)) (fun h8 cs' hcl hkeep => ?_) hkk
      refine OLv.setPath (V := HV G1 I1 w n b) (o := 0) hc' (by rw [← e]; exact hs.plain) ho' (fun q qt qe qx hq hV => ?_) (hol h8)
      refine HV.row hh ?_ hkeep (fun b2 h2 e2 => ?_) hV
      ·rw [← Array.getElem?_toList, ← Array.getElem?_toList, hcl, g1]
       by_cases hlt : q < off
       ·rw [List.append_assoc, List.append_assoc, List.getElem?_append_left (by omega), List.getElem?_append_left (by omega)]
       ·rw [List.getElem?_append_right (by rw [List.length_append]; omega), List.getElem?_append_right (by rw [List.length_append]; omega), List.length_append, List.length_append, hyl, g3]
      ·subst e2
       have := h1.inj _ n _ _ b2 h2 hG1 rfl rfl
       rw [this, hG1] at h2; cases h2
     split at h
     ·cases h
     ·rename_i c1 hc1
      obtain ⟨G1, I1, h1, hl, hr⟩ := hI.lay (hI.ev x ds)
      have hr := hr y hy
      have hG1 := hl.box n b t' hG
      split at h
      ·rename_i c' hc'
       exact last c1 c' h1 hG1 hr hc1 hc' h
      ·split at h
       ·cases h
       ·rename_i c2 hc2
        split at h
        ·rename_i c' hc'
         obtain ⟨G2, I2, h2, hl2, hj2, _⟩ := h1.fz (n + 4)
         exact last c2 c' h2 (by rw [hj2 n (by omega)]; exact hG1) (hr.keep ⟨hl2.1, fun _ _ => rfl⟩) hc2 hc' h
        ·cases h
 ·rename_i ti y n i e p u x0 ht hy ha
  split at h
  ·cases h
  ·rename_i hchk
   split at hchk
   ·rename_i hbeq
    split at hchk
    ·rename_i hu
     have hu := Ty.beq_eq hu
     subst hu
     have hsa := hI.ev a ds
     rw [ha] at hsa
     obtain ⟨b, off, hv, hG, hp, ⟨cur, et, fr, hh, hfr⟩, csx, hcx, hjx⟩ := hsa
     have hsx := hI.ev x ds
     have hrx : g6 I w y.t y.x ((Act.mk tm ds).eval x) := by
      cases hx : st.ev x with
      | v t z => rw [hx] at hy hsx; simp only [a3f, Option.some.injEq] at hy; subst hy; exact hsx
      | own _ _ _ _ => rw [hx] at hchk; cases hchk
      | osub _ _ _ _ _ => rw [hx] at hchk; cases hchk
      | _ => rw [hx] at hy; cases hy
     have hyl : ((Act.mk tm ds).eval x).cells.toList.length = y.t.cells := hrx.list.len
     have hs := hT t ti ht
     have eT := Ty.beq_eq hbeq
     have hsz : ((Act.mk tm ds).eval x).cells.size = ti.ty.cells := by rw [← Array.length_toList, hyl, eT]
     -- the block, from the address' own slot
     have hne : y.t.cells ≠ 0 := by rw [← eT]; exact hs.kind.2.2
     have hin : i.toNat * e.cells + off + y.t.cells ≤ cur.size := by
      have hl := hcx.len
      have h1 := hjx (y.t.cells - 1) _ (List.getElem?_eq_getElem (by omega))
      simp only [World.cell?, hh] at h1
      have := (Array.getElem?_eq_some_iff.1 (by simpa using h1)).1
      omega
     have hst := M7 (P := P) b (i.toNat * e.cells + off) et fr ((Act.mk tm ds).eval x).cells.toList 0 cur w hh (by rw [hyl]; omega) hrx.list.oneCell hfr
     generalize hcur' : (cur.toList.take (i.toNat * e.cells + off + 0) ++ ((Act.mk tm ds).eval x).cells.toList ++ cur.toList.drop (i.toNat * e.cells + off + 0 + ((Act.mk tm ds).eval x).cells.toList.length)).toArray = cur' at hst
     have hc' : cur'.toList = cur.toList.take (i.toNat * e.cells + off) ++ ((Act.mk tm ds).eval x).cells.toList ++ cur.toList.drop (i.toNat * e.cells + off + ((Act.mk tm ds).eval x).cells.toList.length) := by rw [← hcur']; simp
     have hbI := hI.own n _ b hG rfl
     have hkeep : p5 I I w (w.setRow b cur') := ⟨fun _ h => h, fun j hj => setRow_other w b j cur' (by intro e; subst e; exact hbI.1 hj)⟩
     have h2 := hI.up (w' := w.setRow b cur') (hsh := a3v hh (setRow_heap w b cur cur' _ _ hh) (by
      have z1 := congrArg List.length hc'
      have z3 := hyl; simp only [Array.length_toList, List.length_append, List.length_take, List.length_drop] at z1 z3; omega)) (e := e) (f := stE e i.toNat p y) hG (by simp) (fun j hj => setRow_other w b j cur' hj) rfl rfl rfl
      (fun et xs v h => a7z (y := y.x) hp hh (setRow_heap w b cur cur' _ _ hh) hc' (by rw [hyl]; exact hin) hkeep hrx.list h)
     unfold Oper.wp
     have hrun : (execOp (Act.mk tm ds).eval o).run P w = .ok .skip (w.setRow b cur') := by
      unfold execOp; rw [hop]
      simp [Instr.storeAt, Instr.sureAddr, hv, storeVar, u0 hs, hsz, hst]
     rw [hrun]
     simp only [Oper.upon, hd, Act.put]
     exact hk _ _ _ _ _ h h2
    ·cases hchk
   ·cases hchk
 ·cases h
theorem S7 : ∀ {t : Ty} {p q : List Nat} {o1 o2 : Nat} {u1 u2 : Ty}, j8 t p = some (o1, u1) → j8 u1 q = some (o2, u2) → j8 t (p ++ q) = some (o1 + o2, u2)
 | t, [], q, o1, o2, u1, u2, h, g => by
  have e : j8 t [] = some (0, t) := by cases t <;> rfl
  rw [e] at h; injection h with h; injection h with h1 h2; subst h1; subst h2
  simpa using g
 | t, n :: p, q, o1, o2, u1, u2, h, g => by
  cases t with
  | st a =>
   simp only [j8, List.cons_append] at h ⊢
   cases hf : g9 a n with
   | none => rw [hf] at h; cases h
   | some s =>
    rw [hf] at h
    simp only [Option.bind_some] at h ⊢
    cases hp : j8 s.2 p with
    | none => rw [hp] at h; cases h
    | some s2 =>
     rw [hp] at h
     simp only [Option.map_some, Option.some.injEq, Prod.mk.injEq] at h
     obtain ⟨e1, e2⟩ := h
     have := S7 (t := s.2) (p := p) (q := q) (o1 := s2.1) (u1 := s2.2) (by rw [hp]) (by rw [e2]; exact g)
     rw [this, ← e1]
     simp [Nat.add_assoc]
  | _ => simp [j8] at h
theorem a1g {c d : Cell} {f : Nat} (h : path c [f] = some d) : ∃ a o, c.t = .st a ∧ g9 a f = some (o, d.t) ∧ j8 c.t [f] = some (o, d.t) := by
 obtain ⟨t, x⟩ := c
 cases t with
 | st a =>
  obtain ⟨o, ho, _⟩ := U8 h
  refine ⟨a, o, rfl, ?_, ho⟩
  simp only [j8] at ho
  cases hf : g9 a f with
  | none => rw [hf] at ho; cases ho
  | some s =>
   rw [hf] at ho
   have e : j8 s.2 [] = some (0, s.2) := by cases s.2 <;> rfl
   simp only [Option.bind_some, Option.map_some, Option.some.injEq, Prod.mk.injEq, Nat.add_zero] at ho
   rw [← ho.1, ← ho.2]
 | _ => simp [path] at h
theorem V7 (hT : o4 P tb) {s f o b off : Nat} {ti : TI} {a u : Ty} (ht : tb.get s = some ti) (ha : ti.ty = .st a) (hf : g9 a f = some (o, u)) :
  (Instr.fieldAt s (.pointer (some ⟨b, off, none⟩)) f).run P w = .ok (.pointer (some ⟨b, off + o, none⟩)) w := by
 obtain ⟨fs, hu, hfs, _⟩ := (hT s ti ht).st a ha
 obtain ⟨fd, tf, h1, h2, h3, h4⟩ := hfs f u o hf
 have hz := u0 (hT fd.type tf h3) w
 have hne := (hT fd.type tf h3).kind.2.2
 simp [Instr.fieldAt, run_underlying hu, h1, Instr.sureAddr, fieldPlace, hz, hne, h2, C2]
theorem a4U {x : Operand} (hop : o.op = .nilCheck x) (hI : Inv w0 F Fn I0 W Zc G I st tm w) (hk : p6 w0 F Fn I0 W Zc ds k next) (h : opk tb Γ Kp o st k) : o.wp P ⟨tm, ds⟩ w next Q := by
 unfold opk at h
 rw [hop] at h
 dsimp only at h
 have hs := hI.ev x ds
 split at h
 ·rename_i b p hx
  rw [hx] at hs
  have hs' := hs
  obtain ⟨b', t', off, u, hG, hp, hv⟩ := hs'
  exact fin hI (s := .box b p) (v := (Act.mk tm ds).eval x) hs hk h (by unfold execOp; rw [hop]; simp [hv])
 ·cases h
theorem a4g (hT : o4 P tb) {s : TypeId} {x : Operand} {f : Nat} (hop : o.op = .fieldAddr s x f) (hI : Inv w0 F Fn I0 W Zc G I st tm w) (hk : p6 w0 F Fn I0 W Zc ds k next) (h : opk tb Γ Kp o st k) : o.wp P ⟨tm, ds⟩ w next Q := by
 unfold opk at h
 rw [hop] at h
 dsimp only at h
 have hs := hI.ev x ds
 split at h
 ·rename_i ti n p ht hx
  rw [hx] at hs
  obtain ⟨b, t', off, u, hG, hp, hv⟩ := hs
  split at h
  ·cases h
  ·rename_i c hc
   split at h
   ·cases h
   ·rename_i c1 hc1
    split at h
    ·cases h
    ·rename_i hb
     split at h
     ·cases h
     ·rename_i d hd
      obtain ⟨b', hG', hbox⟩ := hI.box n c hc
      rw [hG] at hG'; injection hG' with e; injection e with e1 e2; subst e1; subst e2
      obtain ⟨off', ho', _⟩ := U8 hc1
      have ho2 := B7 ho'
      rw [hp] at ho2; injection ho2 with e; injection e with e1 e2; subst e1; subst e2
      obtain ⟨a, o1, ha, hf, hpo⟩ := a1g hd
      have e := Ty.beq_eq hb
      have hpo2 := B7 hpo
      exact fin hI (s := .box n (p ++ [f])) ⟨b, c.t.era, off + o1, d.t.era, hG, S7 hp hpo2, rfl⟩ hk h
       (by unfold execOp; rw [hop]; simp [hv, V7 hT ht (e.trans (by rw [ha]; rfl)) (a1n hf)])
 ·rename_i ti u y ht hx
  rw [hx] at hs
  obtain ⟨b, off, hv, hIb, hl⟩ := hs
  split at h
  ·cases h
  ·rename_i hb
   split at h
   ·rename_i d hd
    obtain ⟨a, o1, ha, hf, hpo⟩ := a1g hd
    obtain ⟨o2, ho2, hl2⟩ := a1N.part (c := ⟨u, y⟩) hl hd
    rw [hpo] at ho2; injection ho2 with e; injection e with e1 _; subst e1
    have e := Ty.beq_eq hb
    exact fin hI (s := .elt d.t d.x) ⟨b, off + o1, rfl, hIb, hl2⟩ hk h
     (by unfold execOp; rw [hop]; simp [hv, V7 hT ht (e.trans ha) hf])
   ·cases h
 ·rename_i ti n i e p u y ht hx
  rw [hx] at hs
  obtain ⟨b, off, hv, hIb, hp, hwr, hl⟩ := hs
  split at h
  ·cases h
  ·rename_i hb
   split at h
   ·rename_i d hd
    obtain ⟨a, o1, ha, hf, hpo⟩ := a1g hd
    obtain ⟨o2, ho2, hl2⟩ := a1N.part (c := ⟨u, y⟩) hl hd
    rw [hpo] at ho2; injection ho2 with e1; injection e1 with e1 _; subst e1
    have eu := Ty.beq_eq hb
    exact fin hI (s := .oel n i e (p ++ [f]) d.t d.x) ⟨b, off + o1, rfl, hIb, S7 hp hpo, hwr, by rw [← Nat.add_assoc]; exact hl2⟩ hk h
     (by unfold execOp; rw [hop]; simp [hv, V7 hT ht (eu.trans ha) hf, Nat.add_assoc])
   ·cases h
 ·cases h
theorem a6i (hT : o4 P tb) {s : TypeId} {x : Operand} {f : Nat} (hop : o.op = .field s x f) (hI : Inv w0 F Fn I0 W Zc G I st tm w) (hk : p6 w0 F Fn I0 W Zc ds k next) (h : opk tb Γ Kp o st k) : o.wp P ⟨tm, ds⟩ w next Q := by
 unfold opk at h
 rw [hop] at h
 dsimp only at h
 have hs := hI.ev x ds
 split at h
 ·rename_i ti u y ht hx
  rw [hx] at hs
  split at h
  ·cases h
  ·rename_i hb
   split at h
   ·rename_i d hd
    obtain ⟨a, o1, ha, hf, hpo⟩ := a1g hd
    have e := (Ty.beq_eq hb).trans ha
    dsimp only at ha
    subst ha
    obtain ⟨fs, hu, hfs, _⟩ := (hT s ti ht).st a e
    obtain ⟨fd, tf, h1, h2, h3, h4⟩ := hfs f _ o1 hf
    obtain ⟨cs, hc, _, hagg, _⟩ := hs
    have hv := hagg rfl
    obtain ⟨o2, ho2, hpt⟩ := U8 hd
    rw [hpo] at ho2; injection ho2 with e2; injection e2 with e2 _; subst e2
    obtain ⟨pre, mid, post, g1, g2, g3⟩ := hpt I w cs hc
    have hrun : ∃ v, (part fd.type cs.toArray fd.offset).run P w = .ok v w ∧ g6 I w d.t d.x v := by
     unfold part
     rw [Sem.run_bind, a0v (hT _ _ h3), h4]
     cases hag : d.t.agg with
     | true =>
      refine ⟨.agg mid.toArray, ?_, g6.of_agg hag g3⟩
      have hm : mid.length = d.t.cells := g3.len
      have e4 : List.take d.t.cells (List.drop o1 cs) = mid := by rw [g1, ← g2, ← hm]; simp
      simp [u0 (hT _ _ h3), h4, h2, e4]
     | false =>
      obtain ⟨v, hv, _⟩ := g3.one hag
      subst hv
      refine ⟨v, ?_, g6.of_one hag g3⟩
      have : cs[o1]? = some v := by rw [g1, ← g2]; simp
      simp [h2, this]
    obtain ⟨v, hv2, hrep⟩ := hrun
    exact fin hI (s := .v d.t d.x) hrep hk h (by unfold execOp; rw [hop]; simp [Instr.field, hv, run_underlying hu, h1, asAgg, hv2])
   ·cases h
 ·cases h
/-! ### operators -/
theorem g6.int_eq {I : Nat → Prop} {w : World} {k : IntKind} {n : Int} {v : Value} (h : g6 I w (.int k) n v) : inR k n ∧ v = .int k n := by
 obtain ⟨cs, hc, _, _, h1⟩ := h
 have e := h1 rfl
 rw [hc.2] at e
 exact ⟨hc.1, by simpa using e.symm⟩
theorem g6.bool_eq {I : Nat → Prop} {w : World} {n : Bool} {v : Value} (h : g6 I w .bool n v) : v = .bool n := by
 obtain ⟨cs, hc, _, _, h1⟩ := h
 have e := h1 rfl
 rw [show cs = _ from hc] at e
 simpa using e.symm
theorem g6.str_eq {I : Nat → Prop} {w : World} {n : List Int} {v : Value} (h : g6 I w .str n v) : ∃ s, v = .string s ∧ bytesOf s = n ∧ s.size ≤ maxLen := by
 obtain ⟨cs, ⟨s, hc, hs⟩, _, _, h1⟩ := h
 have e := h1 rfl
 rw [hc] at e
 exact ⟨s, by simpa using e.symm, hs⟩
theorem g6.sl_eq {I : Nat → Prop} {w : World} {e : Ty} {xs : List e.den} {v : Value} (h : g6 I w (.sl e) xs v) :
  ∃ A cap, v = .slice A xs.length cap ∧ xs.length ≤ cap ∧ cap ≤ maxLen ∧ a42 I w (l0 I w e) e.cells A xs := by
 obtain ⟨cs, ⟨A, cap, hc, hl, hm, hr⟩, _, _, h1⟩ := h
 have e := h1 rfl
 rw [hc] at e
 exact ⟨A, cap, by simpa using e.symm, hl, hm, hr⟩
theorem g6.int_mk {I : Nat → Prop} {w : World} {k : IntKind} {n : Int} (h : inR k n) : g6 I w (.int k) n (.int k n) := g6.of_one rfl ⟨h, rfl⟩
theorem g6.bool_mk {I : Nat → Prop} {w : World} {n : Bool} : g6 I w .bool n (.bool n) := g6.of_one (t := .bool) (x := n) rfl rfl
theorem g6.str_mk {I : Nat → Prop} {w : World} {s : ByteArray} (h : s.size ≤ maxLen) : g6 I w .str (bytesOf s) (.string s) := g6.of_one (t := .str) rfl ⟨s, rfl, rfl, h⟩
theorem a3W {s t : ByteArray} (h : bytesOf s = bytesOf t) : s.data.toList = t.data.toList := by
 unfold bytesOf at h
 refine List.map_inj_right (f := fun b : UInt8 => (b.toNat : Int)) (fun x y e => ?_) |>.1 h
 exact UInt8.toNat_inj.1 (by exact_mod_cast e)
theorem a5G (s t : ByteArray) : (s.toList == t.toList) = decide (bytesOf s = bytesOf t) := by
 rw [ByteArray.toList_eq, ByteArray.toList_eq]
 by_cases h : s.data.toList = t.data.toList
 ·have : bytesOf s = bytesOf t := by unfold bytesOf; rw [h]
  simp [h, this]
 ·have h2 : bytesOf s ≠ bytesOf t := fun e => h (a3W e)
  rw [decide_eq_false h2]
  simpa using fun e => h (by rw [e])
theorem a7o {tb : Tab} {a : Ty} (h1 : ∀ b c, a ≠ .pair b c) (h2 : a ≠ .unit) {o : Nat} {fs : List Field} (h : a2l tb a o fs = true) : ∃ f tf, fs = [f] ∧ f.offset = o ∧ tb.get f.type = some tf ∧ tf.ty = a := by
 unfold a2l at h
 split at h
 ·exact absurd rfl (h1 _ _)
 ·exact absurd rfl h2
 ·rename_i f _ _
  split at h
  ·rename_i tf ho ht
   exact ⟨f, tf, rfl, Nat.eq_of_beq_eq_true ho, ht, Ty.beq_eq h⟩
  ·cases h
 ·cases h
/-- one part of each, and whether they are alike -/
theorem a6W (hT : o4 P tb) (d : Nat) {I J : Nat → Prop} {w w2 : World} {f : Field} {tf : TI} {a : Ty} (ht : tb.get f.type = some tf) (ha : tf.ty = a) (hfl : a1V a = true) {x y : a.den} {c c' : List Value} (hx : l0 I w a x c) (hy : l0 J w2 a y c') :
  a.agg = false ∧ ∃ v v', c = [v] ∧ c' = [v'] ∧ ∀ w', (Op.equalIn (d + 1) f.type v v').run P w' = .ok (eqT a x y) w' := by
 cases a with
 | int k =>
  refine ⟨rfl, _, _, hx.2, hy.2, fun w' => ?_⟩
  rw [run_equalIn_int w' d f.type k k _ _ ((hT _ _ ht).int k ha)]
  show Result.ok (decide _) w' = _
  rfl
 | bool =>
  refine ⟨rfl, _, _, hx, hy, fun w' => ?_⟩
  rw [run_equalIn_bool w' d f.type _ _ ((hT _ _ ht).bool ha)]
  rfl
 | str =>
  obtain ⟨s, hs, es, _⟩ := hx
  obtain ⟨s', hs', es', _⟩ := hy
  refine ⟨rfl, _, _, hs, hs', fun w' => ?_⟩
  rw [run_equalIn_string w' d f.type _ _ ((hT _ _ ht).str ha), a5G, es, es']
  rfl
 | pair a b => exact absurd ha ((hT _ _ ht).kind.2.1 a b)
 | unit => exact absurd ha (hT _ _ ht).kind.1
 | st a => cases hfl
 | sl a => cases hfl
 | osl n a => cases hfl
 | hole a => cases hfl
 | arr m9 a => cases hfl
theorem a4m (hT : o4 P tb) {f : Field} {tf : TI} {a : Ty} (ht : tb.get f.type = some tf) (ha : tf.ty = a) (hag : a.agg = false) {pre post : List Value} {v : Value} (ho : f.offset = pre.length) (w' : World) :
  (part f.type (pre ++ v :: post).toArray f.offset).run P w' = .ok v w' := by
 unfold part
 rw [Sem.run_bind, a0v (hT _ _ ht), ha, hag]
 have : (pre ++ v :: post)[f.offset]? = some v := by rw [ho]; simp
 simp [this]
theorem a5x (hT : o4 P tb) (d : Nat) {I J : Nat → Prop} {w w2 : World} : ∀ (a : Ty) {fs : List Field} {pre pre' cs cs' : List Value} {x y : a.den}, a1V a = true → a2l tb a pre.length fs = true → (∀ f ∈ fs, f.name ≠ "_") → pre'.length = pre.length →
  l0 I w a x cs → l0 J w2 a y cs' → ∀ w', (Op.eqFields (d + 1) (pre ++ cs).toArray (pre' ++ cs').toArray fs).run P w' = .ok (eqT a x y) w' := by
 intro a
 have last : ∀ (a : Ty) {fs : List Field} {pre pre' cs cs' : List Value} {x y : a.den}, (∀ b c, a ≠ .pair b c) → a ≠ .unit → a1V a = true → a2l tb a pre.length fs = true → (∀ f ∈ fs, f.name ≠ "_") → pre'.length = pre.length →
   l0 I w a x cs → l0 J w2 a y cs' → ∀ w', (Op.eqFields (d + 1) (pre ++ cs).toArray (pre' ++ cs').toArray fs).run P w' = .ok (eqT a x y) w' := by
  intro a fs pre pre' cs cs' x y h1 h2 hfl hch hn hp hx hy w'
  obtain ⟨f, tf, rfl, ho, ht, ha⟩ := a7o h1 h2 hch
  obtain ⟨hag, v, v', rfl, rfl, hrun⟩ := a6W hT d ht ha hfl hx hy
  have hne := hn f List.mem_cons_self
  simp only [Op.eqFields, hne, ne_eq, not_false_eq_true, if_true, Sem.run_bind]
  rw [a4m hT ht ha hag ho]
  simp only [Result.andThen_ok]
  rw [a4m hT ht ha hag (ho.trans hp.symm)]
  simp only [Result.andThen_ok]
  rw [hrun]
  cases eqT a x y <;> simp
 induction a with
 | pair a b iha ihb =>
  intro fs pre pre' cs cs' x y hfl hch hn hp hx hy w'
  cases fs with
  | nil => simp [a2l] at hch
  | cons f fs =>
   simp only [a2l] at hch
   split at hch
   ·rename_i tf ho ht
    split at hch
    ·rename_i hb
     have ho := Nat.eq_of_beq_eq_true ho
     have ha := Ty.beq_eq hb
     simp only [a1V] at hfl
     split at hfl
     ·rename_i hfa
      obtain ⟨c, d', rfl, hc, hd⟩ := hx
      obtain ⟨c2, d2, rfl, hc2, hd2⟩ := hy
      obtain ⟨hag, v, v', rfl, rfl, hrun⟩ := a6W hT d ht ha hfa hc hc2
      have hne := hn f List.mem_cons_self
      have hlen : a.cells = 1 := by have := hc.len; simpa using this.symm
      simp only [Op.eqFields, hne, ne_eq, not_false_eq_true, if_true, Sem.run_bind, List.singleton_append]
      rw [a4m hT ht ha hag ho]
      simp only [Result.andThen_ok]
      rw [a4m hT ht ha hag (ho.trans hp.symm)]
      simp only [Result.andThen_ok]
      rw [hrun]
      simp only [Result.andThen_ok, eqT]
      cases h : eqT a x.1 y.1 with
      | false => simp
      | true =>
       simp only [Bool.not_true, Bool.false_eq_true, if_false]
       have := ihb (fs := fs) (pre := pre ++ [v]) (pre' := pre' ++ [v']) (x := x.2) (y := y.2) hfl (by simpa [hlen] using hch) (fun f hf => hn f (List.mem_cons_of_mem _ hf)) (by simp [hp]) hd hd2 w'
       simpa using this
     ·cases hfl
    ·cases hch
   ·cases hch
 | unit => intro fs pre pre' cs cs' x y hfl; cases hfl
 | int k => exact last _ (fun _ _ e => by cases e) (fun e => by cases e)
 | bool => exact last _ (fun _ _ e => by cases e) (fun e => by cases e)
 | str => exact last _ (fun _ _ e => by cases e) (fun e => by cases e)
 | st a _ => intro fs pre pre' cs cs' x y hfl; cases hfl
 | sl a _ => intro fs pre pre' cs cs' x y hfl; cases hfl
 | osl n a _ => intro fs pre pre' cs cs' x y hfl; cases hfl
 | hole a _ => intro fs pre pre' cs cs' x y hfl; cases hfl
 | arr m9 a _ => intro fs pre pre' cs cs' x y hfl; cases hfl
theorem a8P (hT : o4 P tb) {op : BinOp} {t : TypeId} {x y : Operand} {a b s : j4} {va vb : Value} (ha : B9 G I w a va) (hb : B9 G I w b vb) (h : bin tb t op a b = s) (hs : s ≠ .no) :
  ∃ v, (∀ w', (do eqGuard op t x y va vb; binOp op t va vb).run P w' = .ok v w') ∧ B9 G I w s v := by
 unfold bin at h
 split at h
 ·rename_i k1 n1 k2 n2
  split at h
  ·rename_i hk
   have e := Q2 hk
   subst e
   obtain ⟨r1, rfl⟩ := g6.int_eq ha
   obtain ⟨r2, rfl⟩ := g6.int_eq hb
   cases op <;> simp only [a92] at h <;> first | (exact absurd h.symm hs) | skip
   all_goals subst h
   ·exact ⟨_, fun w' => by simp [eqGuard, binOp, Op.intArith], g6.int_mk (S4 _ _)⟩
   ·exact ⟨_, fun w' => by simp [eqGuard, binOp, Op.intArith], g6.int_mk (S4 _ _)⟩
   ·exact ⟨_, fun w' => by simp [eqGuard, binOp, Op.intArith], g6.int_mk (S4 _ _)⟩
   ·exact ⟨.bool (decide (n1 = n2)), fun w' => by simp [eqGuard, binOp, Op.intCmp]; rfl, g6.bool_mk⟩
   ·exact ⟨.bool (!decide (n1 = n2)), fun w' => by simp [eqGuard, binOp, Op.intCmp, bne]; rfl, g6.bool_mk⟩
   ·exact ⟨.bool (decide (n1 < n2)), fun w' => by simp [eqGuard, binOp, Op.intCmp], g6.bool_mk⟩
   ·exact ⟨.bool (decide (n1 ≤ n2)), fun w' => by simp [eqGuard, binOp, Op.intCmp], g6.bool_mk⟩
   ·exact ⟨.bool (decide (n2 < n1)), fun w' => by simp [eqGuard, binOp, Op.intCmp], g6.bool_mk⟩
   ·exact ⟨.bool (decide (n2 ≤ n1)), fun w' => by simp [eqGuard, binOp, Op.intCmp], g6.bool_mk⟩
  ·exact absurd h.symm hs
 ·rename_i b1 b2
  have e1 := g6.bool_eq ha
  have e2 := g6.bool_eq hb
  subst e1; subst e2
  split at h
  ·rename_i hbt
   unfold a8m at hbt
   split at hbt
   ·rename_i el fts by_ ht
    have hu := (hT t _ ht).bool rfl
    cases op <;> simp only [a9T] at h <;> first | (exact absurd h.symm hs) | skip
    all_goals subst h
    ·exact ⟨.bool (b1 == b2), fun w' => by simp [eqGuard, binOp, run_equal_bool w' t b1 b2 hu], g6.bool_mk⟩
    ·exact ⟨.bool (b1 != b2), fun w' => by simp [eqGuard, binOp, run_equal_bool w' t b1 b2 hu, bne], g6.bool_mk⟩
   ·cases hbt
  ·exact absurd h.symm hs
 ·rename_i s1 s2
  obtain ⟨u1, rfl, e1, _⟩ := g6.str_eq ha
  obtain ⟨u2, rfl, e2, _⟩ := g6.str_eq hb
  subst e1; subst e2
  cases op <;> simp only [b0s] at h <;> first | (exact absurd h.symm hs) | skip
  all_goals subst h
  ·exact ⟨.bool (decide (bytesOf u1 = bytesOf u2)), fun w' => by simp [eqGuard, binOp, Op.stringOp, a5G], g6.bool_mk⟩
  ·exact ⟨.bool (!decide (bytesOf u1 = bytesOf u2)), fun w' => by simp [eqGuard, binOp, Op.stringOp, a5G], g6.bool_mk⟩
 ·rename_i a1 x1 a2 x2
  split at h
  ·rename_i ti ht
   split at h
   ·rename_i hbq hel
    split at h
    ·rename_i z hz
     obtain ⟨e, hz⟩ := Ty.cast?_eq hz
     injection e with e; subst e; subst hz
     have hty := Ty.beq_eq hbq
     obtain ⟨hfl, hst, hgd, fs, hu, hch, hnm⟩ := (hT t ti ht).eqs _ hty (Nat.eq_of_beq_eq_true hel)
     obtain ⟨cs, hc, _, hagg, _⟩ := ha
     obtain ⟨cs', hc', _, hagg', _⟩ := hb
     have hv := hagg rfl
     have hv' := hagg' rfl
     have hfo : P.fieldsOf t = fs := by unfold Program.fieldsOf; rw [hu]
     have hrun : ∀ w', (Op.equalIn 10000 t va vb).run P w' = .ok (eqT a2 x1 z) w' := fun w' => by
      rw [hv, hv', run_equalIn_struct w' 9999 t _ _ (by rw [hfo]; exact hu) hst, hfo]
      have := a5x hT 9998 (pre := []) (pre' := []) _ hfl hch hnm rfl hc hc' w'
      simpa using this
     rw [hv, hv'] at hrun
     cases op <;> simp only [a9m] at h <;> first | (exact absurd h.symm hs) | skip
     all_goals subst h
     ·refine ⟨.bool (eqT a2 x1 z), fun w' => ?_, g6.bool_mk⟩
      rw [hv, hv', Sem.run_bind, run_eqGuard_agg w' _ _ _ _ _ _ hgd]
      simp [run_eql_struct, hrun]
     ·refine ⟨.bool (!eqT a2 x1 z), fun w' => ?_, g6.bool_mk⟩
      rw [hv, hv', Sem.run_bind, run_eqGuard_agg w' _ _ _ _ _ _ hgd]
      simp [run_neq_struct, hrun]
    ·exact absurd h.symm hs
   ·exact absurd h.symm hs
  ·exact absurd h.symm hs
 ·exact absurd h.symm hs
theorem a0u {c : Bool} {x : Prop} (h : bif c then x else False) : c = true ∧ x := by
 cases c
 ·cases h
 ·exact ⟨rfl, h⟩
theorem a1A (s : ByteArray) : (bytesOf s).length = s.size := by simp [bytesOf]
theorem a64 {k : IntKind} {n m : Int} (h : inR k n) (h1 : 0 ≤ n → 0 ≤ m ∧ m ≤ n) (h2 : n < 0 → n ≤ m ∧ m ≤ 0) : inR k m := by
 have h0 : a03 k ≤ 0 ∧ 0 ≤ a02 k := by cases k <;> simp [a03, a02]
 unfold inR at h ⊢
 by_cases hn : 0 ≤ n
 ·have := h1 hn; omega
 ·have := h2 (by omega); omega
theorem a8k {k : IntKind} {a : Int} (b : Int) (h : inR k a) : inR k (Int.tmod a b) := by
 have key : ∀ a : Int, 0 ≤ a → 0 ≤ Int.tmod a b ∧ Int.tmod a b ≤ a := by
  intro a ha
  have h1 := Int.tmod_nonneg b ha
  have h2 : (Int.tmod a b).natAbs = a.natAbs % b.natAbs := Int.natAbs_tmod a b
  have h3 := Nat.mod_le a.natAbs b.natAbs
  omega
 refine a64 h (key a) fun hn => ?_
 have h1 := key (-a) (by omega)
 rw [Int.neg_tmod] at h1
 omega
theorem a8j {k : IntKind} {a : Int} (n : Nat) (h : inR k a) : inR k (Int.fdiv a (2 ^ n)) := by
 have hp : (0 : Int) < 2 ^ n := Int.pow_pos (by omega)
 rw [Int.fdiv_eq_ediv_of_nonneg _ (by omega)]
 refine a64 h (fun ha => ⟨Int.ediv_nonneg ha (by omega), Int.ediv_le_self _ ha⟩) fun hn => ?_
 have h1 := Int.ediv_neg_of_neg_of_pos hn hp
 refine ⟨?_, by omega⟩
 have h2 : a * 1 ≥ a := by omega
 have h3 : (2 ^ n : Int) * (a / 2 ^ n) ≤ a := Int.mul_ediv_self_le (by omega)
 rw [Int.le_ediv_iff_mul_le hp]
 have h4 : a * 2 ^ n ≤ a * 1 := Int.mul_le_mul_of_nonpos_left (by omega) (by omega)
 omega
theorem a2e {op : BinOp} {k : IntKind} {a b : Int} (hop : op = .and ∨ op = .or ∨ op = .xor ∨ op = .andNot) (w : World) : (Op.intBits op k a b).run P w = .ok (.int k (M5 op k a b)) w := by
 rcases hop with rfl | rfl | rfl | rfl <;> simp [Op.intBits, M5]
theorem a2d {op : BinOp} {k : IntKind} {a b : Int} : inR k (M5 op k a b) := by
 unfold M5; split <;> exact S4 _ _
theorem a45 (d : Nat) {t el : TypeId} (hu : P.underlying t = some (.slice el)) (A : Option Addr) (n cap : Nat) (w : World) :
  (Op.equalIn (d + 1) t (.slice A n cap) (.slice none 0 0)).run P w = .ok A.isNone w := by
 cases A <;> simp [Op.equalIn, run_underlying hu]
theorem nil_eq (hT : o4 P tb) {op : BinOp} {t : TypeId} {x y : Operand} {ti : TI} {e : Ty} (ht : tb.get t = some ti) (hte : ti.ty = .sl e) {A : Option Addr} {n cap : Nat} (hop : op = .eql ∨ op = .neq) (w : World) :
  (do eqGuard op t x y (.slice A n cap) (.slice none 0 0); binOp op t (.slice A n cap) (.slice none 0 0)).run P w = .ok (.bool (match op with | .eql => A.isNone | _ => !A.isNone)) w := by
 obtain ⟨hu, _⟩ := (hT t ti ht).sl e hte
 have h := a45 (P := P) 9999 hu A n cap w
 have h2 : (Op.equal t (.slice A n cap) (.slice none 0 0)).run P w = .ok A.isNone w := h
 rcases hop with rfl | rfl <;> simp [eqGuard, binOp, h2]
theorem a5N (hT : o4 P tb) {op : BinOp} {t : TypeId} {x y : Operand} {a b : j4} {va vb : Value} {d : Option Nat} (ha : B9 G I w a va) (hb : B9 G I w b vb) (h : a9r tb t op a b d st k) :
  ∃ s v, k (st.put d s) ∧ B9 G I w s v ∧ ∀ w', (do eqGuard op t x y va vb; binOp op t va vb).run P w' = .ok v w' := by
 have go : ∀ (s : j4) (v : Value), (∀ w', (do eqGuard op t x y va vb; binOp op t va vb).run P w' = .ok v w') → B9 G I w s v → k (st.put d s) → ∃ s v, k (st.put d s) ∧ B9 G I w s v ∧ ∀ w', (do eqGuard op t x y va vb; binOp op t va vb).run P w' = .ok v w' :=
  fun s v hv hs hkk => ⟨s, v, hkk, hs, hv⟩
 have goI : ∀ (j : IntKind) (n : Int), (∀ w', (do eqGuard op t x y va vb; binOp op t va vb).run P w' = .ok (.int j n) w') → inR j n → k (st.put d (.v (.int j) n)) → ∃ s v, k (st.put d s) ∧ B9 G I w s v ∧ ∀ w', (do eqGuard op t x y va vb; binOp op t va vb).run P w' = .ok v w' :=
  fun j n hv hn hkk => go (.v (.int j) n) _ hv (g6.int_mk hn) hkk
 have nilq : ∀ (e : Ty) (zs : List e.den) (ti : TI), tb.get t = some ti → ti.ty = .sl e → (∃ J, g6 J w (.sl e) zs va) → vb = .slice none 0 0 → ∀ (eq : op = .eql ∨ op = .neq) (b0 : Bool), (b0 = match op with | .eql => false | _ => true) →
   (k (st.put d (.v .bool b0)) ∧ (bif decide (List.length zs = 0) then k (st.put d (.v .bool (!b0))) else True)) → ∃ s v, k (st.put d s) ∧ B9 G I w s v ∧ ∀ w', (do eqGuard op t x y va vb; binOp op t va vb).run P w' = .ok v w' := by
  intro e zs ti ht hte ⟨J, hx⟩ hy eq b0 hb0 hkk
  obtain ⟨A, cap, hv, hl, hm, hr⟩ := g6.sl_eq hx
  have hrun := fun w' => nil_eq (P := P) hT (x := x) (y := y) ht hte (A := A) (n := zs.length) (cap := cap) eq w'
  rw [← hv, ← hy] at hrun
  cases A with
  | some A =>
   refine go (.v .bool b0) _ hrun ?_ hkk.1
   rcases eq with rfl | rfl <;> subst hb0 <;> exact g6.bool_mk
  | none =>
   have hz : zs.length = 0 := by
    rcases Nat.eq_zero_or_pos zs.length with h | h
    ·exact h
    ·obtain ⟨_, _, h, _⟩ := hr 0 h; cases h
   refine go (.v .bool (!b0)) _ hrun ?_ (by have := hkk.2; rw [decide_eq_true hz] at this; exact this)
   rcases eq with rfl | rfl <;> subst hb0 <;> exact g6.bool_mk
 unfold a9r at h
 split at h
 ·split at h
  ·rename_i hk2; have e := Q2 hk2; subst e
   obtain ⟨hc, h⟩ := a0u h
   obtain ⟨r1, e1⟩ := g6.int_eq ha
   obtain ⟨r2, e2⟩ := g6.int_eq hb
   refine goI _ _ ?_ (S4 _ _) h
   intro w'
   rw [e1, e2]
   simp [eqGuard, binOp, Op.intDiv, of_decide_eq_true hc]
  ·cases h
 ·split at h
  ·rename_i hk2; have e := Q2 hk2; subst e
   obtain ⟨hc, h⟩ := a0u h
   obtain ⟨r1, e1⟩ := g6.int_eq ha
   obtain ⟨r2, e2⟩ := g6.int_eq hb
   refine goI _ _ ?_ (a8k _ r1) h
   intro w'
   rw [e1, e2]
   simp [eqGuard, binOp, Op.intDiv, of_decide_eq_true hc]
  ·cases h
 ·obtain ⟨hc, h⟩ := a0u h
  obtain ⟨r1, e1⟩ := g6.int_eq ha
  obtain ⟨r2, e2⟩ := g6.int_eq hb
  refine goI _ _ ?_ (S4 _ _) h
  have hc := of_decide_eq_true hc
  intro w'
  rw [e1, e2]
  simp [eqGuard, binOp, Op.shift, Int.not_lt.2 hc]
 ·obtain ⟨hc, h⟩ := a0u h
  obtain ⟨r1, e1⟩ := g6.int_eq ha
  obtain ⟨r2, e2⟩ := g6.int_eq hb
  refine goI _ _ ?_ (a8j _ r1) h
  have hc := of_decide_eq_true hc
  intro w'
  rw [e1, e2]
  simp [eqGuard, binOp, Op.shift, Int.not_lt.2 hc]
 ·split at h
  ·rename_i hk2; have e := Q2 hk2; subst e
   obtain ⟨r1, e1⟩ := g6.int_eq ha
   obtain ⟨r2, e2⟩ := g6.int_eq hb
   refine goI _ _ ?_ (a2d) h
   intro w'
   rw [e1, e2]
   simp [eqGuard, binOp, a2e]
  ·cases h
 ·split at h
  ·rename_i hk2; have e := Q2 hk2; subst e
   obtain ⟨r1, e1⟩ := g6.int_eq ha
   obtain ⟨r2, e2⟩ := g6.int_eq hb
   refine goI _ _ ?_ (a2d) h
   intro w'
   rw [e1, e2]
   simp [eqGuard, binOp, a2e]
  ·cases h
 ·split at h
  ·rename_i hk2; have e := Q2 hk2; subst e
   obtain ⟨r1, e1⟩ := g6.int_eq ha
   obtain ⟨r2, e2⟩ := g6.int_eq hb
   refine goI _ _ ?_ (a2d) h
   intro w'
   rw [e1, e2]
   simp [eqGuard, binOp, a2e]
  ·cases h
 ·split at h
  ·rename_i hk2; have e := Q2 hk2; subst e
   obtain ⟨r1, e1⟩ := g6.int_eq ha
   obtain ⟨r2, e2⟩ := g6.int_eq hb
   refine goI _ _ ?_ (a2d) h
   intro w'
   rw [e1, e2]
   simp [eqGuard, binOp, a2e]
  ·cases h
 ·obtain ⟨hc, h⟩ := a0u h
  have hc := of_decide_eq_true hc
  obtain ⟨u1, e1, q1, _⟩ := g6.str_eq ha
  obtain ⟨u2, e2, q2, _⟩ := g6.str_eq hb
  subst q1; subst q2
  rw [a1A, a1A] at hc
  have hsz : (u1 ++ u2).size = u1.size + u2.size := by simp
  have hbb : bytesOf (u1 ++ u2) = bytesOf u1 ++ bytesOf u2 := by simp [bytesOf]
  refine go (.v .str (bytesOf u1 ++ bytesOf u2)) (.string (u1 ++ u2)) ?_ (by rw [← hbb]; exact g6.of_one (t := .str) rfl ⟨_, rfl, rfl, by rw [hsz]; unfold lim at hc; unfold maxLen; omega⟩) h
  intro w'
  rw [e1, e2]
  have hn : ¬ (9223372036854775807 < ((u1.size : Int) + (u2.size : Int))) := by unfold lim at hc; omega
  simp [eqGuard, binOp, Op.stringOp, IntKind.max, IntKind.signed, IntKind.bits, hn]
 ·split at h
  ·rename_i ti hti
   split at h
   ·rename_i hbq; exact nilq _ _ ti hti (Ty.beq_eq hbq) ⟨I, ha⟩ hb (.inl rfl) false rfl h
   ·cases h
  ·cases h
 ·split at h
  ·rename_i ti hti
   split at h
   ·rename_i hbq; exact nilq _ _ ti hti (Ty.beq_eq hbq) ⟨_, R5.rep ha⟩ hb (.inl rfl) false rfl h
   ·cases h
  ·cases h
 ·split at h
  ·rename_i ti hti
   split at h
   ·rename_i hbq; exact nilq _ _ ti hti (Ty.beq_eq hbq) ⟨I, ha⟩ hb (.inr rfl) true rfl h
   ·cases h
  ·cases h
 ·split at h
  ·rename_i ti hti
   split at h
   ·rename_i hbq; exact nilq _ _ ti hti (Ty.beq_eq hbq) ⟨_, R5.rep ha⟩ hb (.inr rfl) true rfl h
   ·cases h
  ·cases h
 ·split at h
  ·cases h
  ·rename_i hne
   obtain ⟨v, hv, hs⟩ := a8P (P := P) hT (t := t) (x := x) (y := y) ha hb rfl hne
   exact go _ v hv hs h
theorem a6e (hT : o4 P tb) {op : BinOp} {t u : TypeId} {x y : Operand} (hop : o.op = .binOp op t x y u) (hI : Inv w0 F Fn I0 W Zc G I st tm w) (hk : p6 w0 F Fn I0 W Zc ds k next) (h : opk tb Γ Kp o st k) : o.wp P ⟨tm, ds⟩ w next Q := by
 unfold opk at h
 rw [hop] at h
 obtain ⟨s, v, hkk, hs, hv⟩ := a5N (P := P) hT (x := x) (y := y) (hI.ev x ds) (hI.ev y ds) h
 exact fin hI hs hk hkk (by have hv := hv w; unfold execOp; rw [hop]; simp only [Sem.run_bind] at hv ⊢; simp [hv])
theorem a8I {op : UnOp} {a s : j4} {va : Value} (ha : B9 G I w a va) (h : un op a = s) (hs : s ≠ .no) : ∃ v, (∀ w', (Op.unary op va).run P w' = .ok v w') ∧ B9 G I w s v := by
 unfold un at h
 split at h
 ·have e := g6.bool_eq ha
  subst e
  cases op <;> simp only at h <;> first | (exact absurd h.symm hs) | skip
  subst h
  exact ⟨_, fun w' => by simp [Op.unary], g6.bool_mk⟩
 ·obtain ⟨_, e⟩ := g6.int_eq ha
  subst e
  cases op <;> simp only at h <;> first | (exact absurd h.symm hs) | skip
  subst h
  exact ⟨_, fun w' => by simp [Op.unary, Op.intArith], g6.int_mk (S4 _ _)⟩
 ·exact absurd h.symm hs
theorem a6N {op : UnOp} {t : TypeId} {x : Operand} (hop : o.op = .unOp op t x) (hI : Inv w0 F Fn I0 W Zc G I st tm w) (hk : p6 w0 F Fn I0 W Zc ds k next) (h : opk tb Γ Kp o st k) : o.wp P ⟨tm, ds⟩ w next Q := by
 unfold opk at h
 rw [hop] at h
 dsimp only at h
 have hs := hI.ev x ds
 split at h
 ·cases h
 ·rename_i hne
  obtain ⟨v, hv, hs2⟩ := a8I (P := P) hs rfl hne
  exact fin hI hs2 hk h (by unfold execOp; rw [hop]; simp [hv])
end
end Go.VE
namespace Go.VE
variable [M9]
open Go Go.RowKit
section
variable {P : Program} {tb : Tab} {Γ : Nat → Option App} {Kp : Int → St → Prop} {w0 : World} {F : Nat → Prop} {Fn : Nat → Option Nat} {I0 : Nat → Prop} {W : Nat → Prop} {Zc : Nat → Option Obj} {G : g0} {I : Nat → Prop}
 {st : St} {tm : Array Value} {ds : List Deferred} {w : World} {k : St → Prop} {next : Act → World → Prop} {Q : Exit → Act → World → Prop} {o : Oper}
theorem o5 {c : Bool} {x : Prop} (h : bif c then x else False) : c = true ∧ x := by
 cases c with
 | true => exact ⟨rfl, h⟩
 | false => cases h
theorem a4D {n : Int} {len : Nat} (h : decide (0 ≤ n ∧ n < (len : Int)) = true) : n.toNat < len ∧ 0 ≤ n ∧ n < (len : Int) := by
 have h := of_decide_eq_true h
 omega
theorem a5k {l h : Int} {len : Nat} (e : decide (0 ≤ l ∧ l ≤ h ∧ h ≤ (len : Int)) = true) : l.toNat ≤ h.toNat ∧ h.toNat ≤ len ∧ 0 ≤ l ∧ l ≤ h ∧ h ≤ (len : Int) ∧ (∀ cap : Nat, len ≤ cap → h ≤ (cap : Int)) ∧ (h.toNat : Int) = h ∧ 0 ≤ h := by
 have e := of_decide_eq_true e
 refine ⟨by omega, by omega, e.1, e.2.1, e.2.2, fun cap hc => by omega, by omega, by omega⟩
theorem a4C {h : Int} {len : Nat} (e : decide (0 ≤ h ∧ h ≤ (len : Int)) = true) : h.toNat ≤ len ∧ 0 ≤ h ∧ h ≤ (len : Int) ∧ ∀ cap : Nat, len ≤ cap → h ≤ (cap : Int) := by
 have e := of_decide_eq_true e
 refine ⟨by omega, e.1, e.2, fun cap hc => by omega⟩
theorem a4L {α : Type} (d : α) (xs : List α) (i : Int) (h : i.toNat < xs.length) : rd d xs i = xs[i.toNat] := by
 unfold rd; simp [h]
theorem a4h (hT : o4 P tb) {t : TypeId} {x i : Operand} (hop : o.op = .indexAddr t x i) (hI : Inv w0 F Fn I0 W Zc G I st tm w) (hk : p6 w0 F Fn I0 W Zc ds k next) (h : opk tb Γ Kp o st k) : o.wp P ⟨tm, ds⟩ w next Q := by
 unfold opk at h
 rw [hop] at h
 dsimp only at h
 have hx := hI.ev x ds
 have hi := hI.ev i ds
 split at h
 ·rename_i ti e xs k1 n ht hx' hi'
  rw [hx'] at hx; rw [hi'] at hi
  obtain ⟨_, hiv⟩ := g6.int_eq hi
  split at h
  ·rename_i hb
   obtain ⟨hc, h⟩ := o5 h
   have hc := a4D (n := n) hc
   have et := Ty.beq_eq hb
   obtain ⟨A, cap, hv, hl, hm2, hr⟩ := g6.sl_eq hx
   have hn : Int.toNat n < xs.length := hc.1
   obtain ⟨b, o1, rfl, hIb, cs, hcs, hcl, hj⟩ := hr n.toNat hn
   obtain ⟨hu, te, hte, hee⟩ := (hT t ti ht).sl e et
   have hz := u0 (hT _ _ hte) w
   rw [hee] at hz
   refine fin hI (s := .elt e (rd e.dflt xs n)) (v := .pointer (some ⟨b, o1 + n.toNat * e.cells, none⟩)) ⟨b, _, rfl, hIb, cs, by rw [a4L _ _ _ hn]; exact hcs, hj⟩ hk h ?_
   unfold execOp; rw [hop]
   simp [Instr.indexAt, hiv, hv, asIntOf, run_underlying hu, hc.2.1, hc.2.2, hz, C2]
  ·cases h
 ·rename_i ti n1 et e xs k1 n ht hx' hi'
  rw [hx'] at hx; rw [hi'] at hi
  obtain ⟨_, hiv⟩ := g6.int_eq hi
  split at h
  ·rename_i hb
   obtain ⟨hc, h⟩ := o5 h
   have hc := a4D (n := n) hc
   have ety := Ty.beq_eq hb
   have hn : Int.toNat n < xs.length := hc.1
   obtain ⟨bo, hG, ⟨_, _, hnil⟩ | ⟨b, rfl, cap, cur, fr, hv, hl, hm2, hh, hf, hz, hr⟩⟩ := hx
   ·rw [hnil] at hn; exact absurd hn (Nat.not_lt_zero _)
   obtain ⟨cs, hcs, hj⟩ := hr n.toNat hn
   obtain ⟨hu, te, hte, hee⟩ := (hT t ti ht).sl e ety
   have hz := u0 (hT _ _ hte) w
   rw [hee] at hz
   refine fin hI (s := .oel n1 n e [] e (rd e.dflt xs n)) (v := .pointer (some ⟨b, n.toNat * e.cells + 0, none⟩)) ⟨b, 0, rfl, hG, by cases e <;> rfl, ⟨cur, _, fr, hh, hf.no⟩, cs, by rw [a4L _ _ _ hn]; exact hcs, fun j u hu => ?_⟩ hk h ?_
   ·simpa [World.cell?, hh] using hj j u hu
   ·unfold execOp; rw [hop]
    simp [Instr.indexAt, hiv, hv, asIntOf, run_underlying hu, hc.2.1, hc.2.2, hz, C2]
  ·cases h
 ·cases h
theorem j2 (s : ByteArray) : (bytesOf s).length = s.size := by simp [bytesOf]
theorem a6j {t : TypeId} {x i : Operand} (hT : o4 P tb) (hop : o.op = .index t x i) (hI : Inv w0 F Fn I0 W Zc G I st tm w) (hk : p6 w0 F Fn I0 W Zc ds k next) (h : opk tb Γ Kp o st k) : o.wp P ⟨tm, ds⟩ w next Q := by
 unfold opk at h
 rw [hop] at h
 dsimp only at h
 have hx := hI.ev x ds
 have hi := hI.ev i ds
 split at h
 ·rename_i ti xs k1 n ht hx' hi'
  rw [hx'] at hx; rw [hi'] at hi
  obtain ⟨_, hiv⟩ := g6.int_eq hi
  split at h
  ·rename_i hb
   obtain ⟨hc, h⟩ := o5 h
   have hc := a4D (n := n) hc
   have et := Ty.beq_eq hb
   obtain ⟨s, hv, rfl, hss⟩ := g6.str_eq hx
   rw [j2] at hc
   have hn : Int.toNat n < s.size := hc.1
   have hu := (hT t ti ht).str et
   have e : rd (0 : Int) (bytesOf s) n = (s[n.toNat].toNat : Int) := by
    rw [a4L _ _ _ (by rw [j2]; exact hn)]
    simp [bytesOf]; rfl
   refine fin hI (s := .v (.int .u8) (rd (0 : Int) (bytesOf s) n)) (v := .int .u8 (s[n.toNat].toNat : Int)) ?_ hk h ?_
   ·rw [e]
    refine g6.int_mk ?_
    have := s[n.toNat].toNat_lt
    constructor <;> simp [a03, a02] <;> omega
   ·unfold execOp; rw [hop]
    simp [Instr.index, hiv, hv, asIntOf, run_underlying hu, hc.2.1, ByteArray.getElem?_lt' s n.toNat hn]
  ·cases h
 ·cases h
/-! ### cutting -/
theorem L4 (hT : o4 P tb) {t : Nat} {ti : TI} {e : Ty} (ht : tb.get t = some ti) (he : ti.ty = .sl e) (A : Option Addr) (len cap : Nat) (l h : Nat) (lo hi : Option Value)
  (hb : (Instr.sliceBounds true len cap lo hi none).run P w = .ok (l, h, cap) w) :
  (Instr.sliceAt t (.slice A len cap) lo hi none).run P w = .ok (.slice (if cap = l then A else A.map (·.add (l * e.cells))) (h - l) (cap - l)) w := by
 obtain ⟨hu, te, hte, hee⟩ := (hT t ti ht).sl e he
 have hz := u0 (hT _ _ hte) w
 rw [hee] at hz
 simp [Instr.sliceAt, Instr.slice, run_underlying hu, hb, hz]
theorem a05 (hT : o4 P tb) {t : Nat} {ti : TI} {e : Ty} (ht : tb.get t = some ti) (he : ti.ty = .sl e) (A : Option Addr) (len cap : Nat) (l h m : Nat) (lo hi mx : Option Value)
  (hb : (Instr.sliceBounds true len cap lo hi mx).run P w = .ok (l, h, m) w) :
  (Instr.sliceAt t (.slice A len cap) lo hi mx).run P w = .ok (.slice (if m = l then A else A.map (·.add (l * e.cells))) (h - l) (m - l)) w := by
 obtain ⟨hu, te, hte, hee⟩ := (hT t ti ht).sl e he
 have hz := u0 (hT _ _ hte) w
 rw [hee] at hz
 simp [Instr.sliceAt, Instr.slice, run_underlying hu, hb, hz]
theorem a2a {len cap : Nat} {kl kh : IntKind} {l h : Int} (h0 : 0 ≤ l) (h1 : l ≤ h) (h2 : h ≤ cap) : (Instr.sliceBounds true len cap (some (.int kl l)) (some (.int kh h)) none).run P w = .ok (l.toNat, h.toNat, cap) w := by
 have eh : (h.toNat : Int) = h := Int.toNat_of_nonneg (by omega)
 simp [Instr.sliceBounds, run_sliceBound, *, (by omega : 0 ≤ h)]
theorem a4s {len cap : Nat} {kh : IntKind} {h : Int} (h0 : 0 ≤ h) (h2 : h ≤ cap) : (Instr.sliceBounds true len cap none (some (.int kh h)) none).run P w = .ok (0, h.toNat, cap) w := by
 simp [Instr.sliceBounds, run_sliceBound, *]
theorem a3b {len cap : Nat} {kl : IntKind} {l : Int} (h0 : 0 ≤ l) (h1 : l ≤ len) : (Instr.sliceBounds true len cap (some (.int kl l)) none none).run P w = .ok (l.toNat, len, cap) w := by
 simp [Instr.sliceBounds, run_sliceBound, *]
theorem a4t {len cap : Nat} : (Instr.sliceBounds true len cap none none none).run P w = .ok (0, len, cap) w := by
 simp [Instr.sliceBounds]
theorem a42.cut {I : Nat → Prop} {α : Type} {Re : α → List Value → Prop} {n : Nat} {A : Option Addr} {xs : List α} (h : a42 I w Re n A xs) (l m cap : Nat) (_hl : xs.length ≤ cap) :
  a42 I w Re n (if cap = l then A else A.map (·.add (l * n))) ((xs.take m).drop l) := by
 intro i hi
 have hi' := hi
 rw [List.length_drop, List.length_take] at hi'
 obtain ⟨b, o, rfl, hIb, cs, hcs, hcl, hj⟩ := h (l + i) (by omega)
 rw [if_neg (by omega)]
 refine ⟨b, o + l * n, by simp [C2], hIb, cs, ?_, hcl, fun j v hv => ?_⟩
 ·simp only [List.getElem_drop, List.getElem_take]; exact hcs
 ·have := hj j v hv
  rw [Nat.add_mul, ← Nat.add_assoc] at this
  exact this
theorem g6.cut {I : Nat → Prop} {e : Ty} {xs : List e.den} {A : Option Addr} {cap : Nat} (hl : xs.length ≤ cap) (hm2 : cap ≤ maxLen) (hr : a42 I w (l0 I w e) e.cells A xs) (l m : Nat) (hlm : l ≤ m) (hm : m ≤ xs.length) :
  g6 I w (.sl e) ((xs.take m).drop l) (.slice (if cap = l then A else A.map (·.add (l * e.cells))) (m - l) (cap - l)) := by
 have e1 : ((xs.take m).drop l).length = m - l := by rw [List.length_drop, List.length_take, Nat.min_eq_left hm]
 refine g6.of_one rfl ⟨_, cap - l, ?_, ?_, by omega, hr.cut l m cap hl⟩
 ·rw [e1]
 ·rw [e1]; omega
theorem a5q (hT : o4 P tb) {t : Nat} {ti : TI} {x : Operand} {lo hi : Option Operand} (hop : o.op = .slice t x lo hi none) (ht : tb.get t = some ti) (hI : Inv w0 F Fn I0 W Zc G I st tm w) (hk : p6 w0 F Fn I0 W Zc ds k next)
  (hty : (∃ n et e xs, st.ev x = .own n et e xs ∧ ti.ty = .sl e) ∨ (∃ u y, st.ev x = .v u y ∧ ti.ty = u))
  (h : slk (st.ev x) (lo.map st.ev) (hi.map st.ev) o.dst st k) : o.wp P ⟨tm, ds⟩ w next Q := by
 have hx := hI.ev x ds
 have hrun : (execOp (Act.mk tm ds).eval o).run P w = ((Instr.sliceAt t ((Act.mk tm ds).eval x) (lo.map (Act.mk tm ds).eval) (hi.map (Act.mk tm ds).eval) none).run P w).andThen fun v w => .ok (.value v) w := by
  unfold execOp; rw [hop]; simp
 have hlo : ∀ kl l, lo.map st.ev = some (.v (.int kl) l) → lo.map (Act.mk tm ds).eval = some (.int kl l) := by
  intro kl l e
  cases lo with
  | none => cases e
  | some lo =>
   simp only [Option.map_some, Option.some.injEq] at e ⊢
   have := hI.ev lo ds
   rw [e] at this
   exact (g6.int_eq this).2
 have hhi : ∀ kl l, hi.map st.ev = some (.v (.int kl) l) → hi.map (Act.mk tm ds).eval = some (.int kl l) := by
  intro kl l e
  cases hi with
  | none => cases e
  | some hi =>
   simp only [Option.map_some, Option.some.injEq] at e ⊢
   have := hI.ev hi ds
   rw [e] at this
   exact (g6.int_eq this).2
 have hlon : lo.map st.ev = none → lo.map (Act.mk tm ds).eval = none := by cases lo <;> simp
 have hhin : hi.map st.ev = none → hi.map (Act.mk tm ds).eval = none := by cases hi <;> simp
 -- an immutable slice
 have keyV : ∀ (e : Ty) (xs : List e.den) (l m : Nat), st.ev x = .v (.sl e) xs → l ≤ m → m ≤ xs.length → (∀ cap, xs.length ≤ cap → (Instr.sliceBounds true xs.length cap (lo.map (Act.mk tm ds).eval) (hi.map (Act.mk tm ds).eval) none).run P w = .ok (l, m, cap) w) →
   k (st.put o.dst (.v (.sl e) ((xs.take m).drop l))) → o.wp P ⟨tm, ds⟩ w next Q := by
  intro e xs l m hxe hlm hm hb hkk
  have hx := hx
  rw [hxe] at hx
  have hte : ti.ty = .sl e := by
   rcases hty with ⟨n, et, e', xs', h1, _⟩ | ⟨u, y, h1, h2⟩
   ·rw [hxe] at h1; cases h1
   ·rw [hxe] at h1; injection h1 with h1 _; rw [h2, ← h1]
  obtain ⟨A, cap, hv, hl, hm2, hr⟩ := g6.sl_eq hx
  refine fin hI (s := .v (.sl e) ((xs.take m).drop l)) (g6.cut hl hm2 hr l m hlm hm) hk hkk ?_
  rw [hrun, hv, L4 hT ht hte A xs.length cap l m _ _ (hb cap hl)]
  rfl
 -- the head of a slice of one's own
 have keyP : ∀ (n et : Nat) (e : Ty) (xs : List e.den) (m : Nat), st.ev x = .own n et e xs → m ≤ xs.length → (∀ cap, xs.length ≤ cap → (Instr.sliceBounds true xs.length cap (lo.map (Act.mk tm ds).eval) (hi.map (Act.mk tm ds).eval) none).run P w = .ok (0, m, cap) w) →
   k (st.put o.dst (.own n et e (xs.take m))) → o.wp P ⟨tm, ds⟩ w next Q := by
  intro n et e xs m hxe hm hb hkk
  have hx := hx
  rw [hxe] at hx
  have hte : ti.ty = .sl e := by
   rcases hty with ⟨n', et', e', xs', h1, h2⟩ | ⟨u, y, h1, h2⟩
   ·rw [hxe] at h1; injection h1 with _ _ h1 _; rw [h2, ← h1]
   ·rw [hxe] at h1; cases h1
  have hlen : (xs.take m).length = m := by rw [List.length_take, Nat.min_eq_left hm]
  obtain ⟨bo, hG, ⟨rfl, hv, rfl⟩ | ⟨b, rfl, cap, cur, fr, hv, hl, hm2, hh, hf, hz, hr⟩⟩ := hx
  ·have hm0 : m = 0 := by simpa using hm
   subst hm0
   refine fin hI (s := .own n et e (List.take 0 [])) (v := .slice none 0 0) ⟨none, hG, .inl ⟨rfl, rfl, rfl⟩⟩ hk hkk ?_
   rw [hrun, hv, L4 hT ht hte none 0 0 0 0 _ _ (by simpa using hb 0 (by simp))]
   rfl
  ·refine fin hI (s := .own n et e (xs.take m)) (v := .slice (some ⟨b, 0, none⟩) m cap) ⟨some b, hG, .inr ⟨b, rfl, cap, cur, fr, by rw [hlen], by rw [hlen]; omega, hm2, hh, hf, hz, fun i hi => ?_⟩⟩ hk hkk ?_
   ·rw [hlen] at hi
    obtain ⟨cs, hcs, hj⟩ := hr i (by omega)
    exact ⟨cs, by rw [List.getElem_take]; exact hcs, hj⟩
   ·rw [hrun, hv, L4 hT ht hte _ xs.length cap 0 m _ _ (hb cap hl)]
    simp [Addr.add]
 -- another part of it: plain data from now on
 have keyO : ∀ (n et : Nat) (e : Ty) (xs : List e.den) (l m : Nat), st.ev x = .own n et e xs → l ≤ m → m ≤ xs.length → (∀ cap, xs.length ≤ cap → (Instr.sliceBounds true xs.length cap (lo.map (Act.mk tm ds).eval) (hi.map (Act.mk tm ds).eval) none).run P w = .ok (l, m, cap) w) →
   k ((st.fz n).put o.dst (.v (.sl e) ((xs.take m).drop l))) → o.wp P ⟨tm, ds⟩ w next Q := by
  intro n et e xs l m hxe hlm hm hb hkk
  have hx := hx
  rw [hxe] at hx
  have hte : ti.ty = .sl e := by
   rcases hty with ⟨n', et', e', xs', h1, h2⟩ | ⟨u, y, h1, h2⟩
   ·rw [hxe] at h1; injection h1 with _ _ h1 _; rw [h2, ← h1]
   ·rw [hxe] at h1; cases h1
  obtain ⟨G1, I1, h1, _, hrep⟩ := hI.lay hx
  have hrep := hrep ⟨.sl e, xs⟩ rfl
  obtain ⟨A, cap, hv, hl, hm2, hr⟩ := g6.sl_eq hrep
  refine fin (st := st.fz n) h1 (s := .v (.sl e) ((xs.take m).drop l)) (g6.cut hl hm2 hr l m hlm hm) hk hkk ?_
  rw [hrun, hv, L4 hT ht hte A xs.length cap l m _ _ (hb cap hl)]
  rfl
 -- a string
 have keyS : ∀ (xs : List Int) (l m : Nat), st.ev x = .v .str xs → l ≤ m → m ≤ xs.length → ((Instr.sliceBounds false xs.length xs.length (lo.map (Act.mk tm ds).eval) (hi.map (Act.mk tm ds).eval) none).run P w = .ok (l, m, xs.length) w) →
   k (st.put o.dst (.v .str ((xs.take m).drop l))) → o.wp P ⟨tm, ds⟩ w next Q := by
  intro xs l m hxe hlm hm hb hkk
  have hx := hx
  rw [hxe] at hx
  have hte : ti.ty = .str := by
   rcases hty with ⟨n', et', e', xs', h1, h2⟩ | ⟨u, y, h1, h2⟩
   ·rw [hxe] at h1; cases h1
   ·rw [hxe] at h1; injection h1 with h1 _; rw [h2, ← h1]
  obtain ⟨s, hv, rfl, hss⟩ := g6.str_eq hx
  rw [j2] at hm hb
  have hu := (hT t ti ht).str hte
  have ex : bytesOf (s.extract l m) = ((bytesOf s).take m).drop l := by
   unfold bytesOf
   rw [← List.map_take, ← List.map_drop]
   congr 1
   simp [List.take_drop, Nat.add_sub_cancel' hlm]
  refine fin hI (s := .v .str (((bytesOf s).take m).drop l)) (v := .string (s.extract l m)) (by rw [← ex]; exact g6.str_mk (by simp; omega)) hk hkk ?_
  rw [hrun, hv]
  simp [Instr.sliceAt, Instr.slice, run_underlying hu, hb]
 unfold slk at h
 split at h
 ·rename_i e xs kl l kh m hx' hl' hh'
  obtain ⟨hc, h⟩ := o5 h; have hc := a5k (l := l) (h := m) hc
  exact keyV e xs (Int.toNat l) (Int.toNat m) hx' hc.1 hc.2.1 (fun cap hcap => by rw [hlo _ _ hl', hhi _ _ hh']; exact a2a hc.2.2.1 hc.2.2.2.1 (hc.2.2.2.2.2.1 cap hcap)) h
 ·rename_i e xs kh m hx' hl' hh'
  obtain ⟨hc, h⟩ := o5 h; have hc := a4C (h := m) hc
  exact keyV e xs 0 (Int.toNat m) hx' (Nat.zero_le _) hc.1 (fun cap hcap => by rw [hlon hl', hhi _ _ hh']; exact a4s hc.2.1 (hc.2.2.2 cap hcap)) h
 ·rename_i e xs kl l hx' hl' hh'
  obtain ⟨hc, h⟩ := o5 h; have hc := a4C (h := l) hc
  exact keyV e xs (Int.toNat l) xs.length hx' hc.1 (Nat.le_refl _) (fun cap hcap => by rw [hlo _ _ hl', hhin hh']; exact a3b hc.2.1 hc.2.2.1) (by rw [List.take_length]; exact h)
 ·rename_i e xs hx' hl' hh'
  exact keyV e xs 0 xs.length hx' (Nat.zero_le _) (Nat.le_refl _) (fun cap hcap => by rw [hlon hl', hhin hh']; exact a4t) (by rw [List.take_length]; exact h)
 ·rename_i n et e xs kh m hx' hl' hh'
  obtain ⟨hc, h⟩ := o5 h; have hc := a4C (h := m) hc
  exact keyP n et e xs (Int.toNat m) hx' hc.1 (fun cap hcap => by rw [hlon hl', hhi _ _ hh']; exact a4s hc.2.1 (hc.2.2.2 cap hcap)) h
 ·rename_i n et e xs hx' hl' hh'
  exact keyP n et e xs xs.length hx' (Nat.le_refl _) (fun cap hcap => by rw [hlon hl', hhin hh']; exact a4t) (by rw [List.take_length]; exact h)
 ·rename_i n et e xs kl l kh m hx' hl' hh'
  obtain ⟨hc, h⟩ := o5 h; have hc := a5k (l := l) (h := m) hc
  exact keyO n et e xs (Int.toNat l) (Int.toNat m) hx' hc.1 hc.2.1 (fun cap hcap => by rw [hlo _ _ hl', hhi _ _ hh']; exact a2a hc.2.2.1 hc.2.2.2.1 (hc.2.2.2.2.2.1 cap hcap)) h
 ·rename_i n et e xs kl l hx' hl' hh'
  obtain ⟨hc, h⟩ := o5 h; have hc := a4C (h := l) hc
  exact keyO n et e xs (Int.toNat l) xs.length hx' hc.1 (Nat.le_refl _) (fun cap hcap => by rw [hlo _ _ hl', hhin hh']; exact a3b hc.2.1 hc.2.2.1) (by rw [List.take_length]; exact h)
 ·rename_i xs kl l kh m hx' hl' hh'
  obtain ⟨hc, h⟩ := o5 h; have hc := a5k (l := l) (h := m) hc
  exact keyS xs (Int.toNat l) (Int.toNat m) hx' hc.1 hc.2.1 (by
   rw [hlo _ _ hl', hhi _ _ hh']
   simp [Instr.sliceBounds, run_sliceBound, hc.2.2.1, hc.2.2.2.1, hc.2.2.2.2.1, hc.2.2.2.2.2.2]) h
 ·rename_i xs kh m hx' hl' hh'
  obtain ⟨hc, h⟩ := o5 h; have hc := a4C (h := m) hc
  exact keyS xs 0 (Int.toNat m) hx' (Nat.zero_le _) hc.1 (by
   rw [hlon hl', hhi _ _ hh']
   simp [Instr.sliceBounds, run_sliceBound, hc.2.1, hc.2.2.1]) h
 ·rename_i xs kl l hx' hl' hh'
  obtain ⟨hc, h⟩ := o5 h; have hc := a4C (h := l) hc
  exact keyS xs (Int.toNat l) xs.length hx' hc.1 (Nat.le_refl _) (by
   rw [hlo _ _ hl', hhin hh']
   simp [Instr.sliceBounds, run_sliceBound, hc.2.1, hc.2.2.1]) (by rw [List.take_length]; exact h)
 ·cases h
/-- a part of a slice of one's own, for a 'copy' -/
theorem a7J (hT : o4 P tb) {t : TypeId} {x lo : Operand} {hi : Option Operand} (hop : o.op = .slice t x (some lo) hi none) (hI : Inv w0 F Fn I0 W Zc G I st tm w) (hk : p6 w0 F Fn I0 W Zc ds k next)
  (hrest : opk tb Γ Kp o st k → o.wp P ⟨tm, ds⟩ w next Q) (h : slO tb Γ Kp t x lo hi o st k) : o.wp P ⟨tm, ds⟩ w next Q := by
 have hx := hI.ev x ds
 have hrun : (execOp (Act.mk tm ds).eval o).run P w = ((Instr.sliceAt t ((Act.mk tm ds).eval x) (some ((Act.mk tm ds).eval lo)) (hi.map (Act.mk tm ds).eval) none).run P w).andThen fun v w => .ok (.value v) w := by
  unfold execOp; rw [hop]; simp
 have key : ∀ (ti : TI) (n et : Nat) (e : Ty) (xs : List e.den) (l m : Nat), tb.get t = some ti → ti.ty = .sl e → st.ev x = .own n et e xs → l ≤ m → m ≤ xs.length → (∀ cap, xs.length ≤ cap → (Instr.sliceBounds true xs.length cap (some ((Act.mk tm ds).eval lo)) (hi.map (Act.mk tm ds).eval) none).run P w = .ok (l, m, cap) w) →
   k (st.put o.dst (.osub n et e l ((xs.take m).drop l))) → o.wp P ⟨tm, ds⟩ w next Q := by
  intro ti n et e xs l m ht hte hxe hlm hm hb hkk
  rw [hxe] at hx
  have hlen : ((xs.take m).drop l).length = m - l := by rw [List.length_drop, List.length_take, Nat.min_eq_left hm]
  obtain ⟨bo, hG, ⟨rfl, hv, rfl⟩ | ⟨b, rfl, cap, cur, fr, hv, hl, hm2, hh, hf, hz, hr⟩⟩ := hx
  ·have hm0 : m = 0 := by simpa using hm
   subst hm0
   obtain rfl : l = 0 := by omega
   refine fin hI (s := .osub n et e 0 ((List.take 0 []).drop 0)) (v := .slice none 0 0) ⟨none, hG, .inl ⟨rfl, rfl, by simp⟩⟩ hk hkk ?_
   rw [hrun, hv, L4 hT ht hte none 0 0 0 0 _ _ (by simpa using hb 0 (by simp))]
   rfl
  ·refine fin hI (s := .osub n et e l ((xs.take m).drop l)) (v := .slice (some ⟨b, if cap = l then 0 else l * e.cells, none⟩) (m - l) (cap - l)) ⟨some b, hG, .inr ⟨b, rfl, _, cap - l, cur, fr, by rw [hlen], fun h0 => if_neg (by omega), by rw [hlen]; omega, by omega, hh, hf, ?_, fun i hi => ?_⟩⟩ hk hkk ?_
   ·rw [show l + (cap - l) = cap by omega]; exact hz
   ·rw [hlen] at hi
    obtain ⟨cs, hcs, hj⟩ := hr (l + i) (by omega)
    exact ⟨cs, by simpa using hcs, hj⟩
   ·rw [hrun, hv, L4 hT ht hte _ xs.length cap l m _ _ (hb cap hl)]
    by_cases hcl : cap = l <;> simp [C2, hcl]
 unfold slO at h
 split at h
 ·rename_i ti n et e xs kl l ht hx' hl' hh'
  split at h
  ·rename_i hbq
   obtain ⟨hc, h⟩ := o5 h; have hc := a4C (h := l) hc
   have hlo := hI.ev lo ds
   rw [hl'] at hlo
   have hlo := (g6.int_eq hlo).2
   have hhn : hi.map (Act.mk tm ds).eval = none := by cases hi with | none => rfl | some _ => cases hh'
   exact key ti n et e xs (Int.toNat l) xs.length ht (Ty.beq_eq hbq) hx' hc.1 (Nat.le_refl _) (fun cap hcap => by rw [hlo, hhn]; exact a3b hc.2.1 hc.2.2.1) (by rw [List.take_length]; exact h)
  ·cases h
 ·rename_i ti n et e xs kl l kh m ht hx' hl' hh'
  split at h
  ·rename_i hbq
   obtain ⟨hc, h⟩ := o5 h; have hc := a5k (l := l) (h := m) hc
   have hlo := hI.ev lo ds
   rw [hl'] at hlo
   have hlo := (g6.int_eq hlo).2
   have hhi : hi.map (Act.mk tm ds).eval = some (.int kh m) := by
    cases hi with
    | none => cases hh'
    | some hi =>
     simp only [Option.map_some, Option.some.injEq] at hh' ⊢
     have := hI.ev hi ds
     rw [hh'] at this
     exact (g6.int_eq this).2
   exact key ti n et e xs (Int.toNat l) (Int.toNat m) ht (Ty.beq_eq hbq) hx' hc.1 hc.2.1 (fun cap hcap => by rw [hlo, hhi]; exact a2a hc.2.2.1 hc.2.2.2.1 (hc.2.2.2.2.2.1 cap hcap)) h
  ·cases h
 ·exact hrest h
theorem a6U {len cap : Nat} {kh km : IntKind} {a m : Int} (h0 : 0 ≤ a) (h1 : a ≤ m) (h2 : m ≤ (cap : Int)) : (Instr.sliceBounds true len cap none (some (.int kh a)) (some (.int km m))).run P w = .ok (0, a.toNat, m.toNat) w := by
 have h4 : (m.toNat : Int) = m := Int.toNat_of_nonneg (by omega)
 simp [Instr.sliceBounds, run_sliceBound, h0, h1, h2, h4, Int.le_trans h0 h1]
theorem a9g {a m : Int} {len : Nat} (e : decide (0 ≤ a ∧ a ≤ m ∧ m ≤ (len : Int)) = true) : 0 ≤ a ∧ a ≤ m ∧ (∀ cap : Nat, len ≤ cap → m ≤ (cap : Int)) ∧ a.toNat ≤ len ∧ a.toNat ≤ m.toNat ∧ m.toNat ≤ len := by
 have := of_decide_eq_true e
 exact ⟨this.1, this.2.1, fun cap h => by omega, by omega, by omega, by omega⟩
/-- 'x[:h:m]' of a slice of one's own -/
theorem a5F (hT : o4 P tb) {t : TypeId} {x hi mx : Operand} (hop : o.op = .slice t x none (some hi) (some mx)) (hI : Inv w0 F Fn I0 W Zc G I st tm w) (hk : p6 w0 F Fn I0 W Zc ds k next) (h : opk tb Γ Kp o st k) : o.wp P ⟨tm, ds⟩ w next Q := by
 unfold opk at h
 rw [hop] at h
 dsimp only at h
 have hx := hI.ev x ds
 have hh' := hI.ev hi ds
 have hm' := hI.ev mx ds
 split at h
 ·rename_i ti n et e xs kh a km m ht hx' hhe hme
  split at h
  ·rename_i hbq
   have hte := Ty.beq_eq hbq
   obtain ⟨hc, h⟩ := o5 h
   obtain ⟨hc1, hc2, hc3, hc4, hc5, hc6⟩ := a9g (a := a) (m := m) hc
   rw [hx'] at hx; rw [hhe] at hh'; rw [hme] at hm'
   have hh' := (g6.int_eq hh').2
   have hm' := (g6.int_eq hm').2
   have hrun : (execOp (Act.mk tm ds).eval o).run P w = ((Instr.sliceAt t ((Act.mk tm ds).eval x) none (some (.int kh a)) (some (.int km m))).run P w).andThen fun v w => .ok (.value v) w := by
    unfold execOp; rw [hop]; simp [hh', hm']
   have hb : ∀ cap, xs.length ≤ cap → (Instr.sliceBounds true xs.length cap none (some (.int kh a)) (some (.int km m))).run P w = .ok (0, Int.toNat a, Int.toNat m) w := fun cap hcap => a6U hc1 hc2 (hc3 cap hcap)
   generalize Int.toNat a = a' at hb hc4 hc5 h
   generalize Int.toNat m = m' at hb hc5 hc6
   have hlen : (xs.take a').length = a' := by rw [List.length_take, Nat.min_eq_left hc4]
   obtain ⟨bo, hG, ⟨rfl, hv, rfl⟩ | ⟨b, rfl, cap, cur, fr, hv, hl, hm2, hhp, hf, hz, hr⟩⟩ := hx
   ·simp only [List.length_nil] at hc4 hc6
    obtain rfl : a' = 0 := by omega
    obtain rfl : m' = 0 := by omega
    refine fin hI (s := .own n et e (List.take 0 [])) (v := .slice none 0 0) ⟨none, hG, .inl ⟨rfl, rfl, by simp⟩⟩ hk h ?_
    rw [hrun, hv, a05 hT ht hte none 0 0 0 0 0 _ _ _ (by simpa using hb 0 (by simp))]
    rfl
   ·refine fin hI (s := .own n et e (xs.take a')) (v := .slice (some ⟨b, 0, none⟩) a' m') ⟨some b, hG, .inr ⟨b, rfl, m', cur, fr, by rw [hlen], by rw [hlen]; exact hc5, by omega, hhp, hf, ?_, fun i hi => ?_⟩⟩ hk h ?_
    ·exact Nat.le_trans (Nat.mul_le_mul_right _ (by omega)) hz
    ·rw [hlen] at hi
     obtain ⟨cs, hcs, hj⟩ := hr i (by omega)
     exact ⟨cs, by rw [List.getElem_take]; exact hcs, hj⟩
    ·rw [hrun, hv, a05 hT ht hte _ xs.length cap 0 a' m' _ _ _ (hb cap hl)]
     simp [Addr.add]
  ·cases h
 ·rename_i ti e xs kh a km m ht hx' hhe hme
  split at h
  ·rename_i hbq
   have hte := Ty.beq_eq hbq
   obtain ⟨hc, h⟩ := o5 h
   obtain ⟨hc1, hc2, hc3, hc4, hc5, hc6⟩ := a9g (a := a) (m := m) hc
   rw [hx'] at hx; rw [hhe] at hh'; rw [hme] at hm'
   have hh' := (g6.int_eq hh').2
   have hm' := (g6.int_eq hm').2
   have hrun : (execOp (Act.mk tm ds).eval o).run P w = ((Instr.sliceAt t ((Act.mk tm ds).eval x) none (some (.int kh a)) (some (.int km m))).run P w).andThen fun v w => .ok (.value v) w := by
    unfold execOp; rw [hop]; simp [hh', hm']
   have hb : ∀ cap, xs.length ≤ cap → (Instr.sliceBounds true xs.length cap none (some (.int kh a)) (some (.int km m))).run P w = .ok (0, Int.toNat a, Int.toNat m) w := fun cap hcap => a6U hc1 hc2 (hc3 cap hcap)
   generalize Int.toNat a = a' at hb hc4 hc5 h
   generalize Int.toNat m = m' at hb hc5 hc6
   have hlen : (xs.take a').length = a' := by rw [List.length_take, Nat.min_eq_left hc4]
   obtain ⟨A, cap, hv, hl, hm2, hr⟩ := g6.sl_eq hx
   refine fin hI (s := .v (.sl e) (List.take a' xs)) (v := .slice A a' m') (g6.of_one rfl ⟨A, m', by rw [hlen], by rw [hlen]; exact hc5, by omega, fun i hi => ?_⟩) hk h ?_
   ·rw [hlen] at hi
    obtain ⟨b, o', hA, hIb, cs, hcs, hcl, hj⟩ := hr i (by omega)
    exact ⟨b, o', hA, hIb, cs, by rw [List.getElem_take]; exact hcs, hcl, hj⟩
   ·rw [hrun, hv, a05 hT ht hte _ xs.length cap 0 a' m' _ _ _ (hb cap hl)]
    cases A <;> simp [Addr.add]
  ·cases h
 ·cases h
theorem a6k (hT : o4 P tb) {t : TypeId} {x : Operand} {lo hi mx : Option Operand} (hop : o.op = .slice t x lo hi mx) (hI : Inv w0 F Fn I0 W Zc G I st tm w) (hk : p6 w0 F Fn I0 W Zc ds k next) (h : opk tb Γ Kp o st k) : o.wp P ⟨tm, ds⟩ w next Q := by
 unfold opk at h
 rw [hop] at h
 cases mx with
 | some mx =>
  cases lo with
  | some lo => cases h
  | none =>
   cases hi with
   | none => cases h
   | some hi => exact a5F (Kp := Kp) (Γ := Γ) (Q := Q) hT hop hI hk (by unfold opk; rw [hop]; exact h)
 | none =>
  dsimp only at h
  split at h
  ·cases h
  ·rename_i ti ht
   split at h
   ·rename_i n et e xs hx
    split at h
    ·rename_i hb
     exact a5q hT hop ht hI hk (.inl ⟨n, et, e, xs, hx, Ty.beq_eq hb⟩) (by rw [hx]; exact h)
    ·cases h
   ·rename_i u y hx
    split at h
    ·rename_i hb
     exact a5q hT hop ht hI hk (.inr ⟨u, y, hx, Ty.beq_eq hb⟩) (by rw [hx]; exact h)
    ·cases h
   ·cases h
end
end Go.VE
namespace Go.VE
variable [M9]
open Go Go.RowKit
section
variable {P : Program} {tb : Tab} {Γ : Nat → Option App} {Kp : Int → St → Prop} {w0 : World} {F : Nat → Prop} {Fn : Nat → Option Nat} {I0 : Nat → Prop} {W : Nat → Prop} {Zc : Nat → Option Obj} {G : g0} {I : Nat → Prop}
 {st : St} {tm : Array Value} {ds : List Deferred} {w : World} {k : St → Prop} {next : Act → World → Prop} {Q : Exit → Act → World → Prop} {o : Oper}
/-! ### laying several things -/
/-- every token of G is a token still, or plain -/
def a7R (G G1 : g0) (I1 : Nat → Prop) : Prop := ∀ k b, G k = some (.tok (some b)) → G1 k = some (.tok (some b)) ∨ I1 b
theorem Inv.layAll {G : g0} {I : Nat → Prop} : ∀ (xs : List Operand) {G1 : g0} {I1 : Nat → Prop} {s1 : St}, Inv w0 F Fn I0 W Zc G1 I1 s1 tm w → G4 G G1 I I1 → a4p st s1 → a7R G G1 I1 →
  ∃ G' I', Inv w0 F Fn I0 W Zc G' I' (VE.layAll st xs s1) tm w ∧ G4 G G' I I' ∧ a4p st (VE.layAll st xs s1) ∧ G4 G1 G' I1 I' ∧
   (∀ x ∈ xs, ∀ k, (st.ev x).tok = some k → ∀ b, G k = some (.tok (some b)) → I' b)
 | [], G1, I1, s1, h1, hl, hb, _ => ⟨G1, I1, h1, hl, hb, G4.refl _ _, fun x hx => by cases hx⟩
 | x :: xs, G1, I1, s1, h1, hl, hb, ht => by
  have step : ∃ G2 I2, Inv w0 F Fn I0 W Zc G2 I2 (s1.lay (st.ev x)) tm w ∧ G4 G1 G2 I1 I2 ∧ a4p st (s1.lay (st.ev x)) ∧
    (∀ k b, G1 k = some (.tok (some b)) → G2 k = some (.tok (some b)) ∨ I2 b) ∧ (∀ k, (st.ev x).tok = some k → ∀ b, G1 k = some (.tok (some b)) → I2 b) := by
   have one : ∀ k, (st.ev x).tok = some k → s1.lay (st.ev x) = s1.fz k → ∃ G2 I2, Inv w0 F Fn I0 W Zc G2 I2 (s1.lay (st.ev x)) tm w ∧ G4 G1 G2 I1 I2 ∧ a4p st (s1.lay (st.ev x)) ∧
     (∀ k b, G1 k = some (.tok (some b)) → G2 k = some (.tok (some b)) ∨ I2 b) ∧ (∀ k, (st.ev x).tok = some k → ∀ b, G1 k = some (.tok (some b)) → I2 b) := by
    intro k hk e1
    rw [e1]
    obtain ⟨G2, I2, h2, hl2, hj, hI⟩ := h1.fz k
    refine ⟨G2, I2, h2, hl2, fun n c hn hc => V6 _ (hb n c hn hc) hc, fun j b hj' => ?_, fun k' he b hb' => ?_⟩
    ·by_cases e : j = k
     ·subst e; exact .inr (hI b hj')
     ·exact .inl (by rw [hj j e]; exact hj')
    ·rw [hk] at he; injection he with e1; subst e1; exact hI b hb'
   cases hx : st.ev x with
   | own k et e y => rw [hx] at one; exact one k rfl rfl
   | osub k et e o y => rw [hx] at one; exact one k rfl rfl
   | _ => exact ⟨G1, I1, h1, G4.refl _ _, hb, fun k b hk => .inl hk, fun k he => by cases he⟩
  obtain ⟨G2, I2, h2, hl2, hb2, hkeep, hx2⟩ := step
  have ht2 : a7R G G2 I2 := fun k b hG => by
   rcases ht k b hG with h3 | h3
   ·exact hkeep k b h3
   ·exact .inr (hl2.sub b h3)
  obtain ⟨G', I', h3, hl3, hb3, hl4, ht3⟩ := Inv.layAll xs h2 (hl.trans hl2) hb2 ht2
  refine ⟨G', I', h3, hl3, hb3, hl2.trans hl4, fun y hy k he b hG => ?_⟩
  rcases List.mem_cons.1 hy with rfl | hy
  ·rcases ht k b hG with h5 | h5
   ·exact hl4.sub b (hx2 k he b h5)
   ·exact hl4.sub b (hl2.sub b h5)
  ·exact ht3 y hy k he b hG
/-- what is laid down is plain data -/
theorem a4v {G : g0} {I I' : Nat → Prop} {w : World} {s : j4} {c : Cell} {v : Value} (hc : a3f s = some c) (h : B9 G I w s v) (hI : ∀ b, I b → I' b)
  (ht : ∀ k et e y, s = .own k et e y → ∀ b, G k = some (.tok (some b)) → I' b) : g6 I' w c.t c.x v := by
 cases s with
 | v t x => simp only [a3f, Option.some.injEq] at hc; subst hc; exact g6.keep ⟨hI, fun _ _ => rfl⟩ h
 | own k et e xs =>
  simp only [a3f, Option.some.injEq] at hc; subst hc
  obtain ⟨bo, hG, ⟨rfl, rfl, rfl⟩ | ⟨b, rfl, hr⟩⟩ := h
  ·exact g6.of_one rfl ⟨none, 0, rfl, Nat.le_refl 0, Nat.zero_le _, fun i hi => absurd hi (Nat.not_lt_zero i)⟩
  ·exact hr.rep hI (ht k et e xs rfl b hG)
 | _ => cases hc
/-! ### filling -/
theorem a5U : ∀ (vs : List Value) (off i : Nat) (cur : Array Value), off + i + vs.length ≤ cur.size →
  ((vs.zipIdx i).foldl (fun (cs : Array Value) (p : Value × Nat) => cs.setIfInBounds (off + p.2) p.1) cur).toList = cur.toList.take (off + i) ++ vs ++ cur.toList.drop (off + i + vs.length)
 | [], off, i, cur, _ => by simp
 | v :: vs, off, i, cur, h => by
  simp only [List.length_cons] at h
  have ih := a5U vs off (i + 1) (cur.setIfInBounds (off + i) v) (by simp only [Array.size_setIfInBounds]; omega)
  simp only [List.zipIdx_cons, List.foldl_cons]
  rw [ih, Array.toList_setIfInBounds]
  have e := list_seg_step cur.toList (off + i) v vs (by simp only [Array.length_toList]; omega)
  rw [List.length_cons, ← e]
  congr 2
theorem a5g (place : Nat → Option (Nat × Nat)) (cells : Array Value) (i : Nat) (v : Value) (rest : List (Nat × Value)) (off size : Nat) (hp : place i = some (off, size)) (hs : v.cells.size = size) (hf : off + size ≤ cells.size) :
  ∃ cells', Instr.fill place cells ((i, v) :: rest) = Instr.fill place cells' rest ∧ cells'.toList = cells.toList.take off ++ v.cells.toList ++ cells.toList.drop (off + size) ∧ cells'.size = cells.size := by
 refine ⟨v.cells.zipIdx.foldl (fun (cs : Array Value) (p : Value × Nat) => cs.setIfInBounds (off + p.2) p.1) cells, ?_, ?_, ?_⟩
 ·simp only [Instr.fill, hp]
  rw [if_neg]
  simp only [hs, ne_eq, not_true_eq_false, decide_false, Bool.false_or, decide_eq_true_eq]; omega
 ·rw [← Array.foldl_toList, Array.toList_zipIdx]
  have := a5U v.cells.toList off 0 cells (by simp only [Array.length_toList]; omega)
  simpa [hs] using this
 ·rw [← Array.foldl_toList]
  generalize v.cells.zipIdx.toList = l
  clear hp hs hf
  induction l generalizing cells with
  | nil => rfl
  | cons p l ih => simp only [List.foldl_cons]; rw [ih]; simp
/-! ### a slice written out -/
theorem a4x {e : Ty} : ∀ {ps : List (Nat × Operand)} {n : Nat} {xs : List e.den}, a08 e st ps n = some xs →
  xs.length = ps.length ∧ ∀ i, i < ps.length → ∃ x c, ps[i]? = some (n + i, x) ∧ a3f (st.ev x) = some c ∧ ∃ he : c.t = e, xs[i]? = some (he ▸ c.x)
 | [], n, xs, h => by simp only [a08, Option.some.injEq] at h; subst h; exact ⟨rfl, fun i hi => absurd hi (Nat.not_lt_zero i)⟩
 | (j, x) :: ps, n, xs, h => by
  simp only [a08] at h
  split at h
  ·cases h
  ·rename_i hj
   have ej := Nat.eq_of_beq_eq_true hj
   subst ej
   split at h
   ·cases h
   ·rename_i c hc
    split at h
    ·cases h
    ·rename_i y hy
     split at h
     ·cases h
     ·rename_i ys hys
      simp only [Option.some.injEq] at h; subst h
      obtain ⟨hl, hi⟩ := a4x hys
      refine ⟨by simp [hl], fun i hlt => ?_⟩
      obtain ⟨he, hye⟩ := Ty.cast?_eq hy
      cases i with
      | zero => exact ⟨x, c, rfl, hc, he, by simp [hye]⟩
      | succ i =>
       obtain ⟨x', c', h1, h2, h3, h4⟩ := hi i (by simpa using hlt)
       exact ⟨x', c', by simpa [Nat.add_assoc, Nat.add_comm 1 i] using h1, h2, h3, by simpa using h4⟩
theorem a5T (size n : Nat) : ∀ (parts : List (Nat × Value)) (j : Nat) (cells : Array Value), (∀ i p, parts[i]? = some p → p.1 = j + i ∧ p.2.cells.size = size) → cells.size = n * size → j + parts.length = n →
  ∃ cells', Instr.fill (fun i => some (i * size, size)) cells parts = some cells' ∧ cells'.size = n * size ∧ cells'.toList.take (j * size) = cells.toList.take (j * size) ∧
   ∀ i p, parts[i]? = some p → ∀ q u, p.2.cells.toList[q]? = some u → cells'[(j + i) * size + q]? = some u
 | [], j, cells, _, hz, _ => ⟨cells, rfl, hz, rfl, fun i p hp => by simp at hp⟩
 | (i0, v) :: rest, j, cells, hp, hz, hn => by
  obtain ⟨e1, e2⟩ := hp 0 (i0, v) rfl
  simp only [Nat.add_zero] at e1
  subst e1
  simp only [List.length_cons] at hn
  have hle : i0 * size + size ≤ cells.size := by
   rw [hz, ← hn, ← Nat.succ_mul]; exact Nat.mul_le_mul_right _ (by omega)
  obtain ⟨c1, h1, h2, h3⟩ := a5g (fun i => some (i * size, size)) cells i0 v rest (i0 * size) size rfl e2 hle
  obtain ⟨c2, g1, g2, g3, g4⟩ := a5T size n rest (i0 + 1) c1 (fun i p h => by
   obtain ⟨a, b⟩ := hp (i + 1) p (by simpa using h)
   exact ⟨by omega, b⟩) (by rw [h3, hz]) (by omega)
  refine ⟨c2, by rw [h1, g1], g2, ?_, fun i p h q u hu => ?_⟩
  ·have g5 := congrArg (List.take (i0 * size)) g3
   rw [List.take_take, List.take_take] at g5
   have hm : min (i0 * size) ((i0 + 1) * size) = i0 * size := Nat.min_eq_left (Nat.mul_le_mul_right _ (by omega))
   rw [hm] at g5
   rw [g5, h2, List.append_assoc, List.take_append_of_le_length (by simp; omega), List.take_take, Nat.min_self]
  ·cases i with
   | zero =>
    simp at h; subst h
    have hq : q < size := by
     rcases Nat.lt_or_ge q size with h | h
     ·exact h
     ·rw [List.getElem?_eq_none (by rw [Array.length_toList, e2]; exact h)] at hu; cases hu
    have hq2 : i0 * size + q < (i0 + 1) * size := by rw [Nat.succ_mul]; omega
    have e3 : c2.toList[i0 * size + q]? = c1.toList[i0 * size + q]? := by
     have := congrArg (fun l => l[i0 * size + q]?) g3
     simpa [List.getElem?_take, hq2] using this
    have e4 : c1.toList[i0 * size + q]? = some u := by
     rw [h2, List.append_assoc, List.getElem?_append_right (by simp; omega)]
     have : i0 * size + q - (cells.toList.take (i0 * size)).length = q := by simp; omega
     rw [this, List.getElem?_append_left (by rw [Array.length_toList, e2]; exact hq)]
     exact hu
    simpa using e3.trans e4
   | succ i =>
    have := g4 i p (by simpa using h) q u hu
    rw [show i0 + 1 + i = i0 + (i + 1) by omega] at this
    exact this
theorem a8t {a b : Nat} (h : Nat.ble a b = true) : a ≤ b := Nat.le_of_ble_eq_true h
theorem a3R (hT : o4 P tb) {t : TypeId} {n : Nat} {ps : Array (Nat × Operand)} (hop : o.op = .buildSlice t n ps) (hI : Inv w0 F Fn I0 W Zc G I st tm w) (hk : p6 w0 F Fn I0 W Zc ds k next) (h : opk tb Γ Kp o st k) : o.wp P ⟨tm, ds⟩ w next Q := by
 unfold opk at h
 rw [hop] at h
 dsimp only at h
 split at h
 ·rename_i e et fts by_ d ht hd
  split at h
  ·cases h
  ·rename_i xs hxs
   split at h
   ·cases h
   ·rename_i hchk
    split at hchk
    ·rename_i hlen
     have hlen := Nat.eq_of_beq_eq_true hlen
     have hsz := a8t hchk
     obtain ⟨hl, hel⟩ := a4x hxs
     obtain ⟨G1, I1, h1, hl1, hb1, _, hpl⟩ := hI.layAll (st := st) (G := G) (ps.toList.map (·.2)) (G4.refl G I) (fun _ _ h _ => h) (fun k b hk => .inl hk)
     obtain ⟨G2, I2, h2, hs2, hn2, _⟩ := h1.rn (nm d 0)
     obtain ⟨hu, te, hte, hee⟩ := (hT t _ ht).sl e rfl
     have hze := u0 (hT _ _ hte) w
     rw [hee] at hze
     have hzv := a3y (hT _ _ hte) w
     rw [hee] at hzv
     have hpn : ps.toList.length = n := by rw [← hl]; exact hlen
     -- each part
     have hpart : ∀ (i : Nat) (p : Nat × Value), (ps.toList.map fun q => (q.1, (Act.mk tm ds).eval q.2))[i]? = some p → p.1 = i ∧ p.2.cells.size = e.cells ∧ ∃ y, xs[i]? = some y ∧ l0 I2 w e y p.2.cells.toList := by
      intro i p hp
      rw [List.getElem?_map] at hp
      cases hq : ps.toList[i]? with
      | none => rw [hq] at hp; cases hp
      | some q =>
       rw [hq] at hp; simp only [Option.map_some, Option.some.injEq] at hp; subst hp
       have hlt : i < ps.toList.length := by
        rcases Nat.lt_or_ge i ps.toList.length with h | h
        ·exact h
        ·rw [List.getElem?_eq_none h] at hq; cases hq
       obtain ⟨x, c, g1, g2, he, g3⟩ := hel i hlt
       rw [hq] at g1; simp only [Option.some.injEq, Nat.zero_add] at g1
       subst g1
       have hrep : g6 I1 w c.t c.x ((Act.mk tm ds).eval x) := a4v g2 (hI.ev x ds) hl1.sub (fun k et e y hown => hpl x (List.mem_map.2 ⟨(i, x), List.mem_of_getElem? hq, rfl⟩) k (by rw [hown]; rfl))
       obtain ⟨ct, cx⟩ := c
       dsimp only at he g3 hrep
       subst he
       have hrep2 := (g6.keep ⟨hs2, fun _ _ => rfl⟩ hrep).list
       exact ⟨rfl, by rw [← Array.length_toList]; exact hrep2.len, cx, g3, hrep2⟩
     obtain ⟨cells, hfill, hcz, _, hcell⟩ := a5T e.cells n (ps.toList.map fun q => (q.1, (Act.mk tm ds).eval q.2)) 0
      ((Array.range (n * e.cells)).map (fun i => (if n * e.cells = 0 then (#[] : Array Value) else (q0 e).cells)[i % (if n * e.cells = 0 then (#[] : Array Value) else (q0 e).cells).size]!))
      (fun i p hp => by obtain ⟨a, b, _⟩ := hpart i p hp; exact ⟨by omega, b⟩) (by simp) (by simpa using hpn)
     have h3 := h2.addNew (o := .tok (some w.heap.size)) hn2 (nm7 d 0 (by omega)) (.cells cells et) rfl
     have hrun : (execOp (Act.mk tm ds).eval o).run P w = .ok (.value (.slice (some ⟨w.heap.size, 0, none⟩) n n)) (w.alloc (.cells cells et)) := by
      unfold execOp; rw [hop]
      have hsz' : ¬ (n * e.cells > 2 ^ 24) := by omega
      have hne : e.cells ≠ 0 := by have := (hT _ _ hte).kind.2.2; rw [hee] at this; exact this
      by_cases hz0 : n * e.cells = 0
      ·simp only [hz0, if_true] at hfill
       have hn0 : n = 0 := by rcases Nat.mul_eq_zero.1 hz0 with h | h; exact h; exact absurd h hne
       subst hn0
       have hps : ps.toList = [] := List.eq_nil_of_length_eq_zero hpn
       simp [hps, Instr.fill] at hfill
       subst hfill
       simp [Instr.buildSlice, run_underlying hu, hze, hps, Instr.fill, newRow]
      ·simp only [hz0, if_false] at hfill
       simp only [gt_iff_lt, Nat.reducePow] at hsz'
       simp [Instr.buildSlice, run_underlying hu, hze, hz0, hsz', hzv, hfill, newRow]
     refine a6y (s := .own (nm d 0) et e xs) hd h3 ⟨some w.heap.size, by simp [g0.add], .inr ⟨w.heap.size, rfl, n, cells, (0, 0), by rw [hlen], by rw [hlen]; omega, by
      have hne : e.cells ≠ 0 := by have := (hT _ _ hte).kind.2.2; rw [hee] at this; exact this
      have : n ≤ n * e.cells := Nat.le_mul_of_pos_right n (Nat.pos_of_ne_zero hne)
      unfold maxLen; omega, by { have hel0 := (hT _ _ ht).el; dsimp only at hel0; rw [hel0]; exact heap_alloc_new w _ }, Or.inl rfl, by rw [hcz]; exact Nat.le_refl _, fun i hi => ?_⟩⟩ hk h hrun
     have hi' : i < (ps.toList.map fun q => (q.1, (Act.mk tm ds).eval q.2)).length := by rw [List.length_map, ← hl]; exact hi
     obtain ⟨_, _, y, hy, hrep⟩ := hpart i _ (List.getElem?_eq_getElem hi')
     have ey : xs[i] = y := by rw [List.getElem?_eq_getElem hi] at hy; simpa using hy
     refine ⟨_, by rw [ey]; exact hrep.keep ⟨fun _ h => h, fun b hb => heap_alloc_old w _ b (h2.lt b hb)⟩, fun j u hu => ?_⟩
     have := hcell i _ (List.getElem?_eq_getElem hi') j u hu
     simpa using this
    ·cases hchk
 ·cases h
theorem a4i (hT : o4 P tb) {t : TypeId} {l c : Operand} (hop : o.op = .makeSlice t l c) (hI : Inv w0 F Fn I0 W Zc G I st tm w) (hk : p6 w0 F Fn I0 W Zc ds k next) (h : opk tb Γ Kp o st k) : o.wp P ⟨tm, ds⟩ w next Q := by
 unfold opk at h
 rw [hop] at h
 dsimp only at h
 have hsl := hI.ev l ds
 have hsc := hI.ev c ds
 split at h
 ·rename_i e et fts by_ d n m ht hd hl hc
  rw [hl] at hsl
  rw [hc] at hsc
  split at h
  case h_2 => cases h
  rename_i hsmall
  obtain ⟨hc1, hkk⟩ := a0u h
  clear h
  obtain ⟨h0, hnm, hlim⟩ := of_decide_eq_true hc1
  subst hnm
  obtain ⟨_, el⟩ := g6.int_eq hsl
  obtain ⟨_, ec⟩ := g6.int_eq hsc
  obtain ⟨N, rfl⟩ := Int.eq_ofNat_of_zero_le h0
  rw [Int.toNat_natCast] at hkk
  have hN : N ≤ 1099511627776 := by
   have h9 : N ≤ lim := Int.ofNat_le.1 hlim
   unfold lim at h9; exact h9
  obtain ⟨hu, te, hte, hee⟩ := (hT t _ ht).sl e rfl
  have hze := u0 (hT _ _ hte) w
  rw [hee] at hze
  have hzv := a3y (hT _ _ hte) w
  rw [hee] at hzv
  obtain ⟨info, hin, _, hby, _⟩ := (hT _ _ hte).info
  have hsm : te.bytes ≤ 256 := by
   unfold a8E at hsmall
   rw [hte] at hsmall
   exact Nat.le_of_ble_eq_true hsmall
  have hne : e.cells ≠ 0 := by have := (hT _ _ hte).kind.2.2; rw [hee] at this; exact this
  obtain ⟨G2, I2, h2, hs2, hn2, _⟩ := hI.rn (nm d 0)
  have hzl : (q0 e).cells.toList = G6 e := by
   obtain ⟨cs, hcs, hl2, _⟩ := g6.zero I w e
   have hag : ∀ b, e.agg = b → (q0 e).cells.toList = G6 e := by
    intro b hb
    cases b with
    | true => unfold q0; rw [hb]; simp [Value.cells]
    | false =>
     obtain ⟨v, hv, hvc⟩ := (l0.zero I w e).one hb
     unfold q0
     rw [hb, hv]
     show v.cells.toList = [v]
     rw [hvc]
   exact hag _ rfl
  have hzs : (q0 e).cells.size = e.cells := by rw [← Array.length_toList, hzl]; exact (l0.zero I w e).len
  generalize hcells : ((Array.range (N * e.cells)).map fun i => (q0 e).cells[i % (q0 e).cells.size]!) = cells
  have hcz : cells.size = N * e.cells := by rw [← hcells]; simp
  have h3 := h2.addNew (o := .tok (some w.heap.size)) hn2 (nm7 d 0 (by omega)) (.cells cells et) rfl
  have hrun : (execOp (Act.mk tm ds).eval o).run P w = .ok (.value (.slice (some ⟨w.heap.size, 0, none⟩) N N)) (w.alloc (.cells cells et)) := by
   have hti : (typeInfo et).run P w = .ok info w := by simp [typeInfo, hin]
   have hwr : IntKind.i64.wrap (N : Int) = (N : Int) := a1m (by unfold inR; simp only [a03, a02]; omega)
   have b1 : ¬ ((N : Int) < 0) := by omega
   have b2 : ¬ ((281474976710656 : Int) < (info.bytes : Int) * (N : Int)) := by
    rw [hby]
    have h1 : ((te.bytes * N : Nat) : Int) ≤ ((256 * 1099511627776 : Nat) : Int) := Int.ofNat_le.2 (Nat.mul_le_mul hsm hN)
    rw [Int.natCast_mul] at h1
    omega
   unfold execOp
   rw [hop]
   dsimp only
   rw [el, ec]
   by_cases hz0 : N * e.cells = 0
   ·have hn0 : N = 0 := by rcases Nat.mul_eq_zero.1 hz0 with h | h; exact h; exact absurd h hne
    subst hn0
    have hc0 : cells = #[] := Array.eq_empty_of_size_eq_zero (by rw [hcz]; exact hz0)
    have hw0 : IntKind.i64.wrap 0 = 0 := by decide
    simp [Instr.makeSlice, run_underlying hu, hti, hze, newRow, hc0, hw0, asInt, asIntOf]
    congr 2
    apply Array.ext' ; simp
   ·simp [Instr.makeSlice, run_underlying hu, hti, hze, hz0, hzv, newRow, hwr, asInt, asIntOf, b1, b2, ← hcells]
  refine a6y (s := .own (nm d 0) et e (List.replicate N e.dflt)) hd h3 ⟨some w.heap.size, by simp [g0.add], .inr ⟨w.heap.size, rfl, N, cells, (0, 0), by rw [List.length_replicate], by rw [List.length_replicate]; exact Nat.le_refl _, by unfold maxLen; omega,
   by { have hel0 := (hT _ _ ht).el; dsimp only at hel0; rw [hel0]; exact heap_alloc_new w _ }, Or.inl rfl, by rw [hcz]; exact Nat.le_refl _, fun i hi => ?_⟩⟩ hk hkk hrun
  rw [List.length_replicate] at hi
  rw [List.getElem_replicate]
  refine ⟨G6 e, (l0.zero _ _ e), fun j u hu => ?_⟩
  have hj : j < e.cells := by
   have := (List.getElem?_eq_some_iff.1 hu).1
   rwa [(l0.zero I w e).len] at this
  have hlt : i * e.cells + j < N * e.cells := by
   have := Nat.mul_le_mul_right e.cells (show i + 1 ≤ N by omega)
   rw [Nat.succ_mul] at this; omega
  rw [← hcells]
  have hmod : (i * e.cells + j) % e.cells = j := by rw [Nat.mul_comm, Nat.mul_add_mod, Nat.mod_eq_of_lt hj]
  simp only [Array.getElem?_map, Array.getElem?_range, hlt, if_true, Option.map_some, hzs, hmod]
  have hu2 : (q0 e).cells[j]? = some u := by rw [← Array.getElem?_toList, hzl]; exact hu
  simp [getElem!_def, hu2]
 ·cases h
end
end Go.VE
namespace Go.VE
variable [M9]
open Go Go.RowKit Go.Lib
section
variable {P : Program} {tb : Tab} {Γ : Nat → Option App} {Kp : Int → St → Prop} {w0 : World} {F : Nat → Prop} {Fn : Nat → Option Nat} {I0 : Nat → Prop} {W : Nat → Prop} {Zc : Nat → Option Obj} {G : g0} {I : Nat → Prop}
 {st : St} {tm : Array Value} {ds : List Deferred} {w : World} {k : St → Prop} {next : Act → World → Prop} {Q : Exit → Act → World → Prop} {o : Oper}
/-! ### structs -/
theorem a30 : ∀ (l : List Field), (∀ f ∈ l, ∃ tf, tb.get f.type = some tf ∧ p8 P tb f.type tf) →
  ∃ pl, l.mapM (fun f => (P.info? f.type).map fun i => (f.offset, i.size)) = some pl ∧ ∀ (i : Nat) f tf, l[i]? = some f → tb.get f.type = some tf → pl[i]? = some (f.offset, tf.ty.cells)
 | [], _ => ⟨[], rfl, fun i f tf h _ => by simp at h⟩
 | f :: l, h => by
  obtain ⟨pl, h1, h2⟩ := a30 l (fun f hf => h f (List.mem_cons_of_mem _ hf))
  obtain ⟨tf, ht, hs⟩ := h f List.mem_cons_self
  obtain ⟨i0, hi, hz, _⟩ := hs.info
  refine ⟨(f.offset, tf.ty.cells) :: pl, by simp [List.mapM_cons, hi, hz, h1], fun i g tg hg htg => ?_⟩
  cases i with
  | zero => simp at hg; subst hg; rw [ht] at htg; injection htg with e; subst e; rfl
  | succ i => simpa using h2 i g tg (by simpa using hg) htg
theorem a4J : ∀ {ps : List (Nat × Operand)} {cs : List (Nat × Cell)}, parts st ps = some cs →
  cs.length = ps.length ∧ ∀ (i j : Nat) (x : Operand), ps[i]? = some (j, x) → ∃ c, cs[i]? = some (j, c) ∧ a3f (st.ev x) = some c
 | [], cs, h => by simp only [parts, Option.some.injEq] at h; subst h; exact ⟨rfl, fun i j x h => by simp at h⟩
 | (j0, x0) :: ps, cs, h => by
  simp only [parts] at h
  split at h
  ·cases h
  ·rename_i c hc
   split at h
   ·cases h
   ·rename_i cs' hcs
    simp only [Option.some.injEq] at h; subst h
    obtain ⟨h1, h2⟩ := a4J hcs
    refine ⟨by simp [h1], fun i j x hx => ?_⟩
    cases i with
    | zero => simp at hx; obtain ⟨rfl, rfl⟩ := hx; exact ⟨c, rfl, hc⟩
    | succ i => simpa using h2 i j x (by simpa using hx)
theorem a3X {a : Ty} {place : Nat → Option (Nat × Nat)} (hp : ∀ n o u, g9 a n = some (o, u) → place n = some (o, u.cells)) :
  ∀ (cs : List (Nat × Cell)) (vs : List (Nat × Value)) (x y : a.den) (cur : Array Value), a1l a cs x = some y → l0 I w a x cur.toList → cs.length = vs.length →
   (∀ (i j : Nat) (c : Cell), cs[i]? = some (j, c) → ∃ v : Value, vs[i]? = some (j, v) ∧ l0 I w c.t c.x v.cells.toList) →
   ∃ cells, Instr.fill place cur vs = some cells ∧ l0 I w a y cells.toList
 | [], [], x, y, cur, h, hr, _, _ => by
  simp only [a1l, Option.some.injEq] at h; subst h
  exact ⟨cur, rfl, hr⟩
 | [], _ :: _, _, _, _, _, _, hl, _ => by simp at hl
 | (_, _) :: _, [], _, _, _, _, _, hl, _ => by simp at hl
 | (j, c) :: cs, (j', v) :: vs, x, y, cur, h, hr, hl, hv => by
  obtain ⟨v', h1, hrep⟩ := hv 0 j c rfl
  simp at h1
  obtain ⟨rfl, rfl⟩ := h1
  simp only [a1l] at h
  split at h
  ·rename_i z hz
   obtain ⟨o, ho, _, hs⟩ := a6c hz
   obtain ⟨pre, mid, post, g1, g2, g3, g4⟩ := hs I w cur.toList hr
   have hlen : v.cells.size = c.t.cells := by rw [← Array.length_toList]; exact hrep.len
   have hfit : o + c.t.cells ≤ cur.size := by
    have := congrArg List.length g1
    simp only [Array.length_toList, List.length_append] at this
    omega
   obtain ⟨cur', k1, k2, _⟩ := a5g place cur j' v vs o c.t.cells (hp _ _ _ ho) hlen hfit
   have e : cur'.toList = pre ++ v.cells.toList ++ post := by
    rw [k2, g1, ← g2, ← g3]
    simp [List.append_assoc]
   have hr' : l0 I w a z cur'.toList := by rw [e]; exact g4 I w v.cells.toList (p5.refl _ _) hrep
   obtain ⟨cells, m1, m2⟩ := a3X hp cs vs z y cur' h hr' (by simpa using hl) (fun i j c h => by simpa using hv (i + 1) j c (by simpa using h))
   exact ⟨cells, by rw [k1, m1], m2⟩
  ·cases h
theorem a6f (hT : o4 P tb) {t : TypeId} {ps : Array (Nat × Operand)} (hop : o.op = .build t ps) (hI : Inv w0 F Fn I0 W Zc G I st tm w) (hk : p6 w0 F Fn I0 W Zc ds k next) (h : opk tb Γ Kp o st k) : o.wp P ⟨tm, ds⟩ w next Q := by
 unfold opk at h
 rw [hop] at h
 dsimp only at h
 split at h
 ·rename_i a el fts by_ ht
  split at h
  ·cases h
  ·rename_i cs hcs
   split at h
   ·cases h
   ·rename_i x hx
    obtain ⟨G1, I1, h1, hl1, hb1, _, hpl⟩ := hI.layAll (st := st) (G := G) (ps.toList.map (·.2)) (G4.refl G I) (fun _ _ h _ => h) (fun k b hk => .inl hk)
    have hts := hT t _ ht
    obtain ⟨fs, hu, hfs, hall⟩ := hts.st a rfl
    obtain ⟨i, hi, _, _, hz⟩ := hts.info
    obtain ⟨pl, hpl1, hpl2⟩ := a30 (P := P) (tb := tb) fs.toList (fun f hf => by obtain ⟨tf, htf⟩ := hall f hf; exact ⟨tf, htf, hT _ _ htf⟩)
    obtain ⟨hcl, hcp⟩ := a4J hcs
    have hzc : (q0 (.st a)).cells.toList = G6 a := by simp [q0, Ty.agg, Value.cells, G6]
    obtain ⟨cells, hf, hrep⟩ := a3X (I := I1) (w := w) (a := a) (place := fun n => pl.toArray[n]?) (fun n oo u hn => by
      obtain ⟨f, tf, q1, q2, q3, q4⟩ := hfs n u oo hn
      have := hpl2 n f tf (by simpa using q1) q3
      simpa [q2, q4] using this)
     cs (ps.toList.map fun q => (q.1, (Act.mk tm ds).eval q.2)) a.dflt x (q0 (.st a)).cells hx (by rw [hzc]; exact l0.zero I1 w a) (by rw [hcl, List.length_map])
     (fun i j c hc => by
      have hlt : i < ps.toList.length := by
       rw [← hcl]
       rcases Nat.lt_or_ge i cs.length with h | h
       ·exact h
       ·rw [List.getElem?_eq_none h] at hc; cases hc
      rcases hq : ps.toList[i] with ⟨j', y⟩
      have hq' : ps.toList[i]? = some (j', y) := by rw [List.getElem?_eq_getElem hlt, hq]
      obtain ⟨c', g1, g2⟩ := hcp i j' y hq'
      rw [hc] at g1; simp only [Option.some.injEq, Prod.mk.injEq] at g1
      obtain ⟨rfl, rfl⟩ := g1
      exact ⟨_, by rw [List.getElem?_map, hq']; rfl, (a4v g2 (hI.ev y ds) hl1.sub (fun k et e z hown => hpl y (List.mem_map.2 ⟨(j, y), List.mem_of_getElem? hq', rfl⟩) k (by rw [hown]; rfl))).list⟩)
    refine fin (st := VE.layAll st (ps.toList.map (·.2)) st) h1 (s := .v (.st a) x) (v := .agg cells) ?_ hk h ?_
    ·have hq : g6 I1 w (.st a) x (.agg cells.toList.toArray) := g6.of_agg (t := .st a) (x := x) rfl hrep
     exact hq
    ·unfold execOp; rw [hop]
     have hbt : P.built t (ps.map fun q => (q.1, (Act.mk tm ds).eval q.2)).toList = some cells := by
      unfold Program.built
      simp only [hi, hu, hz, hpl1]
      simpa using hf
     simp only [Sem.run_bind, run_build w t _ cells hbt, Result.andThen_ok, Sem.run_pure]
 ·cases h
theorem a5b {x : Operand} {i : Nat} (hop : o.op = .extract x i) (hI : Inv w0 F Fn I0 W Zc G I st tm w) (hk : p6 w0 F Fn I0 W Zc ds k next) (h : opk tb Γ Kp o st k) : o.wp P ⟨tm, ds⟩ w next Q := by
 unfold opk at h
 rw [hop] at h
 dsimp only at h
 have hs := hI.ev x ds
 split at h
 ·rename_i xs hx
  rw [hx] at hs
  obtain ⟨vs, hv, hz, hr⟩ := hs
  have hget : ∀ y, xs[i]? = some y → ∃ u, vs[i]? = some u ∧ a4q G I w y u := by
   intro y hy
   have hlt : i < vs.size := by
    rw [hz]
    rcases Nat.lt_or_ge i xs.length with h | h
    ·exact h
    ·rw [List.getElem?_eq_none h] at hy; cases hy
   exact ⟨vs[i], by simp [hlt], hr i y _ hy (by simp [hlt])⟩
  split at h
  ·rename_i t y hy
   obtain ⟨u, hu, hrel⟩ := hget _ hy
   exact fin hI (s := .v t y) hrel hk h (by unfold execOp; rw [hop]; simp [Instr.extract, hv, hu])
  ·rename_i n et e y hy
   obtain ⟨u, hu, hrel⟩ := hget _ hy
   exact fin hI (s := .own n et e y) hrel hk h (by unfold execOp; rw [hop]; simp [Instr.extract, hv, hu])
  ·cases h
 ·cases h
/-! ### conversions -/
theorem g6.sl_le {I : Nat → Prop} {e : Ty} {xs : List e.den} {v : Value} (h : g6 I w (.sl e) xs v) : xs.length ≤ maxLen := by
 obtain ⟨A, cap, _, hl, hm2, _⟩ := g6.sl_eq h; omega
theorem a5Y {I : Nat → Prop} {xs : List Int} {b o1 : Nat} (h : ∀ i (hi : i < xs.length), ∃ cs, l0 I w (.int .u8) (xs[i] : Int) cs ∧ ∀ j v, cs[j]? = some v → w.cell? ⟨b, o1 + i * 1 + j, none⟩ = some v) :
  (∀ n ∈ xs, inR .u8 n) ∧ ∀ j v, (xs.map (Value.int .u8))[j]? = some v → w.cell? ((⟨b, o1, none⟩ : Addr).add j) = some v := by
 constructor
 ·intro n hn
  obtain ⟨i, hi, e⟩ := List.getElem_of_mem hn
  obtain ⟨cs, hc, _⟩ := h i hi
  rw [← e]; exact hc.1
 ·intro j v hj
  rw [List.getElem?_map] at hj
  cases hx : xs[j]? with
  | none => rw [hx] at hj; cases hj
  | some n =>
   rw [hx] at hj; simp at hj
   have hlt : j < xs.length := by
    rcases Nat.lt_or_ge j xs.length with h | h
    ·exact h
    ·rw [List.getElem?_eq_none h] at hx; cases hx
   obtain ⟨cs, hc, hcell⟩ := h j hlt
   have en : xs[j] = n := by rw [List.getElem?_eq_getElem hlt] at hx; simpa using hx
   have := hcell 0 (.int .u8 n) (by rw [hc.2, en]; rfl)
   rw [C2, ← hj]
   simpa using this
theorem a3d : ∀ (ns : List Int) (s : ByteArray), (∀ n ∈ ns, inR .u8 n) → bytesOf (ns.foldl (fun r n => r.push (UInt8.ofNat n.toNat)) s) = bytesOf s ++ ns
 | [], s, _ => by simp
 | n :: ns, s, h => by
  have hn := h n List.mem_cons_self
  rw [List.foldl_cons, a3d ns _ (fun m hm => h m (List.mem_cons_of_mem _ hm))]
  have e : bytesOf (s.push (UInt8.ofNat n.toNat)) = bytesOf s ++ [n] := by
   simp only [bytesOf, ByteArray.data_push, Array.toList_push, List.map_append, List.map_cons, List.map_nil, List.append_cancel_left_eq, List.cons.injEq, and_true]
   simp only [inR, a03, a02] at hn
   have : (UInt8.ofNat n.toNat).toNat = n.toNat := by
    rw [UInt8.toNat_ofNat']; omega
   rw [this]; omega
  rw [e, List.append_assoc]; rfl
theorem a2j (hT : o4 P tb) {s t : Nat} {si ti : TI} (hs : tb.get s = some si) (ht : tb.get t = some ti) (es : si.ty = .sl (.int .u8)) (et : ti.ty = .str) {I : Nat → Prop} {xs : List Int} {v : Value}
  (h : g6 I w (.sl (.int .u8)) xs v) : ∃ u, (convert s t v).run P w = .ok (.string u) w ∧ bytesOf u = xs := by
 obtain ⟨A, cap, rfl, hl, hm2, hr⟩ := g6.sl_eq h
 obtain ⟨hu, te, hte, hee⟩ := (hT s si hs).sl _ es
 have hue := (hT _ te hte).int .u8 hee
 have hut := (hT t ti ht).str et
 rw [run_convert_bytes_string w s t si.el A _ cap hu hue hut]
 cases A with
 | none =>
  have hx : xs = [] := by
   cases xs with
   | nil => rfl
   | cons n ns => obtain ⟨b, o, hA, _⟩ := hr 0 (by simp); cases hA
  subst hx
  exact ⟨.empty, by simp [Conv.bytesToString], rfl⟩
 | some ad =>
  by_cases hx : xs = []
  ·subst hx
   refine ⟨.empty, ?_, rfl⟩
   have := run_bytesToString (P := P) w ad 0 cap [] (by simp [loadCells, loadCellsFrom])
   simpa using this
  ·have hpos : 0 < xs.length := List.length_pos_iff.2 hx
   obtain ⟨b, o1, hA, _⟩ := hr 0 hpos
   injection hA with hA; subst hA
   obtain ⟨hin, hcells⟩ := a5Y (I := I) (w := w) (xs := xs) (b := b) (o1 := o1) (fun i hi => by
    obtain ⟨b', o', hA', _, cs, hc, _, hj⟩ := hr i hi
    injection hA' with hA'; injection hA' with e1 e2; subst e1; subst e2
    exact ⟨cs, hc, hj⟩)
   have hload := run_loadCells_list (P := P) (w := w) ⟨b, o1, none⟩ (xs.map (Value.int .u8)) hcells
   rw [List.length_map] at hload
   exact ⟨_, run_bytesToString w ⟨b, o1, none⟩ xs.length cap xs hload, by rw [a3d xs _ hin]; rfl⟩
theorem a5p (hT : o4 P tb) {s t : TypeId} {si ti : TI} (hsi : tb.get s = some si) (hti : tb.get t = some ti) {x : Operand} (hop : o.op = .convert s t x) (hI : Inv w0 F Fn I0 W Zc G I st tm w) (hk : p6 w0 F Fn I0 W Zc ds k next) (h : cvk si ti (st.ev x) o.dst st k) : o.wp P ⟨tm, ds⟩ w next Q := by
 have hs := hI.ev x ds
 ·skip
  have hrun : ∀ v w', (convert s t ((Act.mk tm ds).eval x)).run P w = .ok v w' → (execOp (Act.mk tm ds).eval o).run P w = .ok (.value v) w' := by
   intro v w' e; unfold execOp; rw [hop]; simp [e]
  unfold cvk at h
  split at h
  ·rename_i k' kx n hty hx
   rw [hx] at hs
   obtain ⟨_, hv⟩ := g6.int_eq hs
   refine fin hI (s := .v (.int k') (k'.wrap n)) (v := .int k' (k'.wrap n)) (g6.int_mk (S4 _ _)) hk h (hrun _ _ ?_)
   have hu := (hT t ti hti).int k' hty
   obtain ⟨i, hi, _⟩ := (hT s si hsi).info
   have hus : ∃ d, P.underlying s = some d := by
    cases he : si.ty with
    | int k => exact ⟨_, (hT s si hsi).int k he⟩
    | bool => exact ⟨_, (hT s si hsi).bool he⟩
    | str => exact ⟨_, (hT s si hsi).str he⟩
    | sl e => exact ⟨_, ((hT s si hsi).sl e he).1⟩
    | st a => obtain ⟨fs, hf, _⟩ := (hT s si hsi).st a he; exact ⟨_, hf⟩
    | unit => exact absurd he (hT s si hsi).kind.1
    | pair a b => exact absurd he ((hT s si hsi).kind.2.1 a b)
    | osl n a => have h9 := (hT s si hsi).plain; rw [he] at h9; cases h9
    | hole a => have h9 := (hT s si hsi).plain; rw [he] at h9; cases h9
    | arr m9 a => obtain ⟨m8, el, hu9⟩ := (hT s si hsi).arr m9 a he; exact ⟨_, hu9⟩
   obtain ⟨du, hus⟩ := hus
   rw [hv]
   simp [convert, run_underlying hus, run_underlying hu, Conv.intToInt]
  ·rename_i xs hty hx
   rw [hx] at hs
   split at h
   ·rename_i hb
    have hlen := g6.sl_le hs
    obtain ⟨u, hu, rfl⟩ := a2j hT hsi hti (Ty.beq_eq hb) hty hs
    exact fin hI (s := .v .str (bytesOf u)) (g6.str_mk (by rw [← j2]; exact hlen)) hk h (hrun _ _ hu)
   ·cases h
  ·rename_i n et xs hty hx
   rw [hx] at hs
   split at h
   ·rename_i hb
    have hlen := g6.sl_le (R5.rep hs)
    obtain ⟨u, hu, rfl⟩ := a2j hT hsi hti (Ty.beq_eq hb) hty (R5.rep hs)
    exact fin hI (s := .v .str (bytesOf u)) (g6.str_mk (by rw [← j2]; exact hlen)) hk h (hrun _ _ hu)
   ·cases h
  ·rename_i xs hty hx
   rw [hx] at hs
   split at h
   ·rename_i hb
    obtain ⟨u, hv, rfl, hus2⟩ := g6.str_eq hs
    refine fin hI (s := .v .str (bytesOf u)) (g6.str_mk hus2) hk h (hrun _ _ ?_)
    rw [hv]
    simp [convert, run_underlying ((hT s si hsi).str (Ty.beq_eq hb)), run_underlying ((hT t ti hti).str hty)]
   ·cases h
  ·rename_i xs hty hx
   rw [hx] at hs
   split at h
   ·rename_i d hd
    obtain ⟨u, hv, rfl, hus2⟩ := g6.str_eq hs
    obtain ⟨hu, te, hte, hee⟩ := (hT t ti hti).sl _ hty
    have hue := (hT _ te hte).int .u8 hee
    obtain ⟨G1, I1, h1, hsub, hn, _⟩ := hI.rn (nm d 0)
    have hus : ∃ d, P.underlying s = some d := by
     cases he : si.ty with
     | int k => exact ⟨_, (hT s si hsi).int k he⟩
     | bool => exact ⟨_, (hT s si hsi).bool he⟩
     | str => exact ⟨_, (hT s si hsi).str he⟩
     | sl e => exact ⟨_, ((hT s si hsi).sl e he).1⟩
     | st a => obtain ⟨fs, hf, _⟩ := (hT s si hsi).st a he; exact ⟨_, hf⟩
     | unit => exact absurd he (hT s si hsi).kind.1
     | pair a b => exact absurd he ((hT s si hsi).kind.2.1 a b)
     | osl n a => have h9 := (hT s si hsi).plain; rw [he] at h9; cases h9
     | hole a => have h9 := (hT s si hsi).plain; rw [he] at h9; cases h9
     | arr m9 a => obtain ⟨m8, el, hu9⟩ := (hT s si hsi).arr m9 a he; exact ⟨_, hu9⟩
    obtain ⟨du, hus⟩ := hus
    have hr := run_convert_string_bytes (P := P) w s t ti.el u hus hu hue
    have hcap : u.size ≤ grownCap w u.size 0 ti.el := grownCap_ge w u.size 0 ti.el
    have hsz := bytesWorld_size w ti.el u
    have h2 := h1.grow (w' := bytesWorld w ti.el u) (by rw [hsz]; omega) (fun b hb => bytesWorld_at_old w ti.el u b hb) rfl rfl rfl
    have h3 := h2.add (k := nm d 0) (o := .tok (some w.heap.size)) hn (nm7 d 0 (by omega)) (fun b hb => by
     injection hb with e; subst e
     exact ⟨fun hI => absurd (h1.lt _ hI) (Nat.lt_irrefl _), by rw [hsz]; omega, .of h1.since.size, fun j o' hj e => absurd (h1.own j o' _ hj e).2.1 (Nat.lt_irrefl _)⟩) (fun b hb => by
     injection hb with e; subst e
     cases hz : Zc w.heap.size with
     | none => rfl
     | some ob => have := (h1.hold _ ob hz).1; simp at this)
    refine a6y (s := .own (nm d 0) (eM ti.el) (.int .u8) (bytesOf u)) hd h3 ⟨some w.heap.size, by simp [g0.add], .inr ⟨w.heap.size, rfl, _, _, _, by rw [j2], by rw [j2]; exact hcap, grownCap_le_maxLen w _ _ _ hus2, by { rw [a74, (hT t ti hti).el]; exact bytesWorld_at_new w ti.el u }, a5t.eM (Or.inr (by first | exact Nat.le_refl _ | (dsimp only; omega))), ?_, fun i hi => ?_⟩⟩ hk h (hrun _ _ (by rw [hv]; exact hr))
    ·simp only [bytesCells, Array.size_append, Array.size_map, Array.size_replicate, Ty.cells, Nat.mul_one]
     have : u.data.size = u.size := rfl
     omega
    ·rw [j2] at hi
     have hi2 : i < u.data.size := hi
     have hlt := (u.data[i]).toNat_lt
     have hb : (bytesCells w ti.el u)[i]? = some (.int .u8 ((u.data[i]).toNat : Int)) := by
      have hi3 : i < u.size := hi2
      simp [bytesCells, Array.getElem?_append, hi3]
     have he : (bytesOf u)[i]'(by rw [j2]; exact hi) = ((u.data[i]).toNat : Int) := by simp [bytesOf]
     refine ⟨[.int .u8 ((u.data[i]).toNat : Int)], ⟨?_, ?_⟩, fun j v hj => ?_⟩
     ·rw [he]; constructor <;> simp only [a03, a02] <;> omega
     ·rw [he]
     ·have hj0 : j = 0 := by
       rcases Nat.lt_or_ge j 1 with h | h
       ·omega
       ·rw [List.getElem?_eq_none (by simpa using h)] at hj; cases hj
      subst hj0
      rw [← hj]
      simpa [Ty.cells] using hb
   ·cases h
  ·cases h
theorem a2L (w : World) (b : Nat) (f : Obj → Obj) (j : Nat) : ({ w with heap := w.heap.modify b f } : World).heap[j]? = if b = j then (w.heap[j]?).map f else w.heap[j]? := by
 simp only [Array.getElem?_modify]
theorem a7I (hT : o4 P tb) {s : TypeId} {ti : TI} (hti : tb.get s = some ti) {x : Operand} (hop : o.op = .convert s s x) (hI : Inv w0 F Fn I0 W Zc G I st tm w) (hk : p6 w0 F Fn I0 W Zc ds k next) (h : cvs ti ti (st.ev x) o.dst st k) : o.wp P ⟨tm, ds⟩ w next Q := by
 unfold cvs at h
 split at h
 ·rename_i n et xs hx
  split at h
  ·rename_i hb
   obtain ⟨hc, h⟩ := o5 h
   have hpos : 0 < xs.length := of_decide_eq_true hc
   have hs := hI.ev x ds
   rw [hx] at hs
   obtain ⟨bo, hG, ⟨_, _, rfl⟩ | ⟨b, rfl, cap, cur, fr, hv, hl, hm, hh, hfr, hz, hr⟩⟩ := hs
   ·exact absurd hpos (Nat.lt_irrefl 0)
   obtain ⟨hu, te, hte, hee⟩ := (hT s ti hti).sl _ (Ty.beq_eq hb)
   have hue := (hT _ te hte).int .u8 hee
   have hsh : w.shape? b = some (eR et, cur.size) := by simp [World.shape?, hh]
   let g : Obj → Obj := fun
    | .cells c elem (lo, hi) => .cells c elem (if lo == hi then (cur.size, cur.size + 1) else (min lo cur.size, max hi (cur.size + 1)))
    | o => o
   have hrun : (execOp (Act.mk tm ds).eval o).run P w = .ok (.value (.slice (some ⟨b, 0, none⟩) xs.length cap)) { w with heap := w.heap.modify b g } := by
    unfold execOp; rw [hop]
    simp [hv, convert, run_underlying hu, run_underlying hue, markStringish, hsh]
    rfl
   have hnew : ({ w with heap := w.heap.modify b g } : World).heap[b]? = some (.cells cur (eR et) (if fr.1 == fr.2 then (cur.size, cur.size + 1) else (min fr.1 cur.size, max fr.2 (cur.size + 1)))) := by
    rw [a2L, if_pos rfl, hh]; rfl
   have hfr' : a3A (if fr.1 == fr.2 then (cur.size, cur.size + 1) else (min fr.1 cur.size, max fr.2 (cur.size + 1))) cur.size := by
    have hfr := hfr.no
    unfold a3A at hfr ⊢
    by_cases e : fr.1 = fr.2
    ·simp [e]
    ·simp only [beq_iff_eq, e, if_false]
     omega
   have hb0 := hI.own n _ b hG rfl
   have h1 := (hI.kl n).touch (b := b) (w' := { w with heap := w.heap.modify b g }) (hsh := fun _ e9 _ q1 _ q2 => by
    rw [hh] at q1; injection q1 with q1; injection q1 with q3 q4 _; subst q3; subst q4
    exact ⟨cur, _, hnew, rfl, hfr'⟩) hb0.1 (fun k o hk e2 => by
    obtain ⟨hne, hk⟩ := g0.del_of hk
    exact hne (hI.inj k n o _ b hk hG e2 rfl)) (hI.tok_new hG) (hI.tok_free hG) (by simp) (fun j hj => by rw [a2L, if_neg (Ne.symm hj)]) rfl rfl rfl
   have h2 := h1.add (k := n) (o := .tok (some b)) (by simp [g0.del]) (hI.seven n _ hG) (fun b' hb' => by
    injection hb' with e2; subst e2
    refine ⟨hb0.1, by simpa using hb0.2.1, hI.tok_new hG, fun j o' hj e2 => ?_⟩
    obtain ⟨hne, hj⟩ := g0.del_of hj
    exact hne (hI.inj j n o' _ b hj hG e2 rfl)) (fun b' hb' => by injection hb' with e2; subst e2; exact hI.tok_free hG)
   refine fin (st := st.kl n) h2 (s := .own n (eM et) (.int .u8) xs) (v := .slice (some ⟨b, 0, none⟩) xs.length cap) ⟨some b, by simp [g0.add], .inr ⟨b, rfl, cap, cur, _, rfl, hl, hm, by rw [a74]; exact hnew, a5t.eM hfr', hz, fun i hi => ?_⟩⟩ hk h hrun
   obtain ⟨cs, hc, hj⟩ := hr i hi
   exact ⟨cs, hc.flat rfl, hj⟩
  ·cases h
 ·rename_i hne
  exact a5p hT hti hti hop hI hk h
theorem a5a (hT : o4 P tb) {s t : TypeId} {x : Operand} (hop : o.op = .convert s t x) (hI : Inv w0 F Fn I0 W Zc G I st tm w) (hk : p6 w0 F Fn I0 W Zc ds k next) (h : opk tb Γ Kp o st k) : o.wp P ⟨tm, ds⟩ w next Q := by
 unfold opk at h
 rw [hop] at h
 dsimp only at h
 split at h
 ·rename_i si ti hsi hti
  split at h
  ·rename_i e
   have e := Nat.eq_of_beq_eq_true e
   subst e
   rw [hsi] at hti; injection hti with hti; subst hti
   exact a7I hT hsi hop hI hk h
  ·exact a5p hT hsi hti hop hI hk h
 ·cases h
end
end Go.VE
namespace Go.VE
variable [M9]
open Go Go.RowKit Go.Lib
section
variable {P : Program} {tb : Tab} {Γ : Nat → Option App} {Kp : Int → St → Prop} {w0 : World} {F : Nat → Prop} {Fn : Nat → Option Nat} {I0 : Nat → Prop} {W : Nat → Prop} {Zc : Nat → Option Obj} {G : g0} {I : Nat → Prop}
 {st : St} {tm : Array Value} {ds : List Deferred} {w : World} {k : St → Prop} {next : Act → World → Prop} {Q : Exit → Act → World → Prop} {o : Oper}
/-! ### append -/
/-- the cells of a row's elements, one behind the other -/
theorem a6z {I : Nat → Prop} {e : Ty} : ∀ (ys : List e.den) (cell : Nat → Option Value), (∀ i (h : i < ys.length), ∃ cs, l0 I w e ys[i] cs ∧ ∀ j v, cs[j]? = some v → cell (i * e.cells + j) = some v) →
  ∃ news : List Value, news.length = ys.length * e.cells ∧ (∀ j v, news[j]? = some v → cell j = some v) ∧ (∀ v ∈ news, v.oneCell' = true) ∧
   ∀ i (h : i < ys.length), ∃ cs, l0 I w e ys[i] cs ∧ ∀ j u, cs[j]? = some u → news[i * e.cells + j]? = some u
 | [], cell, _ => ⟨[], by simp, fun j v h => by simp at h, by intro v hv; simp at hv, fun i hi => absurd hi (Nat.not_lt_zero i)⟩
 | y :: ys, cell, h => by
  obtain ⟨cs0, h0, hc0⟩ := h 0 (by simp)
  obtain ⟨news, h1, h2, h3, h4⟩ := a6z ys (fun n => cell (e.cells + n)) (fun i hi => by
   obtain ⟨cs, hr, hj⟩ := h (i + 1) (by simpa using hi)
   exact ⟨cs, hr, fun j v hv => by have := hj j v hv; rw [Nat.succ_mul] at this; rw [show e.cells + (i * e.cells + j) = i * e.cells + e.cells + j by omega]; exact this⟩)
  have hl0 : cs0.length = e.cells := h0.len
  refine ⟨cs0 ++ news, by rw [List.length_append, hl0, h1, List.length_cons, Nat.succ_mul]; omega, fun j v hj => ?_, fun v hv => ?_, fun i hi => ?_⟩
  ·rcases Nat.lt_or_ge j cs0.length with hlt | hge
   ·rw [List.getElem?_append_left hlt] at hj
    have := hc0 j v hj
    simpa using this
   ·rw [List.getElem?_append_right hge] at hj
    have := h2 _ v hj
    rw [← hl0, Nat.add_sub_cancel' hge] at this
    exact this
  ·rcases List.mem_append.1 hv with hv | hv
   ·exact h0.oneCell v hv
   ·exact h3 v hv
  ·cases i with
   | zero =>
    refine ⟨cs0, h0, fun j u hu => ?_⟩
    have hlt : j < cs0.length := by
     rcases Nat.lt_or_ge j cs0.length with h | h
     ·exact h
     ·rw [List.getElem?_eq_none h] at hu; cases hu
    simp only [Nat.zero_mul, Nat.zero_add]
    rw [List.getElem?_append_left hlt]; exact hu
   | succ i =>
    obtain ⟨cs, hr, hj⟩ := h4 i (by simpa using hi)
    refine ⟨cs, hr, fun j u hu => ?_⟩
    rw [List.getElem?_append_right (by rw [hl0, Nat.succ_mul]; omega), hl0, show (i + 1) * e.cells + j - e.cells = i * e.cells + j by rw [Nat.succ_mul]; omega]
    exact hj j u hu
/-- the source of an append: so many elements, whose cells are read -/
structure Src (P : Program) (I : Nat → Prop) (w : World) (t' : Nat) (e : Ty) (ys : List e.den) (v : Value) (news : List Value) : Prop where
 ty : ∃ d, P.underlying t' = some d ∧ ∀ k, d ≠ .int k
 len : ∀ n, (Builtin.lenOf v).run P { w with drawn := n } = .ok ys.length { w with drawn := n }
 cells : ∀ n, (Builtin.firstCells e.cells ys.length v).run P { w with drawn := n } = .ok news.toArray { w with drawn := n }
 size : news.length = ys.length * e.cells
 one : ∀ u ∈ news, u.oneCell' = true
 rep : ∀ i (h : i < ys.length), ∃ cs, l0 I w e ys[i] cs ∧ ∀ j u, cs[j]? = some u → news[i * e.cells + j]? = some u
theorem a7K {I : Nat → Prop} {t' el : Nat} {e : Ty} {ys : List e.den} {A : Option Addr} {cap : Nat} (hu : P.underlying t' = some (.slice el))
  (h : ∀ i (hi : i < ys.length), ∃ b o, A = some ⟨b, o, none⟩ ∧ ∃ cs, l0 I w e ys[i] cs ∧ ∀ j v, cs[j]? = some v → w.cell? ⟨b, o + i * e.cells + j, none⟩ = some v) :
  ∃ news, Src P I w t' e ys (.slice A ys.length cap) news := by
 by_cases hy : ys = []
 ·subst hy
  refine ⟨[], ⟨⟨_, hu, fun k h => by cases h⟩, fun n => by simp [Builtin.lenOf], fun n => ?_, by simp, by intro u hu; simp at hu, fun i hi => absurd hi (Nat.not_lt_zero i)⟩⟩
  cases A <;> simp [Builtin.firstCells, loadCells, loadCellsFrom]
 ·have hpos : 0 < ys.length := List.length_pos_iff.2 hy
  obtain ⟨b, o1, rfl, _⟩ := h 0 hpos
  obtain ⟨news, h1, h2, h3, h4⟩ := a6z (I := I) (w := w) ys (fun n => w.cell? ⟨b, o1 + n, none⟩) (fun i hi => by
   obtain ⟨b', o', hA, cs, hr, hj⟩ := h i hi
   injection hA with hA; injection hA with e1 e2; subst e1; subst e2
   exact ⟨cs, hr, fun j v hv => by rw [← Nat.add_assoc]; exact hj j v hv⟩)
  refine ⟨news, ⟨⟨_, hu, fun k h => by cases h⟩, fun n => by simp [Builtin.lenOf], fun n => ?_, h1, h3, h4⟩⟩
  exact run_firstCells_some (P := P) { w with drawn := n } e.cells ys.length ⟨b, o1, none⟩ ys.length cap news h1 (fun j v hv => by rw [C2]; exact h2 j v hv)
theorem a4O {t t' ty el : Nat} {e : Ty} {i : TypeInfo} (ht : P.underlying t = some (.slice el)) (hi : P.info? el = some i) (hz : i.zero = some (q0 e)) (hs : i.size = e.cells) (hby : i.bytes ≤ 128)
  {I : Nat → Prop} {ys : List e.den} {vx : Value} {news : List Value} (hsrc : Src P I w t' e ys vx news) :
  ((0 + ys.length ≤ 0 → (Builtin.append_ #[t, t'] ty #[.slice none 0 0, vx]).run P w = .ok (.slice none 0 0) w) ∧
   (0 < ys.length → ys.length ≤ lim → (Builtin.append_ #[t, t'] ty #[.slice none 0 0, vx]).run P w = .ok (.slice (some ⟨w.heap.size, 0, none⟩) ys.length (grownCap w ys.length 0 el))
    (w.drew.alloc (.cells (news.toArray ++ Builtin.zeroCells (q0 e).cells (grownCap w ys.length 0 el - ys.length)) el)))) ∧
  (∀ (b n cap : Nat) (cur : Array Value) (fr : Nat × Nat), w.heap[b]? = some (.cells cur el fr) → a3A fr cur.size → cap * e.cells ≤ cur.size → n ≤ cap →
   (n + ys.length ≤ cap → (Builtin.append_ #[t, t'] ty #[.slice (some ⟨b, 0, none⟩) n cap, vx]).run P w = .ok (.slice (some ⟨b, 0, none⟩) (n + ys.length) cap)
     (w.setRow b (cur.toList.take (n * e.cells) ++ news ++ cur.toList.drop (n * e.cells + news.length)).toArray)) ∧
   (cap < n + ys.length → n + ys.length ≤ lim → (Builtin.append_ #[t, t'] ty #[.slice (some ⟨b, 0, none⟩) n cap, vx]).run P w = .ok (.slice (some ⟨w.heap.size, 0, none⟩) (n + ys.length) (grownCap w (n + ys.length) cap el))
    (w.drew.alloc (.cells ((cur.toList.take (n * e.cells)).toArray ++ news.toArray ++ Builtin.zeroCells (q0 e).cells (grownCap w (n + ys.length) cap el - (n + ys.length))) el)))) := by
 obtain ⟨d, hd, hdk⟩ := hsrc.ty
 have hlen : (Builtin.lenOf vx).run P w = .ok ys.length w := hsrc.len w.drawn
 have hc : (Builtin.firstCells e.cells ys.length vx).run P w = .ok news.toArray w := hsrc.cells w.drawn
 have hcd : (Builtin.firstCells e.cells ys.length vx).run P w.drew = .ok news.toArray w.drew := hsrc.cells (w.drawn + 1)
 refine ⟨⟨fun h0 => ?_, fun h0 hl => ?_⟩, fun b n cap cur fr hb hfr hcs hn => ⟨fun hroom => ?_, fun hgrow hl => ?_⟩⟩
 ·have h0 : ys.length = 0 := by omega
  have hnw : news = [] := List.eq_nil_of_length_eq_zero (by rw [hsrc.size, h0, Nat.zero_mul])
  rw [h0] at hlen hc
  rw [hnw] at hc
  simp [Builtin.append_, run_underlying ht, run_underlying hd, sizeOf, typeInfo, hi, hs, hlen, hc]
 ·have hn0 : ys.length ≠ 0 := by omega
  have h63' : ¬ (9223372036854775807 < (ys.length : Int)) := by unfold lim at hl; omega
  have h48' : ¬ (281474976710656 < Builtin.nextslicecap ys.length 0 * i.bytes) := by
   rw [nextslicecap_zero h0]
   have : ys.length * i.bytes ≤ lim * 128 := Nat.mul_le_mul hl hby
   unfold lim at this; omega
  simp [Builtin.append_, run_underlying ht, run_underlying hd, sizeOf, typeInfo, zeroValue, hi, hz, hs, hlen, hn0, h63', h48', Question.forced, run_firstCells_none, hcd, newRow, grownCap]
 ·have hst : (storeCells ⟨b, n * e.cells, none⟩ news).run P w = .ok () (w.setRow b (cur.toList.take (n * e.cells) ++ news ++ cur.toList.drop (n * e.cells + news.length)).toArray) := by
   have := M7 (P := P) b (n * e.cells) el fr news 0 cur w hb (by
    rw [hsrc.size, Nat.add_zero, ← Nat.add_mul]; exact Nat.le_trans (Nat.mul_le_mul_right _ hroom) hcs) hsrc.one hfr
   simpa using this
  simp [Builtin.append_, run_underlying ht, run_underlying hd, sizeOf, typeInfo, hi, hs, hlen, hroom, hc, C2, hst]
 ·have hn0 : ¬ (n + ys.length ≤ cap) := by omega
  have h63' : ¬ (9223372036854775807 < ((n : Int) + (ys.length : Int))) := by unfold lim at hl; omega
  have h48' : ¬ (281474976710656 < Builtin.nextslicecap (n + ys.length) cap * i.bytes) := by
   have h1 := nextslicecap_le hgrow
   have : Builtin.nextslicecap (n + ys.length) cap * i.bytes ≤ (2 * lim) * 128 := Nat.mul_le_mul (by omega) hby
   unfold lim at this; omega
  have hol : (cur.toList.take (n * e.cells)).length = n * i.size := by
   rw [hs, List.length_take, Array.length_toList, Nat.min_eq_left (Nat.le_trans (Nat.mul_le_mul_right _ hn) hcs)]
  have hfo := run_firstCells_some (P := P) w.drew i.size n ⟨b, 0, none⟩ n cap (cur.toList.take (n * e.cells)) hol (fun j v hj => by
   rw [C2, Nat.zero_add]
   rw [List.getElem?_take] at hj
   split at hj
   ·rw [cell_of_row w.drew b j cur el fr hb]; simpa using hj
   ·cases hj)
  rw [hs] at hfo
  simp [Builtin.append_, run_underlying ht, run_underlying hd, sizeOf, typeInfo, zeroValue, hi, hz, hs, hlen, hn0, h63', h48', Question.forced, hfo, hcd, newRow, grownCap]
  congr 2
  apply Array.ext'
  simp [List.append_assoc]
theorem a6s (hT : o4 P tb) {t t' ty : Nat} {ti : TI} {et tok : Nat} {e : Ty} {xs ys : List e.den} {vo vx : Value} {news : List Value} (hti : tb.get t = some ti) (hte : ti.ty = .sl e) (hel : ti.el = eR et) (hsml : a6J tb ti.el = true)
  (hI : Inv w0 F Fn I0 W Zc G I st tm w) (h7 : tok % 8 ≠ 7) (hown : R5 G I w tok et e xs vo) (hsrc : Src P I w t' e ys vx news) (hlim : xs.length + ys.length ≤ lim) :
  ∃ v' w' G', (Builtin.append_ #[t, t'] ty #[vo, vx]).run P w = .ok v' w' ∧ Inv w0 F Fn I0 W Zc G' I (st.kl tok) tm w' ∧ R5 G' I w' tok et e (xs ++ ys) v' := by
 obtain ⟨hu, tei, htei, hee⟩ := (hT t ti hti).sl e hte
 rw [hel] at hu htei hsml
 obtain ⟨i, hi, hs, hby, hz⟩ := (hT _ tei htei).info
 rw [hee] at hs hz
 have hsm : i.bytes ≤ 128 := by
  rw [hby]
  unfold a6J at hsml
  rw [htei] at hsml
  exact Nat.le_of_ble_eq_true hsml
 obtain ⟨⟨n1, n2⟩, n3⟩ := a4O (P := P) (w := w) (t := t) (t' := t') (ty := ty) hu hi hz hs hsm hsrc
 have hkl := hI.kl tok
 have hGn : G.del tok tok = none := by simp [g0.del]
 have hzc : (q0 e).cells.size = e.cells := by
  rw [← Array.length_toList]; exact ((g6.zero (fun _ => True) w e).list).len
 -- a new block that holds olds ++ news
 have fresh : ∀ (olds : List Value) (cap : Nat), olds.length = xs.length * e.cells → xs.length + ys.length ≤ cap → cap ≤ maxLen → (∀ i (h : i < xs.length), ∃ cs, l0 I w e xs[i] cs ∧ ∀ j u, cs[j]? = some u → olds[i * e.cells + j]? = some u) →
   ∃ G', Inv w0 F Fn I0 W Zc G' I (st.kl tok) tm (w.drew.alloc (.cells (olds.toArray ++ news.toArray ++ Builtin.zeroCells (q0 e).cells (cap - (xs.length + ys.length))) (eR et))) ∧
    R5 G' I (w.drew.alloc (.cells (olds.toArray ++ news.toArray ++ Builtin.zeroCells (q0 e).cells (cap - (xs.length + ys.length))) (eR et))) tok et e (xs ++ ys) (.slice (some ⟨w.heap.size, 0, none⟩) (xs.length + ys.length) cap) := by
  intro olds cap hol hc1 hc2 hx
  have h1 := (hkl.drew (w.drawn + 1)).addNew (k := tok) (o := .tok (some w.heap.size)) hGn h7 (.cells (olds.toArray ++ news.toArray ++ Builtin.zeroCells (q0 e).cells (cap - (xs.length + ys.length))) (eR et)) rfl
  refine ⟨_, h1, some w.heap.size, by simp [g0.add], .inr ⟨w.heap.size, rfl, cap, _, (0, 0), by rw [List.length_append], by rw [List.length_append]; exact hc1, hc2, heap_alloc_new w.drew _, Or.inl rfl, ?_, ?_⟩⟩
  ·simp only [Array.size_append, List.size_toArray, size_zeroCells, hzc, hol, hsrc.size]
   rw [← Nat.add_mul, ← Nat.add_mul]
   exact Nat.mul_le_mul_right _ (by omega)
  ·intro q hq
   have hkeep : p5 I I w (w.drew.alloc (.cells (olds.toArray ++ news.toArray ++ Builtin.zeroCells (q0 e).cells (cap - (xs.length + ys.length))) (eR et))) :=
    ⟨fun _ h => h, fun b hb => heap_alloc_old w.drew _ b (hI.lt b hb)⟩
   rw [List.length_append] at hq
   rcases Nat.lt_or_ge q xs.length with hlt | hge
   ·obtain ⟨cs, hr, hj⟩ := hx q hlt
    refine ⟨cs, by rw [List.getElem_append_left hlt]; exact hr.keep hkeep, fun j u hu => ?_⟩
    have h2 := hj j u hu
    have hb : q * e.cells + j < olds.length := by
     rcases Nat.lt_or_ge (q * e.cells + j) olds.length with h | h
     ·exact h
     ·rw [List.getElem?_eq_none h] at h2; cases h2
    rw [Array.getElem?_append_left (by simp; omega), Array.getElem?_append_left (by simpa using hb)]
    simpa using h2
   ·obtain ⟨cs, hr, hj⟩ := hsrc.rep (q - xs.length) (by omega)
    refine ⟨cs, by rw [List.getElem_append_right hge]; exact hr.keep hkeep, fun j u hu => ?_⟩
    have h2 := hj j u hu
    have hb : (q - xs.length) * e.cells + j < news.length := by
     rcases Nat.lt_or_ge ((q - xs.length) * e.cells + j) news.length with h | h
     ·exact h
     ·rw [List.getElem?_eq_none h] at h2; cases h2
    have hq2 : q * e.cells + j = olds.length + ((q - xs.length) * e.cells + j) := by
     rw [hol, ← Nat.add_assoc, ← Nat.add_mul]; congr 2; omega
    rw [hq2, Array.getElem?_append_left (by simp; omega), Array.getElem?_append_right (by simp)]
    simpa using h2
 obtain ⟨bo, hG, ⟨rfl, rfl, rfl⟩ | ⟨b, rfl, cap, cur, fr, rfl, hl, hm, hh, hfr, hz2, hr⟩⟩ := hown
 ·by_cases hy : ys.length = 0
  ·have hy' : ys = [] := List.eq_nil_of_length_eq_zero hy
   subst hy'
   refine ⟨_, w, _, n1 (by simp), hkl.add (k := tok) (o := .tok none) hGn h7 (fun b hb => by cases hb) (fun b hb => by cases hb), none, by simp [g0.add], .inl ⟨rfl, rfl, rfl⟩⟩
  ·have hl2 : ys.length ≤ lim := by simpa using hlim
   have := fresh [] (grownCap w ys.length 0 (eR et)) (by simp) (by simpa using grownCap_ge w ys.length 0 (eR et)) (grownCap_le_maxLen w _ _ _ (by unfold lim at hl2; unfold maxLen; omega)) (fun i hi => absurd hi (Nat.not_lt_zero i))
   obtain ⟨G', h1, h2⟩ := this
   refine ⟨_, _, G', n2 (by omega) hl2, ?_, ?_⟩
   ·simpa using h1
   ·simpa using h2
 ·have hb0 := hI.own tok _ b hG rfl
  have hcl : cap * e.cells ≤ cur.toList.length := by rw [Array.length_toList]; exact hz2
  have hcll : cur.toList.length = cur.size := Array.length_toList
  have hnew : Fr w0 F Fn b := hI.tok_new hG
  obtain ⟨n4, n5⟩ := n3 b xs.length cap cur fr hh hfr.no hz2 hl
  by_cases hroom : xs.length + ys.length ≤ cap
  ·generalize hcur' : (cur.toList.take (xs.length * e.cells) ++ news ++ cur.toList.drop (xs.length * e.cells + news.length)).toArray = cur' at n4
   have hxl : (cur.toList.take (xs.length * e.cells)).length = xs.length * e.cells := by
    rw [List.length_take, Nat.min_eq_left (Nat.le_trans (Nat.mul_le_mul_right _ hl) hcl)]
   have hfit : xs.length * e.cells + news.length ≤ cur.size := by rw [hsrc.size, ← Nat.add_mul]; exact Nat.le_trans (Nat.mul_le_mul_right _ hroom) hz2
   have hsz : cur'.size = cur.size := by
    rw [← hcur']
    simp only [List.size_toArray, List.length_append, hxl, List.length_drop, hcll]; omega
   have h1 := hkl.touch (b := b) (w' := w.setRow b cur') (hsh := a3v hh (setRow_heap w b cur cur' _ _ hh) hsz) hb0.1 (fun k o hk e2 => by
    obtain ⟨hne, hk⟩ := g0.del_of hk
    exact hne (hI.inj k tok o _ b hk hG e2 rfl)) hnew (hI.tok_free hG) (by simp) (fun j hj => setRow_other w b j cur' hj) rfl rfl rfl
   have h2 := h1.add (k := tok) (o := .tok (some b)) hGn h7 (fun b' hb' => by
    injection hb' with e2; subst e2
    refine ⟨hb0.1, by simpa using hb0.2.1, hnew, fun j o' hj e2 => ?_⟩
    obtain ⟨hne, hj⟩ := g0.del_of hj
    exact hne (hI.inj j tok o' _ b hj hG e2 rfl)) (fun b' hb' => by injection hb' with e2; subst e2; exact hI.tok_free hG)
   have hkeep : p5 I I w (w.setRow b cur') := ⟨fun _ h => h, fun j hj => setRow_other w b j cur' (by intro e2; subst e2; exact hb0.1 hj)⟩
   refine ⟨_, _, _, n4 hroom, h2, some b, by simp [g0.add], .inr ⟨b, rfl, cap, cur', fr, by rw [List.length_append], by rw [List.length_append]; exact hroom, hm, setRow_heap w b cur cur' _ fr hh, by rw [hsz]; exact hfr, by rw [hsz]; exact hz2, fun q hq => ?_⟩⟩
   rw [List.length_append] at hq
   rcases Nat.lt_or_ge q xs.length with hlt | hge
   ·obtain ⟨cs, hrr, hj⟩ := hr q hlt
    refine ⟨cs, by rw [List.getElem_append_left hlt]; exact hrr.keep hkeep, fun j u hu => ?_⟩
    have h3 := hj j u hu
    have hjl : j < e.cells := by
     rcases Nat.lt_or_ge j e.cells with h | h
     ·exact h
     ·rw [List.getElem?_eq_none (by rw [hrr.len]; exact h)] at hu; cases hu
    have hb2 : q * e.cells + j < xs.length * e.cells := by
     have : (q + 1) * e.cells ≤ xs.length * e.cells := Nat.mul_le_mul_right _ hlt
     rw [Nat.succ_mul] at this; omega
    rw [← hcur', List.getElem?_toArray, List.append_assoc, List.getElem?_append_left (by rw [hxl]; exact hb2), List.getElem?_take, if_pos hb2]
    simpa using h3
   ·obtain ⟨cs, hrr, hj⟩ := hsrc.rep (q - xs.length) (by omega)
    refine ⟨cs, by rw [List.getElem_append_right hge]; exact hrr.keep hkeep, fun j u hu => ?_⟩
    have h3 := hj j u hu
    have hb2 : (q - xs.length) * e.cells + j < news.length := by
     rcases Nat.lt_or_ge ((q - xs.length) * e.cells + j) news.length with h | h
     ·exact h
     ·rw [List.getElem?_eq_none h] at h3; cases h3
    have hq2 : q * e.cells + j = xs.length * e.cells + ((q - xs.length) * e.cells + j) := by
     rw [← Nat.add_assoc, ← Nat.add_mul]; congr 2; omega
    rw [← hcur', List.getElem?_toArray, List.append_assoc, hq2, List.getElem?_append_right (by rw [hxl]; omega), hxl, Nat.add_sub_cancel_left, List.getElem?_append_left hb2]
    exact h3
  ·have hge := grownCap_ge w (xs.length + ys.length) cap (eR et)
   have hol : (cur.toList.take (xs.length * e.cells)).length = xs.length * e.cells := by
    rw [List.length_take, Nat.min_eq_left (Nat.le_trans (Nat.mul_le_mul_right _ hl) hcl)]
   obtain ⟨G', h1, h2⟩ := fresh (cur.toList.take (xs.length * e.cells)) (grownCap w (xs.length + ys.length) cap (eR et)) hol hge (grownCap_le_maxLen w _ _ _ (by unfold lim at hlim; unfold maxLen; omega)) (fun q hq => by
    obtain ⟨cs, hrr, hj⟩ := hr q hq
    refine ⟨cs, hrr, fun j u hu => ?_⟩
    have h3 := hj j u hu
    have hjl : j < e.cells := by
     rcases Nat.lt_or_ge j e.cells with h | h
     ·exact h
     ·rw [List.getElem?_eq_none (by rw [hrr.len]; exact h)] at hu; cases hu
    have hb2 : q * e.cells + j < xs.length * e.cells := by
     have : (q + 1) * e.cells ≤ xs.length * e.cells := Nat.mul_le_mul_right _ hq
     rw [Nat.succ_mul] at this; omega
    rw [List.getElem?_take, if_pos hb2]
    simpa using h3)
   exact ⟨_, _, G', n5 (by omega) hlim, h1, h2⟩
end
end Go.VE
