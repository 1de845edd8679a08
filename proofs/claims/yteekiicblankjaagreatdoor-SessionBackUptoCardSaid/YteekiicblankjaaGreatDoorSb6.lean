import Derived.Test.YteekiicblankjaaGreatDoorSb5
import Derived.OrdersHeld
set_option linter.unusedVariables false
set_option linter.unusedSectionVars false
set_option linter.unusedSimpArgs false
namespace Go.VE
variable [M9]
open Go Go.RowKit Go.Lib
section
variable {P : Program} {tb : Tab} {Γ : Nat → Option App} {Kp : Int → St → Prop} {w0 : World} {F : Nat → Prop} {Fn : Nat → Option Nat} {I0 : Nat → Prop} {W : Nat → Prop} {Zc : Nat → Option Obj} {G : g0} {I : Nat → Prop}
 {st : St} {tm : Array Value} {ds : List Deferred} {w : World} {k : St → Prop} {next : Act → World → Prop} {Q : Exit → Act → World → Prop} {o : Oper}
/-- the worlds in which the stable blocks stand -/
def Sz (Zc : Nat → Option Obj) (w : World) : Prop := ∀ b ob, Zc b = some ob → w.heap[b]? = some ob
theorem Inv.sz (h : Inv w0 F Fn I0 W Zc G I st tm w) : Sz Zc w := fun b ob hz => (h.hold b ob hz).1
/-- all that is plain, and all variables that aren't written, are stable -/
def a7N (W : Nat → Prop) (Zc : Nat → Option Obj) (G : g0) (I : Nat → Prop) (w : World) : Prop :=
 ∀ b, (I b ∨ ∃ n t, G n = some (.box b t) ∧ ¬ W n) → Zc b = w.heap[b]?
open Classical in
noncomputable def a5j (W : Nat → Prop) (Zc : Nat → Option Obj) (G : g0) (I : Nat → Prop) (w : World) : Nat → Option Obj :=
 fun b => if I b ∨ ∃ n t, G n = some (.box b t) ∧ ¬ W n then w.heap[b]? else Zc b
theorem a9y : a7N W (a5j W Zc G I w) G I w := fun b hb => by unfold a5j; rw [if_pos hb]
theorem Inv.full (h : Inv w0 F Fn I0 W Zc G I st tm w) : Inv w0 F Fn I0 W (a5j W Zc G I w) G I st tm w ∧ ∀ w', Sz (a5j W Zc G I w) w' → Sz Zc w' := by
 refine ⟨{ h with hold := fun b ob hb => ?_ }, fun w' hs b ob hb => hs b ob ?_⟩
 ·unfold a5j at hb
  split at hb
  ·rename_i hc
   refine ⟨hb, fun k o hk hbk => ?_⟩
   rcases hc with hc | ⟨n, t, hG, hn⟩
   ·exact absurd hc (h.own k o b hk hbk).1
   ·have := h.inj k n o _ b hk hG hbk rfl
    subst this
    rw [hG] at hk; injection hk with e
    exact ⟨⟨t, e.symm⟩, hn⟩
  ·exact h.hold b ob hb
 ·unfold a5j
  split
  ·exact (h.hold b ob hb).1
  ·exact hb
theorem a41 (hf : a7N W Zc G I w) {w' : World} (hs : Sz Zc w') {b : Nat} (hb : I b ∨ ∃ n t, G n = some (.box b t) ∧ ¬ W n) (hlt : b < w.heap.size) : w'.heap[b]? = w.heap[b]? := by
 have h1 := hf b hb
 have h2 : w.heap[b]? = some w.heap[b] := by simp [hlt]
 rw [h2] at h1
 rw [hs b _ h1, h2]
theorem a36 {ops : Array Oper} {md : Region.Mode} {S S' : World → Prop} (hS : ∀ w, S' w → S w) : ∀ (fuel : Nat) (listed : Array Bool) (a : Act) (w : World), wpAnyH P md ops Q S' fuel listed a w → wpAnyH P md ops Q S fuel listed a w
 | 0, _, _, _, h => h
 | fuel + 1, _, _, _, h => ⟨h.1, fun i hi => wpOp_mono (fun _ _ h' => ⟨hS _ h'.1, a36 hS fuel _ _ _ h'.2⟩) (h.2 i hi)⟩
/-- an operation that but yields a value -/
def Yd (P : Program) (G : g0) (I : Nat → Prop) (w : World) (Zc : Nat → Option Obj) (st : St) (k : St → Prop) (o : Oper) (tm : Array Value) (ds : List Deferred) : Prop :=
 ∃ s v, k (st.put o.dst s) ∧ B9 G I w s v ∧ ∀ w', Sz Zc w' → (execOp (Act.mk tm ds).eval o).run P w' = .ok (.value v) w'
theorem b0D {I : Nat → Prop} {w' : World} (hk : p5 I I w w') {b off : Nat} {t : Ty} {x : t.den} (hb : w'.heap[b]? = w.heap[b]?) (h : a1N I w b off t x) : a1N I w' b off t x := h.keep hk hb
/-- what is read is what was read -/
theorem a7w (hT : o4 P tb) {t : Nat} {ti : TI} (ht : tb.get t = some ti) {I : Nat → Prop} {b off : Nat} {x : ti.ty.den} (hl : a1N I w b off ti.ty x) :
  ∃ v, g6 I w ti.ty x v ∧ ∀ w', w'.heap[b]? = w.heap[b]? → (loadVar t ⟨b, off, none⟩).run P w' = .ok v w' := by
 obtain ⟨cs, hc, hj⟩ := hl
 have hs := hT t ti ht
 unfold loadVar
 cases ha : ti.ty.agg with
 | true =>
  refine ⟨.agg cs.toArray, g6.of_agg ha hc, fun w' hw => ?_⟩
  rw [Sem.run_bind, a0v hs, ha]
  have hl := run_loadCells_list (P := P) (w := w') ⟨b, off, none⟩ cs (fun j v hv => by rw [C2, a07 hw]; exact hj j v hv)
  rw [hc.len] at hl
  simp [u0 hs, hl]
 | false =>
  obtain ⟨v, hv, _⟩ := hc.one ha
  subst hv
  refine ⟨v, g6.of_one ha hc, fun w' hw => ?_⟩
  rw [Sem.run_bind, a0v hs, ha]
  have := hj 0 v rfl
  rw [← a07 hw] at this
  simp only [Nat.add_zero] at this
  simp [run_load, this]
theorem a7n (hT : o4 P tb) {t : TypeId} {a : Operand} {wl : List Nat} (hop : o.op = .load t a) (hc : a6u wl st o = true) (hf : a7N (fun n => a04 wl n = true) Zc G I w) (hI : Inv w0 F Fn I0 (fun n => a04 wl n = true) Zc G I st tm w)
  (h : opk tb Γ Kp o st k) : Yd P G I w Zc st k o tm ds := by
 unfold opk at h
 unfold a6u at hc
 rw [hop] at h hc
 dsimp only at h hc
 have hs := hI.ev a ds
 split at h
 ·cases h
 ·rename_i ti ht
  have key : ∀ (c : Cell) (b off : Nat), (Act.mk tm ds).eval a = .pointer (some ⟨b, off, none⟩) → a1N I w b off c.t c.x → (∀ w', Sz Zc w' → w'.heap[b]? = w.heap[b]?) → ti.ty.beq c.t = true → k (st.put o.dst (.v c.t c.x)) → Yd P G I w Zc st k o tm ds := by
   rintro ⟨u, x⟩ b off he hl hst hb hkk
   have e := Ty.beq_eq hb
   dsimp only at e hl hkk
   subst e
   obtain ⟨v, hrep, hv⟩ := a7w hT ht hl
   exact ⟨.v ti.ty x, v, hkk, hrep, fun w' hw => by unfold execOp; rw [hop]; simp [Instr.loadAt, Instr.sureAddr, he, hv w' (hst w' hw)]⟩
  split at h
  ·rename_i n p ha
   rw [ha] at hs hc
   obtain ⟨b, t', off, u, hG, hp, hv⟩ := hs
   split at h
   ·cases h
   ·rename_i c hcb
    dsimp only at hc
    rw [hcb] at hc
    dsimp only at hc
    split at hc
    ·rename_i hno
     split at h
     ·cases h
     ·rename_i et e xs hc'
      have := a57 hc' hno
      cases this
     ·rename_i c' _ hc'
      split at h
      ·rename_i hb
       obtain ⟨b', hG', hbox⟩ := hI.box n c hcb
       rw [hG] at hG'; injection hG' with e; injection e with e1 e2; subst e1; subst e2
       obtain ⟨off', ho', hl⟩ := hbox.1.part hc'
       have ho2 := B7 ho'
       rw [hp] at ho2; injection ho2 with e; injection e with e1 e2; subst e1
       exact key c' b off hv hl (fun w' hw => a41 hf hw (.inr ⟨n, _, hG, by simpa using hc⟩) (hI.own n _ b hG rfl).2.1) hb h
      ·rename_i hb
       have hfz : l6 (st.fz (n + 4)).boxes n = some c := V6 _ hcb hno
       rw [hfz] at h
       dsimp only at h
       rw [hc'] at h
       dsimp only at h
       rw [hb] at h
       cases h
    ·cases hc
  ·rename_i u x ha
   rw [ha] at hs
   obtain ⟨b, off, hv, hIb, hl⟩ := hs
   split at h
   ·rename_i hb; exact key ⟨u, x⟩ b off hv hl (fun w' hw => a41 hf hw (.inl hIb) (hI.lt b hIb)) hb h
   ·cases h
  ·rename_i n u x ha
   rw [ha] at hc; cases hc
  ·cases h
theorem a7W (hT : o4 P tb) {t : Nat} {ti : TI} {x : Operand} {lo hi : Option Operand} {u : Ty} {y : u.den} (hop : o.op = .slice t x lo hi none) (ht : tb.get t = some ti) (hI : Inv w0 F Fn I0 W Zc G I st tm w)
  (hev : st.ev x = .v u y) (hty : ti.ty = u) (h : slk (.v u y) (lo.map st.ev) (hi.map st.ev) o.dst st k) : Yd P G I w Zc st k o tm ds := by
 have hx := hI.ev x ds
 rw [hev] at hx
 have hrun : ∀ w' : World, (execOp (Act.mk tm ds).eval o).run P w' = ((Instr.sliceAt t ((Act.mk tm ds).eval x) (lo.map (Act.mk tm ds).eval) (hi.map (Act.mk tm ds).eval) none).run P w').andThen fun v w => .ok (.value v) w := by
  intro w'; unfold execOp; rw [hop]; simp
 have hlo : ∀ kl l, lo.map st.ev = some (.v (.int kl) l) → lo.map (Act.mk tm ds).eval = some (.int kl l) := by
  intro kl l e
  cases lo with
  | none => cases e
  | some lo =>
   simp only [Option.map_some, Option.some.injEq] at e ⊢
   have := hI.ev lo ds
   rw [e] at this
   exact (g6.int_eq this).2
 have hhi : ∀ kl l, hi.map st.ev = some (.v (.int kl) l) → hi.map (Act.mk tm ds).eval = some (.int kl l) := by
  intro kl l e
  cases hi with
  | none => cases e
  | some hi =>
   simp only [Option.map_some, Option.some.injEq] at e ⊢
   have := hI.ev hi ds
   rw [e] at this
   exact (g6.int_eq this).2
 have hlon : lo.map st.ev = none → lo.map (Act.mk tm ds).eval = none := by cases lo <;> simp
 have hhin : hi.map st.ev = none → hi.map (Act.mk tm ds).eval = none := by cases hi <;> simp
 have keyV : ∀ (e : Ty) (xs : List e.den) (l m : Nat), j4.v u y = .v (.sl e) xs → l ≤ m → m ≤ xs.length → (∀ cap, xs.length ≤ cap → ∀ w' : World, (Instr.sliceBounds true xs.length cap (lo.map (Act.mk tm ds).eval) (hi.map (Act.mk tm ds).eval) none).run P w' = .ok (l, m, cap) w') →
   k (st.put o.dst (.v (.sl e) ((xs.take m).drop l))) → Yd P G I w Zc st k o tm ds := by
  intro e xs l m hxe hlm hm hb hkk
  have hx := hx
  rw [hxe] at hx
  have hte : ti.ty = .sl e := by injection hxe with h1 _; rw [hty, h1]
  obtain ⟨A, cap, hv, hl, hm2, hr⟩ := g6.sl_eq hx
  refine ⟨.v (.sl e) ((xs.take m).drop l), _, hkk, g6.cut hl hm2 hr l m hlm hm, fun w' _ => ?_⟩
  rw [hrun, hv, L4 hT ht hte A xs.length cap l m _ _ (hb cap hl w')]
  rfl
 have keyS : ∀ (xs : List Int) (l m : Nat), j4.v u y = .v .str xs → l ≤ m → m ≤ xs.length → (∀ w' : World, (Instr.sliceBounds false xs.length xs.length (lo.map (Act.mk tm ds).eval) (hi.map (Act.mk tm ds).eval) none).run P w' = .ok (l, m, xs.length) w') →
   k (st.put o.dst (.v .str ((xs.take m).drop l))) → Yd P G I w Zc st k o tm ds := by
  intro xs l m hxe hlm hm hb hkk
  have hx := hx
  rw [hxe] at hx
  have hte : ti.ty = .str := by injection hxe with h1 _; rw [hty, h1]
  obtain ⟨s, hv, rfl, hss⟩ := g6.str_eq hx
  rw [j2] at hm hb
  have hu := (hT t ti ht).str hte
  have ex : bytesOf (s.extract l m) = ((bytesOf s).take m).drop l := by
   unfold bytesOf
   rw [← List.map_take, ← List.map_drop]
   congr 1
   simp [List.take_drop, Nat.add_sub_cancel' hlm]
  refine ⟨.v .str (((bytesOf s).take m).drop l), .string (s.extract l m), hkk, by rw [← ex]; exact g6.str_mk (by simp; omega), fun w' _ => ?_⟩
  rw [hrun, hv]
  simp [Instr.sliceAt, Instr.slice, run_underlying hu, hb]
 unfold slk at h
 split at h
 ·rename_i e xs kl l kh m hx' hl' hh'
  obtain ⟨hc, h⟩ := o5 h; have hc := a5k (l := l) (h := m) hc
  exact keyV e xs (Int.toNat l) (Int.toNat m) hx' hc.1 hc.2.1 (fun cap hcap w' => by rw [hlo _ _ hl', hhi _ _ hh']; exact a2a hc.2.2.1 hc.2.2.2.1 (hc.2.2.2.2.2.1 cap hcap)) h
 ·rename_i e xs kh m hx' hl' hh'
  obtain ⟨hc, h⟩ := o5 h; have hc := a4C (h := m) hc
  exact keyV e xs 0 (Int.toNat m) hx' (Nat.zero_le _) hc.1 (fun cap hcap w' => by rw [hlon hl', hhi _ _ hh']; exact a4s hc.2.1 (hc.2.2.2 cap hcap)) h
 ·rename_i e xs kl l hx' hl' hh'
  obtain ⟨hc, h⟩ := o5 h; have hc := a4C (h := l) hc
  exact keyV e xs (Int.toNat l) xs.length hx' hc.1 (Nat.le_refl _) (fun cap hcap w' => by rw [hlo _ _ hl', hhin hh']; exact a3b hc.2.1 hc.2.2.1) (by rw [List.take_length]; exact h)
 ·rename_i e xs hx' hl' hh'
  exact keyV e xs 0 xs.length hx' (Nat.zero_le _) (Nat.le_refl _) (fun cap hcap w' => by rw [hlon hl', hhin hh']; exact a4t) (by rw [List.take_length]; exact h)
 ·rename_i n et e xs kh m hx' hl' hh'
  cases hx'
 ·rename_i n et e xs hx' hl' hh'
  cases hx'
 ·rename_i n et e xs kl l kh m hx' hl' hh'
  cases hx'
 ·rename_i n et e xs kl l hx' hl' hh'
  cases hx'
 ·rename_i xs kl l kh m hx' hl' hh'
  obtain ⟨hc, h⟩ := o5 h; have hc := a5k (l := l) (h := m) hc
  exact keyS xs (Int.toNat l) (Int.toNat m) hx' hc.1 hc.2.1 (fun w' => by
   rw [hlo _ _ hl', hhi _ _ hh']
   simp [Instr.sliceBounds, run_sliceBound, hc.2.2.1, hc.2.2.2.1, hc.2.2.2.2.1, hc.2.2.2.2.2.2]) h
 ·rename_i xs kh m hx' hl' hh'
  obtain ⟨hc, h⟩ := o5 h; have hc := a4C (h := m) hc
  exact keyS xs 0 (Int.toNat m) hx' (Nat.zero_le _) hc.1 (fun w' => by
   rw [hlon hl', hhi _ _ hh']
   simp [Instr.sliceBounds, run_sliceBound, hc.2.1, hc.2.2.1]) h
 ·rename_i xs kl l hx' hl' hh'
  obtain ⟨hc, h⟩ := o5 h; have hc := a4C (h := l) hc
  exact keyS xs (Int.toNat l) xs.length hx' hc.1 (Nat.le_refl _) (fun w' => by
   rw [hlo _ _ hl', hhin hh']
   simp [Instr.sliceBounds, run_sliceBound, hc.2.1, hc.2.2.1]) (by rw [List.take_length]; exact h)
 ·cases h
theorem a7m (hT : o4 P tb) {wl : List Nat} (hload : ∀ t a, o.op ≠ .load t a) (hcv : ∀ s t x xs, o.op = .convert s t x → st.ev x ≠ .v (.sl (.int .u8)) xs) (hc : a6u wl st o = true) (hI : Inv w0 F Fn I0 W Zc G I st tm w)
  (h : opk tb Γ Kp o st k) : Yd P G I w Zc st k o tm ds := by
 have mv : ∀ x, (o.op = .move x ∨ o.op = .assign x) → (match st.ev x with | .nil => false | _ => true) = true → (match st.ev x with
   | .nil => match tb.get o.type, o.dst with
    | some ⟨.sl e, et, _, _⟩, some d => k ((st.rn (nm d 6)).put (some d) (.own (nm d 6) et e []))
    | _, _ => False
   | s => k (st.put o.dst s)) → Yd P G I w Zc st k o tm ds := by
  intro x hop hc h
  refine ⟨st.ev x, _, ?_, hI.ev x ds, fun w' _ => by unfold execOp; rcases hop with e | e <;> rw [e] <;> rfl⟩
  revert h hc
  cases st.ev x <;> intro hc h <;> first | exact h | cases hc
 unfold opk at h
 unfold a6u at hc
 cases hop : o.op with
 | move x => rw [hop] at h hc; exact mv x (.inl hop) hc h
 | assign x => rw [hop] at h hc; exact mv x (.inr hop) hc h
 | pick c a b =>
  rw [hop] at h
  dsimp only at h
  split at h
  ·rename_i t hcc
   have hs := hI.ev c ds
   rw [hcc] at hs
   have e := g6.bool_eq hs
   cases t with
   | true => exact ⟨_, _, h, hI.ev a ds, fun w' _ => by unfold execOp; rw [hop]; simp [e, asBool]⟩
   | false => exact ⟨_, _, h, hI.ev b ds, fun w' _ => by unfold execOp; rw [hop]; simp [e, asBool]⟩
  ·cases h
 | load t a => exact absurd hop (hload t a)
 | nilCheck x =>
  rw [hop] at h
  dsimp only at h
  have hs := hI.ev x ds
  split at h
  ·rename_i n p hx
   rw [hx] at hs
   have hs' := hs
   obtain ⟨b, t', off, u, hG, hp, hv⟩ := hs'
   exact ⟨.box n p, _, h, hs, fun w' _ => by unfold execOp; rw [hop]; simp [hv]⟩
  ·cases h
 | fieldAddr s x f =>
  rw [hop] at h hc
  dsimp only at h hc
  have hs := hI.ev x ds
  split at h
  ·rename_i ti n p ht hx
   rw [hx] at hs
   obtain ⟨b, t', off, u, hG, hp, hv⟩ := hs
   split at h
   ·cases h
   ·rename_i c hcb
    split at h
    ·cases h
    ·rename_i c1 hc1
     split at h
     ·cases h
     ·rename_i hb
      split at h
      ·cases h
      ·rename_i d hd
       obtain ⟨b', hG', hbox⟩ := hI.box n c hcb
       rw [hG] at hG'; injection hG' with e; injection e with e1 e2; subst e1; subst e2
       obtain ⟨off', ho', _⟩ := U8 hc1
       have ho2 := B7 ho'
       rw [hp] at ho2; injection ho2 with e; injection e with e1 e2; subst e1; subst e2
       obtain ⟨a, o1, ha, hf, hpo⟩ := a1g hd
       have e := Ty.beq_eq hb
       have hpo2 := B7 hpo
       exact ⟨.box n (p ++ [f]), .pointer (some ⟨b, off + o1, none⟩), h, ⟨b, c.t.era, off + o1, d.t.era, hG, S7 hp hpo2, rfl⟩,
        fun w' _ => by unfold execOp; rw [hop]; simp [hv, V7 hT ht (e.trans (by rw [ha]; rfl)) (a1n hf)]⟩
  ·rename_i ti u y ht hx
   rw [hx] at hs
   obtain ⟨b, off, hv, hIb, hl⟩ := hs
   split at h
   ·cases h
   ·rename_i hb
    split at h
    ·rename_i d hd
     obtain ⟨a, o1, ha, hf, hpo⟩ := a1g hd
     obtain ⟨o2, ho2, hl2⟩ := a1N.part (c := ⟨u, y⟩) hl hd
     rw [hpo] at ho2; injection ho2 with e; injection e with e1 _; subst e1
     have e := Ty.beq_eq hb
     exact ⟨.elt d.t d.x, .pointer (some ⟨b, off + o1, none⟩), h, ⟨b, off + o1, rfl, hIb, hl2⟩,
      fun w' _ => by unfold execOp; rw [hop]; simp [hv, V7 hT ht (e.trans ha) hf]⟩
    ·cases h
  ·rename_i ti n u y ht hx
   rw [hx] at hc; cases hc
  ·cases h
 | binOp op t x y u =>
  rw [hop] at h
  obtain ⟨s, v, hkk, hs, hv⟩ := a5N (P := P) hT (x := x) (y := y) (hI.ev x ds) (hI.ev y ds) h
  exact ⟨s, v, hkk, hs, fun w' _ => by
   have hv := hv w'
   unfold execOp; rw [hop]; simp only [Sem.run_bind] at hv ⊢; simp [hv]⟩
 | unOp op t x =>
  rw [hop] at h
  dsimp only at h
  split at h
  ·cases h
  ·rename_i hne
   obtain ⟨v, hv, hs⟩ := a8I (P := P) (hI.ev x ds) rfl hne
   exact ⟨_, v, h, hs, fun w' _ => by unfold execOp; rw [hop]; simp [hv w']⟩
 | indexAddr t x i =>
  rw [hop] at h hc
  dsimp only at h hc
  have hx := hI.ev x ds
  have hi := hI.ev i ds
  split at h
  ·rename_i ti e xs k1 n ht hx' hi'
   rw [hx'] at hx; rw [hi'] at hi
   obtain ⟨_, hiv⟩ := g6.int_eq hi
   split at h
   ·rename_i hb
    obtain ⟨hcc, h⟩ := o5 h
    have hcc := a4D (n := n) hcc
    have et := Ty.beq_eq hb
    obtain ⟨A, cap, hv, hl, hm2, hr⟩ := g6.sl_eq hx
    have hn : Int.toNat n < xs.length := hcc.1
    obtain ⟨b, o1, rfl, hIb, cs, hcs, hcl, hj⟩ := hr n.toNat hn
    obtain ⟨hu, te, hte, hee⟩ := (hT t ti ht).sl e et
    refine ⟨.elt e (rd e.dflt xs n), .pointer (some ⟨b, o1 + n.toNat * e.cells, none⟩), h, ⟨b, _, rfl, hIb, cs, by rw [a4L _ _ _ hn]; exact hcs, hj⟩, fun w' _ => ?_⟩
    have hz := u0 (hT _ _ hte) w'
    rw [hee] at hz
    unfold execOp; rw [hop]
    simp [Instr.indexAt, hiv, hv, asIntOf, run_underlying hu, hcc.2.1, hcc.2.2, hz, C2]
   ·cases h
  ·rename_i ti n1 et e xs k1 n ht hx' hi'
   rw [hx'] at hc; cases hc
  ·cases h
 | index t x i =>
  rw [hop] at h
  dsimp only at h
  have hx := hI.ev x ds
  have hi := hI.ev i ds
  split at h
  ·rename_i ti xs k1 n ht hx' hi'
   rw [hx'] at hx; rw [hi'] at hi
   obtain ⟨_, hiv⟩ := g6.int_eq hi
   split at h
   ·rename_i hb
    obtain ⟨hcc, h⟩ := o5 h
    have hcc := a4D (n := n) hcc
    have et := Ty.beq_eq hb
    obtain ⟨s, hv, rfl, hss⟩ := g6.str_eq hx
    rw [j2] at hcc
    have hn : Int.toNat n < s.size := hcc.1
    have hu := (hT t ti ht).str et
    have e : rd (0 : Int) (bytesOf s) n = (s[n.toNat].toNat : Int) := by
     rw [a4L _ _ _ (by rw [j2]; exact hn)]
     simp [bytesOf]; rfl
    refine ⟨.v (.int .u8) (rd (0 : Int) (bytesOf s) n), .int .u8 (s[n.toNat].toNat : Int), h, ?_, fun w' _ => ?_⟩
    ·rw [e]
     refine g6.int_mk ?_
     have := s[n.toNat].toNat_lt
     constructor <;> simp [a03, a02] <;> omega
    ·unfold execOp; rw [hop]
     simp [Instr.index, hiv, hv, asIntOf, run_underlying hu, hcc.2.1, ByteArray.getElem?_lt' s n.toNat hn]
   ·cases h
  ·cases h
 | slice t x lo hi mx =>
  rw [hop] at h hc
  cases mx with
  | some mx => cases hc
  | none =>
   dsimp only at h hc
   split at h
   ·cases h
   ·rename_i ti ht
    split at h
    ·rename_i n et e xs hx
     rw [hx] at hc; cases hc
    ·rename_i u y hx
     split at h
     ·rename_i hb
      exact a7W hT hop ht hI hx (Ty.beq_eq hb) h
     ·cases h
    ·cases h
 | extract x i =>
  rw [hop] at h
  dsimp only at h
  have hs := hI.ev x ds
  split at h
  ·rename_i xs hx
   rw [hx] at hs
   obtain ⟨vs, hv, hz, hr⟩ := hs
   have hget : ∀ y, xs[i]? = some y → ∃ u, vs[i]? = some u ∧ a4q G I w y u := by
    intro y hy
    have hlt : i < vs.size := by
     rw [hz]
     rcases Nat.lt_or_ge i xs.length with h | h
     ·exact h
     ·rw [List.getElem?_eq_none h] at hy; cases hy
    exact ⟨vs[i], by simp [hlt], hr i y _ hy (by simp [hlt])⟩
   split at h
   ·rename_i t y hy
    obtain ⟨u, hu, hrel⟩ := hget _ hy
    exact ⟨.v t y, u, h, hrel, fun w' _ => by unfold execOp; rw [hop]; simp [Instr.extract, hv, hu]⟩
   ·rename_i n et e y hy
    obtain ⟨u, hu, hrel⟩ := hget _ hy
    exact ⟨.own n et e y, u, h, hrel, fun w' _ => by unfold execOp; rw [hop]; simp [Instr.extract, hv, hu]⟩
   ·cases h
  ·cases h
 | convert s t x =>
  rw [hop] at h hc
  dsimp only at h hc
  have hs := hI.ev x ds
  split at h
  ·rename_i si ti hsi hti
   split at hc
   ·rename_i kx n hx
    rw [hx] at hs h
    obtain ⟨_, hv⟩ := g6.int_eq hs
    have h : cvk si ti (.v (.int kx) n) o.dst st k := by
     split at h
     ·exact h
     ·exact h
    unfold cvk at h
    split at h
    ·rename_i k' kx' n' hty hxx
     cases hxx
     have hu := (hT t ti hti).int k' hty
     have hus : ∃ d, P.underlying s = some d := by
      cases he : si.ty with
      | int k => exact ⟨_, (hT s si hsi).int k he⟩
      | bool => exact ⟨_, (hT s si hsi).bool he⟩
      | str => exact ⟨_, (hT s si hsi).str he⟩
      | sl e => exact ⟨_, ((hT s si hsi).sl e he).1⟩
      | st a => obtain ⟨fs, hf, _⟩ := (hT s si hsi).st a he; exact ⟨_, hf⟩
      | unit => exact absurd he (hT s si hsi).kind.1
      | pair a b => exact absurd he ((hT s si hsi).kind.2.1 a b)
      | osl n a => have h9 := (hT s si hsi).plain; rw [he] at h9; cases h9
      | hole a => have h9 := (hT s si hsi).plain; rw [he] at h9; cases h9
      | arr m9 a => obtain ⟨m8, el, hu9⟩ := (hT s si hsi).arr m9 a he; exact ⟨_, hu9⟩
     obtain ⟨du, hus⟩ := hus
     exact ⟨.v (.int k') (k'.wrap n), .int k' (k'.wrap n), h, g6.int_mk (S4 _ _), fun w' _ => by
      unfold execOp; rw [hop]; simp [hv, convert, run_underlying hus, run_underlying hu, Conv.intToInt]⟩
    all_goals first | (rename_i hxx; cases hxx) | cases h
   ·rename_i xs hx
    exact absurd hx (hcv s t x xs hop)
   ·cases hc
  ·cases h
 | call c =>
  rw [hop] at h hc
  dsimp only at h hc
  have brun : ∀ {b : Builtin} {v : Value}, c.callee = .builtin b → (∀ w', (builtin b c.argTypes o.type (c.args.map fun | .const _ => true | _ => false) (c.args.map (Act.mk tm ds).eval)).run P w' = .ok (.value v) w') → ∀ w', Sz Zc w' → (execOp (Act.mk tm ds).eval o).run P w' = .ok (.value v) w' :=
   fun hcc hr w' _ => R3 hop hcc (hr w')
  have lenCase : ∀ (a : Operand) (t : Nat) (n : Nat), c.callee = .builtin .len → c.args.toList = [a] → c.argTypes.toList = [t] → (n : Int) ≤ 9223372036854775807 → (∀ w', (Builtin.len_ #[t] o.type #[(Act.mk tm ds).eval a]).run P w' = .ok (.int .i64 (n : Int)) w') → lnk n o.dst st k → Yd P G I w Zc st k o tm ds := by
   intro a t n hcc ha ht hn hrun hk2
   refine ⟨.v (.int .i64) (n : Int), .int .i64 (n : Int), hk2, g6.int_mk ⟨by simp [a03], by simpa [a02] using hn⟩, brun hcc fun w' => ?_⟩
   rw [Z0 ha, Z0 ht]
   simp [builtin, hrun w']
  split at h
  ·rename_i b hcc
   rw [hcc] at hc
   unfold blk at h
   split at h
   ·rename_i e xs t hargs hts
    obtain ⟨a, ha, hev⟩ := a2f hargs
    have hs := hI.ev a ds
    rw [hev] at hs
    split at h
    ·rename_i ti hti
     split at h
     ·rename_i hb
      have hl := g6.sl_le hs
      obtain ⟨A, cap, hv, _⟩ := g6.sl_eq hs
      obtain ⟨hu, _⟩ := (hT t ti hti).sl e (Ty.beq_eq hb)
      exact lenCase a t xs.length hcc ha hts (by unfold maxLen at hl; omega) (fun w' => by rw [hv]; simp [Builtin.len_, run_underlying hu, goInt]) h
     ·cases h
    ·cases h
   ·rename_i n et e xs t hargs hts
    obtain ⟨a, ha, hev⟩ := a2f hargs
    have hs := hI.ev a ds
    rw [hev] at hs
    split at h
    ·rename_i ti hti
     split at h
     ·rename_i hb
      have hl := g6.sl_le (R5.rep hs)
      obtain ⟨A, cap, hv, _⟩ := g6.sl_eq (R5.rep hs)
      obtain ⟨hu, _⟩ := (hT t ti hti).sl e (Ty.beq_eq hb)
      exact lenCase a t xs.length hcc ha hts (by unfold maxLen at hl; omega) (fun w' => by rw [hv]; simp [Builtin.len_, run_underlying hu, goInt]) h
     ·cases h
    ·cases h
   ·rename_i xs t hargs hts
    obtain ⟨a, ha, hev⟩ := a2f hargs
    have hs := hI.ev a ds
    rw [hev] at hs
    split at h
    ·rename_i ti hti
     split at h
     ·rename_i hb
      obtain ⟨s, hv, rfl, hsz⟩ := g6.str_eq hs
      have hu := (hT t ti hti).str (Ty.beq_eq hb)
      exact lenCase a t (bytesOf s).length hcc ha hts (by rw [j2]; unfold maxLen at hsz; omega) (fun w' => by rw [hv]; simp [Builtin.len_, run_underlying hu, goInt, j2]) h
     ·cases h
    ·cases h
   ·rename_i k1 n1 k2 n2 hargs
    obtain ⟨a, a', ha, hev, hev'⟩ := a1t hargs
    have hs := hI.ev a ds
    have hs' := hI.ev a' ds
    rw [hev] at hs; rw [hev'] at hs'
    obtain ⟨r1, hv⟩ := g6.int_eq hs
    obtain ⟨r2, hv'⟩ := g6.int_eq hs'
    split at h
    ·rename_i hkk
     have e := Q2 hkk
     subst e
     have hmn : mn n1 n2 = if n2 < n1 then n2 else n1 := by unfold mn; by_cases hc : (n2 : Int) < n1 <;> simp [hc]
     refine ⟨.v (.int k1) (mn n1 n2), .int k1 (mn n1 n2), h, g6.int_mk (by rw [hmn]; split <;> assumption), brun hcc fun w' => ?_⟩
     rw [Z0 ha]
     simp [builtin, Builtin.min_, Builtin.min2, hv, hv', hmn]
    ·cases h
   ·rename_i k1 n1 k2 n2 hargs
    obtain ⟨a, a', ha, hev, hev'⟩ := a1t hargs
    have hs := hI.ev a ds
    have hs' := hI.ev a' ds
    rw [hev] at hs; rw [hev'] at hs'
    obtain ⟨r1, hv⟩ := g6.int_eq hs
    obtain ⟨r2, hv'⟩ := g6.int_eq hs'
    split at h
    ·rename_i hkk
     have e := Q2 hkk
     subst e
     have hmx : mx n1 n2 = if n1 < n2 then n2 else n1 := by unfold mx; by_cases hc : (n1 : Int) < n2 <;> simp [hc]
     refine ⟨.v (.int k1) (mx n1 n2), .int k1 (mx n1 n2), h, g6.int_mk (by rw [hmx]; split <;> assumption), brun hcc fun w' => ?_⟩
     rw [Z0 ha]
     simp [builtin, Builtin.max_, Builtin.max2, hv, hv', hmx]
    ·cases h
   ·cases hc
   ·cases hc
   ·cases hc
   ·cases h
  ·rename_i x hcc
   rw [hcc] at hc; cases hc
  ·cases h
 | _ => rw [hop] at hc; cases hc
theorem a7X (hT : o4 P tb) {s t : TypeId} {x : Operand} {xs : List Int} (hop : o.op = .convert s t x) (hx : st.ev x = .v (.sl (.int .u8)) xs) (hf : a7N W Zc G I w) (hI : Inv w0 F Fn I0 W Zc G I st tm w)
  (h : opk tb Γ Kp o st k) : Yd P G I w Zc st k o tm ds := by
 have hs := hI.ev x ds
 unfold opk at h
 rw [hop] at h
 dsimp only at h
 rw [hx] at hs h
 split at h
 ·rename_i si ti hsi hti
  have h : cvk si ti (.v (.sl (.int .u8)) xs) o.dst st k := by
   split at h
   ·exact h
   ·exact h
  unfold cvk at h
  split at h
  ·rename_i hxx; cases hxx
  ·rename_i xs' hty hxx
   cases hxx
   split at h
   ·rename_i hb
    have hlen := g6.sl_le hs
    obtain ⟨u, hu, hux⟩ := a2j hT hsi hti (Ty.beq_eq hb) hty hs
    refine ⟨.v .str xs, .string u, h, by rw [← hux]; exact g6.str_mk (by rw [← j2, hux]; exact hlen), fun w' hw => ?_⟩
    have hk : p5 I I w w' := ⟨fun _ h => h, fun b hb => a41 hf hw (.inl hb) (hI.lt b hb)⟩
    obtain ⟨u', hu', hux'⟩ := a2j hT hsi hti (Ty.beq_eq hb) hty (hs.keep hk)
    have e : u' = u := ByteArray.ext (Array.toList_inj.1 (a3W (hux'.trans hux.symm)))
    subst e
    unfold execOp; rw [hop]; simp [hu']
   ·cases h
  all_goals first | (rename_i hxx; cases hxx) | cases h
 ·cases h
theorem a8Q (hT : o4 P tb) {wl : List Nat} (hc : a6u wl st o = true) (hf : a7N (fun n => a04 wl n = true) Zc G I w) (hI : Inv w0 F Fn I0 (fun n => a04 wl n = true) Zc G I st tm w)
  (h : opk tb Γ Kp o st k) : Yd P G I w Zc st k o tm ds := by
 by_cases hl : ∃ t a, o.op = .load t a
 ·obtain ⟨t, a, hop⟩ := hl
  exact a7n hT hop hc hf hI h
 ·by_cases hcv : ∃ s t x xs, o.op = .convert s t x ∧ st.ev x = .v (.sl (.int .u8)) xs
  ·obtain ⟨s, t, x, xs, hop, hx⟩ := hcv
   exact a7X hT hop hx hf hI h
  ·exact a7m hT (fun t a e => hl ⟨t, a, e⟩) (fun s t x xs e hx => hcv ⟨s, t, x, xs, e, hx⟩) hc hI h
theorem a3S {ops : Array Oper} : ∀ (rs : List Nat) {st : St} {k : St → Prop}, Inv w0 F Fn I0 W Zc G I st tm w → spl ops rs st k → ∃ st', k st' ∧ Inv w0 F Fn I0 W Zc G I st' tm w
 | [], st, k, hI, h => ⟨st, h, hI⟩
 | i :: r, st, k, hI, h => by
  simp only [spl] at h
  split at h
  ·exact a3S r hI h
  ·split at h
   ·exact a3S r hI h
   ·split at h
    ·rename_i b hb
     split at h
     ·exact a3S r (hI.known hb true rfl) h
     ·exact a3S r (hI.known hb false rfl) h
    ·exact a3S r hI h
theorem a5K : ∀ {l : List Nat} {f : Nat → Bool}, a8N l f = true → ∀ x ∈ l, f x = true
 | [], _, _, _, hx => by cases hx
 | y :: l, f, h, x, hx => by
  simp only [a8N] at h
  split at h
  ·rename_i hy
   rcases List.mem_cons.1 hx with e | hx
   ·subst e; exact hy
   ·exact a5K h x hx
  ·cases h
theorem a6o {wl : List Nat} (h : a9d wl st o = true) : a6r (fun n => a04 wl n = true) st o := by
 refine ⟨fun t a x n p hop ha => ?_, fun c x f ks hop hc hx n hn => ?_⟩
 ·unfold a9d at h; rw [hop] at h; dsimp only at h; rw [ha] at h; exact h
 ·unfold a9d at h; rw [hop] at h; dsimp only at h; rw [hc] at h; dsimp only at h; rw [hx] at h
  exact a5K h n hn
theorem a5L : ∀ {l : List Nat} {f : Nat → Prop}, a9o l f → ∀ x ∈ l, f x
 | [], _, _, _, hx => by cases hx
 | y :: l, f, h, x, hx => by
  rcases List.mem_cons.1 hx with e | hx
  ·subst e; exact h.1
  ·exact a5L h.2 x hx
theorem a7y {l : List Nat} {f : Nat → Prop} (h : a8x l f) : ∀ x ∈ l, f x := by
 unfold a8x at h
 split at h
 ·intro x hx; simp at hx; subst hx; exact h
 ·exact a5L h
theorem a2G {wl : List Nat} {ops : Array Oper} : ∀ {rs : List Nat} {i : Nat}, a2c wl st ops rs = some i → i ∈ rs
 | [], i, h => by cases h
 | j :: rs, i, h => by
  simp only [a2c] at h
  split at h
  ·simp at h; subst h; exact List.mem_cons_self
  ·exact List.mem_cons_of_mem _ (a2G h)
theorem a6H (hQP : a3a w0 F Fn ds Kp Q) (hT : o4 P tb) (hΓ : GOk P Γ) {wl : List Nat} {ops : Array Oper} (hsel : Region.noSelect ops = true) (hst : a4Z ops.toList = true) (hQ : ∀ c (a : Act) w d v, Q (.panic c) (a.put d v) w → Q (.panic c) a w)
  (hk : ∀ st' tm' w' G' I' Zc', k st' → Inv w0 F Fn I0 (fun n => a04 wl n = true) Zc' G' I' st' tm' w' → Q .normal ⟨tm', ds⟩ w') :
  ∀ (fuel : Nat) (listed : Array Bool) {Zc : Nat → Option Obj} {G : g0} {I : Nat → Prop} {st : St} {tm : Array Value} {w : World},
  Inv w0 F Fn I0 (fun n => a04 wl n = true) Zc G I st tm w → a7C tb Γ Kp wl ops fuel listed st k → wpAnyH P .any ops Q (Sz Zc) fuel listed ⟨tm, ds⟩ w := by
 intro fuel
 induction fuel with
 | zero =>
  intro listed Zc G I st tm w hI h
  simp only [a7C] at h
  split at h
  ·rename_i hr; exact ⟨hr, hk _ _ _ _ _ _ h hI⟩
  ·cases h
 | succ fuel ih =>
  intro listed Zc G I st tm w hI h
  simp only [a7C, St.frc_eq] at h
  split at h
  ·rename_i hr; exact wpAnyH_done hr (hk _ _ _ _ _ _ h hI) _
  ·rename_i i0 rs hr
   obtain ⟨st, h, hI⟩ := a3S _ hI h
   split at h
   ·rename_i i hi
    have him := a2G hi
    split at h
    ·rename_i o hfree ho
     obtain ⟨hF, hS⟩ := hI.full
     refine a36 hS (fuel + 1) listed _ _ ?_
     have hready : (Region.ready .any ops listed).contains i = true := by rw [hr]; simpa using him
     rcases a4A hF h with ⟨hw, st1, hI1, h1⟩ | ⟨hw, st1, hI1, h1⟩
     ·split at h1
      ·rename_i hc
       obtain ⟨s, v, hks, hs, hv⟩ := a8Q (ds := ds) hT hc a9y hI1 h1
       refine wpAnyH_take (v := v) ho hsel hfree hready (fun c a w hp => hQ c a w _ _ hp) (.inl ⟨hw, hv⟩) hF.sz ?_
       rw [a13]
       exact ih _ (hI1.put o.dst hs) hks
      ·cases h1
     ·refine wpAnyH_take (v := undef) ho hsel hfree hready (fun c a w hp => hQ c a w _ _ hp) (.inr ⟨hw, rfl⟩) hF.sz ?_
      rw [a13]
      exact ih _ (hI1.put o.dst (s := .skip) rfl) h1
    ·cases h
   ·refine wpAnyH_all hr (by simp) (fun i hi => ?_)
    have h := a7y h i hi
    split at h
    ·rename_i o ho
     unfold wpOp
     simp only [ho]
     rcases a4A hI h with ⟨hw, st1, hI1, h1⟩ | ⟨hw, st1, hI1, h1⟩
     ·rw [if_pos hw]
      split at h1
      ·rename_i hc
       exact .inl (a5m hQP hT hΓ (a6o hc) (a35 hst (by
        have := Array.mem_of_getElem? ho
        simpa using this)) hI1 (fun st' tm' w' G' I' h' hI' => ⟨hI'.sz, ih _ hI' h'⟩) h1)
      ·cases h1
     ·rw [if_neg (by rw [hw]; simp), a13]
      have h2 := hI1.put o.dst (s := .skip) rfl
      exact ⟨h2.sz, ih _ h2 h1⟩
    ·cases h
end
end Go.VE
namespace Go.VE
variable [M9]
open Go Go.RowKit Go.Lib
def Ex.out : Ex → Exit
 | .nrm => .normal
 | .ret => .ret
 | .exit n => .exit n
 | .pan n => .panic [{ v := M9.pan n, recovered := false }]
def C1 : Code → Bool
 | .region _ ops _ => a4Z ops.toList
 | .seq a b => match C1 a with | true => C1 b | false => false
 | .cond _ a b => match C1 a with | true => C1 b | false => false
 | .block _ c => C1 c
 | .loop c => C1 c
 | _ => true
abbrev noZ : Nat → Option Obj := fun _ => none
section
variable {P : Program} {tb : Tab} {Γ : Nat → Option App} {Kp : Int → St → Prop} {w0 : World} {F : Nat → Prop} {Fn : Nat → Option Nat} {I0 : Nat → Prop} {W : Nat → Prop} {G : g0} {I : Nat → Prop}
 {st : St} {tm : Array Value} {ds : List Deferred} {w : World}
/-! ### states at a place -/
def a2F (st : St) (ren : List (Nat × Nat)) : Prop :=
 (∀ a b a' b', (a, b) ∈ ren → (a', b') ∈ ren → (a = a' ↔ b = b')) ∧ ∀ a b, (a, b) ∈ ren → a % 8 = 5 ∧ b % 8 ≠ 4 ∧ ∃ i et e x, C5 st.tmps i = .own b et e x
theorem a2O : ∀ {ren : List (Nat × Nat)} {k k' : Nat} {ren' : List (Nat × Nat)}, a1R ren k k' = some ren' → (k, k') ∈ ren' ∧ (∀ p ∈ ren, p ∈ ren') ∧ ∀ p ∈ ren', p ∈ ren ∨ p = (k, k')
 | [], k, k', ren', h => by
  simp only [a1R, Option.some.injEq] at h; subst h
  exact ⟨List.mem_singleton.2 rfl, fun p hp => (by cases hp), fun p hp => .inr (List.mem_singleton.1 hp)⟩
 | (a, b) :: r, k, k', ren', h => by
  simp only [a1R] at h
  split at h
  ·rename_i h1 h2
   simp only [Option.some.injEq] at h; subst h
   have e1 := Nat.eq_of_beq_eq_true h1; have e2 := Nat.eq_of_beq_eq_true h2
   subst e1; subst e2
   exact ⟨List.mem_cons_self, fun p hp => hp, fun p hp => .inl hp⟩
  ·split at h
   ·rename_i r' hr
    simp only [Option.some.injEq] at h; subst h
    obtain ⟨h1, h2, h3⟩ := a2O hr
    refine ⟨List.mem_cons_of_mem _ h1, fun p hp => ?_, fun p hp => ?_⟩
    ·rcases List.mem_cons.1 hp with e | hp
     ·subst e; exact List.mem_cons_self
     ·exact List.mem_cons_of_mem _ (h2 p hp)
    ·rcases List.mem_cons.1 hp with e | hp
     ·subst e; exact .inl List.mem_cons_self
     ·rcases h3 p hp with h | h
      ·exact .inl (List.mem_cons_of_mem _ h)
      ·exact .inr h
   ·cases h
  ·cases h
theorem a4r : ∀ {ren : List (Nat × Nat)} {k k' : Nat} {ren' : List (Nat × Nat)}, a1R ren k k' = some ren' → (∀ a b a' b', (a, b) ∈ ren → (a', b') ∈ ren → (a = a' ↔ b = b')) → ∀ a b, (a, b) ∈ ren → (a = k ↔ b = k')
 | [], k, k', ren', h, _, a, b, hab => by cases hab
 | (c, d) :: r, k, k', ren', h, hr, a, b, hab => by
  simp only [a1R] at h
  split at h
  ·rename_i h1 h2
   have e1 := Nat.eq_of_beq_eq_true h1; have e2 := Nat.eq_of_beq_eq_true h2
   subst e1; subst e2
   exact hr a b c d hab List.mem_cons_self
  ·rename_i h1 h2
   split at h
   ·rename_i r' hr'
    rcases List.mem_cons.1 hab with e | hab
    ·injection e with e1 e2; subst e1; subst e2
     exact ⟨fun e => absurd e (a3C h1), fun e => absurd e (a3C h2)⟩
    ·exact a4r hr' (fun a b a' b' h h' => hr a b a' b' (List.mem_cons_of_mem _ h) (List.mem_cons_of_mem _ h')) a b hab
   ·cases h
  ·cases h
theorem a7j {ren ren' : List (Nat × Nat)} {k k' : Nat} (h : a1R ren k k' = some ren') (hr : a2F st ren) (h5 : k % 8 = 5) (hk : k' % 8 ≠ 4 ∧ ∃ i et e x, C5 st.tmps i = .own k' et e x) : a2F st ren' := by
 obtain ⟨h1, h2, h3⟩ := a2O h
 have h4 := a4r h hr.1
 refine ⟨fun a b a' b' ha ha' => ?_, fun a b ha => ?_⟩
 ·rcases h3 _ ha with ha | ha <;> rcases h3 _ ha' with ha' | ha'
  ·exact hr.1 a b a' b' ha ha'
  ·injection ha' with e1 e2; subst e1; subst e2; exact h4 a b ha
  ·injection ha with e1 e2; subst e1; subst e2
   have := h4 a' b' ha'
   exact ⟨fun e => (this.1 e.symm).symm, fun e => (this.2 e.symm).symm⟩
  ·injection ha with e1 e2; injection ha' with e3 e4; subst e1; subst e2; subst e3; subst e4; exact ⟨fun _ => rfl, fun _ => rfl⟩
 ·rcases h3 _ ha with ha | ha
  ·exact hr.2 a b ha
  ·injection ha with e1 e2; subst e1; subst e2; exact ⟨h5, hk⟩
def a0q (st : St) (ren : List (Nat × Nat)) : (ds : List LS) → E1 ds → Prop
 | [], _ => True
 | .v i t :: r, v => C5 st.tmps i = .v t v.1 ∧ a0q st ren r v.2
 | .o i k et e :: r, v => (∃ k', C5 st.tmps i = .own k' et e v.1 ∧ (k, k') ∈ ren) ∧ a0q st ren r v.2
 | .b i k p :: r, v => (C5 st.tmps i = .box k p ∧ k % 8 ≠ 5) ∧ a0q st ren r v
 | .c k t :: r, v => (l6 st.boxes k = some ⟨t, v.1⟩ ∧ k % 8 ≠ 5) ∧ a0q st ren r v.2
 | .f i f ks :: r, v => (C5 st.tmps i = .fn f ks ∧ ∀ k ∈ ks, k % 8 ≠ 5) ∧ a0q st ren r v
theorem a0q.mono {ren ren' : List (Nat × Nat)} (hs : ∀ p ∈ ren, p ∈ ren') : ∀ {ds : List LS} {v : E1 ds}, a0q st ren ds v → a0q st ren' ds v
 | [], _, _ => trivial
 | .v _ _ :: _, _, h => ⟨h.1, a0q.mono hs h.2⟩
 | .o _ _ _ _ :: _, _, ⟨⟨k', h1, h2⟩, h3⟩ => ⟨⟨k', h1, hs _ h2⟩, a0q.mono hs h3⟩
 | .b _ _ _ :: _, _, h => ⟨h.1, a0q.mono hs h.2⟩
 | .c _ _ :: _, _, h => ⟨h.1, a0q.mono hs h.2⟩
 | .f _ _ _ :: _, _, h => ⟨h.1, a0q.mono hs h.2⟩
theorem a6w {k : Nat} (h : ckN k = false) : k % 8 ≠ 5 := a3C h
theorem a9u {k : Nat} (h : ckN k = true) : k % 8 = 5 := Nat.eq_of_beq_eq_true h
theorem a2i : ∀ {p q : List Nat}, a3L p q = true → p = q
 | [], [], _ => rfl
 | [], _ :: _, h => by cases h
 | _ :: _, [], h => by cases h
 | a :: p, b :: q, h => by
  simp only [a3L] at h
  split at h
  ·rename_i hb; rw [Nat.eq_of_beq_eq_true hb, a2i h]
  ·cases h
theorem a1h : ∀ (ds : List LS) {ren : List (Nat × Nat)} {Y : E1 ds → Prop}, rdD ds ren st Y → a2F st ren → ∃ v ren', Y v ∧ (∀ p ∈ ren, p ∈ ren') ∧ a2F st ren' ∧ a0q st ren' ds v
 | [], ren, Y, h, hr => ⟨(), ren, h, fun _ h => h, hr, trivial⟩
 | .v i t :: r, ren, Y, h, hr => by
  simp only [rdD] at h
  split at h
  ·rename_i u x hx
   split at h
   ·rename_i y hy
    obtain ⟨e, hy⟩ := Ty.cast?_eq hy
    subst e; subst hy
    obtain ⟨v, ren', h1, h2, h3, h4⟩ := a1h r h hr
    exact ⟨(_, v), ren', h1, h2, h3, hx, h4⟩
   ·cases h
  ·cases h
 | .o i k et e :: r, ren, Y, h, hr => by
  simp only [rdD] at h
  split at h
  ·rename_i k' et' e' x hx
   split at h
   ·rename_i y hy
    split at hy
    ·rename_i het
     have het := Nat.eq_of_beq_eq_true het
     subst het
     obtain ⟨e2, hy⟩ := Ty.cast?_eq hy
     injection e2 with e2
     subst e2
     subst hy
     split at h
     ·rename_i ren' hren
      split at hren
      ·rename_i hck
       split at hren
       ·cases hren
       ·rename_i h84
        have hr' := a7j hren hr (a9u hck) ⟨a3C h84, i, _, _, _, hx⟩
        obtain ⟨h5, h6, _⟩ := a2O hren
        obtain ⟨v, ren2, h1, h2, h3, h4⟩ := a1h r h hr'
        exact ⟨(_, v), ren2, h1, fun p hp => h2 p (h6 p hp), h3, ⟨k', hx, h2 _ h5⟩, h4⟩
      ·cases hren
     ·cases h
    ·cases hy
   ·cases h
  ·cases h
 | .b i k p :: r, ren, Y, h, hr => by
  simp only [rdD] at h
  split at h
  ·rename_i k' p' hx
   split at h
   ·rename_i hc
    split at hc
    ·rename_i hk
     split at hc
     ·rename_i hp
      have e1 := Nat.eq_of_beq_eq_true hk
      have e2 := a2i hp
      subst e1; subst e2
      obtain ⟨v, ren', h1, h2, h3, h4⟩ := a1h r h hr
      exact ⟨v, ren', h1, h2, h3, ⟨hx, a6w hc⟩, h4⟩
     ·cases hc
    ·cases hc
   ·cases h
  ·cases h
 | .c k t :: r, ren, Y, h, hr => by
  simp only [rdD] at h
  split at h
  ·rename_i c hc
   split at h
   ·rename_i y hy
    split at hy
    ·cases hy
    ·rename_i hck
     obtain ⟨u, x⟩ := c
     obtain ⟨e, hy⟩ := Ty.cast?_eq hy
     dsimp only at e
     subst e; subst hy
     obtain ⟨v, ren', h1, h2, h3, h4⟩ := a1h r h hr
     exact ⟨(_, v), ren', h1, h2, h3, ⟨hc, a6w hck⟩, h4⟩
   ·cases h
  ·cases h
 | .f i f ks :: r, ren, Y, h, hr => by
  simp only [rdD] at h
  split at h
  ·rename_i f' ks' hx
   split at h
   ·rename_i hc
    split at hc
    ·rename_i hf
     split at hc
     ·rename_i hp
      have e1 := Nat.eq_of_beq_eq_true hf
      have e2 := a2i hp
      subst e1; subst e2
      obtain ⟨v, ren', h1, h2, h3, h4⟩ := a1h r h hr
      refine ⟨v, ren', h1, h2, h3, ⟨hx, fun k hk => a6w ?_⟩, h4⟩
      have := List.any_eq_false.1 hc k hk
      simpa using this
     ·cases hc
    ·cases hc
   ·cases h
  ·cases h
open Classical in
/-- the names as they are at the place -/
noncomputable def g0.at (G : g0) (ren : List (Nat × Nat)) : g0 := fun n =>
 if h : ∃ k, (n, k) ∈ ren then G h.choose else match G n with
  | some (.box b t) => if n % 8 = 5 then none else some (.box b t)
  | some (.tok bo) => if n % 8 = 4 then some (.tok bo) else none
  | none => none
theorem g0.at_ren {ren : List (Nat × Nat)} (hr : a2F st ren) {n k : Nat} (h : (n, k) ∈ ren) : G.at ren n = G k := by
 have h2 : ∃ k, (n, k) ∈ ren := ⟨k, h⟩
 unfold g0.at
 rw [dif_pos h2]
 rw [(hr.1 _ _ _ _ h2.choose_spec h).1 rfl]
theorem g0.at_box {ren : List (Nat × Nat)} (hr : a2F st ren) {n b : Nat} {t : Ty} (h : G n = some (.box b t)) (h5 : n % 8 ≠ 5) : G.at ren n = some (.box b t) := by
 unfold g0.at
 rw [dif_neg (by rintro ⟨k, hk⟩; exact h5 (hr.2 _ _ hk).1), h]
 simp [h5]
theorem g0.at_cases {ren : List (Nat × Nat)} (hr : a2F st ren) {n : Nat} {o : Own} (h : G.at ren n = some o) : (∃ k, (n, k) ∈ ren ∧ G k = some o) ∨ (n % 8 ≠ 5 ∧ G n = some o ∧ ((∃ b t, o = .box b t) ∨ (n % 8 = 4 ∧ ∃ bo, o = .tok bo))) := by
 unfold g0.at at h
 split at h
 ·rename_i hk
  exact .inl ⟨_, hk.choose_spec, h⟩
 ·split at h
  ·rename_i b t hG
   split at h
   ·cases h
   ·rename_i h5
    injection h with h; subst h
    exact .inr ⟨h5, hG, .inl ⟨b, t, rfl⟩⟩
  ·rename_i bo hG
   split at h
   ·rename_i h4
    injection h with h; subst h
    exact .inr ⟨by omega, hG, .inr ⟨h4, bo, rfl⟩⟩
   ·cases h
  ·cases h
theorem g0.at_tok {ren : List (Nat × Nat)} (hr : a2F st ren) {n : Nat} {bo : Option Nat} (h : G n = some (.tok bo)) (h4 : n % 8 = 4) : G.at ren n = some (.tok bo) := by
 unfold g0.at
 rw [dif_neg (by rintro ⟨k, hk⟩; have := (hr.2 _ _ hk).1; omega), h]
 simp [h4]
theorem U7 : ∀ (ds : List LS) (v : E1 ds) (l : List j4), (mkT ds v l).length = l.length
 | [], _, _ => rfl
 | .v _ _ :: r, v, l => by simp [mkT, G5, U7 r]
 | .o _ _ _ _ :: r, v, l => by simp [mkT, G5, U7 r]
 | .b i k p :: r, v, l => (G5 _ _ _).trans (U7 r v l)
 | .c _ _ :: r, v, l => by simp [mkT, U7 r]
 | .f i f ks :: r, v, l => (G5 _ _ _).trans (U7 r v l)
theorem a3n {G : g0} {l : List j4} (hl : ∀ j, B9 G I w (C5 l j) (tm.getD j undef)) (i : Nat) {s : j4} (hs : B9 G I w s (tm.getD i undef)) (j : Nat) : B9 G I w (C5 (a3s l i s) j) (tm.getD j undef) := by
 by_cases hj : j = i
 ·subst hj
  by_cases hlt : j < l.length
  ·rw [a0y _ _ _ hlt]; exact hs
  ·rw [a4B _ _ (by rw [G5]; omega)]; trivial
 ·rw [a1q _ _ _ _ hj]; exact hl j
theorem a2h (hI : Inv w0 F Fn I0 W noZ G I st tm w) {ren : List (Nat × Nat)} (hr : a2F st ren) : ∀ (ds : List LS) (v : E1 ds) (l : List j4), a0q st ren ds v → (∀ j, B9 (G.at ren) I w (C5 l j) (tm.getD j undef)) → ∀ j, B9 (G.at ren) I w (C5 (mkT ds v l) j) (tm.getD j undef)
 | [], _, _, _, hl => hl
 | .v i t :: r, v, l, h, hl => by
  refine a3n (a2h hI hr r v.2 l h.2 hl) i ?_
  have := hI.slot i
  rw [h.1] at this
  exact this
 | .o i k et e :: r, v, l, ⟨⟨k', h1, h2⟩, h3⟩, hl => by
  refine a3n (a2h hI hr r v.2 l h3 hl) i ?_
  have := hI.slot i
  rw [h1] at this
  obtain ⟨bo, hG, hv⟩ := this
  exact ⟨bo, by rw [g0.at_ren hr h2]; exact hG, hv⟩
 | .b i k p :: r, v, l, h, hl => by
  refine a3n (a2h hI hr r v l h.2 hl) i ?_
  have := hI.slot i
  rw [h.1.1] at this
  obtain ⟨b, t, off, u, hG, hp, hv⟩ := this
  exact ⟨b, t, off, u, g0.at_box hr hG h.1.2, hp, hv⟩
 | .c k t :: r, v, l, h, hl => a2h hI hr r v.2 l h.2 hl
 | .f i f ks :: r, v, l, h, hl => by
  refine a3n (a2h hI hr r v l h.2 hl) i ?_
  have := hI.slot i
  rw [h.1.1] at this
  obtain ⟨vs, h1, h2, h3⟩ := this
  refine ⟨vs, h1, h2, fun i k u hk hu => ?_⟩
  obtain ⟨b, t, hG, hv⟩ := h3 i k u hk hu
  exact ⟨b, t, g0.at_box hr hG (h.1.2 k (List.mem_of_getElem? hk)), hv⟩
theorem a2g {ren : List (Nat × Nat)} : ∀ (ds : List LS) (v : E1 ds), a0q st ren ds v → ∀ k c, l6 (mkB ds v) k = some c → l6 st.boxes k = some c ∧ k % 8 ≠ 5
 | [], _, _, k, c, h => by cases h
 | .v _ _ :: r, v, hf, k, c, h => a2g r v.2 hf.2 k c h
 | .o _ _ _ _ :: r, v, hf, k, c, h => a2g r v.2 hf.2 k c h
 | .b _ _ _ :: r, v, hf, k, c, h => a2g r v hf.2 k c h
 | .f _ _ _ :: r, v, hf, k, c, h => a2g r v hf.2 k c h
 | .c j t :: r, v, hf, k, c, h => by
  simp only [mkB, l6] at h
  split at h
  ·rename_i hj
   have e := Nat.eq_of_beq_eq_true hj
   subst e
   injection h with h; subst h
   exact hf.1
  ·exact a2g r v.2 hf.2 k c h
theorem Inv.relab (hI : Inv w0 F Fn I0 W noZ G I st tm w) {ren : List (Nat × Nat)} (hr : a2F st ren) {N : Nat} (hN : st.tmps.length = N) {ds : List LS} {v : E1 ds} (hf : a0q st ren ds v) :
  Inv w0 F Fn I0 W noZ (G.at ren) I (mkD N ds v) tm w := by
 have tok : ∀ {n k : Nat}, (n, k) ∈ ren → ∃ bo, G k = some (.tok bo) := by
  intro n k h
  obtain ⟨_, _, i, et, e, x, hx⟩ := hr.2 _ _ h
  have := hI.slot i
  rw [hx] at this
  obtain ⟨bo, hG, _⟩ := this
  exact ⟨bo, hG⟩
 refine { gl := hI.gl, sub := hI.sub, sup := hI.sup, lt := hI.lt, own := ?_, inj := ?_, size := ?_, slot := ?_, box := ?_, since := hI.since, hold := fun b ob h => (by cases h), seven := ?_, fix := ?_ }
 ·intro n o b hG hb
  rcases g0.at_cases hr hG with ⟨k, hk, hGk⟩ | ⟨h5, hGn, _⟩
  ·obtain ⟨bo, hG2⟩ := tok hk
   rw [hGk] at hG2; injection hG2 with e; subst e
   obtain ⟨h1, h2, _⟩ := hI.own k _ b hGk hb
   have : bo = some b := hb
   subst this
   exact ⟨h1, h2, .inl (hI.tok_new hGk)⟩
  ·exact hI.own n o b hGn hb
 ·intro n n' o o' b hG hG' hb hb'
  rcases g0.at_cases hr hG with ⟨k, hk, hGk⟩ | ⟨h5, hGn, ho⟩ <;> rcases g0.at_cases hr hG' with ⟨k', hk', hGk'⟩ | ⟨h5', hGn', ho'⟩
  ·exact (hr.1 _ _ _ _ hk hk').2 (hI.inj k k' o o' b hGk hGk' hb hb')
  ·have := hI.inj k n' o o' b hGk hGn' hb hb'
   subst this
   rcases ho' with ⟨b2, t2, ho'⟩ | ⟨h4, _⟩
   ·obtain ⟨bo, hG2⟩ := tok hk
    rw [hGn', ho'] at hG2; cases hG2
   ·exact absurd h4 (hr.2 _ _ hk).2.1
  ·have := hI.inj n k' o o' b hGn hGk' hb hb'
   subst this
   rcases ho with ⟨b2, t2, ho⟩ | ⟨h4, _⟩
   ·obtain ⟨bo, hG2⟩ := tok hk'
    rw [hGn, ho] at hG2; cases hG2
   ·exact absurd h4 (hr.2 _ _ hk').2.1
  ·exact hI.inj n n' o o' b hGn hGn' hb hb'
 ·rw [hI.size, hN]; simp [mkD, U7]
 ·refine a2h hI hr ds v _ hf (fun j => ?_)
  have : C5 (List.replicate N j4.no) j = .no := by
   generalize N = N
   induction N generalizing j with
   | zero => rfl
   | succ n ih => cases j with
    | zero => rfl
    | succ j => exact ih j
  rw [this]; trivial
 ·intro k c hc
  obtain ⟨h1, h2⟩ := a2g ds v hf k c hc
  obtain ⟨b, hG, hb⟩ := hI.box k c h1
  exact ⟨b, g0.at_box hr hG h2, hb.move rfl (p5.refl _ _) fun h8 bo hG2 => ⟨g0.at_tok hr hG2 (by omega), fun _ _ => rfl⟩⟩
 ·intro k bo hG
  rcases g0.at_cases hr hG with ⟨k', hk, _⟩ | ⟨_, _, ⟨b, t, ho⟩ | ⟨h4, _⟩⟩
  ·have := (hr.2 _ _ hk).1; omega
  ·cases ho
  ·omega
 ·intro k b hk
  obtain ⟨h1, h2, h3⟩ := hI.fix k b hk
  refine ⟨h1, h2, fun o ho => ?_⟩
  rcases g0.at_cases hr ho with ⟨k', hk', _⟩ | ⟨_, hG, _⟩
  ·have := (hr.2 _ _ hk').1; omega
  ·exact h3 o hG
theorem Inv.frz : ∀ (ds : List LS) {G : g0} {I : Nat → Prop} {st : St}, Inv w0 F Fn I0 W noZ G I st tm w → ∃ G' I', Inv w0 F Fn I0 W noZ G' I' (VE.frz ds st) tm w
 | [], G, I, st, h => ⟨G, I, h⟩
 | .v i t :: r, G, I, st, h => by
  obtain ⟨G', I', h', _⟩ := h.lay (h.slot i)
  exact Inv.frz r h'
 | .o _ _ _ _ :: r, G, I, st, h => Inv.frz r h
 | .b _ _ _ :: r, G, I, st, h => Inv.frz r h
 | .c _ _ :: r, G, I, st, h => Inv.frz r h
 | .f _ _ _ :: r, G, I, st, h => Inv.frz r h
theorem U5 : ∀ (ds : List LS) (st : St), (frz ds st).tmps.length = st.tmps.length
 | [], _ => rfl
 | .v i t :: r, st => by
  rw [frz, U5 r]
  unfold St.lay
  split <;> simp [St.fz]
 | .o _ _ _ _ :: r, st => U5 r st
 | .b _ _ _ :: r, st => U5 r st
 | .c _ _ :: r, st => U5 r st
 | .f _ _ _ :: r, st => U5 r st
theorem a44 {s : ByteArray} : ∀ b ∈ bytesOf s, 0 ≤ b ∧ b ≤ 255 := by
 intro b hb
 obtain ⟨c, _, rfl⟩ := List.mem_map.1 hb
 have := c.toNat_lt
 omega
theorem l0.wf {I : Nat → Prop} {w : World} : ∀ {t : Ty} {x : t.den} {cs : List Value}, l0 I w t x cs → VE.wf t x := by
 intro t
 induction t with
 | int k => intro x cs h; exact h.1
 | bool => intro x cs h; trivial
 | str =>
  intro x cs h
  obtain ⟨s, _, rfl, hs⟩ := h
  exact ⟨by rw [j2]; unfold maxLen at hs; omega, a44⟩
 | unit => intro x cs h; trivial
 | pair a b iha ihb => intro x cs h; obtain ⟨c, d, e, hc, hd⟩ := h; exact ⟨iha hc, ihb hd⟩
 | st a ih => intro x cs h; exact ih (x := x) h
 | sl e ih =>
  intro x cs h
  obtain ⟨A, cap, _, hl, hm, hr⟩ := h
  refine ⟨by unfold maxLen at hm; omega, fun y hy => ?_⟩
  obtain ⟨i, hi, rfl⟩ := List.mem_iff_getElem.1 hy
  obtain ⟨b, o, _, _, cs, hc, _⟩ := hr i hi
  exact ih hc
 | osl n e _ => intro x cs h; trivial
 | hole e _ => intro x cs h; trivial
 | arr m9 e _ => intro x cs h; trivial
theorem g6.wf {I : Nat → Prop} {w : World} {t : Ty} {x : t.den} {v : Value} (h : g6 I w t x v) : VE.wf t x := h.choose_spec.1.wf
theorem a0q.wf (hI : Inv w0 F Fn I0 W noZ G I st tm w) {ren : List (Nat × Nat)} : ∀ {ds : List LS} {v : E1 ds}, a0q st ren ds v → wfD ds v
 | [], _, _ => trivial
 | .v i t :: r, v, h => ⟨by have := hI.slot i; rw [h.1] at this; exact g6.wf this, a0q.wf hI h.2⟩
 | .o i k et e :: r, v, ⟨⟨k', h1, h2⟩, h3⟩ => ⟨by have := hI.slot i; rw [h1] at this; exact g6.wf (R5.rep this), a0q.wf hI h3⟩
 | .b _ _ _ :: r, v, h => a0q.wf (ren := ren) (ds := r) (v := v) hI h.2
 | .c k t :: _, v, h => ⟨by obtain ⟨b, _, ⟨cs, et, _, hr⟩, _⟩ := hI.box k _ h.1.1; exact l0.wf hr, a0q.wf hI h.2⟩
 | .f _ _ _ :: r, v, h => a0q.wf (ren := ren) (ds := r) (v := v) hI h.2
theorem a5w (hI : Inv w0 F Fn I0 W noZ G I st tm w) {N : Nat} {ds : List LS} {Y : E1 ds → Prop} (h : ckD N ds st Y) : ∃ v G' I', Y v ∧ wfD ds v ∧ Inv w0 F Fn I0 W noZ G' I' (mkD N ds v) tm w := by
 unfold ckD at h
 split at h
 ·rename_i hN
  have hN := Nat.eq_of_beq_eq_true hN
  obtain ⟨G1, I1, h1⟩ := Inv.frz ds hI
  obtain ⟨v, ren, h2, _, h4, h5⟩ := a1h ds h ⟨fun a b a' b' ha => (by cases ha), fun a b ha => (by cases ha)⟩
  exact ⟨v, _, _, h2, h5.wf h1, h1.relab h4 (by rw [U5]; exact hN) h5⟩
 ·cases h
end
/-! ### the meaning of a piece of code -/
def N0 (P : Program) (c : Code) (X : Pce) : Prop :=
 ∀ ⦃w0 : World⦄ ⦃F : Nat → Prop⦄ ⦃Fn : Nat → Option Nat⦄ ⦃I0 : Nat → Prop⦄ ⦃W : Nat → Prop⦄ ⦃ds : List Deferred⦄ ⦃G : g0⦄ ⦃I : Nat → Prop⦄ ⦃st : St⦄ ⦃tm : Array Value⦄ ⦃w : World⦄ (Q : Exit → Act → World → Prop) (k : Ex → St → Prop),
  (∀ n, W n) → Inv w0 F Fn I0 W noZ G I st tm w → X st k →
  (∀ e st' tm' w' G' I', k e st' → Inv w0 F Fn I0 W noZ G' I' st' tm' w' → Q e.out ⟨tm', ds⟩ w') → a3a w0 F Fn ds (fun n st => k (.pan n) st) Q → c.wp P Q ⟨tm, ds⟩ w
def p7 (P : Program) (body : Code) (Lb : a2N) : Prop := ∀ p X, Lb.get p = some X → N0 P (at' body p) X
theorem p7.nil {P : Program} {body : Code} : p7 P body [] := fun p X h => by cases h
theorem p7.cons {P : Program} {body : Code} {Lb : a2N} {p : List Nat} {X : Pce} (h : N0 P (at' body p) X) (hL : p7 P body Lb) : p7 P body ((p, X) :: Lb) := by
 intro q Y hq
 simp only [a2N.get] at hq
 split at hq
 ·rename_i e
  have e := a2i e
  subst e
  injection hq with hq; subst hq
  exact h
 ·exact hL q Y hq
section
variable {P : Program} {tb : Tab} {Γ : Nat → Option App} {Kp : Int → St → Prop}
theorem N0.mono {c : Code} {X X' : Pce} (h : N0 P c X') (hX : ∀ st k, X st k → X' st k) : N0 P c X :=
 fun _ _ _ _ _ _ _ _ _ _ _ Q k hW hI hx hk hp => h Q k hW hI (hX _ _ hx) hk hp
theorem a8J {w0 : World} {F : Nat → Prop} {Fn : Nat → Option Nat} {I0 : Nat → Prop} {W : Nat → Prop} {ds : List Deferred} {N : Nat} {dx : DX} {Q : Exit → Act → World → Prop} {k : Ex → St → Prop}
  (hk : ∀ e st' tm' w' G' I', k e st' → Inv w0 F Fn I0 W noZ G' I' st' tm' w' → Q e.out ⟨tm', ds⟩ w') (hp : a3a w0 F Fn ds (fun n st => k (.pan n) st) Q)
  {e : Ex} {st' : St} {tm' : Array Value} {w' : World} {G' : g0} {I' : Nat → Prop} (h' : VE.wk N dx k e st') (hI' : Inv w0 F Fn I0 W noZ G' I' st' tm' w') : Q e.out ⟨tm', ds⟩ w' := by
 have one : wkn N dx k e st' → Q e.out ⟨tm', ds⟩ w' := fun h' => by
  unfold VE.wkn at h'
  split at h'
  ·obtain ⟨v', G2, I2, h3, hv', h4⟩ := a5w hI' h'
   exact hk _ _ _ _ _ _ (h3 hv') h4
  ·cases h'
 cases e with
 | nrm => exact one h'
 | ret => exact one h'
 | exit i => exact one h'
 | pan n => exact hp n _ tm' w' h' a5u.st0 hI'.since
theorem N0.wk {c : Code} {N : Nat} {ds : List LS} {dx : DX} {X : Pce} (h : N0 P c X) : N0 P c (fun st k => ckD N ds st fun v => wfD ds v → X (mkD N ds v) (wk N dx k)) := by
 intro w0 F Fn I0 W dd G I st tm w Q k hW hI hx hk hp
 obtain ⟨v, G1, I1, h1, hv, h2⟩ := a5w hI hx
 refine h Q _ hW h2 (h1 hv) (fun e st' tm' w' G' I' h' hI' => a8J hk hp h' hI') (fun n _ tm' w' h' _ hs => hp n st0 tm' w' h' a5u.st0 hs)
theorem N0.loop {c : Code} {body : Pce} (hb : N0 P c body) (N : Nat) (dd : List LS) (dx : DX) : N0 P (.loop c) (fun st k => ckD N dd st fun v => wfD dd v → ∃ n, lpD N dd dx body k n v) := by
 intro w0 F Fn I0 W ds G I st tm w Q k hW hI hx hk hp
 obtain ⟨v, G1, I1, hv0, hv, h2⟩ := a5w hI hx
 obtain ⟨n, hn⟩ := hv0 hv
 have key : ∀ (m : Nat) {v : E1 dd} {G : g0} {I : Nat → Prop} {tm : Array Value} {w : World}, wfD dd v → Inv w0 F Fn I0 W noZ G I (mkD N dd v) tm w → lpD N dd dx body k m v →
   ∀ (b : Frame) (k' : List Item) (cs : List Frame), ∃ e a' w', Q e a' w' ∧ Arrives P (lone (b.at ⟨tm, ds⟩ (.code c :: .inLoop c :: k')) cs w) b k' cs e a' w' := by
  intro m
  induction m with
  | zero => intro v G I tm w _ _ h; cases h
  | succ m ihm =>
   intro v G I tm w hv hI h b k' cs
   have out : ∀ (e : Ex) (st' : St) (tm' : Array Value) (w' : World) (G' : g0) (I' : Nat → Prop), VE.wk N dx k e st' → Inv w0 F Fn I0 W noZ G' I' st' tm' w' → Q e.out ⟨tm', ds⟩ w' := by
    intro e st' tm' w' G' I' h' hI'
    exact a8J hk hp h' hI'
   obtain ⟨e, a₁, w₁, hq, harr⟩ := hb (Exit.then (fun a' w' => ∃ (v' : E1 dd) (tm' : Array Value) (G' : g0) (I' : Nat → Prop), a' = ⟨tm', ds⟩ ∧ wfD dd v' ∧ lpD N dd dx body k m v' ∧ Inv w0 F Fn I0 W noZ G' I' (mkD N dd v') tm' w') Q) _ hW hI (h hv)
    (fun e st' tm' w' G' I' h' hI' => by
     cases e with
     | nrm =>
      obtain ⟨v', G2, I2, h3, hv', h4⟩ := a5w hI' h'
      exact ⟨v', tm', G2, I2, rfl, hv', h3, h4⟩
     | ret => exact out .ret st' tm' w' G' I' h' hI'
     | exit i => exact out (.exit i) st' tm' w' G' I' h' hI'
     | pan n => exact hp n _ tm' w' h' a5u.st0 hI'.since) (fun n _ tm' w' h' _ hs => hp n st0 tm' w' h' a5u.st0 hs) b (.inLoop c :: k') cs
   cases e with
   | normal =>
    obtain ⟨v', tm', G', I', rfl, hv', h', hI'⟩ := hq
    obtain ⟨e₂, a₂, w₂, hq₂, harr₂⟩ := ihm hv' hI' h' b k' cs
    exact ⟨e₂, a₂, w₂, hq₂, .of_steps (Steps.trans harr (.one step_inLoop)) harr₂⟩
   | exit id => exact ⟨_, a₁, w₁, hq, .pass (x := .inLoop c) rfl (fun _ _ => .inl (by simp)) harr⟩
   | goto l => exact ⟨_, a₁, w₁, hq, .pass (x := .inLoop c) rfl (fun _ _ => .inl (by simp)) harr⟩
   | ret => exact ⟨_, a₁, w₁, hq, .pass (x := .inLoop c) rfl (fun _ _ => .inl (by simp)) harr⟩
   | panic ch => exact ⟨_, a₁, w₁, hq, .pass (x := .inLoop c) rfl (fun _ _ => .inl (by simp)) harr⟩
   | outgrown => exact ⟨_, a₁, w₁, hq, .pass (x := .inLoop c) rfl (fun _ _ => .inl (by simp)) harr⟩
 intro b k' cs
 obtain ⟨e, a', w', hq, harr⟩ := key n hv h2 hn b k' cs
 exact ⟨e, a', w', hq, .of_steps (.one step_loop) harr⟩
theorem a1a (hM : P.follows .mixedOrders = true) (hT : o4 P tb) (hΓ : GOk P Γ) {body : Code} {Lb : a2N} (hL : p7 P body Lb) : ∀ (c : Code) (p : List Nat), at' body p = c → C1 c = true → N0 P c (ex tb Γ Lb c p) := by
 intro c
 induction c with
 | skip => intro p _ _ w0 F Fn I0 W ds G I st tm w Q k hW hI h hk hp; exact wp_skip (hk .nrm st tm w G I h hI)
 | region id ops draw =>
  intro p _ hs w0 F Fn I0 W ds G I st tm w Q k hW hI h hk hpn
  cases draw with
  | true =>
   simp only [ex] at h
   split at h
   ·rename_i hsel
    refine wp_mono (Q := fun e a w => match e with | .panic c => a.defers = ds ∧ ∃ n, c = [{ v := M9.pan n, recovered := false }] ∧ k (.pan n) st0 ∧ Z4 w0 w F | e => Q e a w) ?_ (fun e a w h' => by
     cases e with
     | panic c =>
      obtain ⟨h1, n, rfl, h2, h3⟩ := h'
      obtain ⟨at', ad⟩ := a
      dsimp only at h1; subst h1
      exact hpn n st0 at' w h2 a5u.st0 h3
     | _ => exact h')
    have hIn : Inv w0 F Fn I0 (fun n => a04 (a3U st ops.toList ops.toList) n = true) noZ G I st tm { w with drawn := w.drawn + 1 } :=
     {(hI.drew (w.drawn + 1)) with hold := fun b ob hz => by cases hz }
    exact wp_region_held hM (a6H (Kp := fun n _ => k (.pan n) st0) (Q := fun e a w => match e with | .panic c => a.defers = ds ∧ ∃ n, c = [{ v := M9.pan n, recovered := false }] ∧ k (.pan n) st0 ∧ Z4 w0 w F | e => Q e a w) (k := k .nrm) (fun n _ tm' w' h1 _ h2 => ⟨rfl, n, rfl, h1, h2⟩) hT hΓ hsel hs (fun c a w d v h => by cases d <;> exact h) (fun st' tm' w' G' I' Zc' h' hI' => hk .nrm st' tm' w' G' I' h' { hI' with hold := fun b ob hz => by cases hz }) ops.size (Array.replicate ops.size false) hIn h)
   ·cases h
  | false =>
   simp only [ex] at h
   refine wp_region (a4I (k := k .nrm) Q hpn hT hΓ hW ops ops.toList (List.range ops.size) (fun o ho => a35 hs ho) (by simp) (fun i hi => ?_) hI h (fun st' tm' w' G' I' => hk .nrm st' tm' w' G' I'))
   have hi' : i < ops.size := by simpa using hi
   exact ⟨i, ops[i], by simp [hi'], by simp [hi'], by simp [hi']⟩
 | seq a b iha ihb =>
  intro p hp hs w0 F Fn I0 W ds G I st tm w Q k hW hI h hk hpn
  simp only [C1] at hs
  split at hs
  ·rename_i ha
   simp only [ex] at h
   refine wp_seq (iha (0 :: p) (by simp [at', hp, a3e]) ha _ _ hW hI h ?_ (fun n st' tm' w' h1 h2 => hpn n st' tm' w' h1 h2))
   intro e st' tm' w' G' I' h' hI'
   cases e with
   | nrm =>
    dsimp only at h'
    split at h'
    ·rename_i X hX
     have := hL _ X hX
     rw [show at' body (1 :: p) = b by simp [at', hp, a3e]] at this
     exact this Q k hW hI' h' hk hpn
    ·exact ihb (1 :: p) (by simp [at', hp, a3e]) hs Q k hW hI' h' hk hpn
   | ret => exact hk .ret st' tm' w' G' I' h' hI'
   | exit i => exact hk (.exit i) st' tm' w' G' I' h' hI'
   | pan n => exact hk (.pan n) st' tm' w' G' I' h' hI'
  ·cases hs
 | cond c a b iha ihb =>
  intro p hp hs w0 F Fn I0 W ds G I st tm w Q k hW hI h hk hpn
  simp only [C1] at hs
  split at hs
  ·rename_i ha
   simp only [ex] at h
   split at h
   ·rename_i t hc
    have hb := hI.ev c ds
    rw [hc] at hb
    have hb := g6.bool_eq hb
    cases t with
    | true => exact wp_cond hb (iha (0 :: p) (by simp [at', hp, a3e]) ha Q k hW hI h hk hpn)
    | false => exact wp_cond hb (ihb (1 :: p) (by simp [at', hp, a3e]) hs Q k hW hI h hk hpn)
   ·cases h
  ·cases hs
 | block id c ih =>
  intro p hp hs w0 F Fn I0 W ds G I st tm w Q k hW hI h hk hpn
  simp only [ex] at h
  refine wp_block (ih (0 :: p) (by simp [at', hp, a3e]) hs _ _ hW hI h ?_ (fun n st' tm' w' h1 h2 => hpn n st' tm' w' h1 h2))
  intro e st' tm' w' G' I' h' hI'
  cases e with
  | nrm => exact hk .nrm st' tm' w' G' I' h' hI'
  | ret => exact hk .ret st' tm' w' G' I' h' hI'
  | pan n => exact hk (.pan n) st' tm' w' G' I' h' hI'
  | exit i =>
   dsimp only at h'
   split at h'
   ·rename_i hi
    have hi := Nat.eq_of_beq_eq_true hi
    show Exit.inBlock id Q (.exit i) _ _
    simp only [Exit.inBlock, hi, if_true]
    exact hk .nrm st' tm' w' G' I' h' hI'
   ·rename_i hi
    have hi := a3C hi
    show Exit.inBlock id Q (.exit i) _ _
    simp only [Exit.inBlock, hi, if_false]
    exact hk (.exit i) st' tm' w' G' I' h' hI'
 | loop c ih =>
  intro p hp hs w0 F Fn I0 W ds G I st tm w Q k hW hI h hk hpn
  simp only [ex] at h
  split at h
  ·rename_i X hX
   have := hL _ X hX
   rw [hp] at this
   exact this Q k hW hI h hk hpn
  ·cases h
 | exit id => intro p _ _ w0 F Fn I0 W ds G I st tm w Q k hW hI h hk hp; exact wp_exit (hk (.exit id) st tm w G I h hI)
 | ret => intro p _ _ w0 F Fn I0 W ds G I st tm w Q k hW hI h hk hp; exact wp_ret (hk .ret st tm w G I h hI)
 | _ => intro p _ _ w0 F Fn I0 W ds G I st tm w Q k hW hI h hk hp; simp [ex] at h
end
end Go.VE
namespace Go.VE
variable [M9]
open Go Go.RowKit Go.Lib
def Z5 : List Arg → Nat → List j4
 | [], _ => []
 | .v t x :: ags, i => .v t x :: Z5 ags (i + 1)
 | .fn f :: ags, i => .fn f [] :: Z5 ags (i + 1)
 | .ref fo _ :: ags, i => b0V fo (nm i 7) :: Z5 ags (i + 1)
 | .own et e x :: ags, i => .own (nm i 0) et e x :: Z5 ags (i + 1)
def a3j : List Arg → Nat → List (Nat × Cell)
 | [], _ => []
 | .v _ _ :: ags, i => a3j ags (i + 1)
 | .fn _ :: ags, i => a3j ags (i + 1)
 | .ref fo c :: ags, i => (nm i 7, c) :: a3j ags (i + 1)
 | .own _ _ _ :: ags, i => a3j ags (i + 1)
/-- which results are to be slices of the caller's own -/
abbrev a3V := List Bool
def unw : List ResultVar → a3V → List Operand
 | .tmp t :: rs, false :: ws => .tmp t :: unw rs ws
 | _ :: rs, _ :: ws => unw rs ws
 | .tmp t :: rs, [] => .tmp t :: unw rs []
 | _ :: rs, [] => unw rs []
 | [], _ => []
def a9D (tb : Tab) (st : St) : ResultVar → Option P8
 | .tmp t => match C5 st.tmps t with
  | .v t x => some (.v t x)
  | .own _ et e x => some (.fr et e x)
  | _ => none
 | .cell a t => match tb.get t with
  | none => none
  | some ti => match C5 st.tmps a with
   | .box b p => match l6 st.boxes b with
    | none => none
    | some c => match path c p with
     | none => none
     | some d => match ti.ty.beq d.t with
      | true => some (.v d.t d.x)
      | false => none
   | _ => none
def a4N (tb : Tab) (st : St) : List ResultVar → Option (List P8)
 | [] => some []
 | r :: rs => match a9D tb st r with
  | none => none
  | some x => match a4N tb st rs with
   | none => none
   | some xs => some (x :: xs)
def G0 (st : St) : List ResultVar → List Nat
 | [] => []
 | .tmp t :: rs => match C5 st.tmps t with
  | .own k _ _ _ => k :: G0 st rs
  | _ => G0 st rs
 | _ :: rs => G0 st rs
def a10 (st : St) : List Arg → Nat → Option (List Cell)
 | [], _ => some []
 | .v _ _ :: ags, i => a10 st ags (i + 1)
 | .fn _ :: ags, i => a10 st ags (i + 1)
 | .ref _ _ :: ags, i => match l6 st.boxes (nm i 7) with
  | none => none
  | some c => match a10 st ags (i + 1) with
   | none => none
   | some cs => some (c :: cs)
 | .own _ _ _ :: ags, i => a10 st ags (i + 1)
def a9l : List P8 → Res
 | [x] => .one x
 | xs => .tup xs
def a77 (tb : Tab) (rs : List ResultVar) (ws : a3V) (args : List Arg) (st : St) (K : Res → List Cell → Prop) : Prop :=
 match a4N tb (layAll st (unw rs ws) st) rs, a10 (layAll st (unw rs ws) st) args 0 with
 | some xs, some outs => match u5 (G0 (layAll st (unw rs ws) st) rs) with
  | true => K (a9l xs) outs
  | false => False
 | _, _ => False
def p9 (f : Func) : Code := f.body.getD .skip
def a9j (f : Func) (args : List Arg) : St := ⟨Z5 args 0 ++ List.replicate (f.ntmps - args.length) .no, a3j args 0⟩
def a9W (tb : Tab) (f : Func) (ws : a3V) (args : List Arg) (K : Res → List Cell → Prop) : Ex → St → Prop
 | .exit _, _ => False
 | .nrm, st => a77 tb f.results.toList ws args st K
 | .ret, st => a77 tb f.results.toList ws args st K
 | .pan n, _ => K (.pan n) []
/-- a whole function; its body may be a piece with a meaning of its own -/
def b0r (tb : Tab) (X : Pce) (f : Func) (ws : a3V) : App := ⟨[], fun args K => (a9j f args).frc fun st => X st (a9W tb f ws args K)⟩
def a3p (tb : Tab) (Γ : Nat → Option App) (Lb : a2N) (f : Func) (ws : a3V) : App := b0r tb (ex tb Γ Lb (p9 f) []) f ws
def a2b (f : Func) : Bool := f.body.isSome && !(f.name == "runtime.NumGoroutine")
theorem enters_of {P : Program} {f : FuncId} {fn : Func} (hf : P.funcs[f]? = some fn) (h : a2b fn = true) : a7M P f := by
 intro args w
 unfold a2b at h
 simp only [Bool.and_eq_true, Bool.not_eq_true'] at h
 have hb : ¬ fn.body = none := by intro e; rw [e] at h; simp at h
 have hn : ¬ fn.name = "runtime.NumGoroutine" := by simpa using h.2
 simp [callFunc, hf, hn, hb]
/-! ### the beginning -/
def j9 : List Arg → List Nat → Nat → Nat → Option (Nat × Ty)
 | .v _ _ :: ags, bs, i, k => j9 ags bs (i + 1) k
 | .fn _ :: ags, bs, i, k => j9 ags bs (i + 1) k
 | .ref fo c :: ags, b :: bs, i, k => if k = nm i 7 then some (b, c.t.era) else j9 ags bs (i + 1) k
 | .own _ _ _ :: ags, _ :: bs, i, k => j9 ags bs (i + 1) k
 | _, _, _, _ => none
def a9b (v : Value) (b : Nat) : Option Nat := match v with | .slice none _ _ => none | _ => some b
/-- the names at the beginning -/
def B0 : List Arg → List Value → List Nat → Nat → Nat → Option Own
 | .v _ _ :: ags, _ :: vs, bs, i, k => B0 ags vs bs (i + 1) k
 | .fn _ :: ags, _ :: vs, bs, i, k => B0 ags vs bs (i + 1) k
 | .ref fo c :: ags, _ :: vs, b :: bs, i, k => if k = nm i 7 then some (.box b c.t.era) else B0 ags vs bs (i + 1) k
 | .own _ _ _ :: ags, v :: vs, b :: bs, i, k => if k = nm i 0 then some (.tok (a9b v b)) else B0 ags vs bs (i + 1) k
 | _, _, _, _, _ => none
theorem G7 : ∀ (ags : List Arg) (i : Nat), (Z5 ags i).length = ags.length
 | [], _ => rfl
 | .v _ _ :: ags, i => by simp [Z5, G7 ags (i + 1)]
 | .fn _ :: ags, i => by simp [Z5, G7 ags (i + 1)]
 | .ref _ _ :: ags, i => by simp [Z5, G7 ags (i + 1)]
 | .own _ _ _ :: ags, i => by simp [Z5, G7 ags (i + 1)]
theorem j3.length {I : Nat → Prop} {w : World} : ∀ {ags : List Arg} {vs : List Value} {bs : List Nat}, j3 I w ags vs bs → vs.length = ags.length
 | [], [], [], _ => rfl
 | .v _ _ :: ags, v :: vs, bs, h => by simp [j3.length h.2]
 | .fn _ :: ags, v :: vs, bs, h => by simp [j3.length h.2]
 | .ref _ _ :: ags, v :: vs, b :: bs, h => by simp [j3.length h.2.2.2.2.2]
 | .own _ _ _ :: ags, v :: vs, b :: bs, h => by simp [j3.length h.2]
 | [], _ :: _, _, h => by cases h
 | [], [], _ :: _, h => by cases h
 | .v _ _ :: _, [], _, h => by cases h
 | .fn _ :: _, [], _, h => by cases h
 | .ref _ _ :: _, [], _, h => by cases h
 | .ref _ _ :: _, _ :: _, [], h => by cases h
 | .own _ _ _ :: _, [], _, h => by cases h
 | .own _ _ _ :: _, _ :: _, [], h => by cases h
theorem B3 {I : Nat → Prop} {w : World} : ∀ {ags : List Arg} {vs : List Value} {bs : List Nat} {i k b : Nat} {t : Ty}, j3 I w ags vs bs → j9 ags bs i k = some (b, t) →
  k % 8 = 7 ∧ nm i 7 ≤ k ∧ b ∈ bs ∧ ¬ I b ∧ b < w.heap.size
 | .v _ _ :: ags, v :: vs, bs, i, k, b, t, h, hf => by
  obtain ⟨h1, h2, h3⟩ := B3 h.2 (show j9 ags bs (i + 1) k = some (b, t) from hf)
  exact ⟨h1, by unfold nm at h2 ⊢; omega, h3⟩
 | .fn _ :: ags, v :: vs, bs, i, k, b, t, h, hf => by
  obtain ⟨h1, h2, h3⟩ := B3 h.2 (show j9 ags bs (i + 1) k = some (b, t) from hf)
  exact ⟨h1, by unfold nm at h2 ⊢; omega, h3⟩
 | .own _ _ _ :: ags, v :: vs, b0 :: bs, i, k, b, t, h, hf => by
  obtain ⟨h1, h2, h3, h4⟩ := B3 h.2 (show j9 ags bs (i + 1) k = some (b, t) from hf)
  exact ⟨h1, by unfold nm at h2 ⊢; omega, List.mem_cons_of_mem _ h3, h4⟩
 | .ref fo c :: ags, v :: vs, b0 :: bs, i, k, b, t, h, hf => by
  simp only [j9] at hf
  split at hf
  ·rename_i hk
   simp only [Option.some.injEq, Prod.mk.injEq] at hf
   obtain ⟨rfl, rfl⟩ := hf
   exact ⟨by rw [hk]; unfold nm; omega, by omega, List.mem_cons_self, h.2.1, h.2.2.1⟩
  ·obtain ⟨h1, h2, h3, h4⟩ := B3 h.2.2.2.2.2 hf
   exact ⟨h1, by unfold nm at h2 ⊢; omega, List.mem_cons_of_mem _ h3, h4⟩
 | [], _, _, _, _, _, _, _, hf => by simp [j9] at hf
 | .v _ _ :: _, [], _, _, _, _, _, h, _ => by cases h
 | .fn _ :: _, [], _, _, _, _, _, h, _ => by cases h
 | .ref _ _ :: _, [], _, _, _, _, _, h, _ => by cases h
 | .ref _ _ :: _, _ :: _, [], _, _, _, _, h, _ => by cases h
 | .own _ _ _ :: _, [], _, _, _, _, _, h, _ => by cases h
 | .own _ _ _ :: _, _ :: _, [], _, _, _, _, h, _ => by cases h
theorem a0S {I : Nat → Prop} {w : World} : ∀ {ags : List Arg} {vs : List Value} {bs : List Nat} {i k k' b : Nat} {t t' : Ty}, j3 I w ags vs bs → j9 ags bs i k = some (b, t) → j9 ags bs i k' = some (b, t') → k = k'
 | .v _ _ :: ags, v :: vs, bs, i, k, k', b, t, t', h, hf, hf' => a0S h.2 (show j9 ags bs (i + 1) k = some (b, t) from hf) hf'
 | .fn _ :: ags, v :: vs, bs, i, k, k', b, t, t', h, hf, hf' => a0S h.2 (show j9 ags bs (i + 1) k = some (b, t) from hf) hf'
 | .own _ _ _ :: ags, v :: vs, b0 :: bs, i, k, k', b, t, t', h, hf, hf' => a0S h.2 (show j9 ags bs (i + 1) k = some (b, t) from hf) hf'
 | .ref fo c :: ags, v :: vs, b0 :: bs, i, k, k', b, t, t', h, hf, hf' => by
  simp only [j9] at hf hf'
  split at hf <;> split at hf'
  ·rename_i e1 e2; rw [e1, e2]
  ·simp only [Option.some.injEq, Prod.mk.injEq] at hf
   obtain ⟨rfl, rfl⟩ := hf
   exact absurd (B3 h.2.2.2.2.2 hf').2.2.1 h.2.2.2.1
  ·simp only [Option.some.injEq, Prod.mk.injEq] at hf'
   obtain ⟨rfl, rfl⟩ := hf'
   exact absurd (B3 h.2.2.2.2.2 hf).2.2.1 h.2.2.2.1
  ·exact a0S h.2.2.2.2.2 hf hf'
 | [], _, _, _, _, _, _, _, _, _, hf, _ => by simp [j9] at hf
 | .v _ _ :: _, [], _, _, _, _, _, _, _, h, _, _ => by cases h
 | .fn _ :: _, [], _, _, _, _, _, _, _, h, _, _ => by cases h
 | .ref _ _ :: _, [], _, _, _, _, _, _, _, h, _, _ => by cases h
 | .ref _ _ :: _, _ :: _, [], _, _, _, _, _, _, h, _, _ => by cases h
 | .own _ _ _ :: _, [], _, _, _, _, _, _, _, h, _, _ => by cases h
 | .own _ _ _ :: _, _ :: _, [], _, _, _, _, _, _, h, _, _ => by cases h
theorem S1 {I : Nat → Prop} {w : World} : ∀ {ags : List Arg} {vs : List Value} {bs : List Nat} {i b : Nat}, j3 I w ags vs bs → b ∈ l4 ags bs → ∃ k t, j9 ags bs i k = some (b, t)
 | .v _ _ :: ags, v :: vs, bs, i, b, h, hb => S1 (ags := ags) (i := i + 1) h.2 hb
 | .fn _ :: ags, v :: vs, bs, i, b, h, hb => S1 (ags := ags) (i := i + 1) h.2 hb
 | .own _ _ _ :: ags, v :: vs, b0 :: bs, i, b, h, hb => S1 (ags := ags) (i := i + 1) h.2 hb
 | .ref fo c :: ags, v :: vs, b0 :: bs, i, b, h, hb => by
  rcases List.mem_cons.1 hb with rfl | hb
  ·exact ⟨nm i 7, c.t.era, by simp [j9]⟩
  ·obtain ⟨k, t, hk⟩ := S1 (ags := ags) (i := i + 1) h.2.2.2.2.2 hb
   refine ⟨k, t, ?_⟩
   simp only [j9]
   rw [if_neg]
   ·exact hk
   ·intro e
    have := (B3 h.2.2.2.2.2 hk).2.1
    rw [e] at this; unfold nm at this; omega
 | [], _, _, _, _, _, hb => by simp [l4] at hb
 | .v _ _ :: _, [], _, _, _, h, _ => by cases h
 | .fn _ :: _, [], _, _, _, h, _ => by cases h
 | .ref _ _ :: _, [], _, _, _, h, _ => by cases h
 | .ref _ _ :: _, _ :: _, [], _, _, h, _ => by cases h
 | .own _ _ _ :: _, [], _, _, _, h, _ => by cases h
 | .own _ _ _ :: _, _ :: _, [], _, _, h, _ => by cases h
/-- a name is of a variable that was handed in, or of a slice that was handed over -/
theorem O4 {I : Nat → Prop} {w : World} : ∀ {ags : List Arg} {vs : List Value} {bs : List Nat} {i k : Nat} {o : Own}, j3 I w ags vs bs → B0 ags vs bs i k = some o →
  nm i 0 ≤ k ∧ ((∃ b t, o = .box b t ∧ j9 ags bs i k = some (b, t)) ∨ (k % 8 = 0 ∧ ∃ bo, o = .tok bo ∧ ∀ b, bo = some b → b ∈ bs ∧ ¬ I b ∧ b < w.heap.size ∧ ∀ j t, j9 ags bs i j ≠ some (b, t)))
 | .v _ _ :: ags, v :: vs, bs, i, k, o, h, hf => by
  obtain ⟨h1, h2⟩ := O4 h.2 (show B0 ags vs bs (i + 1) k = some o from hf)
  exact ⟨by unfold nm at h1 ⊢; omega, h2⟩
 | .fn _ :: ags, v :: vs, bs, i, k, o, h, hf => by
  obtain ⟨h1, h2⟩ := O4 h.2 (show B0 ags vs bs (i + 1) k = some o from hf)
  exact ⟨by unfold nm at h1 ⊢; omega, h2⟩
 | .own _ _ _ :: ags, v :: vs, b0 :: bs, i, k, o, h, hf => by
  simp only [B0] at hf
  split at hf
  ·rename_i hk
   simp only [Option.some.injEq] at hf; subst hf
   refine ⟨by omega, .inr ⟨by rw [hk]; unfold nm; omega, _, rfl, fun b hb => ?_⟩⟩
   rcases h.1 with ⟨rfl, _, _⟩ | ⟨hr, h2, h3, h4⟩
   ·cases hb
   ·obtain ⟨cap, cur, fr, hv, _⟩ := hr
    rw [hv] at hb
    simp only [a9b, Option.some.injEq] at hb; subst hb
    exact ⟨List.mem_cons_self, h2, h3, fun j t hj => h4 (B3 h.2 (show j9 ags bs (i + 1) j = some (b0, t) from hj)).2.2.1⟩
  ·obtain ⟨h1, h2⟩ := O4 h.2 hf
   refine ⟨by unfold nm at h1 ⊢; omega, ?_⟩
   rcases h2 with h2 | ⟨h2, bo, h3, h4⟩
   ·exact .inl h2
   ·exact .inr ⟨h2, bo, h3, fun b hb => ⟨List.mem_cons_of_mem _ (h4 b hb).1, (h4 b hb).2⟩⟩
 | .ref fo c :: ags, v :: vs, b0 :: bs, i, k, o, h, hf => by
  simp only [B0] at hf
  split at hf
  ·rename_i hk
   simp only [Option.some.injEq] at hf; subst hf
   exact ⟨by rw [hk]; unfold nm; omega, .inl ⟨b0, c.t.era, rfl, by simp [j9, hk]⟩⟩
  ·rename_i hk
   obtain ⟨h1, h2⟩ := O4 h.2.2.2.2.2 hf
   refine ⟨by unfold nm at h1 ⊢; omega, ?_⟩
   rcases h2 with ⟨b, t, h2, h3⟩ | ⟨h2, bo, h3, h4⟩
   ·exact .inl ⟨b, t, h2, by simp only [j9]; rw [if_neg hk]; exact h3⟩
   ·refine .inr ⟨h2, bo, h3, fun b hb => ?_⟩
    obtain ⟨q1, q2, q3, q4⟩ := h4 b hb
    refine ⟨List.mem_cons_of_mem _ q1, q2, q3, fun j t hj => ?_⟩
    simp only [j9] at hj
    split at hj
    ·simp only [Option.some.injEq, Prod.mk.injEq] at hj
     obtain ⟨rfl, rfl⟩ := hj
     exact h.2.2.2.1 q1
    ·exact q4 j t hj
 | [], _, _, _, _, _, _, hf => by simp [B0] at hf
 | .v _ _ :: _, [], _, _, _, _, h, _ => by cases h
 | .fn _ :: _, [], _, _, _, _, h, _ => by cases h
 | .ref _ _ :: _, [], _, _, _, _, h, _ => by cases h
 | .ref _ _ :: _, _ :: _, [], _, _, _, h, _ => by cases h
 | .own _ _ _ :: _, [], _, _, _, _, h, _ => by cases h
 | .own _ _ _ :: _, _ :: _, [], _, _, _, h, _ => by cases h
theorem F8 {I : Nat → Prop} {w : World} : ∀ {ags : List Arg} {vs : List Value} {bs : List Nat} {i k b : Nat} {t : Ty}, j3 I w ags vs bs → j9 ags bs i k = some (b, t) → B0 ags vs bs i k = some (.box b t)
 | .v _ _ :: ags, v :: vs, bs, i, k, b, t, h, hf => F8 (ags := ags) (i := i + 1) h.2 hf
 | .fn _ :: ags, v :: vs, bs, i, k, b, t, h, hf => F8 (ags := ags) (i := i + 1) h.2 hf
 | .own _ _ _ :: ags, v :: vs, b0 :: bs, i, k, b, t, h, hf => by
  have hf' : j9 ags bs (i + 1) k = some (b, t) := hf
  simp only [B0]
  rw [if_neg]
  ·exact F8 h.2 hf'
  ·intro e
   have := (B3 h.2 hf').1
   rw [e] at this; unfold nm at this; omega
 | .ref fo c :: ags, v :: vs, b0 :: bs, i, k, b, t, h, hf => by
  simp only [j9] at hf
  simp only [B0]
  split at hf
  ·rename_i hk
   simp only [Option.some.injEq, Prod.mk.injEq] at hf
   obtain ⟨rfl, rfl⟩ := hf
   rw [if_pos hk]
  ·rename_i hk
   rw [if_neg hk]
   exact F8 h.2.2.2.2.2 hf
 | [], _, _, _, _, _, _, _, hf => by simp [j9] at hf
 | .v _ _ :: _, [], _, _, _, _, _, h, _ => by cases h
 | .fn _ :: _, [], _, _, _, _, _, h, _ => by cases h
 | .ref _ _ :: _, [], _, _, _, _, _, h, _ => by cases h
 | .ref _ _ :: _, _ :: _, [], _, _, _, _, h, _ => by cases h
 | .own _ _ _ :: _, [], _, _, _, _, _, h, _ => by cases h
 | .own _ _ _ :: _, _ :: _, [], _, _, _, _, h, _ => by cases h
/-- names of blocks are of blocks of their own -/
theorem a1e {I : Nat → Prop} {w : World} {ags : List Arg} {vs : List Value} {bs : List Nat} {i k b : Nat} {o : Own} (h : j3 I w ags vs bs) (hG : B0 ags vs bs i k = some o) (hb : o.blk = some b) : b ∈ bs ∧ ¬ I b ∧ b < w.heap.size := by
 rcases (O4 h hG).2 with ⟨b', t, rfl, hf⟩ | ⟨_, bo, rfl, hf⟩
 ·injection hb with e; subst e
  obtain ⟨_, _, h3, h4, h5⟩ := B3 h hf
  exact ⟨h3, h4, h5⟩
 ·obtain ⟨h1, h2, h3, _⟩ := hf b hb
  exact ⟨h1, h2, h3⟩
theorem a0A {I : Nat → Prop} {w : World} : ∀ {ags : List Arg} {vs : List Value} {bs : List Nat} {i k k' b : Nat} {o o' : Own}, j3 I w ags vs bs → B0 ags vs bs i k = some o → B0 ags vs bs i k' = some o' → o.blk = some b → o'.blk = some b → k = k'
 | .v _ _ :: ags, v :: vs, bs, i, k, k', b, o, o', h, hf, hf', hb, hb' => a0A h.2 (show B0 ags vs bs (i + 1) k = some o from hf) hf' hb hb'
 | .fn _ :: ags, v :: vs, bs, i, k, k', b, o, o', h, hf, hf', hb, hb' => a0A h.2 (show B0 ags vs bs (i + 1) k = some o from hf) hf' hb hb'
 | .own _ _ _ :: ags, v :: vs, b0 :: bs, i, k, k', b, o, o', h, hf, hf', hb, hb' => by
  simp only [B0] at hf hf'
  have one : ∀ {o : Own} {b : Nat}, o = Own.tok (a9b v b0) → o.blk = some b → b = b0 ∧ b0 ∉ bs := by
   intro o b e hb
   subst e
   rcases h.1 with ⟨rfl, _, _⟩ | ⟨hr, h2, h3, h4⟩
   ·cases hb
   ·obtain ⟨cap, cur, fr, hv, _⟩ := hr
    rw [hv] at hb
    injection hb with e; subst e
    exact ⟨rfl, h4⟩
  split at hf <;> split at hf'
  ·rename_i e1 e2; rw [e1, e2]
  ·injection hf with e
   obtain ⟨rfl, h4⟩ := one e.symm hb
   exact absurd (a1e h.2 hf' hb').1 h4
  ·injection hf' with e
   obtain ⟨rfl, h4⟩ := one e.symm hb'
   exact absurd (a1e h.2 hf hb).1 h4
  ·exact a0A h.2 hf hf' hb hb'
 | .ref fo c :: ags, v :: vs, b0 :: bs, i, k, k', b, o, o', h, hf, hf', hb, hb' => by
  simp only [B0] at hf hf'
  split at hf <;> split at hf'
  ·rename_i e1 e2; rw [e1, e2]
  ·injection hf with e; subst e
   injection hb with e; subst e
   exact absurd (a1e h.2.2.2.2.2 hf' hb').1 h.2.2.2.1
  ·injection hf' with e; subst e
   injection hb' with e; subst e
   exact absurd (a1e h.2.2.2.2.2 hf hb).1 h.2.2.2.1
  ·exact a0A h.2.2.2.2.2 hf hf' hb hb'
 | [], _, _, _, _, _, _, _, _, _, hf, _, _, _ => by simp [B0] at hf
 | .v _ _ :: _, [], _, _, _, _, _, _, _, h, _, _, _, _ => by cases h
 | .fn _ :: _, [], _, _, _, _, _, _, _, h, _, _, _, _ => by cases h
 | .ref _ _ :: _, [], _, _, _, _, _, _, _, h, _, _, _, _ => by cases h
 | .ref _ _ :: _, _ :: _, [], _, _, _, _, _, _, h, _, _, _, _ => by cases h
 | .own _ _ _ :: _, [], _, _, _, _, _, _, _, h, _, _, _, _ => by cases h
 | .own _ _ _ :: _, _ :: _, [], _, _, _, _, _, _, h, _, _, _, _ => by cases h
theorem a1Y {I : Nat → Prop} {w : World} : ∀ {ags : List Arg} {vs : List Value} {bs : List Nat} {i k : Nat} {c : Cell}, j3 I w ags vs bs → l6 (a3j ags i) k = some c → ∃ b, j9 ags bs i k = some (b, c.t.era) ∧ a4o I w b c
 | .v _ _ :: ags, v :: vs, bs, i, k, c, h, hc => a1Y (i := i + 1) h.2 hc
 | .fn _ :: ags, v :: vs, bs, i, k, c, h, hc => a1Y (i := i + 1) h.2 hc
 | .own _ _ _ :: ags, v :: vs, _ :: bs, i, k, c, h, hc => a1Y (i := i + 1) h.2 hc
 | .ref fo c0 :: ags, v :: vs, b0 :: bs, i, k, c, h, hc => by
  simp only [a3j, l6] at hc
  split at hc
  ·rename_i hk
   have hk := Nat.eq_of_beq_eq_true hk
   simp only [Option.some.injEq] at hc; subst hc
   exact ⟨b0, by simp [j9, hk], h.2.2.2.2.1⟩
  ·rename_i hk
   have hk := a3C hk
   obtain ⟨b, h1, h2⟩ := a1Y (i := i + 1) h.2.2.2.2.2 hc
   exact ⟨b, by simp [j9, Ne.symm hk, h1], h2⟩
 | [], _, _, _, _, _, _, hc => by simp [a3j, l6] at hc
 | .v _ _ :: _, [], _, _, _, _, h, _ => by cases h
 | .fn _ :: _, [], _, _, _, _, h, _ => by cases h
 | .ref _ _ :: _, [], _, _, _, _, h, _ => by cases h
 | .ref _ _ :: _, _ :: _, [], _, _, _, h, _ => by cases h
 | .own _ _ _ :: _, [], _, _, _, _, h, _ => by cases h
 | .own _ _ _ :: _, _ :: _, [], _, _, _, h, _ => by cases h
theorem a1Z {I : Nat → Prop} {w : World} : ∀ {ags : List Arg} {vs : List Value} {bs : List Nat} (i j : Nat) (G : g0), j3 I w ags vs bs → (∀ k o, B0 ags vs bs i k = some o → G k = some o) → j < ags.length →
  B9 G I w (C5 (Z5 ags i) j) (vs.getD j undef)
 | .v t x :: ags, v :: vs, bs, i, 0, G, h, _, _ => h.1
 | .fn _ :: ags, v :: vs, bs, i, 0, G, h, _, _ => ⟨[], h.1, rfl, fun i k u hk => by simp at hk⟩
 | .v t x :: ags, v :: vs, bs, i, j + 1, G, h, hp, hj => by
  have := a1Z (i + 1) j G h.2 (fun k o hk => hp k o hk) (by simpa using hj)
  simpa [Z5, C5] using this
 | .fn _ :: ags, v :: vs, bs, i, j + 1, G, h, hp, hj => by
  have := a1Z (i + 1) j G h.2 (fun k o hk => hp k o hk) (by simpa using hj)
  simpa [Z5, C5] using this
 | .ref none c :: ags, v :: vs, b :: bs, i, 0, G, h, hp, _ =>
  ⟨b, c.t.era, 0, c.t.era, hp _ _ (by simp [B0]), N2 _, h.1⟩
 | .ref (some f) c :: ags, v :: vs, b :: bs, i, 0, G, h, hp, _ =>
  ⟨[.pointer (some ⟨b, 0, none⟩)], h.1, rfl, fun j k u hk hu => by
   cases j with
   | zero =>
    simp only [List.getElem?_cons_zero, Option.some.injEq] at hk hu
    subst hk; subst hu
    exact ⟨b, c.t.era, hp _ _ (by simp [B0]), rfl⟩
   | succ j => simp at hk⟩
 | .ref fo c :: ags, v :: vs, b :: bs, i, j + 1, G, h, hp, hj => by
  have := a1Z (i + 1) j G h.2.2.2.2.2 (fun k o hk => hp k o (by
   simp only [B0]
   rw [if_neg]
   ·exact hk
   ·intro e
    have := (O4 h.2.2.2.2.2 hk).1
    rw [e] at this; unfold nm at this; omega)) (by simpa using hj)
  simpa [Z5, C5] using this
 | .own et e x :: ags, v :: vs, b :: bs, i, 0, G, h, hp, _ => by
  refine ⟨a9b v b, hp _ _ (by simp [B0]), ?_⟩
  rcases h.1 with ⟨rfl, rfl, _⟩ | ⟨hr, _⟩
  ·exact .inl ⟨rfl, rfl, rfl⟩
  ·have hr' := hr
   obtain ⟨cap, cur, fr, hv, _⟩ := hr'
   exact .inr ⟨b, by rw [hv]; rfl, hr⟩
 | .own et e x :: ags, v :: vs, b :: bs, i, j + 1, G, h, hp, hj => by
  have := a1Z (i + 1) j G h.2 (fun k o hk => hp k o (by
   simp only [B0]
   rw [if_neg]
   ·exact hk
   ·intro e
    have := (O4 h.2 hk).1
    rw [e] at this; unfold nm at this; omega)) (by simpa using hj)
  simpa [Z5, C5] using this
 | [], _, _, _, _, _, _, _, hj => absurd hj (Nat.not_lt_zero _)
 | .v _ _ :: _, [], _, _, _, _, h, _, _ => by cases h
 | .fn _ :: _, [], _, _, _, _, h, _, _ => by cases h
 | .ref _ _ :: _, [], _, _, _, _, h, _, _ => by cases h
 | .ref _ _ :: _, _ :: _, [], _, _, _, h, _, _ => by cases h
 | .own _ _ _ :: _, [], _, _, _, _, h, _, _ => by cases h
 | .own _ _ _ :: _, _ :: _, [], _, _, _, h, _, _ => by cases h
theorem a1b : ∀ (a b : List j4) (i : Nat), i < a.length → C5 (a ++ b) i = C5 a i
 | [], _, _, h => absurd h (Nat.not_lt_zero _)
 | _ :: _, _, 0, _ => rfl
 | _ :: xs, b, i + 1, h => a1b xs b i (by simpa using h)
theorem a0T : ∀ (a b : List j4) (i : Nat), a.length ≤ i → C5 (a ++ b) i = C5 b (i - a.length)
 | [], _, _, _ => rfl
 | _ :: _, _, 0, h => absurd h (by simp)
 | _ :: xs, b, i + 1, h => by
  have := a0T xs b i (by simpa using h)
  simpa [C5] using this
theorem a61 : ∀ (n i : Nat), C5 (List.replicate n .no) i = .no
 | 0, _ => rfl
 | _ + 1, 0 => rfl
 | n + 1, i + 1 => a61 n i
theorem a8l {I : Nat → Prop} {w : World} {ags : List Arg} {vs : List Value} {bs : List Nat} (hI : ∀ b, I b → b < w.heap.size) (hg : M9.ok I w) (h : j3 I w ags vs bs) (n : Nat) :
  Inv w (fun b => b ∈ bs) (fun k => (j9 ags bs 0 k).map (·.1)) I (fun _ => True) (fun _ => none) (B0 ags vs bs 0) I
   ⟨Z5 ags 0 ++ List.replicate (n - ags.length) .no, a3j ags 0⟩ (vs.toArray ++ Array.replicate (n - vs.toArray.size) undef) w := by
 have hlen := h.length
 have hin : ∀ {ags : List Arg} {vs : List Value} {bs : List Nat} {b : Nat}, j3 I w ags vs bs → b ∈ bs → ¬ I b := by
  intro ags
  induction ags with
  | nil =>
   intro vs bs b h hb
   cases bs with
   | nil => exact absurd hb (by simp)
   | cons b0 bs => cases vs <;> exact h.elim
  | cons a ags ih =>
   intro vs bs b h hb
   cases a with
   | v t x =>
    cases vs with
    | nil => cases h
    | cons v vs => exact ih h.2 hb
   | fn f =>
    cases vs with
    | nil => cases h
    | cons v vs => exact ih h.2 hb
   | ref c =>
    cases vs with
    | nil => cases h
    | cons v vs =>
     cases bs with
     | nil => cases hb
     | cons b0 bs =>
      rcases List.mem_cons.1 hb with rfl | hb
      ·exact h.2.1
      ·exact ih h.2.2.2.2.2 hb
   | own et e x =>
    cases vs with
    | nil => cases h
    | cons v vs =>
     cases bs with
     | nil => cases hb
     | cons b0 bs =>
      rcases List.mem_cons.1 hb with rfl | hb
      ·rcases h.1 with h1 | h1
       ·intro hi; have := hI _ hi; omega
       ·exact h1.2.1
      ·exact ih h.2 hb
 refine { gl := ⟨hg, fun b hb => ⟨hI b hb, fun hm => hin h hm hb⟩⟩, sub := fun _ h => h, sup := fun _ h => .inl h, lt := hI, own := ?_, inj := ?_, size := ?_, slot := ?_, box := ?_, since := Z4.refl _ _, hold := (fun b ob h => by cases h), seven := ?_, fix := ?_ }
 ·intro k o b hG hb
  obtain ⟨h1, h2, h3⟩ := a1e h hG hb
  refine ⟨h2, h3, ?_⟩
  rcases (O4 h hG).2 with ⟨b', t, rfl, hf⟩ | ⟨_, bo, rfl, hf⟩
  ·injection hb with e; subst e
   exact .inr (by simp [hf])
  ·refine .inl (.inr ⟨h1, fun k hk => ?_⟩)
   cases hfk : j9 ags bs 0 k with
   | none => dsimp only at hk; rw [hfk] at hk; cases hk
   | some p =>
    obtain ⟨p1, p2⟩ := p
    dsimp only at hk; rw [hfk] at hk; simp at hk; subst hk
    exact (hf _ hb).2.2.2 k p2 hfk
 ·intro k k' o o' b hG hG' hb hb'
  exact a0A h hG hG' hb hb'
 ·simp [G7, hlen]
 ·intro i
  dsimp only
  by_cases hi : i < ags.length
  ·rw [a1b _ _ _ (by rw [G7]; exact hi)]
   have e : (vs.toArray ++ Array.replicate (n - vs.toArray.size) undef).getD i undef = vs.getD i undef := by
    rw [Array.getD_eq_getD_getElem?, Array.getElem?_append_left (by simpa [hlen] using hi)]
    simp
   rw [e]
   exact a1Z 0 i _ h (fun k o hk => hk) hi
  ·rw [a0T _ _ _ (by rw [G7]; omega), a61]
   trivial
 ·intro k c hc
  obtain ⟨b, h1, h2⟩ := a1Y h hc
  exact ⟨b, F8 h h1, h2, fun h8 => absurd h8 (by have := (B3 h h1).1; omega)⟩
 ·intro k bo hG
  rcases (O4 h hG).2 with ⟨b', t, e, hf⟩ | ⟨h1, _⟩
  ·cases e
  ·omega
 ·intro k b hk
  cases hf : j9 ags bs 0 k with
  | none => rw [hf] at hk; cases hk
  | some p =>
   rw [hf] at hk; simp at hk; subst hk
   obtain ⟨p1, p2⟩ := p
   obtain ⟨h1, _, h3, _⟩ := B3 h hf
   refine ⟨h1, h3, fun o ho => ⟨p2, ?_⟩⟩
   rw [F8 h hf] at ho
   injection ho with ho; exact ho.symm
/-! ### the end -/
section
variable {P : Program} {tb : Tab} {Γ : Nat → Option App} {Kp : Int → St → Prop} {w0 : World} {F : Nat → Prop} {Fn : Nat → Option Nat} {I0 : Nat → Prop} {W : Nat → Prop} {Zc : Nat → Option Obj} {G : g0} {I : Nat → Prop}
 {st : St} {tm : Array Value} {ds : List Deferred} {w : World}
/-- what a result's slot names -/
def Q3 (st : St) : ResultVar → Option Nat
 | .tmp t => match C5 st.tmps t with | .own k _ _ _ => some k | _ => none
 | _ => none
def ownBlock (G : g0) (st : St) (r : ResultVar) : Option Nat := (Q3 st r).bind fun k => match G k with | some (.tok b) => b | _ => none
def a3N (tm : Array Value) : ResultVar → Sem Value
 | .tmp t => pure (tm.getD t undef)
 | .cell a t => do loadVar t (← asAddr (tm.getD a undef))
theorem a6I (fn : Func) (tm : Array Value) : results fn tm = (do
  let vs ← fn.results.mapM (a3N tm)
  pure (if h : vs.size = 1 then vs[0] else .tuple vs)) := by
 unfold results
 congr 2
theorem a32 (hT : o4 P tb) (hI : Inv w0 F Fn I0 W Zc G I st tm w) : ∀ (rs : List ResultVar) {xs : List P8}, a4N tb st rs = some xs →
  ∃ vs : List Value, (rs.mapM (a3N tm)).run P w = .ok vs w ∧ vs.length = xs.length ∧ rs.length = xs.length ∧
   ∀ (i : Nat) (rv : ResultVar) (x : P8) (u : Value), rs[i]? = some rv → xs[i]? = some x → vs[i]? = some u → Z3 I w x u (ownBlock G st rv)
 | [], xs, h => by
  simp only [a4N, Option.some.injEq] at h; subst h
  exact ⟨[], by simp, rfl, rfl, fun i rv x u h => by simp at h⟩
 | rv :: rs, xs, h => by
  simp only [a4N] at h
  split at h
  ·cases h
  ·rename_i x hx
   split at h
   ·cases h
   ·rename_i xs' hxs
    simp only [Option.some.injEq] at h; subst h
    obtain ⟨vs, h1, h2, h3, h4⟩ := a32 hT hI rs hxs
    have one : ∃ v, (a3N tm rv).run P w = .ok v w ∧ Z3 I w x v (ownBlock G st rv) := by
     cases rv with
     | tmp t =>
      have hs := hI.slot t
      simp only [a9D] at hx
      refine ⟨tm.getD t undef, by simp [a3N], ?_⟩
      split at hx
      ·rename_i ty y hy
       simp only [Option.some.injEq] at hx; subst hx
       rw [hy] at hs
       exact ⟨by simp [ownBlock, Q3, hy], hs⟩
      ·rename_i k et e y hy
       simp only [Option.some.injEq] at hx; subst hx
       rw [hy] at hs
       obtain ⟨bo, hG, ⟨rfl, hv, rfl⟩ | ⟨b, rfl, hr⟩⟩ := hs
       ·have : ownBlock G st (.tmp t) = none := by simp [ownBlock, Q3, hy, hG]
        rw [this]; exact ⟨hv, rfl⟩
       ·have : ownBlock G st (.tmp t) = some b := by simp [ownBlock, Q3, hy, hG]
        rw [this]; exact hr
      ·cases hx
     | cell a t =>
      simp only [a9D] at hx
      split at hx
      ·cases hx
      ·rename_i ti ht
       split at hx
       ·rename_i b p hb
        split at hx
        ·cases hx
        ·rename_i c hc
         split at hx
         ·cases hx
         ·rename_i d hd
          split at hx
          ·rename_i hbq
           simp only [Option.some.injEq] at hx; subst hx
           have hs := hI.slot a
           rw [hb] at hs
           obtain ⟨b', t', off, u, hG, hp, hv⟩ := hs
           obtain ⟨b2, hG2, hbox⟩ := hI.box b c hc
           rw [hG] at hG2; injection hG2 with e; injection e with e1 e2; subst e1; subst e2
           obtain ⟨off', ho', hl⟩ := hbox.1.part hd
           have ho2 := B7 ho'
           rw [hp] at ho2; injection ho2 with e; injection e with e1 _; subst e1
           obtain ⟨dt, dx⟩ := d
           have e := Ty.beq_eq hbq
           dsimp only at e hl
           subst e
           obtain ⟨v, hv2, hrep⟩ := a54 hT ht hl
           refine ⟨v, ?_, rfl, hrep⟩
           simp [a3N, hv, asAddr, hv2]
          ·cases hx
       ·cases hx
    obtain ⟨v, g1, g2⟩ := one
    refine ⟨v :: vs, ?_, by simp [h2], by simp [h3], fun i rv' x' u hr hx' hu => ?_⟩
    ·rw [List.mapM_cons, Sem.run_bind]
     rw [g1]
     simp [h1]
    ·cases i with
     | zero => simp at hr hx' hu; subst hr; subst hx'; subst hu; exact g2
     | succ i => exact h4 i rv' x' u (by simpa using hr) (by simpa using hx') (by simpa using hu)
theorem a3o : ∀ (rs : List ResultVar), u5 (G0 st rs) = true → ∀ (i j : Nat) (r r' : ResultVar) (k : Nat), rs[i]? = some r → rs[j]? = some r' → Q3 st r = some k → Q3 st r' = some k → j = i
 | [], _, i, j, r, r', k, h, _, _, _ => by simp at h
 | r0 :: rs, hn, i, j, r, r', k, h1, h2, h3, h4 => by
  have hrest : u5 (G0 st rs) = true := by
   cases r0 with
   | tmp t =>
    simp only [G0] at hn
    split at hn
    ·simp only [u5] at hn
     split at hn
     ·cases hn
     ·exact hn
    ·exact hn
   | cell a t => exact hn
  have mem : ∀ (rs : List ResultVar) (i : Nat) (r : ResultVar), rs[i]? = some r → Q3 st r = some k → k ∈ G0 st rs := by
   intro rs
   induction rs with
   | nil => intro i r h; simp at h
   | cons q rs ih =>
    intro i r h hk
    have tail : ∀ {i : Nat}, rs[i]? = some r → k ∈ G0 st (q :: rs) := by
     intro i h
     have := ih i r h hk
     cases q with
     | tmp t => simp only [G0]; split <;> first | exact List.mem_cons_of_mem _ this | exact this
     | cell a t => exact this
    cases i with
    | zero =>
     simp at h; subst h
     cases q with
     | tmp t =>
      simp only [Q3] at hk
      split at hk
      ·rename_i k' et e x hs
       simp only [Option.some.injEq] at hk; subst hk
       simp [G0, hs]
      ·cases hk
     | cell a t => cases hk
    | succ i => exact tail (by simpa using h)
  have head : Q3 st r0 = some k → a04 (G0 st rs) k = false := by
   intro hk
   cases r0 with
   | tmp t =>
    simp only [Q3] at hk
    split at hk
    ·rename_i k' et e x hs
     simp only [Option.some.injEq] at hk; subst hk
     simp only [G0, hs, u5] at hn
     split at hn
     ·cases hn
     ·rename_i h; exact h
    ·cases hk
   | cell a t => cases hk
  cases i with
  | zero =>
   cases j with
   | zero => rfl
   | succ j =>
    simp at h1; subst h1
    have := V9 (mem rs j r' (by simpa using h2) h4)
    rw [head h3] at this; cases this
  | succ i =>
   cases j with
   | zero =>
    simp at h2; subst h2
    have := V9 (mem rs i r (by simpa using h1) h3)
    rw [head h4] at this; cases this
   | succ j =>
    have := a3o rs hrest i j r r' k (by simpa using h1) (by simpa using h2) h3 h4
    omega
theorem a11 : ∀ (cs : List Arg) (bs' : List Nat) (i : Nat) {outs : List Cell}, Inv w0 F Fn I0 W Zc G I st tm w → a10 st cs i = some outs →
  (∀ k b t, j9 cs bs' i k = some (b, t) → Fn k = some b) → (∃ (J : Nat → Prop) (w1 : World) (vs : List Value), j3 J w1 cs vs bs') → S0 I w outs (l4 cs bs')
 | [], bs', i, outs, hI, h, hF, ⟨J, w1, vs, ha⟩ => by
  simp only [a10, Option.some.injEq] at h; subst h
  cases vs with
  | nil => cases bs' with
   | nil => trivial
   | cons b bs => cases ha
  | cons v vs => cases ha
 | .v t x :: cs, bs', i, outs, hI, h, hF, ⟨J, w1, vs, ha⟩ => by
  cases vs with
  | nil => cases ha
  | cons v vs => exact a11 cs bs' (i + 1) hI h hF ⟨J, w1, vs, ha.2⟩
 | .fn _ :: cs, bs', i, outs, hI, h, hF, ⟨J, w1, vs, ha⟩ => by
  cases vs with
  | nil => cases ha
  | cons v vs => exact a11 cs bs' (i + 1) hI h hF ⟨J, w1, vs, ha.2⟩
 | .own et e x :: cs, bs', i, outs, hI, h, hF, ⟨J, w1, vs, ha⟩ => by
  cases vs with
  | nil => cases ha
  | cons v vs =>
   cases bs' with
   | nil => cases ha
   | cons b bs' => exact a11 cs bs' (i + 1) hI h hF ⟨J, w1, vs, ha.2⟩
 | .ref fo c :: cs, bs', i, outs, hI, h, hF, ⟨J, w1, vs, ha⟩ => by
  cases vs with
  | nil => cases ha
  | cons v vs =>
   cases bs' with
   | nil => cases ha
   | cons b bs' =>
    simp only [a10] at h
    split at h
    ·cases h
    ·rename_i d hd
     split at h
     ·cases h
     ·rename_i ds' hds
      simp only [Option.some.injEq] at h; subst h
      obtain ⟨b2, hG, hbox⟩ := hI.box _ _ hd
      have hfn := hF (nm i 7) b c.t.era (by simp [j9])
      obtain ⟨t', ht'⟩ := (hI.fix _ _ hfn).2.2 _ hG
      injection ht' with e1 e2; subst e1
      refine ⟨hbox.1, a11 cs bs' (i + 1) hI hds (fun k b' t hk => hF k b' t ?_) ⟨J, w1, vs, ha.2.2.2.2.2⟩⟩
      simp only [j9]
      rw [if_neg]
      ·exact hk
      ·intro e
       have := (B3 ha.2.2.2.2.2 hk).2.1
       rw [e] at this; unfold nm at this; omega
end
theorem a9w {P : Program} {tb : Tab} {fn : Func} (hT : o4 P tb) {args : List Arg} {vs : List Value} {bs : List Nat} {I : Nat → Prop} {w : World} (ha : j3 I w args vs bs) {W : Nat → Prop} {G' : g0} {I' : Nat → Prop} {st' : St} {tm' : Array Value} {w' : World}
  (hI' : Inv w (fun b => b ∈ bs) (fun k => (j9 args bs 0 k).map (·.1)) I W noZ G' I' st' tm' w') (ws : a3V) {K : Res → List Cell → Prop} (h : a77 tb fn.results.toList ws args st' K) :
  ∃ v, (results fn tm').run P w' = .ok v w' ∧ a0w I w bs (l4 args bs) K v w' := by
 unfold a77 at h
 split at h
 ·rename_i xs outs hxs houts
  split at h
  ·rename_i hnd
   obtain ⟨G2, I2, h2, _, _, _, _⟩ := hI'.layAll (st := st') (G := G') (unw fn.results.toList ws) (G4.refl _ _) (fun _ _ h _ => h) (fun k b hk => .inl hk)
   obtain ⟨us, g1, g2, g3, g4⟩ := a32 hT h2 fn.results.toList hxs
   have hfr : ∀ b, Fr w (fun b => b ∈ bs) (fun k => (j9 args bs 0 k).map (·.1)) b → Nw w bs (l4 args bs) b := fun b hb => by
    rcases hb with hb | ⟨hb, hn⟩
    ·exact .inl hb
    ·refine .inr ⟨hb, fun hr => ?_⟩
     obtain ⟨k, t, hk⟩ := S1 (i := 0) ha hr
     exact hn k (by simp [hk])
   have hsub : ∀ b, I2 b → orP I (fun b => I2 b ∧ Nw w bs (l4 args bs) b) b := fun b hb => by
    rcases h2.sup b hb with h3 | h3
    ·exact .inl h3
    ·exact .inr ⟨hb, hfr b h3⟩
   have hkeep : p5 I2 (orP I (fun b => I2 b ∧ Nw w bs (l4 args bs) b)) w' w' := ⟨hsub, fun _ _ => rfl⟩
   have hrun : (fn.results.mapM (a3N tm')).run P w' = .ok us.toArray w' := by
    rw [Array.mapM_eq_mapM_toList, Sem.run_map, g1]
    rfl
   refine ⟨if h : us.toArray.size = 1 then us.toArray[0] else .tuple us.toArray, ?_, a9l xs, outs, (fun b => I2 b ∧ Nw w bs (l4 args bs) b), fn.results.toList.map (ownBlock G2 (layAll st' (unw fn.results.toList ws) st')), h, h2.since, fun b hb => ⟨hb.2, h2.lt b hb.1⟩, ?_, ?_, ?_⟩
   ·rw [a6I, Sem.run_bind, hrun]
    rfl
   ·intro i b hb
    rw [List.getElem?_map] at hb
    cases hr : fn.results.toList[i]? with
    | none => rw [hr] at hb; cases hb
    | some rv =>
     rw [hr] at hb
     simp only [Option.map_some, Option.some.injEq] at hb
     have hbG : ∀ rv, ownBlock G2 (layAll st' (unw fn.results.toList ws) st') rv = some b → ∃ k, Q3 (layAll st' (unw fn.results.toList ws) st') rv = some k ∧ G2 k = some (.tok (some b)) := by
      intro rv hb
      unfold ownBlock at hb
      cases hk : Q3 (layAll st' (unw fn.results.toList ws) st') rv with
      | none => rw [hk] at hb; cases hb
      | some k =>
       rw [hk] at hb
       simp only [Option.bind_some] at hb
       split at hb
       ·rename_i b' hG; subst hb; exact ⟨k, rfl, hG⟩
       ·cases hb
     obtain ⟨k, hk, hG⟩ := hbG rv hb
     have hown := h2.own k _ b hG rfl
     refine ⟨hfr b (h2.tok_new hG), hown.2.1, fun hj => hown.1 hj.1, fun j hj => ?_⟩
     rw [List.getElem?_map] at hj
     cases hr' : fn.results.toList[j]? with
     | none => rw [hr'] at hj; cases hj
     | some rv' =>
      rw [hr'] at hj
      simp only [Option.map_some, Option.some.injEq] at hj
      obtain ⟨k', hk', hG'⟩ := hbG rv' hj
      have := h2.inj k k' _ _ b hG hG' rfl rfl
      subst this
      exact a3o fn.results.toList hnd i j rv rv' k hr hr' hk hk'
   ·have hrel : ∀ (i : Nat) (rv : ResultVar) (x : P8) (u : Value), fn.results.toList[i]? = some rv → xs[i]? = some x → us[i]? = some u → Z3 (orP I (fun b => I2 b ∧ Nw w bs (l4 args bs) b)) w' x u (ownBlock G2 (layAll st' (unw fn.results.toList ws) st') rv) :=
     fun i rv x u h1 h3 h4 => (g4 i rv x u h1 h3 h4).keep hsub
    cases xs with
    | nil =>
     have : us = [] := List.eq_nil_of_length_eq_zero (by simpa using g2)
     subst this
     refine ⟨#[], by simp, rfl, by simp [g3], fun i x u b hx => by simp at hx⟩
    | cons x xs =>
     cases xs with
     | nil =>
      cases us with
      | nil => simp at g2
      | cons u us =>
       have : us = [] := List.eq_nil_of_length_eq_zero (by simpa using g2)
       subst this
       cases hrs : fn.results.toList with
       | nil => rw [hrs] at g3; simp at g3
       | cons rv rs =>
        have : rs = [] := List.eq_nil_of_length_eq_zero (by rw [hrs] at g3; simpa using g3)
        subst this
        rw [hrs] at hrel
        refine ⟨_, rfl, ?_⟩
        have := hrel 0 rv x u rfl rfl rfl
        rw [← hrs]
        simpa [hrs] using this
     | cons y xs =>
      have hz : us.toArray.size ≠ 1 := by simp only [List.size_toArray, g2, List.length_cons]; omega
      rw [dif_neg hz]
      refine ⟨us.toArray, rfl, by simpa using g2, by simp [g3], fun i x' u b hx hu hb => ?_⟩
      rw [List.getElem?_map] at hb
      cases hr : fn.results.toList[i]? with
      | none => rw [hr] at hb; cases hb
      | some rv =>
       rw [hr] at hb; simp only [Option.map_some, Option.some.injEq] at hb; subst hb
       exact hrel i rv x' u hr hx (by simpa using hu)
   ·have := a11 args bs 0 h2 houts (fun k b t hk => by simp [hk]) ⟨I, w, vs, ha⟩
    clear h g4 hrun
    -- into the greater world of plain blocks
    generalize (orP I (fun b => I2 b ∧ Nw w bs (l4 args bs) b)) = IJ at hkeep ⊢
    have grow : ∀ (cs : List Cell) (bs : List Nat), S0 I2 w' cs bs → S0 IJ w' cs bs := by
     intro cs
     induction cs with
     | nil => intro bs h; cases bs <;> exact h
     | cons c cs ih =>
      intro bs h
      cases bs with
      | nil => exact h
      | cons b bs => obtain ⟨⟨l, et, q1, q2⟩, q3⟩ := h; exact ⟨⟨l, et, q1, q2.keep hkeep⟩, ih bs q3⟩
    exact grow _ _ this
  ·cases h
 ·cases h
theorem a86 {P : Program} {tb : Tab} {f : FuncId} {fn : Func} {X : Pce} (hT : o4 P tb) (hf : P.funcs[f]? = some fn) (he : a2b fn = true) (hX : N0 P (p9 fn) X) (ws : a3V) :
  l5 P f (b0r tb X fn ws) := by
 refine fun args K h => .inl ⟨enters_of hf he, fun I w vs bs hI hgl ha => ?_⟩
 replace h : (a9j fn args).frc (fun st => X st (a9W tb fn ws args K)) := h
 rw [St.frc_eq] at h
 have hbs : ∃ c, fn.body = some c := by
  unfold a2b at he
  cases hb : fn.body with
  | none => rw [hb] at he; cases he
  | some c => exact ⟨c, rfl⟩
 obtain ⟨c, hb⟩ := hbs
 ·rw [show p9 fn = c by unfold p9; rw [hb]; rfl] at hX
  refine calls_of_wp hf hb ?_
  refine hX (bodyPost P fn _) _ (fun _ => trivial) (a8l hI hgl ha fn.ntmps) h ?_ (fun n _ tm' w' h1 _ h2 => ⟨rfl, .inr ⟨n, rfl, h1, h2⟩⟩)
  intro e st' tm' w' G' I' hk hI'
  have fin : a77 tb fn.results.toList ws args st' K → ∃ v, (results fn tm').run P w' = .ok v w' ∧ a0w I w bs (l4 args bs) K v w' := fun h => a9w hT ha hI' ws h
  cases e with
  | nrm =>
   obtain ⟨v, h1, h2⟩ := fin hk
   exact ⟨rfl, v, h1, .inl ⟨v, rfl, h2⟩⟩
  | ret =>
   obtain ⟨v, h1, h2⟩ := fin hk
   exact ⟨rfl, v, h1, .inl ⟨v, rfl, h2⟩⟩
  | exit i => cases hk
  | pan n => exact ⟨rfl, .inr ⟨n, rfl, hk, hI'.since⟩⟩
theorem S9 {P : Program} {tb : Tab} {Γ : Nat → Option App} {Lb : a2N} {f : FuncId} {fn : Func} (hM : P.follows .mixedOrders = true) (hT : o4 P tb) (hΓ : GOk P Γ) (hL : p7 P (p9 fn) Lb)
  (hf : P.funcs[f]? = some fn) (he : a2b fn = true) (hs : C1 (p9 fn) = true) (ws : a3V) : l5 P f (a3p tb Γ Lb fn ws) :=
 a86 hT hf he (a1a hM hT hΓ hL (p9 fn) [] rfl hs) ws
theorem l5.mono {P : Program} {f : FuncId} {A B : App} (h : l5 P f B) (hAB : ∀ args K, A args K → B args K) : l5 P f A :=
 fun args K ha => h args K (hAB args K ha)
end Go.VE
namespace Go.VE
variable [M9]
open Go Go.RowKit Go.Lib
/-! ### parameters -/
inductive AS
 | v (t : Ty)
 | r (fo : Option Nat) (t : Ty)
 | o (et : Nat) (e : Ty)
 /-- a known function -/
 | f (f : Nat)
def a83 : List AS → List Bool
 | [] => []
 | .o _ _ :: r => true :: a83 r
 | _ :: r => match a83 r with
  | [] => []
  | fl => false :: fl
def p0 : List AS → Type
 | [] => Unit
 | .v t :: r => t.den × p0 r
 | .r _ t :: r => t.den × p0 r
 | .o _ e :: r => List e.den × p0 r
 | .f _ :: r => Unit × p0 r
def mkA : (l : List AS) → p0 l → List Arg
 | [], _ => []
 | .v t :: r, v => .v t v.1 :: mkA r v.2
 | .r fo t :: r, v => .ref fo ⟨t, v.1⟩ :: mkA r v.2
 | .o et e :: r, v => .own et e v.1 :: mkA r v.2
 | .f f :: r, v => .fn f :: mkA r v.2
def wfA : (l : List AS) → p0 l → Prop
 | [], _ => True
 | .v t :: r, v => wf t v.1 ∧ wfA r v.2
 | .r _ t :: r, v => wf t v.1 ∧ wfA r v.2
 | .o _ e :: r, v => wf (.sl e) v.1 ∧ wfA r v.2
 | .f _ :: r, v => True ∧ wfA r v.2
def eqO : Option Nat → Option Nat → Bool
 | none, none => true
 | some a, some b => Nat.beq a b
 | _, _ => false
theorem a5R : ∀ a, eqO a a = true
 | none => rfl
 | some a => Nat.beq_refl a
theorem a9v : ∀ {a b}, eqO a b = true → a = b
 | none, none, _ => rfl
 | some a, some b, h => by rw [Nat.eq_of_beq_eq_true h]
 | none, some _, h => by cases h
 | some _, none, h => by cases h
def rdA : (l : List AS) → List Arg → (p0 l → Prop) → Prop
 | [], [], Y => Y ()
 | .v t :: r, .v u x :: ags, Y => match u.cast? t x with
  | some y => rdA r ags fun v => Y (y, v)
  | none => False
 | .r fo t :: r, .ref fo' ⟨u, x⟩ :: ags, Y => match eqO fo fo' with
  | true => match u.cast? t x with
   | some y => rdA r ags fun v => Y (y, v)
   | none => False
  | false => False
 | .o et e :: r, .own et' u x :: ags, Y => match Nat.beq et et' with
  | true => match (Ty.sl u).cast? (.sl e) x with
   | some y => rdA r ags fun v => Y (y, v)
   | none => False
  | false => False
 | .f f :: r, .fn g :: ags, Y => match Nat.beq f g with
  | true => rdA r ags fun v => Y ((), v)
  | false => False
 | _, _, _ => False
theorem R2 : ∀ (l : List AS) (ags : List Arg) (Y : p0 l → Prop), rdA l ags Y → ∃ v, ags = mkA l v ∧ Y v
 | [], [], Y, h => ⟨(), rfl, h⟩
 | [], _ :: _, Y, h => by cases h
 | .v _ :: _, [], Y, h => by cases h
 | .r _ _ :: _, [], Y, h => by cases h
 | .v _ :: _, .ref _ _ :: _, Y, h => by cases h
 | .r _ _ :: _, .v _ _ :: _, Y, h => by cases h
 | .o _ _ :: _, [], Y, h => by cases h
 | .o _ _ :: _, .v _ _ :: _, Y, h => by cases h
 | .o _ _ :: _, .ref _ _ :: _, Y, h => by cases h
 | .v _ :: _, .own _ _ _ :: _, Y, h => by cases h
 | .r _ _ :: _, .own _ _ _ :: _, Y, h => by cases h
 | .v _ :: _, .fn _ :: _, Y, h => by cases h
 | .r _ _ :: _, .fn _ :: _, Y, h => by cases h
 | .o _ _ :: _, .fn _ :: _, Y, h => by cases h
 | .f _ :: _, [], Y, h => by cases h
 | .f _ :: _, .v _ _ :: _, Y, h => by cases h
 | .f _ :: _, .ref _ _ :: _, Y, h => by cases h
 | .f _ :: _, .own _ _ _ :: _, Y, h => by cases h
 | .f f :: r, .fn g :: ags, Y, h => by
  simp only [rdA] at h
  split at h
  ·rename_i ht
   have ht := Nat.eq_of_beq_eq_true ht
   subst ht
   obtain ⟨v, rfl, hY⟩ := R2 r ags _ h
   exact ⟨((), v), rfl, hY⟩
  ·cases h
 | .o et e :: r, .own et' u x :: ags, Y, h => by
  simp only [rdA] at h
  split at h
  ·rename_i ht
   have ht := Nat.eq_of_beq_eq_true ht
   subst ht
   split at h
   ·rename_i y hy
    obtain ⟨he, hy⟩ := Ty.cast?_eq hy
    injection he with he
    subst he; subst hy
    obtain ⟨v, rfl, hY⟩ := R2 r ags _ h
    exact ⟨(_, v), rfl, hY⟩
   ·cases h
  ·cases h
 | .v t :: r, .v u x :: ags, Y, h => by
  simp only [rdA] at h
  split at h
  ·rename_i y hy
   obtain ⟨e, hy⟩ := Ty.cast?_eq hy
   subst e; subst hy
   obtain ⟨v, rfl, hY⟩ := R2 r ags _ h
   exact ⟨(_, v), rfl, hY⟩
  ·cases h
 | .r fo t :: r, .ref fo' ⟨u, x⟩ :: ags, Y, h => by
  simp only [rdA] at h
  split at h
  ·rename_i hfo
   have hfo := a9v hfo
   subst hfo
   split at h
   ·rename_i y hy
    obtain ⟨e, hy⟩ := Ty.cast?_eq hy
    subst e; subst hy
    obtain ⟨v, rfl, hY⟩ := R2 r ags _ h
    exact ⟨(_, v), rfl, hY⟩
   ·cases h
  ·cases h
theorem F3.wf {I : Nat → Prop} {w : World} {et : Nat} {e : Ty} {xs : List e.den} {v : Value} {b : Nat} (h : F3 I w et e xs v b) : VE.wf (.sl e) xs :=
 g6.wf (h.rep (I' := fun j => I j ∨ j = b) (fun _ h => .inl h) (.inr rfl))
theorem j3.wf {I : Nat → Prop} {w : World} : ∀ (l : List AS) (v : p0 l) {vs : List Value} {bs : List Nat}, j3 I w (mkA l v) vs bs → wfA l v
 | [], _, _, _, _ => trivial
 | .v t :: r, v, [], _, h => by cases h
 | .v t :: r, v, u :: vs, bs, h => ⟨g6.wf h.1, j3.wf r v.2 h.2⟩
 | .r fo t :: r, v, [], _, h => by cases h
 | .r fo t :: r, v, _ :: _, [], h => by cases h
 | .r fo t :: r, v, u :: vs, b :: bs, h => by
  obtain ⟨_, _, _, _, hb, hr⟩ := h
  obtain ⟨cs, et, _, hc⟩ := hb
  exact ⟨l0.wf hc, j3.wf r v.2 hr⟩
 | .f f :: r, v, [], _, h => by cases h
 | .f f :: r, v, u :: vs, bs, h => ⟨trivial, j3.wf r v.2 h.2⟩
 | .o et e :: r, v, [], _, h => by cases h
 | .o et e :: r, v, _ :: _, [], h => by cases h
 | .o et e :: r, v, u :: vs, b :: bs, h => by
  obtain ⟨h1, hr⟩ := h
  refine ⟨?_, j3.wf r v.2 hr⟩
  rcases h1 with ⟨_, h1, _⟩ | ⟨h1, _⟩
  ·rw [h1]; exact ⟨Nat.zero_le _, fun x hx => by cases hx⟩
  ·exact F3.wf h1
/-- a contract: for these parameters, what holds behind the call -/
def a88 (l : List AS) (body : p0 l → (Res → List Cell → Prop) → Prop) : App := ⟨a83 l, fun ags K => rdA l ags fun v => body v K⟩
theorem a0t {P : Program} {f : FuncId} {A : App} {l : List AS} {body : p0 l → (Res → List Cell → Prop) → Prop} (hA : l5 P f A)
  (h : ∀ v K, wfA l v → body v K → A (mkA l v) K) : l5 P f (a88 l body) := by
 intro ags K hs
 obtain ⟨v, rfl, hb⟩ := R2 l ags _ hs
 exact a29.when (p := wfA l v) (fun I w vs bs ha => j3.wf l v ha) fun hw => hA _ K (h v K hw hb)
/-- a contract with more asked -/
theorem l5.weak {P : Program} {f : FuncId} {l : List AS} {b b' : p0 l → (Res → List Cell → Prop) → Prop} (h : l5 P f (a88 l b)) (hb : ∀ v K, wfA l v → b' v K → b v K) : l5 P f (a88 l b') := by
 intro ags K hs
 obtain ⟨v, rfl, hb'⟩ := R2 l ags _ hs
 refine a29.when (p := wfA l v) (fun I w vs bs ha => j3.wf l v ha) fun hw => h _ K ?_
 show rdA l (mkA l v) _
 have key : ∀ (l : List AS) (v : p0 l) (Y : p0 l → Prop), Y v → rdA l (mkA l v) Y := by
  intro l
  induction l with
  | nil => intro v Y h; exact h
  | cons a r ih =>
   intro v Y h
   have hc : ∀ (t : Ty) (x : t.den), t.cast? t x = some x := by
    intro t x
    have hbq : ∀ t : Ty, t.beq t = true := by
     intro t
     induction t with
     | int k => exact a3I k
     | bool => rfl
     | str => rfl
     | unit => rfl
     | pair a b iha ihb => simp [Ty.beq, iha, ihb]
     | st a ih => simpa [Ty.beq] using ih
     | sl e ih => simpa [Ty.beq] using ih
     | osl n e ih => simpa [Ty.beq] using ih
     | hole e ih => simpa [Ty.beq] using ih
     | arr m9 e ih => simp [Ty.beq, ih]
    unfold Ty.cast?
    have : ∀ (b : Bool) (hb : t.beq t = b), b = true → Ty.castB t t x b hb = some x := by
     intro b hb he
     subst he
     simp [Ty.castB]
    exact this _ rfl (hbq t)
   cases a with
   | v t =>
    simp only [mkA, rdA, hc]
    exact ih v.2 _ h
   | r fo t =>
    simp only [mkA, rdA, hc, a5R]
    exact ih v.2 _ h
   | o et e =>
    simp only [mkA, rdA, hc, Nat.beq_refl]
    exact ih v.2 _ h
   | f f =>
    simp only [mkA, rdA, Nat.beq_refl]
    exact ih v.2 _ h
 exact key l v _ (hb v K hw hb')
theorem a3E : ∀ (t : Ty) (x : t.den), t.cast? t x = some x := by
 intro t x
 have hbq : ∀ t : Ty, t.beq t = true := by
  intro t
  induction t with
  | int k => exact a3I k
  | bool => rfl
  | str => rfl
  | unit => rfl
  | pair a b iha ihb => simp [Ty.beq, iha, ihb]
  | st a ih => simpa [Ty.beq] using ih
  | sl e ih => simpa [Ty.beq] using ih
  | osl n e ih => simpa [Ty.beq] using ih
  | hole e ih => simpa [Ty.beq] using ih
  | arr m9 e ih => simp [Ty.beq, ih]
 unfold Ty.cast?
 have : ∀ (b : Bool) (hb : t.beq t = b), b = true → Ty.castB t t x b hb = some x := by
  intro b hb he
  subst he
  simp [Ty.castB]
 exact this _ rfl (hbq t)
theorem a4K : ∀ (l : List AS) (v : p0 l) (Y : p0 l → Prop), Y v → rdA l (mkA l v) Y
 | [], _, _, h => h
 | .v t :: r, v, Y, h => by
  simp only [mkA, rdA, a3E]
  exact a4K r v.2 _ h
 | .r fo t :: r, v, Y, h => by
  simp only [mkA, rdA, a3E, a5R]
  exact a4K r v.2 _ h
 | .o et e :: r, v, Y, h => by
  simp only [mkA, rdA, a3E, Nat.beq_refl]
  exact a4K r v.2 _ h
 | .f f :: r, v, Y, h => by
  simp only [mkA, rdA, Nat.beq_refl]
  exact a4K r v.2 _ h
/-! ### with what an answer is of itself -/
def a9c : P8 → Prop
 | .v t x => wf t x
 | .fr _ e x => wf (.sl e) x
def a9M : List P8 → Prop
 | [] => True
 | x :: xs => a9c x ∧ a9M xs
def wfR : Res → Prop
 | .one x => a9c x
 | .tup xs => a9M xs
 | .pan _ => True
theorem Z3.wf {I : Nat → Prop} {w : World} {x : P8} {v : Value} {b : Option Nat} (h : Z3 I w x v b) : a9c x := by
 cases x with
 | v t y => exact g6.wf h.2
 | fr et e ys => cases b with
  | none => obtain ⟨_, rfl⟩ := h; exact ⟨Nat.zero_le _, fun x hx => by cases hx⟩
  | some b => exact F3.wf h
theorem a7f : ∀ {xs : List P8}, (∀ (i : Nat) (x : P8), xs[i]? = some x → a9c x) → a9M xs
 | [], _ => trivial
 | _ :: _, h => ⟨h 0 _ rfl, a7f fun i x hx => h (i + 1) x (by simpa using hx)⟩
theorem Y9.wf {I : Nat → Prop} {w : World} {res : Res} {v : Value} {fb : List (Option Nat)} (h : Y9 I w res v fb) : wfR res := by
 cases res with
 | one x => obtain ⟨b, _, h⟩ := h; exact h.wf
 | tup xs =>
  obtain ⟨vs, _, h2, h3, h4⟩ := h
  refine a7f fun i x hx => ?_
  have hi : i < xs.length := (List.getElem?_eq_some_iff.1 hx).1
  exact Z3.wf (h4 i x vs[i] fb[i] hx (by simp [h2, hi]) (by simp [h3, hi]))
 | pan n => exact h.elim
def specW (l : List AS) (body : p0 l → (Res → List Cell → Prop) → Prop) : App := ⟨a83 l, fun ags K => rdA l ags fun v => body v fun r o => wfR r → K r o⟩
/-- a slice answered may as well be told with the mark -/
def a8s : P8 → P8
 | .fr et e x => .fr (eM et) e x
 | x => x
def a55 : Res → Res
 | .one x => .one (a8s x)
 | .tup xs => .tup (xs.map a8s)
 | .pan n => .pan n
def b0o (A : App) : App := ⟨A.own, fun args K => A.run args fun r o => K (a55 r) o⟩
theorem a5l {I : Nat → Prop} {w : World} {x : P8} {v : Value} {b : Option Nat} (h : Z3 I w x v b) : Z3 I w (a8s x) v b := by
 cases x with
 | v t x => exact h
 | fr et e x =>
  cases b with
  | none => exact h
  | some b =>
   obtain ⟨cap, cur, fr, h1, h2, h3, h4, h5, h6, h7⟩ := h
   exact ⟨cap, cur, fr, h1, h2, h3, by rw [a74]; exact h4, a5t.eM h5.no, h6, h7⟩
theorem a7x {I : Nat → Prop} {w : World} {r : Res} {v : Value} {fb : List (Option Nat)} (h : Y9 I w r v fb) : Y9 I w (a55 r) v fb := by
 cases r with
 | one x => obtain ⟨b, hb, h⟩ := h; exact ⟨b, hb, a5l h⟩
 | tup xs =>
  obtain ⟨vs, h1, h2, h3, h4⟩ := h
  refine ⟨vs, h1, by rw [List.length_map]; exact h2, by rw [List.length_map]; exact h3, fun i x u b hx hu hb => ?_⟩
  rw [List.getElem?_map] at hx
  cases hq : xs[i]? with
  | none => rw [hq] at hx; cases hx
  | some y =>
   rw [hq] at hx
   simp only [Option.map_some, Option.some.injEq] at hx
   subst hx
   exact a5l (h4 i y u b hq hu hb)
 | pan n => exact h
theorem l5.mark {P : Program} {f : FuncId} {A : App} (h : l5 P f A) : l5 P f (b0o A) := fun args k hk => by
 have hm := h args (fun r o => k (a55 r) o) hk
 have hb : ∀ {I w bs rs v w'}, a0w I w bs rs (fun r o => k (a55 r) o) v w' → a0w I w bs rs k v w' := by
  rintro I w bs rs v w' ⟨res, outs, J, fb, h1, h2, h3, h4, h5, h6⟩
  exact ⟨a55 res, outs, J, fb, h1, h2, h3, h4, a7x h5, h6⟩
 rcases hm with ⟨he, h⟩ | h
 ·refine .inl ⟨he, fun I w vs bs hI hg ha => (h I w vs bs hI hg ha).mono fun e w' hE => ?_⟩
  rcases hE with ⟨v, e1, hb1⟩ | ⟨n, e1, hb1, hs⟩
  ·exact .inl ⟨v, e1, hb hb1⟩
  ·exact .inr ⟨n, e1, hb1, hs⟩
 ·refine .inr fun I w vs bs hI hg ha => ?_
  obtain ⟨v, w', h1, h2⟩ := h I w vs bs hI hg ha
  exact ⟨v, w', h1, hb h2⟩
theorem l5.specW {P : Program} {f : FuncId} {l : List AS} {body : p0 l → (Res → List Cell → Prop) → Prop} (h : l5 P f (a88 l body)) : l5 P f (VE.specW l body) := by
 exact fun ags K ha => (h ags (fun r o => wfR r → K r o) ha).mono (fun r o I w v fb hr hk => hk (Y9.wf hr)) fun n hk => hk trivial
/-- of what is never called, nothing need be known -/
theorem l5.never {P : Program} {f : FuncId} {l : List AS} : l5 P f (VE.specW l fun _ _ => False) := fun ags K ha => by
 obtain ⟨v, _, hb⟩ := R2 l ags _ ha
 exact hb.elim
/-- a family of contracts, of which one is to fit -/
theorem l5.any {P : Program} {f : FuncId} {l : List AS} {b : Nat → p0 l → (Res → List Cell → Prop) → Prop} (h : ∀ k, l5 P f (VE.specW l (b k))) : l5 P f (VE.specW l fun v K => ∃ k, b k v K) := fun ags K hs => by
 obtain ⟨v, rfl, k, hb⟩ := R2 l ags _ hs
 exact h k _ K (a4K l v _ hb)
theorem l5.none {P : Program} {f : FuncId} {l : List AS} {b : p0 l → (Res → List Cell → Prop) → Prop} (h : ∀ v K, ¬ b v K) : l5 P f (VE.specW l b) := fun ags K ha => by
 obtain ⟨v, _, hb⟩ := R2 l ags _ ha
 exact (h v _ hb).elim
theorem a1i {st : St} : ∀ (ds : List LS) {ren : List (Nat × Nat)} {Y Y' : E1 ds → Prop}, (∀ v, Y v → Y' v) → rdD ds ren st Y → rdD ds ren st Y'
 | [], ren, Y, Y', h, hr => h _ hr
 | .v i t :: r, ren, Y, Y', h, hr => by
  simp only [rdD] at hr ⊢
  split at hr
  ·split at hr
   ·exact a1i r (fun v hv => h _ hv) hr
   ·cases hr
  ·cases hr
 | .o i k et e :: r, ren, Y, Y', h, hr => by
  simp only [rdD] at hr ⊢
  split at hr
  ·split at hr
   ·split at hr
    ·exact a1i r (fun v hv => h _ hv) hr
    ·cases hr
   ·cases hr
  ·cases hr
 | .b i k p :: r, ren, Y, Y', h, hr => by
  simp only [rdD] at hr ⊢
  split at hr
  ·split at hr
   ·exact a1i r h hr
   ·cases hr
  ·cases hr
 | .c k t :: r, ren, Y, Y', h, hr => by
  simp only [rdD] at hr ⊢
  split at hr
  ·split at hr
   ·exact a1i r (fun v hv => h _ hv) hr
   ·cases hr
  ·cases hr
 | .f i f ks :: r, ren, Y, Y', h, hr => by
  simp only [rdD] at hr ⊢
  split at hr
  ·split at hr
   ·exact a1i r h hr
   ·cases hr
  ·cases hr
theorem a1U {N : Nat} {ds : List LS} {st : St} {Y Y' : E1 ds → Prop} (h : ckD N ds st Y) (hY : ∀ v, Y v → Y' v) : ckD N ds st Y' := by
 unfold ckD at h ⊢
 split at h
 ·exact a1i ds hY h
 ·cases h
theorem a5c {c : Code} (h : C1 c = true) (i : Nat) : C1 (a3e c i) = true := by
 unfold a3e
 split <;> first | exact h | skip
 all_goals
  simp only [C1] at h
  split at h <;> first | assumption | cases h
theorem V3 {c : Code} (h : C1 c = true) : ∀ p : List Nat, C1 (at' c p) = true
 | [] => h
 | i :: p => a5c (V3 h p) i
/-! ### the functions that may be called -/
def O3 : List (Nat × App) → Nat → Option App
 | [], _ => none
 | (k, a) :: r, n => match Nat.beq k n with | true => some a | false => O3 r n
theorem GOk.nil {P : Program} : GOk P (O3 []) := fun f a h => by cases h
theorem GOk.cons {P : Program} {k : Nat} {a : App} {l : List (Nat × App)} (h : l5 P k a) (hl : GOk P (O3 l)) : GOk P (O3 ((k, a) :: l)) := by
 intro f b hb
 simp only [O3] at hb
 split at hb
 ·rename_i e
  have e := Nat.eq_of_beq_eq_true e
  subst e
  injection hb with hb; subst hb
  exact h
 ·exact hl f b hb
/-! ### reading what a walk asks -/
theorem a71 {c : Prop} [Decidable c] {A B : Prop} : (bif decide c then A else B) ↔ (c → A) ∧ (¬ c → B) := by
 by_cases h : c <;> simp [h]
theorem a9V {c : Prop} [Decidable c] {A : Prop} : (bif decide c then A else False) ↔ c ∧ A := by
 by_cases h : c <;> simp [h]
theorem a7l {b : Bool} {A B : Prop} : (bif b then A else B) ↔ (b = true → A) ∧ (b = false → B) := by
 cases b <;> simp
theorem R6 {c : Prop} [Decidable c] {A : Prop} (h : c) (hA : A) : (bif decide c then A else False) := by simp [h, hA]
theorem brn {c : Prop} [Decidable c] {A B : Prop} (hA : c → A) (hB : ¬ c → B) : (bif decide c then A else B) := a71.2 ⟨hA, hB⟩
theorem brx {c : Prop} [Decidable c] {A B : Prop} (hA : ¬ c → A) (hB : c → B) : (bif !decide c then A else B) := by
 by_cases h : c
 ·simpa [h] using hB h
 ·simpa [h] using hA h
theorem brb {b : Bool} {A B : Prop} (hA : b = true → A) (hB : b = false → B) : (bif b then A else B) := a7l.2 ⟨hA, hB⟩
theorem b0U {α : Type} (d : α) (xs : List α) (i : Nat) (h : i < xs.length) : rd d xs (i : Int) = xs[i] := by
 show xs.getD ((i : Int)).toNat d = _
 rw [Int.toNat_natCast]; simp [h]
theorem b06 {α : Type} {b : Bool} {A B : α} (h : b = true) : (bif b then A else B) = A := by rw [h]; rfl
theorem b0G {α : Type} {b : Bool} {A B : α} (h : b = false) : (bif b then A else B) = B := by rw [h]; rfl
theorem cT {b : Bool} {A B : Prop} (h : b = true) (hp : bif b then A else B) : A := by rw [h] at hp; exact hp
theorem cF {b : Bool} {A B : Prop} (h : b = false) (hp : bif b then A else B) : B := by rw [h] at hp; exact hp
theorem b09 {α β γ : Type} {f : α → γ} {g : β → γ} {x : α ⊕ β} {a : α} (h : x = .inl a) : Sum.elim f g x = f a := by subst h; rfl
theorem b1a {α β γ : Type} {f : α → γ} {g : β → γ} {x : α ⊕ β} {b : β} (h : x = .inr b) : Sum.elim f g x = g b := by subst h; rfl
theorem cL {α β : Type} {f : α → Prop} {g : β → Prop} {x : α ⊕ β} {a : α} (h : x = .inl a) (hp : Sum.elim f g x) : f a := by subst h; exact hp
theorem cR {α β : Type} {f : α → Prop} {g : β → Prop} {x : α ⊕ β} {b : β} (h : x = .inr b) (hp : Sum.elim f g x) : g b := by subst h; exact hp
theorem Q1 {n : Int} (h1 : -9223372036854775808 ≤ n) (h2 : n ≤ 9223372036854775807) : IntKind.wrap .i64 n = n := a1m ⟨h1, h2⟩
theorem b0A {n : Int} (h1 : -2147483648 ≤ n) (h2 : n ≤ 2147483647) : IntKind.wrap .i32 n = n := a1m ⟨h1, h2⟩
theorem b0F {n : Int} (h1 : 0 ≤ n) (h2 : n ≤ 255) : IntKind.wrap .u8 n = n := a1m ⟨h1, h2⟩
theorem b0B {n : Int} (h1 : 0 ≤ n) (h2 : n ≤ 4294967295) : IntKind.wrap .u32 n = n := a1m ⟨h1, h2⟩
theorem b0C {n : Int} (h1 : 0 ≤ n) (h2 : n ≤ 18446744073709551615) : IntKind.wrap .u64 n = n := a1m ⟨h1, h2⟩
end Go.VE
namespace Go.VE
variable [M9]
open Go
theorem a1s {P : Program} {t : Nat} {ty : Ty} {c b : Nat} (h : (P.info? t).map (fun i => (i.size, i.bytes, i.zero)) = some (c, b, some (q0 ty))) (hc : ty.cells = c) :
  ∃ i, P.info? t = some i ∧ i.size = ty.cells ∧ i.bytes = b ∧ i.zero = some (q0 ty) := by
 cases hi : P.info? t with
 | none => rw [hi] at h; cases h
 | some i =>
  rw [hi] at h
  simp only [Option.map_some, Option.some.injEq, Prod.mk.injEq] at h
  exact ⟨i, rfl, by rw [h.1, hc], h.2.1, h.2.2⟩
theorem p8.ofInt {P : Program} {tb : Tab} {t : Nat} {k : IntKind} {b : Nat} (h : (P.info? t).map (fun i => (i.size, i.bytes, i.zero)) = some (1, b, some (q0 (.int k)))) (hu : P.underlying t = some (.int k)) (hb : Nat.ble b 65536 = true) :
  p8 P tb t ⟨.int k, 0, [], b⟩ :=
 {info := a1s h rfl, small := Nat.le_of_ble_eq_true hb, el := rfl, int := fun j e => (by injection e with e; subst e; exact hu), bool := fun e => (by cases e), str := fun e => (by cases e), sl := fun e h => (by cases h), st := fun a h => (by cases h),
  kind := ⟨fun e => (by cases e), fun a b e => (by cases e), by simp [Ty.cells]⟩, eqs := fun a e _ => (by cases e), plain := rfl, arr := fun n e h => (by cases h) }
theorem p8.ofBool {P : Program} {tb : Tab} {t : Nat} {b : Nat} (h : (P.info? t).map (fun i => (i.size, i.bytes, i.zero)) = some (1, b, some (q0 .bool))) (hu : P.underlying t = some .bool) (hb : Nat.ble b 65536 = true) :
  p8 P tb t ⟨.bool, 0, [], b⟩ :=
 {info := a1s h rfl, small := Nat.le_of_ble_eq_true hb, el := rfl, int := fun j e => (by cases e), bool := fun _ => hu, str := fun e => (by cases e), sl := fun e h => (by cases h), st := fun a h => (by cases h),
  kind := ⟨fun e => (by cases e), fun a b e => (by cases e), by simp [Ty.cells]⟩, eqs := fun a e _ => (by cases e), plain := rfl, arr := fun n e h => (by cases h) }
theorem p8.ofStr {P : Program} {tb : Tab} {t : Nat} {b : Nat} (h : (P.info? t).map (fun i => (i.size, i.bytes, i.zero)) = some (1, b, some (q0 .str))) (hu : P.underlying t = some .string) (hb : Nat.ble b 65536 = true) :
  p8 P tb t ⟨.str, 0, [], b⟩ :=
 {info := a1s h rfl, small := Nat.le_of_ble_eq_true hb, el := rfl, int := fun j e => (by cases e), bool := fun e => (by cases e), str := fun _ => hu, sl := fun e h => (by cases h), st := fun a h => (by cases h),
  kind := ⟨fun e => (by cases e), fun a b e => (by cases e), by simp [Ty.cells]⟩, eqs := fun a e _ => (by cases e), plain := rfl, arr := fun n e h => (by cases h) }
theorem p8.ofSl {P : Program} {tb : Tab} {t et : Nat} {e : Ty} {b : Nat} (h : (P.info? t).map (fun i => (i.size, i.bytes, i.zero)) = some (1, b, some (q0 (.sl e)))) (hu : P.underlying t = some (.slice et)) (hb : Nat.ble b 65536 = true)
  (he : (match tb.get et with | some te => te.ty.beq e | none => false) = true) (hel : eR et = et := by rfl) : p8 P tb t ⟨.sl e, et, [], b⟩ :=
 {info := a1s h rfl, small := Nat.le_of_ble_eq_true hb, el := hel, int := fun j e => (by cases e), bool := fun e => (by cases e), str := fun e => (by cases e), st := fun a h => (by cases h),
  sl := fun e' h => by
   injection h with h; subst h
   refine ⟨hu, ?_⟩
   show ∃ te, tb.get et = some te ∧ te.ty = e
   split at he
   ·rename_i te hte; exact ⟨te, hte, Ty.beq_eq he⟩
   ·cases he
  kind := ⟨fun e => (by cases e), fun a b e => (by cases e), by simp [Ty.cells]⟩, eqs := fun a e _ => (by cases e), plain := rfl, arr := fun n e h => (by cases h) }
theorem a6V {tb : Tab} : ∀ (a : Ty) (o : Nat) (fs : List Field), a2l tb a o fs = true →
  (∀ (n : Nat) (u : Ty) (d : Nat), g9 a n = some (d, u) → ∃ f tf, fs[n]? = some f ∧ f.offset = o + d ∧ tb.get f.type = some tf ∧ tf.ty = u) ∧ ∀ f ∈ fs, ∃ tf, tb.get f.type = some tf := by
 intro a
 have last : ∀ (a : Ty), (∀ b c, a ≠ .pair b c) → a ≠ .unit → (g9 a 0 = some (0, a)) → (∀ n, g9 a (n + 1) = none) → ∀ (o : Nat) (fs : List Field), a2l tb a o fs = true →
   (∀ (n : Nat) (u : Ty) (d : Nat), g9 a n = some (d, u) → ∃ f tf, fs[n]? = some f ∧ f.offset = o + d ∧ tb.get f.type = some tf ∧ tf.ty = u) ∧ ∀ f ∈ fs, ∃ tf, tb.get f.type = some tf := by
  intro a h1 h2 h3 h4 o fs h
  have : ∃ f, fs = [f] ∧ (match Nat.beq f.offset o, tb.get f.type with | true, some tf => tf.ty.beq a | _, _ => false) = true := by
   unfold a2l at h
   split at h
   ·exact absurd rfl (h1 _ _)
   ·exact absurd rfl h2
   ·rename_i f _ _; exact ⟨f, rfl, h⟩
   ·cases h
  obtain ⟨f, hfs, h5⟩ := this
  subst hfs
  clear h
  have h := h5
  split at h
  ·rename_i tf ho ht
   have ho := Nat.eq_of_beq_eq_true ho
   refine ⟨fun n u d hd => ?_, fun g hg => ?_⟩
   ·cases n with
    | zero => rw [h3] at hd; simp only [Option.some.injEq, Prod.mk.injEq] at hd; obtain ⟨rfl, rfl⟩ := hd; exact ⟨f, tf, rfl, ho, ht, Ty.beq_eq h⟩
    | succ n => rw [h4] at hd; cases hd
   ·rcases List.mem_singleton.1 hg with rfl; exact ⟨tf, ht⟩
  ·cases h
 induction a with
 | pair a b iha ihb =>
  intro o fs h
  cases fs with
  | nil => simp [a2l] at h
  | cons f fs =>
   simp only [a2l] at h
   split at h
   ·rename_i tf ho ht
    split at h
    ·rename_i hb
     obtain ⟨h1, h2⟩ := ihb _ _ h
     have ho := Nat.eq_of_beq_eq_true ho
     refine ⟨fun n u d hd => ?_, fun g hg => ?_⟩
     ·cases n with
      | zero => simp only [g9, Option.some.injEq, Prod.mk.injEq] at hd; obtain ⟨rfl, rfl⟩ := hd; exact ⟨f, tf, rfl, ho, ht, Ty.beq_eq hb⟩
      | succ n =>
       simp only [g9] at hd
       cases hf : g9 b n with
       | none => rw [hf] at hd; simp at hd
       | some p =>
        obtain ⟨d', u'⟩ := p
        rw [hf] at hd
        simp at hd
        obtain ⟨rfl, rfl⟩ := hd
        obtain ⟨g, tg, g1, g2, g3, g4⟩ := h1 n _ _ hf
        exact ⟨g, tg, by simpa using g1, by omega, g3, g4⟩
     ·rcases List.mem_cons.1 hg with rfl | hg
      ·exact ⟨tf, ht⟩
      ·exact h2 g hg
    ·cases h
   ·cases h
 | unit => intro o fs h; simp [a2l] at h
 | int k => exact last _ (fun _ _ e => by cases e) (fun e => by cases e) rfl (fun _ => rfl)
 | bool => exact last _ (fun _ _ e => by cases e) (fun e => by cases e) rfl (fun _ => rfl)
 | str => exact last _ (fun _ _ e => by cases e) (fun e => by cases e) rfl (fun _ => rfl)
 | st a _ => exact last _ (fun _ _ e => by cases e) (fun e => by cases e) rfl (fun _ => rfl)
 | sl a _ => exact last _ (fun _ _ e => by cases e) (fun e => by cases e) rfl (fun _ => rfl)
 | osl n a _ => exact last _ (fun _ _ e => by cases e) (fun e => by cases e) rfl (fun _ => rfl)
 | hole a _ => exact last _ (fun _ _ e => by cases e) (fun e => by cases e) rfl (fun _ => rfl)
 | arr m9 a _ => exact last _ (fun _ _ e => by cases e) (fun e => by cases e) rfl (fun _ => rfl)
theorem p8.ofArr {P : Program} {tb : Tab} {t n : Nat} {e : Ty} {b : Nat} (h : (P.info? t).map (fun i => (i.size, i.bytes, i.zero)) = some (n * e.cells, b, some (q0 (.arr n e)))) (hb : Nat.ble b 65536 = true)
  (hu : (match P.underlying t with | some (.array _ _) => true | _ => false) = true) (hc0 : Nat.beq (n * e.cells) 0 = false) : p8 P tb t ⟨.arr n e, 0, [], b⟩ :=
 {info := a1s h rfl, small := Nat.le_of_ble_eq_true hb, el := rfl, int := fun j e => (by cases e), bool := fun e => (by cases e), str := fun e => (by cases e), sl := fun e h => (by cases h), st := fun a h => (by cases h),
  kind := ⟨fun e => (by cases e), fun a b e => (by cases e), fun e2 => by rw [show n * e.cells = 0 from e2] at hc0; cases hc0⟩, eqs := fun a e _ => (by cases e), plain := rfl,
  arr := fun n' e' h' => by
   split at hu
   ·rename_i m el hu2; exact ⟨m, el, hu2⟩
   ·cases hu }
theorem p8.ofSt {P : Program} {tb : Tab} {t : Nat} {a : Ty} {c b : Nat} (h : (P.info? t).map (fun i => (i.size, i.bytes, i.zero)) = some (c, b, some (q0 (.st a)))) (hc : (Ty.st a).cells = c) (hc0 : Nat.beq c 0 = false) (hb : Nat.ble b 65536 = true)
  (hu : (match P.underlying t with | some (.struct fs) => a2l tb a 0 fs.toList | _ => false) = true) (hn : (Ty.st a).noO = true := by rfl) {fts : List Nat} : p8 P tb t ⟨.st a, 0, fts, b⟩ :=
 {info := a1s h hc, small := Nat.le_of_ble_eq_true hb, el := rfl, int := fun j e => (by cases e), bool := fun e => (by cases e), str := fun e => (by cases e), sl := fun e h => (by cases h),
  st := fun a' h => by
   injection h with h; subst h
   split at hu
   ·rename_i fs hf
    obtain ⟨h1, h2⟩ := a6V _ _ _ hu
    refine ⟨fs, hf, fun n u o hn => ?_, h2⟩
    obtain ⟨f, tf, g1, g2, g3, g4⟩ := h1 n u o hn
    exact ⟨f, tf, by simpa using g1, by omega, g3, g4⟩
   ·cases hu
  kind := ⟨fun e => (by cases e), fun a b e => (by cases e), by rw [show (⟨.st a, 0, fts, b⟩ : TI).ty.cells = c from hc]; intro e; subst e; cases hc0⟩, eqs := fun _ _ e => absurd (show (0 : Nat) = 1 from e) (by decide), plain := hn, arr := fun n e h => (by cases h) }
theorem p8.ofStE {P : Program} {tb : Tab} {t : Nat} {a : Ty} {c b : Nat} (h : (P.info? t).map (fun i => (i.size, i.bytes, i.zero)) = some (c, b, some (q0 (.st a)))) (hc : (Ty.st a).cells = c) (hc0 : Nat.beq c 0 = false) (hb : Nat.ble b 65536 = true)
  (hu : (match P.underlying t with | some (.struct fs) => a2l tb a 0 fs.toList | _ => false) = true)
  (he : (match a1V a, P.stoodInHeld t, P.eqGuardType P.depth t with | true, false, false => P.fieldsOf t |>.toList.all (fun f => f.name != "_") | _, _, _ => false) = true) (hn : (Ty.st a).noO = true := by rfl) {fts : List Nat} : p8 P tb t ⟨.st a, 1, fts, b⟩ :=
 {info := a1s h hc, small := Nat.le_of_ble_eq_true hb, el := rfl, int := fun j e => (by cases e), bool := fun e => (by cases e), str := fun e => (by cases e), sl := fun e h => (by cases h),
  st := fun a' h => by
   injection h with h; subst h
   split at hu
   ·rename_i fs hf
    obtain ⟨h1, h2⟩ := a6V _ _ _ hu
    refine ⟨fs, hf, fun n u o hn => ?_, h2⟩
    obtain ⟨f, tf, g1, g2, g3, g4⟩ := h1 n u o hn
    exact ⟨f, tf, by simpa using g1, by omega, g3, g4⟩
   ·cases hu
  kind := ⟨fun e => (by cases e), fun a b e => (by cases e), by rw [show (⟨.st a, 1, fts, b⟩ : TI).ty.cells = c from hc]; intro e; subst e; cases hc0⟩
  plain := hn, arr := fun n e h => (by cases h)
  eqs := fun a' h _ => by
   injection h with h; subst h
   split at hu
   ·rename_i fs hf
    split at he
    ·rename_i h1 h2 h3
     have hfo : P.fieldsOf t = fs := by unfold Program.fieldsOf; rw [hf]
     rw [hfo] at he
     refine ⟨h1, h2, h3, fs, hf, hu, fun f hfm => ?_⟩
     have := List.all_eq_true.1 he f hfm
     simpa using this
    ·cases he
   ·cases hu }
theorem o4.of {P : Program} {tb : Tab} (h : ∀ p ∈ tb, p8 P tb p.1 p.2) : o4 P tb := by
 have key : ∀ (l : Tab) (t : Nat) (ti : TI), l.get t = some ti → (t, ti) ∈ l := by
  intro l
  induction l with
  | nil => intro t ti h; cases h
  | cons p l ih =>
   intro t ti h
   obtain ⟨k, i⟩ := p
   simp only [Tab.get] at h
   split at h
   ·rename_i e
    have e := Nat.eq_of_beq_eq_true e
    subst e
    injection h with h; subst h
    exact List.mem_cons_self
   ·exact List.mem_cons_of_mem _ (ih t ti h)
 exact fun t ti ht => h (t, ti) (key tb t ti ht)
theorem a6T {α : Type} {p : α → Prop} : ∀ x ∈ ([] : List α), p x := fun x h => by cases h
theorem all_cons {α : Type} {p : α → Prop} {a : α} {l : List α} (h : p a) (hl : ∀ x ∈ l, p x) : ∀ x ∈ a :: l, p x := fun x hx => by
 rcases List.mem_cons.1 hx with e | hx
 ·subst e; exact h
 ·exact hl x hx
end Go.VE
