import Derived.Test.YteekiicblankjaaGreatDoorSb2
import Derived.Laws.Slices
import Derived.Laws.BytesString
import Derived.Laws.Tables
import Derived.Lib.ConvBytes
import Derived.Laws.StructEq
set_option linter.unusedVariables false
set_option linter.unusedSectionVars false
set_option linter.unusedSimpArgs false
namespace Go.VE
variable [M9]
open Go Go.RowKit
/-! ### the table of types -/
/-- the fields are as the type says -/
def a2l (tb : Tab) : Ty → Nat → List Field → Bool
 | .pair a b, o, f :: fs => match Nat.beq f.offset o, tb.get f.type with
  | true, some tf => match tf.ty.beq a with
   | true => a2l tb b (o + a.cells) fs
   | false => false
  | _, _ => false
 | .unit, _, _ => false
 | a, o, [f] => match Nat.beq f.offset o, tb.get f.type with
  | true, some tf => tf.ty.beq a
  | _, _ => false
 | _, _, _ => false
structure p8 (P : Program) (tb : Tab) (t : Nat) (ti : TI) : Prop where
 info : ∃ i, P.info? t = some i ∧ i.size = ti.ty.cells ∧ i.bytes = ti.bytes ∧ i.zero = some (q0 ti.ty)
 small : ti.bytes ≤ 65536
 el : eR ti.el = ti.el
 int : ∀ k, ti.ty = .int k → P.underlying t = some (.int k)
 bool : ti.ty = .bool → P.underlying t = some .bool
 str : ti.ty = .str → P.underlying t = some .string
 sl : ∀ e, ti.ty = .sl e → P.underlying t = some (.slice ti.el) ∧ ∃ te, tb.get ti.el = some te ∧ te.ty = e
 st : ∀ a, ti.ty = .st a → ∃ fs, P.underlying t = some (.struct fs) ∧
  (∀ (n : Nat) u o, g9 a n = some (o, u) → ∃ f tf, fs[n]? = some f ∧ f.offset = o ∧ tb.get f.type = some tf ∧ tf.ty = u) ∧ ∀ f ∈ fs.toList, ∃ tf, tb.get f.type = some tf
 eqs : ∀ a, ti.ty = .st a → ti.el = 1 → a1V a = true ∧ P.stoodInHeld t = false ∧ P.eqGuardType P.depth t = false ∧ ∃ fs, P.underlying t = some (.struct fs) ∧ a2l tb a 0 fs.toList = true ∧ ∀ f ∈ fs.toList, f.name ≠ "_"
 plain : ti.ty.noO = true
 arr : ∀ n e, ti.ty = .arr n e → ∃ m el, P.underlying t = some (.array m el)
 kind : ti.ty ≠ .unit ∧ (∀ a b, ti.ty ≠ .pair a b) ∧ ti.ty.cells ≠ 0
def o4 (P : Program) (tb : Tab) : Prop := ∀ t ti, tb.get t = some ti → p8 P tb t ti
theorem a0v {P : Program} {tb : Tab} {t : Nat} {ti : TI} (h : p8 P tb t ti) (w : World) : (isAgg t).run P w = .ok ti.ty.agg w := by
 unfold isAgg
 cases he : ti.ty with
 | int k => simp [run_underlying (h.int k he), Ty.agg]
 | bool => simp [run_underlying (h.bool he), Ty.agg]
 | str => simp [run_underlying (h.str he), Ty.agg]
 | sl e => simp [run_underlying (h.sl e he).1, Ty.agg]
 | st a => obtain ⟨fs, hf, _⟩ := h.st a he; simp [run_underlying hf, Ty.agg]
 | unit => exact absurd he h.kind.1
 | pair a b => exact absurd he (h.kind.2.1 a b)
 | osl n a => have := h.plain; rw [he] at this; cases this
 | hole a => have := h.plain; rw [he] at this; cases this
 | arr n a => obtain ⟨m, el, hu⟩ := h.arr n a he; simp [run_underlying hu, Ty.agg]
theorem u0 {P : Program} {tb : Tab} {t : Nat} {ti : TI} (h : p8 P tb t ti) (w : World) : (sizeOf t).run P w = .ok ti.ty.cells w := by
 obtain ⟨i, hi, hs, _⟩ := h.info
 simp [sizeOf, typeInfo, hi, hs]
theorem a3y {P : Program} {tb : Tab} {t : Nat} {ti : TI} (h : p8 P tb t ti) (w : World) : (zeroValue t).run P w = .ok (q0 ti.ty) w := by
 obtain ⟨i, hi, _, _, hz⟩ := h.info
 simp [zeroValue, typeInfo, hi, hz]
/-! ### one step of a walk -/
theorem a13 (tm : Array Value) (ds : List Deferred) (d : Option Nat) (v : Value) :
  (Act.mk tm ds).put d v = ⟨match d with | some d => tm.setIfInBounds d v | none => tm, ds⟩ := by
 cases d <;> rfl
theorem a9N {P : Program} {o : Oper} {a : Act} {w w' : World} {next : Act → World → Prop} {Q : Exit → Act → World → Prop} {v : Value}
  (hr : (execOp a.eval o).run P w = .ok (.value v) w') (hn : next (a.put o.dst v) w') : o.wp P a w next Q := by
 unfold Oper.wp
 rw [hr]
 exact hn
section
variable {P : Program} {tb : Tab} {Γ : Nat → Option App} {Kp : Int → St → Prop} {w0 : World} {F : Nat → Prop} {Fn : Nat → Option Nat} {I0 : Nat → Prop} {W : Nat → Prop} {Zc : Nat → Option Obj} {G : g0} {I : Nat → Prop}
 {st : St} {tm : Array Value} {ds : List Deferred} {w : World} {k : St → Prop} {next : Act → World → Prop} {Q : Exit → Act → World → Prop} {o : Oper}
/-- what may come behind: from every state from which the rest answers, in every memory that fits it -/
def p6 (w0 : World) (F : Nat → Prop) (Fn : Nat → Option Nat) (I0 : Nat → Prop) (W : Nat → Prop) (Zc : Nat → Option Obj) (ds : List Deferred) (k : St → Prop) (next : Act → World → Prop) : Prop :=
 ∀ st' tm' w' G' I', k st' → Inv w0 F Fn I0 W Zc G' I' st' tm' w' → next ⟨tm', ds⟩ w'
theorem fin {w' : World} {s : j4} {v : Value} (hI : Inv w0 F Fn I0 W Zc G I st tm w') (hs : B9 G I w' s v) (hk : p6 w0 F Fn I0 W Zc ds k next) (h : k (st.put o.dst s))
  (hr : (execOp (Act.mk tm ds).eval o).run P w = .ok (.value v) w') : o.wp P ⟨tm, ds⟩ w next Q := by
 refine a9N hr ?_
 rw [a13]
 exact hk _ _ _ _ _ h (hI.put o.dst hs)
theorem a6y {w' : World} {s : j4} {v : Value} {d : Nat} (hd : o.dst = some d) (hI : Inv w0 F Fn I0 W Zc G I st tm w') (hs : B9 G I w' s v) (hk : p6 w0 F Fn I0 W Zc ds k next)
  (h : k (st.put (some d) s)) (hr : (execOp (Act.mk tm ds).eval o).run P w = .ok (.value v) w') : o.wp P ⟨tm, ds⟩ w next Q :=
 fin hI hs hk (hd ▸ h) hr
theorem nm7 (d i : Nat) (h : i < 7) : nm d i % 8 ≠ 7 := by unfold nm; omega
theorem a9A (hI : Inv w0 F Fn I0 W Zc G I st tm w) {n : Nat} (h7 : n % 8 ≠ 7) (et : Nat) (e : Ty) : ∃ G' I', Inv w0 F Fn I0 W Zc G' I' (st.rn n) tm w ∧ B9 G' I' w (.own n et e []) (.slice none 0 0) := by
 obtain ⟨G1, I1, h1, _, hn, _⟩ := hI.rn n
 exact ⟨_, _, h1.add (o := .tok none) hn h7 (fun b hb => by cases hb) (fun b hb => by cases hb), none, by simp [g0.add], .inl ⟨rfl, rfl, rfl⟩⟩
theorem a4T {x : Operand} (hop : o.op = .move x ∨ o.op = .assign x) (hI : Inv w0 F Fn I0 W Zc G I st tm w) (hk : p6 w0 F Fn I0 W Zc ds k next)
  (h : (match st.ev x with
   | .nil => match tb.get o.type, o.dst with
    | some ⟨.sl e, et, _, _⟩, some d => k ((st.rn (nm d 6)).put (some d) (.own (nm d 6) et e []))
    | _, _ => False
   | s => k (st.put o.dst s))) : o.wp P ⟨tm, ds⟩ w next Q := by
 have hs := hI.ev x ds
 have hr : (execOp (Act.mk tm ds).eval o).run P w = .ok (.value ((Act.mk tm ds).eval x)) w := by
  unfold execOp; rcases hop with e | e <;> rw [e] <;> rfl
 split at h
 ·rename_i hx
  rw [hx] at hs
  split at h
  ·rename_i e et _ _ d _ hd
   obtain ⟨G', I', h1, h2⟩ := a9A hI (nm7 d 6 (by omega)) et e
   rw [show (Act.mk tm ds).eval x = .slice none 0 0 from hs] at hr
   exact a6y hd h1 h2 hk h hr
  ·cases h
 ·exact fin hI hs hk h hr
theorem a6M {c a b : Operand} (hop : o.op = .pick c a b) (hI : Inv w0 F Fn I0 W Zc G I st tm w) (hk : p6 w0 F Fn I0 W Zc ds k next) (h : opk tb Γ Kp o st k) : o.wp P ⟨tm, ds⟩ w next Q := by
 unfold opk at h
 rw [hop] at h
 dsimp only at h
 split at h
 ·rename_i t hc
  have hs := hI.ev c ds
  rw [hc] at hs
  obtain ⟨cs, hcs, hv, _, h1⟩ := hs
  have e := h1 rfl
  rw [show cs = [Value.bool t] from hcs] at e
  simp only [List.cons.injEq, and_true] at e
  cases t with
  | true => exact fin hI (hI.ev a ds) hk h (by unfold execOp; rw [hop]; simp [← e, asBool])
  | false => exact fin hI (hI.ev b ds) hk h (by unfold execOp; rw [hop]; simp [← e, asBool])
 ·cases h
theorem g6.list {I : Nat → Prop} {w : World} {t : Ty} {x : t.den} {v : Value} (h : g6 I w t x v) : l0 I w t x v.cells.toList := by
 obtain ⟨cs, hc, e, _⟩ := h; rw [e]; exact hc
theorem a7H {t : TypeId} {x : Operand} (hop : o.op = .box t x) (hI : Inv w0 F Fn I0 W Zc G I st tm w) (hk : p6 w0 F Fn I0 W Zc ds k next) (h : opk tb Γ Kp o st k) : o.wp P ⟨tm, ds⟩ w next Q := by
 unfold opk at h
 rw [hop] at h
 dsimp only at h
 split at h
 ·rename_i d c hd hc
  split at h
  ·rename_i hno
   obtain ⟨G1, I1, h1, _, hr⟩ := hI.lay (hI.ev x ds)
   have hr := hr c hc
   obtain ⟨G2, I2, h2, hs, hn, _⟩ := h1.rn (nm d 0)
   have he := V5 hno
   have hr2 : g6 I2 w c.t c.x ((Act.mk tm ds).eval x) := hr.keep ⟨hs, fun _ _ => rfl⟩
   have h3 := h2.addNew (o := .box w.heap.size c.t) hn (nm7 d 0 (by omega)) (.cells ((Act.mk tm ds).eval x).cells t) rfl
   have hG : G2.add (nm d 0) (.box w.heap.size c.t) (nm d 0) = some (.box w.heap.size c.t) := by simp [g0.add]
   have h4 := h3.setBox (c := c) (by rw [he]; exact hG) ⟨⟨_, t, heap_alloc_new w _, hr2.list.keep ⟨fun _ h => h, fun b hb => heap_alloc_old w _ b (h2.lt b hb)⟩⟩, fun _ => OLv.none hno⟩
   exact a6y (st := ⟨((st.lay (st.ev x)).rn (nm d 0)).tmps, a06 ((st.lay (st.ev x)).rn (nm d 0)).boxes (nm d 0) c⟩) (s := .box (nm d 0) []) hd h4 ⟨w.heap.size, c.t, 0, c.t, hG, N2 _, rfl⟩ hk h
    (by unfold execOp; rw [hop]; simp [Instr.box, newVar, newRow])
  ·cases h
 ·cases h
theorem b0T (d : Nat) : nm d 0 + 4 = nm d 4 := by unfold nm; omega
theorem b08 (d : Nat) : nm d 0 % 8 = 0 := by unfold nm; omega
theorem a8u (d : Nat) : nm d 0 ≠ nm d 4 := by unfold nm; omega
theorem a6d (hT : o4 P tb) {t : TypeId} (hop : o.op = .alloc t) (hI : Inv w0 F Fn I0 W Zc G I st tm w) (hk : p6 w0 F Fn I0 W Zc ds k next) (h : opk tb Γ Kp o st k) : o.wp P ⟨tm, ds⟩ w next Q := by
 unfold opk at h
 rw [hop] at h
 dsimp only at h
 split at h
 ·rename_i d a el i et by_ hd ht
  have hno : (Ty.st a).noO = true := (hT t _ ht).plain
  have he : (Ty.st (R4 a i et)).era = .st a := by show Ty.st (R4 a i et).era = _; rw [a8d i et (show a.noO = true from hno)]
  obtain ⟨G2, I2, h2, hs, hn, _⟩ := hI.rn (nm d 0)
  obtain ⟨G3, I3, h3, hs3, hn3, hj3⟩ := h2.rn (nm d 4)
  have hn30 : G3 (nm d 0) = none := by rw [hj3 _ (a8u d)]; exact hn
  have h4 := h3.addNew (o := .box w.heap.size (.st a)) hn30 (nm7 d 0 (by omega)) (.cells (q0 (.st a)).cells t) rfl
  have hn4 : G3.add (nm d 0) (.box w.heap.size (.st a)) (nm d 4) = none := by unfold g0.add; rw [if_neg (Ne.symm (a8u d))]; exact hn3
  have h5 := h4.add (o := .tok none) hn4 (nm7 d 4 (by omega)) (fun b hb => by cases hb) (fun b hb => by cases hb)
  have hG : (G3.add (nm d 0) (.box w.heap.size (.st a))).add (nm d 4) (.tok none) (nm d 0) = some (.box w.heap.size (.st a)) := by
   unfold g0.add; rw [if_neg (a8u d), if_pos rfl]
  have hG4 : (G3.add (nm d 0) (.box w.heap.size (.st a))).add (nm d 4) (.tok none) (nm d 0 + 4) = some (.tok none) := by
   rw [b0T]; unfold g0.add; rw [if_pos rfl]
  have hzl : (q0 (.st a)).cells.toList = G6 (.st (R4 a i et)) := by
   rw [show G6 (.st (R4 a i et)) = G6 (R4 a i et) from rfl, a7s]
   simp [q0, Ty.agg, Value.cells, G6]
  have h6 := h5.setBox (k := nm d 0) (b := w.heap.size) (c := ⟨.st (R4 a i et), a8b a i et⟩) (by show _ = some (Own.box _ (Ty.st (R4 a i et)).era); rw [he]; exact hG)
   ⟨⟨_, t, heap_alloc_new w _, by rw [hzl]; exact l0.zero _ _ (.st (R4 a i et))⟩, fun _ => by
    refine OLv.zero (t := .st (R4 a i et)) (all := (q0 (.st a)).cells.toList) (fun q n e hq => ⟨.slice none 0 0, ?_, none, hG4, .inl ⟨rfl, rfl, rfl⟩⟩) (pre := []) (post := []) (by rw [hzl]; simp)
    have e1 : (w.alloc (.cells (q0 (.st a)).cells t)).cell? ⟨w.heap.size, q, none⟩ = (q0 (.st a)).cells[q]? := by
     unfold World.cell?
     rw [show (w.alloc (.cells (q0 (.st a)).cells t)).heap[w.heap.size]? = _ from heap_alloc_new w _]
     rfl
    rw [e1, ← Array.getElem?_toList]; exact hq⟩
  exact a6y (st := ⟨((st.rn (nm d 0)).rn (nm d 4)).tmps, a06 ((st.rn (nm d 0)).rn (nm d 4)).boxes (nm d 0) ⟨.st (R4 a i et), a8b a i et⟩⟩) (s := .box (nm d 0) []) hd h6 ⟨w.heap.size, .st a, 0, .st a, hG, rfl, rfl⟩ hk h
   (by unfold execOp; rw [hop]; simp [Instr.alloc, a3y (hT t _ ht), newVar, newRow])
 ·rename_i d ti _ hd ht
  have hno := (hT t ti ht).plain
  obtain ⟨G2, I2, h2, hs, hn, _⟩ := hI.rn (nm d 0)
  have h3 := h2.addNew (o := .box w.heap.size ti.ty) hn (nm7 d 0 (by omega)) (.cells (q0 ti.ty).cells t) rfl
  have hG : G2.add (nm d 0) (.box w.heap.size ti.ty) (nm d 0) = some (.box w.heap.size ti.ty) := by simp [g0.add]
  have h4 := h3.setBox (c := ⟨ti.ty, ti.ty.dflt⟩) (by show _ = some (Own.box _ ti.ty.era); rw [V5 hno]; exact hG) ⟨⟨_, t, heap_alloc_new w _, (g6.zero _ _ ti.ty).list⟩, fun _ => OLv.none hno⟩
  exact a6y (st := ⟨(st.rn (nm d 0)).tmps, a06 (st.rn (nm d 0)).boxes (nm d 0) ⟨ti.ty, ti.ty.dflt⟩⟩) (s := .box (nm d 0) []) hd h4 ⟨w.heap.size, ti.ty, 0, ti.ty, hG, N2 _, rfl⟩ hk h
   (by unfold execOp; rw [hop]; simp [Instr.alloc, a3y (hT t ti ht), newVar, newRow])
 ·cases h
/-! ### loads -/
theorem C2 (b o n : Nat) : (⟨b, o, none⟩ : Addr).add n = ⟨b, o + n, none⟩ := by unfold Addr.add; split <;> simp_all
theorem a54 (hT : o4 P tb) {t : Nat} {ti : TI} (ht : tb.get t = some ti) {I : Nat → Prop} {b off : Nat} {x : ti.ty.den} (hl : a1N I w b off ti.ty x) :
  ∃ v, (loadVar t ⟨b, off, none⟩).run P w = .ok v w ∧ g6 I w ti.ty x v := by
 obtain ⟨cs, hc, hj⟩ := hl
 have hs := hT t ti ht
 unfold loadVar
 rw [Sem.run_bind, a0v hs]
 cases ha : ti.ty.agg with
 | true =>
  refine ⟨.agg cs.toArray, ?_, g6.of_agg ha hc⟩
  have hl := run_loadCells_list (P := P) (w := w) ⟨b, off, none⟩ cs (fun j v hv => by rw [C2]; exact hj j v hv)
  rw [hc.len] at hl
  simp [u0 hs, hl]
 | false =>
  obtain ⟨v, hv, _⟩ := hc.one ha
  subst hv
  have := hj 0 v rfl
  refine ⟨v, ?_, g6.of_one ha hc⟩
  simp only [Nat.add_zero] at this
  simp [run_load, this]
theorem a4o.part {I : Nat → Prop} {b : Nat} {c d : Cell} {p : List Nat} (hb : a4o I w b c) (hp : path c p = some d) : ∃ off, j8 c.t p = some (off, d.t) ∧ a1N I w b off d.t d.x := by
 obtain ⟨cs, et, hh, hr⟩ := hb
 obtain ⟨o, ho, hpt⟩ := U8 hp
 obtain ⟨pre, mid, post, h1, h2, h3⟩ := hpt I w cs.toList hr
 refine ⟨o, ho, mid, h3, fun j u hj => ?_⟩
 have hlt : j < mid.length := by
  rcases Nat.lt_or_ge j mid.length with h | h
  ·exact h
  ·rw [List.getElem?_eq_none h] at hj; cases hj
 have : cs.toList[o + j]? = some u := by
  rw [h1, ← h2, List.append_assoc, List.getElem?_append_right (by omega), Nat.add_sub_cancel_left, List.getElem?_append_left hlt]
  exact hj
 simpa [World.cell?, hh] using this
theorem a1N.part {I : Nat → Prop} {b off : Nat} {c d : Cell} {p : List Nat} (hl : a1N I w b off c.t c.x) (hp : path c p = some d) : ∃ o, j8 c.t p = some (o, d.t) ∧ a1N I w b (off + o) d.t d.x := by
 obtain ⟨cs, hr, hj⟩ := hl
 obtain ⟨o, ho, hpt⟩ := U8 hp
 obtain ⟨pre, mid, post, h1, h2, h3⟩ := hpt I w cs hr
 refine ⟨o, ho, mid, h3, fun j u hu => ?_⟩
 have hlt : j < mid.length := by
  rcases Nat.lt_or_ge j mid.length with h | h
  ·exact h
  ·rw [List.getElem?_eq_none h] at hu; cases hu
 have : cs[o + j]? = some u := by
  rw [h1, ← h2, List.append_assoc, List.getElem?_append_right (by omega), Nat.add_sub_cancel_left, List.getElem?_append_left hlt]
  exact hu
 have := hj _ _ this
 rwa [← Nat.add_assoc] at this
theorem a6L (hT : o4 P tb) {t : TypeId} {a : Operand} (hop : o.op = .load t a) (hI : Inv w0 F Fn I0 W Zc G I st tm w) (hk : p6 w0 F Fn I0 W Zc ds k next) (h : opk tb Γ Kp o st k) : o.wp P ⟨tm, ds⟩ w next Q := by
 unfold opk at h
 rw [hop] at h
 dsimp only at h
 have hs := hI.ev a ds
 split at h
 ·cases h
 ·rename_i ti ht
  have key2 : ∀ (c : Cell) (b off : Nat) {G1 : g0} {I1 : Nat → Prop} {st1 : St}, Inv w0 F Fn I0 W Zc G1 I1 st1 tm w → (Act.mk tm ds).eval a = .pointer (some ⟨b, off, none⟩) → a1N I1 w b off c.t c.x → ti.ty.beq c.t = true → k (st1.put o.dst (.v c.t c.x)) → o.wp P ⟨tm, ds⟩ w next Q := by
   rintro ⟨u, x⟩ b off G1 I1 st1 hI1 he hl hb hkk
   have e := Ty.beq_eq hb
   dsimp only at e hl hkk
   subst e
   obtain ⟨v, hv, hrep⟩ := a54 hT ht hl
   exact fin hI1 (s := .v ti.ty x) hrep hk hkk (by unfold execOp; rw [hop]; simp [Instr.loadAt, Instr.sureAddr, he, hv])
  have key := fun c b off => key2 c b off hI
  split at h
  ·rename_i n p ha
   rw [ha] at hs
   obtain ⟨b, t', off, u, hG, hp, hv⟩ := hs
   split at h
   ·cases h
   ·rename_i c hc
    obtain ⟨b', hG', hbox⟩ := hI.box n c hc
    rw [hG] at hG'; injection hG' with e; injection e with e1 e2; subst e1; subst e2
    split at h
    ·cases h
    ·rename_i et e xs hc'
     split at h
     ·rename_i hb h8
      have h8 := Nat.eq_of_beq_eq_true h8
      have hty := Ty.beq_eq hb
      obtain ⟨off', ho', _⟩ := hbox.1.part hc'
      have ho2 := B7 ho'
      rw [hp] at ho2; injection ho2 with e3; injection e3 with e3 _; subst e3
      have hx := OLv.path hc' ho' (hbox.2 h8)
      rw [Nat.zero_add] at hx
      obtain ⟨v, hcell, hown⟩ := hx
      refine fin hI (s := .own (n + 4) et e xs) (v := v) hown hk h ?_
      have ha2 := a0v (hT t ti ht) w
      rw [hty] at ha2
      unfold execOp; rw [hop]
      simp [Instr.loadAt, Instr.sureAddr, hv, loadVar, ha2, Ty.agg, run_load, hcell]
     ·cases h
    ·rename_i c' _ hc'
     split at h
     ·rename_i hb
      obtain ⟨off', ho', hl⟩ := hbox.1.part hc'
      have ho2 := B7 ho'
      rw [hp] at ho2; injection ho2 with e3; injection e3 with e3 _; subst e3
      exact key c' b off hv hl hb h
     ·split at h
      ·cases h
      ·rename_i c1 hc1
       split at h
       ·cases h
       ·rename_i d1 hd1
        split at h
        ·rename_i hb
         obtain ⟨G1, I1, h1, _, hj1, _⟩ := hI.fz (n + 4)
         obtain ⟨b1, hG1, hbox1⟩ := h1.box n c1 hc1
         rw [hj1 n (by omega), hG] at hG1
         injection hG1 with e; injection e with e1 e2; subst e1
         obtain ⟨off', ho', hl⟩ := hbox1.1.part hd1
         have ho2 := B7 ho'
         rw [← e2, hp] at ho2; injection ho2 with e3; injection e3 with e3 _; subst e3
         exact key2 d1 b off h1 hv hl hb h
        ·cases h
  ·rename_i u x ha
   rw [ha] at hs
   obtain ⟨b, off, hv, _, hl⟩ := hs
   split at h
   ·rename_i hb; exact key ⟨u, x⟩ b off hv hl hb h
   ·cases h
  ·rename_i n i e p u x ha
   rw [ha] at hs
   obtain ⟨b, off, hv, _, _, _, hl⟩ := hs
   split at h
   ·rename_i hb; exact key ⟨u, x⟩ b _ hv hl hb h
   ·cases h
  ·cases h
end
end Go.VE
