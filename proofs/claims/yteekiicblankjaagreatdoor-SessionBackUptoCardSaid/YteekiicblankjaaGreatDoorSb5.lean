import Derived.Test.YteekiicblankjaaGreatDoorSb4
import Derived.Lib.AppendStr
set_option linter.unusedVariables false
set_option linter.unusedSectionVars false
set_option linter.unusedSimpArgs false
namespace Go.VE
variable [M9]
open Go Go.RowKit Go.Lib
section
variable {P : Program} {tb : Tab} {Γ : Nat → Option App} {Kp : Int → St → Prop} {w0 : World} {F : Nat → Prop} {Fn : Nat → Option Nat} {I0 : Nat → Prop} {W : Nat → Prop} {Zc : Nat → Option Obj} {G : g0} {I : Nat → Prop}
 {st : St} {tm : Array Value} {ds : List Deferred} {w : World} {k : St → Prop} {next : Act → World → Prop} {Q : Exit → Act → World → Prop} {o : Oper}
/-- a slice that is read -/
def Rows (I : Nat → Prop) (w : World) (e : Ty) (ys : List e.den) (v : Value) : Prop :=
 ∃ A cap, v = .slice A ys.length cap ∧ ys.length ≤ maxLen ∧ ∀ i (hi : i < ys.length), ∃ b o, A = some ⟨b, o, none⟩ ∧ ∃ cs, l0 I w e ys[i] cs ∧ ∀ j v, cs[j]? = some v → w.cell? ⟨b, o + i * e.cells + j, none⟩ = some v
theorem a4X {t t' : Nat} {e : Ty} {b : j4} {ys : List e.den} {v : Value} (hs : source tb e t t' b = some ys) (h : B9 G I w b v) (hb : ∀ z, b ≠ .v .str z) : t.beq t' = true ∧ Rows I w e ys v := by
 unfold source at hs
 split at hs
 ·rename_i k2 et2 u o zs
  split at hs
  ·rename_i htt
   obtain ⟨he, hy⟩ := Ty.cast?_eq hs
   injection he with he; subst he; subst hy
   refine ⟨htt, ?_⟩
   obtain ⟨bo, _, ⟨_, rfl, rfl⟩ | ⟨b, _, a0, cap, cur, fr, rfl, ha, hl, hm, hh, hfr, hz, hr⟩⟩ := h
   ·exact ⟨none, 0, rfl, Nat.zero_le _, fun i hi => absurd hi (Nat.not_lt_zero i)⟩
   ·refine ⟨_, cap, rfl, Nat.le_trans hl hm, fun i hi => ?_⟩
    obtain ⟨cs, hc, hj⟩ := hr i hi
    obtain rfl := ha (by omega)
    exact ⟨b, _, rfl, cs, hc, fun j v hv => by have := hj j v hv; rw [Nat.add_mul] at this; simpa [World.cell?, hh] using this⟩
  ·cases hs
 ·rename_i u zs
  split at hs
  ·rename_i htt
   obtain ⟨he, hy⟩ := Ty.cast?_eq hs
   injection he with he; subst he; subst hy
   refine ⟨htt, ?_⟩
   obtain ⟨A, cap, rfl, hl, hm, hr⟩ := g6.sl_eq h
   exact ⟨A, cap, rfl, Nat.le_trans hl hm, fun i hi => by
    obtain ⟨b, o, hA, _, cs, hc, _, hj⟩ := hr i hi
    exact ⟨b, o, hA, cs, hc, hj⟩⟩
  ·cases hs
 ·rename_i k2 et2 u zs
  split at hs
  ·rename_i htt
   obtain ⟨he, hy⟩ := Ty.cast?_eq hs
   injection he with he; subst he; subst hy
   refine ⟨htt, ?_⟩
   obtain ⟨bo, _, ⟨_, rfl, rfl⟩ | ⟨b, _, cap, cur, fr, rfl, hl, hm, hh, hfr, hz, hr⟩⟩ := h
   ·exact ⟨none, 0, rfl, Nat.zero_le _, fun i hi => absurd hi (Nat.not_lt_zero i)⟩
   ·exact ⟨_, cap, rfl, Nat.le_trans hl hm, fun i hi => by
     obtain ⟨cs, hc, hj⟩ := hr i hi
     exact ⟨b, 0, rfl, cs, hc, fun j v hv => by rw [Nat.zero_add]; simpa [World.cell?, hh] using hj j v hv⟩⟩
  ·cases hs
 ·exact absurd rfl (hb _)
 ·cases hs
theorem a9J (hT : o4 P tb) {t t' : Nat} {ti : TI} {e : Ty} {b : j4} {ys : List e.den} {v : Value} (hti : tb.get t = some ti) (hte : ti.ty = .sl e) (hs : source tb e t t' b = some ys) (h : B9 G I w b v) :
  ∃ news, Src P I w t' e ys v news := by
 obtain ⟨hu, _⟩ := (hT t ti hti).sl e hte
 by_cases hb : ∀ z, b ≠ .v .str z
 ·obtain ⟨htt, A, cap, rfl, _, hr⟩ := a4X hs h hb
  have htt := Nat.eq_of_beq_eq_true htt
  subst htt
  exact a7K hu hr
 ·simp only [ne_eq, Classical.not_forall, Classical.not_not] at hb
  obtain ⟨zs, rfl⟩ := hb
  simp only [source] at hs
  split at hs
  ·rename_i el fts by_ ht'
   obtain ⟨he, hy⟩ := Ty.cast?_eq hs
   injection he with he; subst he; subst hy
   have hu' := (hT t' _ ht').str rfl
   obtain ⟨s, rfl, hb, hsz⟩ := g6.str_eq h
   subst hb
   refine ⟨strCells s, ⟨⟨_, hu', fun k h => by cases h⟩, fun n => by simp [Builtin.lenOf, j2], fun n => ?_, by rw [strCells_length]; simp [Ty.cells, j2], strCells_oneCell s, fun i hi => ?_⟩⟩
   ·have := run_firstCells_string (P := P) { w with drawn := n } (Ty.int .u8).cells s
    rw [← j2] at this
    exact this
   ·have hi' : i < s.size := by rw [← j2]; exact hi
    have hi2 : i < s.data.toList.length := hi'
    have he : (bytesOf s)[i]'hi = ((s.data.toList[i]'hi2).toNat : Int) := by simp [bytesOf]
    have hlt := (s.data.toList[i]'hi2).toNat_lt
    refine ⟨[.int .u8 ((s.data.toList[i]'hi2).toNat : Int)], ⟨?_, ?_⟩, fun j u hu => ?_⟩
    ·show inR .u8 ((bytesOf s)[i]'hi)
     rw [he]; constructor <;> simp only [a03, a02] <;> omega
    ·show _ = [Value.int .u8 ((bytesOf s)[i]'hi)]
     rw [he]
    ·have hj0 : j = 0 := by
      rcases Nat.lt_or_ge j 1 with h | h
      ·omega
      ·rw [List.getElem?_eq_none (by simpa using h)] at hu; cases hu
     subst hj0
     rw [← hu]
     simp [strCells, Ty.cells, List.getElem?_map, List.getElem?_eq_getElem hi2]
  ·cases hs
/-! ### copy -/
theorem a82 {α : Type} (o : Nat) (xs : List α) : ovr o [] xs = xs := by simp [ovr]
theorem a2S {α : Type} (o : Nat) (ys xs : List α) : (ovr o ys xs).length = xs.length := by
 simp only [ovr, List.length_take, List.length_append, List.length_drop]; omega
theorem a81 {α : Type} (o : Nat) (ys xs : List α) (q : Nat) (hq : q < xs.length) : (ovr o ys xs)[q]? = if o ≤ q ∧ q < o + ys.length then ys[q - o]? else xs[q]? := by
 unfold ovr
 rw [List.getElem?_take, if_pos hq]
 by_cases h1 : q < o
 ·rw [if_neg (by omega), List.append_assoc, List.getElem?_append_left (by rw [List.length_take]; omega), List.getElem?_take, if_pos h1]
 ·have hl : (xs.take o).length = o := by rw [List.length_take]; omega
  by_cases h2 : q < o + ys.length
  ·rw [if_pos (by omega), List.append_assoc, List.getElem?_append_right (by omega), List.getElem?_append_left (by omega), hl]
  ·rw [if_neg (by omega), List.getElem?_append_right (by rw [List.length_append]; omega), List.getElem?_drop, List.length_append, hl]
   congr 1; omega
theorem a7A {w' : World} {b et o : Nat} {e : Ty} {ys xs : List e.den} {v : Value} {news : List Value} {cur cur' : Array Value} {et0 : Nat} {fr : Nat × Nat}
  (hh : w.heap[b]? = some (.cells cur et0 fr)) (hw' : w'.heap[b]? = some (.cells cur' et0 fr))
  (hc : cur'.toList = cur.toList.take (o * e.cells) ++ news ++ cur.toList.drop (o * e.cells + news.length)) (hfit : o * e.cells + news.length ≤ cur.size) (hk : p5 I I w w') (hnl : news.length = ys.length * e.cells)
  (hy : ∀ i (h : i < ys.length), ∃ cs, l0 I w e ys[i] cs ∧ ∀ j u, cs[j]? = some u → news[i * e.cells + j]? = some u)
  (h : F3 I w et e xs v b) : F3 I w' et e (ovr o ys xs) v b := by
 obtain ⟨cap, cur1, fr1, rfl, hl, hm, hh1, hfr, hz, hr⟩ := h
 rw [hh] at hh1; injection hh1 with hh1; injection hh1 with e1 e2 e3; subst e1; subst e2; subst e3
 have hf : o * e.cells + news.length ≤ cur.toList.length := by rw [Array.length_toList]; exact hfit
 have hsz : cur'.size = cur.size := by
  rw [← Array.length_toList, hc, List.length_append, List.length_append, List.length_take, List.length_drop, ← Array.length_toList (xs := cur)]; omega
 have hget : ∀ j, cur'[j]? = if o * e.cells ≤ j ∧ j < o * e.cells + news.length then news[j - o * e.cells]? else cur[j]? := by
  intro j
  rw [← Array.getElem?_toList, hc, a4V hf]
  simp
 refine ⟨cap, cur', fr, by rw [a2S], by rw [a2S]; exact hl, hm, hw', by rw [hsz]; exact hfr, by rw [hsz]; exact hz, fun q hq => ?_⟩
 have hq' : q < xs.length := by rw [← a2S o ys xs]; exact hq
 have hg := a81 o ys xs q hq'
 rw [List.getElem?_eq_getElem hq] at hg
 by_cases hin : o ≤ q ∧ q < o + ys.length
 ·rw [if_pos hin, List.getElem?_eq_getElem (by omega)] at hg
  injection hg with hg
  obtain ⟨cs, hrc, hj⟩ := hy (q - o) (by omega)
  refine ⟨cs, by rw [hg]; exact hrc.keep hk, fun j u hu => ?_⟩
  have hjl : j < e.cells := by
   rcases Nat.lt_or_ge j e.cells with h | h
   ·exact h
   ·rw [List.getElem?_eq_none (by rw [hrc.len]; exact h)] at hu; cases hu
  have h1 : o * e.cells ≤ q * e.cells := Nat.mul_le_mul_right _ hin.1
  have h2 : (q + 1) * e.cells ≤ (o + ys.length) * e.cells := Nat.mul_le_mul_right _ hin.2
  rw [Nat.succ_mul, Nat.add_mul] at h2
  rw [hget, if_pos (by omega)]
  have h3 := hj j u hu
  rw [Nat.sub_mul] at h3
  rw [← h3]; congr 1; omega
 ·rw [if_neg hin, List.getElem?_eq_getElem hq'] at hg
  injection hg with hg
  obtain ⟨cs, hrc, hj⟩ := hr q hq'
  refine ⟨cs, by rw [hg]; exact hrc.keep hk, fun j u hu => ?_⟩
  have hjl : j < e.cells := by
   rcases Nat.lt_or_ge j e.cells with h | h
   ·exact h
   ·rw [List.getElem?_eq_none (by rw [hrc.len]; exact h)] at hu; cases hu
  rw [hget, if_neg]
  ·exact hj j u hu
  ·rintro ⟨h1, h2⟩
   rcases Nat.lt_or_ge q o with h | h
   ·have : (q + 1) * e.cells ≤ o * e.cells := Nat.mul_le_mul_right _ h
    rw [Nat.succ_mul] at this; omega
   ·have : (o + ys.length) * e.cells ≤ q * e.cells := Nat.mul_le_mul_right _ (by omega)
    rw [Nat.add_mul] at this; omega
theorem a73 (hT : o4 P tb) {t t' ty : Nat} {ti : TI} {tok o : Nat} {e : Ty} {b : j4} {xs ys : List e.den} {vx vy : Value} (hti : tb.get t = some ti) (hte : ti.ty = .sl e)
  (hI : Inv w0 F Fn I0 W Zc G I st tm w)
  (hdst : (vx = .slice none 0 0 ∧ xs = [] ∧ G tok = some (.tok none)) ∨ ∃ bb a0 cap cur et fr, vx = .slice (some ⟨bb, a0, none⟩) xs.length cap ∧ G tok = some (.tok (some bb)) ∧ (cap ≠ 0 → a0 = o * e.cells) ∧ xs.length ≤ cap ∧ w.heap[bb]? = some (.cells cur et fr) ∧ a3A fr cur.size ∧ (o + cap) * e.cells ≤ cur.size)
  (hs : source tb e t t' b = some ys) (h : B9 G I w b vy) (hb : ∀ z, b ≠ .v .str z) :
  ∃ w', (Builtin.copy_ #[t, t'] ty #[vx, vy]).run P w = .ok (.int .i64 (mn (List.length ys : Int) (List.length xs : Int))) w' ∧ Inv w0 F Fn I0 W Zc G I (st.up tok e (ovr o (List.take xs.length ys))) tm w' := by
 obtain ⟨hu, tei, htei, hee⟩ := (hT t ti hti).sl e hte
 have hsz := u0 (hT _ tei htei) w
 rw [hee] at hsz
 obtain ⟨_, A, cp, rfl, _, hr⟩ := a4X hs h hb
 have hmin : (Nat.min ys.length xs.length : Int) = mn (List.length ys : Int) (List.length xs : Int) := by
  unfold mn
  by_cases hc : (xs.length : Int) < ys.length
  ·have : Nat.min ys.length xs.length = xs.length := Nat.min_eq_right (by omega)
   simp [hc, this]
  ·have : Nat.min ys.length xs.length = ys.length := Nat.min_eq_left (by omega)
   simp [hc, this]
 have htl : (List.take xs.length ys).length = Nat.min ys.length xs.length := by rw [List.length_take, Nat.min_comm]
 -- nothing is copied
 have zero : (List.take xs.length ys) = [] → Inv w0 F Fn I0 W Zc G I (st.up tok e (ovr o (List.take xs.length ys))) tm w := by
  intro hy
  rw [hy]
  exact hI.upId fun zs => a82 o zs
 rcases hdst with ⟨rfl, rfl, hG⟩ | ⟨bb, a0, cap, cur, et, fr, rfl, hG, ha0, hl, hh, hfr, hz⟩
 ·refine ⟨w, ?_, zero (by simp)⟩
  have h0 : Nat.min ys.length 0 = 0 := Nat.min_zero _
  rw [← hmin]
  cases A <;> simp [Builtin.copy_, run_underlying hu, Builtin.lenOf, h0, hsz, Builtin.firstCells, loadCells, loadCellsFrom, goInt]
 ·by_cases hy : List.take xs.length ys = []
  ·refine ⟨w, ?_, zero hy⟩
   have h0 : Nat.min ys.length xs.length = 0 := by rw [← htl, hy]; rfl
   rw [← hmin]
   cases A <;> simp [Builtin.copy_, run_underlying hu, Builtin.lenOf, h0, hsz, Builtin.firstCells, loadCells, loadCellsFrom, goInt, storeCells]
  ·have hpos : 0 < Nat.min ys.length xs.length := by rw [← htl]; exact List.length_pos_iff.2 hy
   have hly : 0 < ys.length := Nat.lt_of_lt_of_le hpos (Nat.min_le_left _ _)
   have hlx : 0 < xs.length := Nat.lt_of_lt_of_le hpos (Nat.min_le_right _ _)
   obtain ⟨sb, so, rfl, _⟩ := hr 0 hly
   obtain rfl := ha0 (by omega)
   have hmx : Nat.min ys.length xs.length ≤ xs.length := Nat.min_le_right _ _
   obtain ⟨news, h1, h2, h3, h4⟩ := a6z (I := I) (w := w) (List.take xs.length ys) (fun n => w.cell? ⟨sb, so + n, none⟩) (fun i hi => by
    have hi' : i < ys.length := by rw [List.length_take] at hi; omega
    obtain ⟨b', o', hA, cs, hc, hj⟩ := hr i hi'
    injection hA with hA; injection hA with e1 e2; subst e1; subst e2
    exact ⟨cs, by rw [List.getElem_take]; exact hc, fun j v hv => by rw [← Nat.add_assoc]; exact hj j v hv⟩)
   rw [htl] at h1
   have hfc := run_firstCells_some (P := P) w e.cells (Nat.min ys.length xs.length) ⟨sb, so, none⟩ ys.length cp news h1 (fun j v hv => by rw [C2]; exact h2 j v hv)
   have hfit : o * e.cells + news.length ≤ cur.size := by
    have : (o + Nat.min ys.length xs.length) * e.cells ≤ (o + cap) * e.cells := Nat.mul_le_mul_right _ (by omega)
    rw [Nat.add_mul] at this
    rw [h1]; omega
   have hst := M7 (P := P) bb (o * e.cells) et fr news 0 cur w hh (by simpa using hfit) h3 hfr
   simp only [Nat.add_zero] at hst
   generalize hcur' : (cur.toList.take (o * e.cells) ++ news ++ cur.toList.drop (o * e.cells + news.length)).toArray = cur' at hst
   have hbI := hI.own tok _ bb hG rfl
   have hkeep : p5 I I w (w.setRow bb cur') := ⟨fun _ h => h, fun j hj => setRow_other w bb j cur' (by intro e; subst e; exact hbI.1 hj)⟩
   refine ⟨w.setRow bb cur', ?_, hI.up (hsh := a3v hh (setRow_heap w bb cur cur' _ _ hh) (by
    rw [← hcur', List.size_toArray]; simp only [List.length_append, List.length_take, List.length_drop, Array.length_toList]; omega)) hG (by simp) (fun j hj => setRow_other w bb j cur' hj) rfl rfl rfl (fun et' zs v h => a7A hh (setRow_heap w bb cur cur' _ _ hh) (by rw [← hcur']) hfit hkeep (by rw [htl]; exact h1) h4 h)⟩
   rw [← hmin]
   simp [Builtin.copy_, run_underlying hu, Builtin.lenOf, hsz, hfc, hst, goInt]
theorem a2f {α β : Type} {f : α → β} {l : List α} {y : β} (h : l.map f = [y]) : ∃ a, l = [a] ∧ f a = y := by
 cases l with
 | nil => cases h
 | cons a l => cases l with
  | nil => simp at h; exact ⟨a, rfl, h⟩
  | cons b l => simp at h
theorem a1t {α β : Type} {f : α → β} {l : List α} {y z : β} (h : l.map f = [y, z]) : ∃ a b, l = [a, b] ∧ f a = y ∧ f b = z := by
 cases l with
 | nil => cases h
 | cons a l =>
  cases l with
  | nil => simp at h
  | cons b l =>
   cases l with
   | nil => simp at h; exact ⟨a, b, rfl, h.1, h.2⟩
   | cons c l => simp at h
theorem Z0 {α : Type} {a : Array α} {l : List α} (h : a.toList = l) : a = l.toArray := by rw [← h]
theorem R3 {c : Call} {b : Builtin} (hop : o.op = .call c) (hc : c.callee = .builtin b) {v : Value} {w' : World}
  (h : (builtin b c.argTypes o.type (c.args.map fun | .const _ => true | _ => false) (c.args.map (Act.mk tm ds).eval)).run P w = .ok (.value v) w') : (execOp (Act.mk tm ds).eval o).run P w = .ok (.value v) w' := by
 unfold execOp
 rw [hop]
 simp only [Sem.run_bind, resolve, hc, Sem.run_pure, Result.andThen_ok, invoke]
 exact h
theorem a49 (hT : o4 P tb) {c : Call} {b : Builtin} (hop : o.op = .call c) (hc : c.callee = .builtin b) (hI : Inv w0 F Fn I0 W Zc G I st tm w) (hk : p6 w0 F Fn I0 W Zc ds k next)
  (h : blk tb b c.argTypes.toList (c.args.toList.map st.ev) o.dst st k) : o.wp P ⟨tm, ds⟩ w next Q := by
 have lenCase : ∀ (a : Operand) (t : Nat) (n : Nat), c.args.toList = [a] → c.argTypes.toList = [t] → (n : Int) ≤ 9223372036854775807 → (Builtin.len_ #[t] o.type #[(Act.mk tm ds).eval a]).run P w = .ok (.int .i64 (n : Int)) w → lnk n o.dst st k → b = .len → o.wp P ⟨tm, ds⟩ w next Q := by
  intro a t n ha ht hn hrun hk2 hb
  subst hb
  refine fin hI (s := .v (.int .i64) (n : Int)) (v := .int .i64 (n : Int)) (g6.int_mk ⟨by simp [a03], by simpa [a02] using hn⟩) hk hk2 (R3 hop hc ?_)
  rw [Z0 ha, Z0 ht]
  simp [builtin, hrun]
 have copyCase : ∀ (a a' : Operand) (t t' tok o2 : Nat) (e : Ty) (xs : List e.den) (y : j4), c.args.toList = [a, a'] → c.argTypes.toList = [t, t'] → B9 G I w y ((Act.mk tm ds).eval a') →
   (((Act.mk tm ds).eval a = .slice none 0 0 ∧ xs = [] ∧ G tok = some (.tok none)) ∨ ∃ bb a0 cap cur et fr, (Act.mk tm ds).eval a = .slice (some ⟨bb, a0, none⟩) xs.length cap ∧ G tok = some (.tok (some bb)) ∧ (cap ≠ 0 → a0 = o2 * e.cells) ∧ xs.length ≤ cap ∧ w.heap[bb]? = some (.cells cur et fr) ∧ a3A fr cur.size ∧ (o2 + cap) * e.cells ≤ cur.size) →
   cpk tb t t' e tok o2 xs y o.dst st k → b = .copy → o.wp P ⟨tm, ds⟩ w next Q := by
  intro a a' t t' tok o2 e xs y ha hts hsy hdst hk2 hb
  subst hb
  unfold cpk at hk2
  split at hk2
  ·cases hk2
  ·rename_i ti hti
   split at hk2
   ·cases hk2
   ·rename_i hbq
    split at hk2
    ·rename_i ys hys
     have hsrc : source tb e t t' y = some ys ∧ ∀ z, y ≠ .v .str z := by
      split at hys
      ·cases hys
      ·rename_i hne; exact ⟨hys, fun z hz => hne z hz⟩
     obtain ⟨w', hrun, hI'⟩ := a73 (ty := o.type) hT hti (Ty.beq_eq hbq) hI hdst hsrc.1 hsy hsrc.2
     have hmr : inR .i64 (mn (List.length ys : Int) (List.length xs : Int)) := by
      obtain ⟨_, A, cp, _, hyl, _⟩ := a4X hsrc.1 hsy hsrc.2
      unfold maxLen at hyl
      unfold mn
      by_cases hc : (xs.length : Int) < ys.length
      ·simp only [hc, decide_true, cond_true]; constructor <;> simp only [a03, a02] <;> omega
      ·simp only [hc, decide_false, cond_false]; constructor <;> simp only [a03, a02] <;> omega
     refine fin (st := st.up tok e (ovr o2 (List.take xs.length ys))) hI' (s := .v (.int .i64) (mn (List.length ys : Int) (List.length xs : Int))) (g6.int_mk hmr) hk hk2 (R3 hop hc ?_)
     rw [Z0 ha, Z0 hts]
     simp [builtin, hrun]
    ·cases hk2
 unfold blk at h
 split at h
 ·rename_i e xs t hargs hts
  obtain ⟨a, ha, hev⟩ := a2f hargs
  have hs := hI.ev a ds
  rw [hev] at hs
  split at h
  ·rename_i ti hti
   split at h
   ·rename_i hb
    have hl := g6.sl_le hs
    obtain ⟨A, cap, hv, _⟩ := g6.sl_eq hs
    obtain ⟨hu, _⟩ := (hT t ti hti).sl e (Ty.beq_eq hb)
    exact lenCase a t xs.length ha hts (by unfold maxLen at hl; omega) (by rw [hv]; simp [Builtin.len_, run_underlying hu, goInt]) h rfl
   ·cases h
  ·cases h
 ·rename_i n et e xs t hargs hts
  obtain ⟨a, ha, hev⟩ := a2f hargs
  have hs := hI.ev a ds
  rw [hev] at hs
  split at h
  ·rename_i ti hti
   split at h
   ·rename_i hb
    have hl := g6.sl_le (R5.rep hs)
    obtain ⟨A, cap, hv, _⟩ := g6.sl_eq (R5.rep hs)
    obtain ⟨hu, _⟩ := (hT t ti hti).sl e (Ty.beq_eq hb)
    exact lenCase a t xs.length ha hts (by unfold maxLen at hl; omega) (by rw [hv]; simp [Builtin.len_, run_underlying hu, goInt]) h rfl
   ·cases h
  ·cases h
 ·rename_i xs t hargs hts
  obtain ⟨a, ha, hev⟩ := a2f hargs
  have hs := hI.ev a ds
  rw [hev] at hs
  split at h
  ·rename_i ti hti
   split at h
   ·rename_i hb
    obtain ⟨s, hv, rfl, hsz⟩ := g6.str_eq hs
    have hu := (hT t ti hti).str (Ty.beq_eq hb)
    exact lenCase a t (bytesOf s).length ha hts (by rw [j2]; unfold maxLen at hsz; omega) (by rw [hv]; simp [Builtin.len_, run_underlying hu, goInt, j2]) h rfl
   ·cases h
  ·cases h
 ·rename_i k1 n1 k2 n2 hargs
  obtain ⟨a, a', ha, hev, hev'⟩ := a1t hargs
  have hs := hI.ev a ds
  have hs' := hI.ev a' ds
  rw [hev] at hs; rw [hev'] at hs'
  obtain ⟨r1, hv⟩ := g6.int_eq hs
  obtain ⟨r2, hv'⟩ := g6.int_eq hs'
  split at h
  ·rename_i hkk
   have e := Q2 hkk
   subst e
   have hmn : mn n1 n2 = if n2 < n1 then n2 else n1 := by unfold mn; by_cases hc : (n2 : Int) < n1 <;> simp [hc]
   refine fin hI (s := .v (.int k1) (mn n1 n2)) (v := .int k1 (mn n1 n2)) (g6.int_mk (by rw [hmn]; split <;> assumption)) hk h (R3 hop hc ?_)
   rw [Z0 ha]
   simp [builtin, Builtin.min_, Builtin.min2, hv, hv', hmn]
  ·cases h
 ·rename_i k1 n1 k2 n2 hargs
  obtain ⟨a, a', ha, hev, hev'⟩ := a1t hargs
  have hs := hI.ev a ds
  have hs' := hI.ev a' ds
  rw [hev] at hs; rw [hev'] at hs'
  obtain ⟨r1, hv⟩ := g6.int_eq hs
  obtain ⟨r2, hv'⟩ := g6.int_eq hs'
  split at h
  ·rename_i hkk
   have e := Q2 hkk
   subst e
   have hmx : mx n1 n2 = if n1 < n2 then n2 else n1 := by unfold mx; by_cases hc : (n1 : Int) < n2 <;> simp [hc]
   refine fin hI (s := .v (.int k1) (mx n1 n2)) (v := .int k1 (mx n1 n2)) (g6.int_mk (by rw [hmx]; split <;> assumption)) hk h (R3 hop hc ?_)
   rw [Z0 ha]
   simp [builtin, Builtin.max_, Builtin.max2, hv, hv', hmx]
  ·cases h
 ·rename_i tok et e xs y t t' hargs hts
  obtain ⟨a, a', ha, hev, hev'⟩ := a1t hargs
  have hs := hI.ev a ds
  have hs' := hI.ev a' ds
  rw [hev] at hs; rw [hev'] at hs'
  unfold apk at h
  split at h
  ·cases h
  ·rename_i ti hti
   split at h
   ·cases h
   ·rename_i hchk
    split at hchk
    ·rename_i hel
     have hel := Nat.eq_of_beq_eq_true hel
     split at hchk
     ·rename_i hsml
      have hte := Ty.beq_eq hchk
      split at h
      ·rename_i ys hys
       obtain ⟨hlim, h⟩ := o5 h
       have hlim := of_decide_eq_true hlim
       obtain ⟨news, hsrc⟩ := a9J hT hti hte hys hs'
       obtain ⟨v', w', G', hrun, hI', hown⟩ := a6s (ty := o.type) hT hti hte hel hsml hI (by obtain ⟨bo, hG, _⟩ := hs; exact hI.seven tok bo hG) hs hsrc hlim
       refine fin (st := st.kl tok) hI' (s := .own tok et e (xs ++ ys)) hown hk h (R3 hop hc ?_)
       rw [Z0 ha, Z0 hts]
       simp [builtin, hrun]
      ·cases h
     ·cases hchk
    ·cases hchk
 ·rename_i tok et e xs y t t' hargs hts
  obtain ⟨a, a', ha, hev, hev'⟩ := a1t hargs
  have hs := hI.ev a ds
  have hs' := hI.ev a' ds
  rw [hev] at hs; rw [hev'] at hs'
  refine copyCase a a' t t' tok 0 e xs y ha hts hs' ?_ h rfl
  obtain ⟨bo, hG, ⟨rfl, hv, hx⟩ | ⟨b, rfl, cap, cur, fr, hv, hl, hm, hh, hfr, hz, hr⟩⟩ := hs
  ·exact .inl ⟨hv, hx, hG⟩
  ·exact .inr ⟨b, 0, cap, cur, _, fr, hv, hG, fun _ => by rw [Nat.zero_mul], hl, hh, hfr.no, by rw [Nat.zero_add]; exact hz⟩
 ·rename_i tok et e o' xs y t t' hargs hts
  obtain ⟨a, a', ha, hev, hev'⟩ := a1t hargs
  have hs := hI.ev a ds
  have hs' := hI.ev a' ds
  rw [hev] at hs; rw [hev'] at hs'
  refine copyCase a a' t t' tok o' e xs y ha hts hs' ?_ h rfl
  obtain ⟨bo, hG, ⟨rfl, hv, hx⟩ | ⟨b, rfl, a0, cap, cur, fr, hv, ha0, hl, hm, hh, hfr, hz, hr⟩⟩ := hs
  ·exact .inl ⟨hv, hx, hG⟩
  ·exact .inr ⟨b, a0, cap, cur, _, fr, hv, hG, ha0, hl, hh, hfr.no, hz⟩
 ·cases h
end
end Go.VE
namespace Go.VE
variable [M9]
open Go Go.RowKit Go.Lib
/-- a pointer to a variable; or a function that holds one -/
def b0W (fo : Option Nat) (b : Nat) : Value := match fo with | none => .pointer (some ⟨b, 0, none⟩) | some f => .func (.func f) #[] #[.pointer (some ⟨b, 0, none⟩)]
def j3 (I : Nat → Prop) (w : World) : List Arg → List Value → List Nat → Prop
 | [], [], [] => True
 | .v t x :: ags, v :: vs, bs => g6 I w t x v ∧ j3 I w ags vs bs
 | .fn f :: ags, v :: vs, bs => v = Value.func (.func f) #[] #[] ∧ j3 I w ags vs bs
 | .ref fo c :: ags, v :: vs, b :: bs => v = b0W fo b ∧ ¬ I b ∧ b < w.heap.size ∧ b ∉ bs ∧ a4o I w b c ∧ j3 I w ags vs bs
 | .own et e x :: ags, v :: vs, b :: bs => ((v = Value.slice none 0 0 ∧ x = [] ∧ w.heap.size ≤ b) ∨ (F3 I w et e x v b ∧ ¬ I b ∧ b < w.heap.size ∧ b ∉ bs)) ∧ j3 I w ags vs bs
 | _, _, _ => False
/-- the blocks of variables, of all that are handed in -/
def l4 : List Arg → List Nat → List Nat
 | .v _ _ :: ags, bs => l4 ags bs
 | .fn _ :: ags, bs => l4 ags bs
 | .ref _ _ :: ags, b :: bs => b :: l4 ags bs
 | .own _ _ _ :: ags, _ :: bs => l4 ags bs
 | _, _ => []
def S0 (I : Nat → Prop) (w : World) : List Cell → List Nat → Prop
 | [], [] => True
 | c :: cs, b :: bs => a4o I w b c ∧ S0 I w cs bs
 | _, _ => False
def Z3 (I : Nat → Prop) (w : World) : P8 → Value → Option Nat → Prop
 | .v t x, v, fb => fb = none ∧ g6 I w t x v
 | .fr et e xs, v, some b => F3 I w et e xs v b
 | .fr _ _ xs, v, none => v = .slice none 0 0 ∧ xs = []
def Y9 (I : Nat → Prop) (w : World) : Res → Value → List (Option Nat) → Prop
 | .one x, v, fb => ∃ b, fb = [b] ∧ Z3 I w x v b
 | .tup xs, v, fb => ∃ vs : Array Value, v = .tuple vs ∧ vs.size = xs.length ∧ fb.length = xs.length ∧
   ∀ (i : Nat) (x : P8) (u : Value) (b : Option Nat), xs[i]? = some x → vs[i]? = some u → fb[i]? = some b → Z3 I w x u b
 | .pan _, _, _ => False
def orP (I J : Nat → Prop) : Nat → Prop := fun b => I b ∨ J b
/-- new blocks, and those that were handed over -/
def Nw (w : World) (bs rs : List Nat) (b : Nat) : Prop := w.heap.size ≤ b ∨ (b ∈ bs ∧ b ∉ rs)
/-- what holds behind a call that answered v: some result that is right; the variables that it was handed are as is told, and nothing else that was there has turned -/
def a0w (I : Nat → Prop) (w : World) (bs rs : List Nat) (Ok : Res → List Cell → Prop) (v : Value) (w' : World) : Prop :=
 ∃ (res : Res) (outs : List Cell) (J : Nat → Prop) (fb : List (Option Nat)), Ok res outs ∧ Z4 w w' (fun b => b ∈ bs) ∧ (∀ b, J b → Nw w bs rs b ∧ b < w'.heap.size) ∧
   (∀ (i : Nat) (b : Nat), fb[i]? = some (some b) → Nw w bs rs b ∧ b < w'.heap.size ∧ ¬ J b ∧ ∀ j, fb[j]? = some (some b) → j = i) ∧
   Y9 (orP I J) w' res v fb ∧ S0 (orP I J) w' outs rs
/-- how a call may end: with an answer, or with a panic of the program's own, behind which only the caller's blocks have turned -/
def a9R (I : Nat → Prop) (w : World) (bs rs : List Nat) (Ok : Res → List Cell → Prop) (e : Ending) (w' : World) : Prop :=
 (∃ (v : Value), e = .returned v ∧ a0w I w bs rs Ok v w') ∨ ∃ n, e = .panicked [{ v := M9.pan n, recovered := false }] ∧ Ok (.pan n) [] ∧ Z4 w w' (fun b => b ∈ bs)
/-- what a call promises of these arguments -/
def a1Q (P : Program) (f : FuncId) (args : List Arg) (Ok : Res → List Cell → Prop) : Prop :=
 ∀ (I : Nat → Prop) (w : World) (vs : List Value) (bs : List Nat), (∀ b, I b → b < w.heap.size) → M9.ok I w → j3 I w args vs bs →
  Calls P f vs.toArray w fun e w' => a9R I w bs (l4 args bs) Ok e w'
/-- the like of a function that the model itself answers for -/
def a8M (P : Program) (f : FuncId) (args : List Arg) (Ok : Res → List Cell → Prop) : Prop :=
 ∀ (I : Nat → Prop) (w : World) (vs : List Value) (bs : List Nat), (∀ b, I b → b < w.heap.size) → M9.ok I w → j3 I w args vs bs →
  ∃ (v : Value) (w' : World), (callFunc f vs.toArray).run P w = .ok (.value v) w' ∧ a0w I w bs (l4 args bs) Ok v w'
def a7M (P : Program) (f : FuncId) : Prop := ∀ (args : Array Value) (w : World), (callFunc f args).run P w = .ok (.enter f args) w
def a29 (P : Program) (f : FuncId) (args : List Arg) (Ok : Res → List Cell → Prop) : Prop := (a7M P f ∧ a1Q P f args Ok) ∨ a8M P f args Ok
def l5 (P : Program) (f : FuncId) (app : App) : Prop := ∀ (args : List Arg) (k : Res → List Cell → Prop), app args k → a29 P f args k
theorem a0w.mono {I : Nat → Prop} {w w' : World} {bs rs : List Nat} {Ok Ok' : Res → List Cell → Prop} {v : Value} (h : a0w I w bs rs Ok v w') (hO : ∀ r o I v fb, Y9 I w' r v fb → Ok r o → Ok' r o) : a0w I w bs rs Ok' v w' := by
 obtain ⟨res, outs, J, fb, h1, h2, h3, h4, h5, h6⟩ := h
 exact ⟨res, outs, J, fb, hO _ _ _ _ _ h5 h1, h2, h3, h4, h5, h6⟩
theorem a29.mono {P : Program} {f : FuncId} {args : List Arg} {Ok Ok' : Res → List Cell → Prop} (h : a29 P f args Ok) (hO : ∀ r o I w v fb, Y9 I w r v fb → Ok r o → Ok' r o) (hP : ∀ n, Ok (.pan n) [] → Ok' (.pan n) []) : a29 P f args Ok' := by
 rcases h with ⟨he, h⟩ | h
 ·refine .inl ⟨he, fun I w vs bs hI hg ha => (h I w vs bs hI hg ha).mono fun e w' hE => ?_⟩
  rcases hE with ⟨v, e1, hb⟩ | ⟨n, e1, hb, hs⟩
  ·exact .inl ⟨v, e1, hb.mono fun r o I v fb => hO r o I w' v fb⟩
  ·exact .inr ⟨n, e1, hP n hb, hs⟩
 ·refine .inr fun I w vs bs hI hg ha => ?_
  obtain ⟨v, w', h1, h2⟩ := h I w vs bs hI hg ha
  exact ⟨v, w', h1, h2.mono fun r o I v fb => hO r o I w' v fb⟩
/-- what holds of the arguments, wherever they are at all, may be asked -/
theorem a29.when {P : Program} {f : FuncId} {args : List Arg} {Ok : Res → List Cell → Prop} {p : Prop} (hp : ∀ I w vs bs, j3 I w args vs bs → p) (h : p → a29 P f args Ok) : a29 P f args Ok := by
 by_cases hpp : p
 ·exact h hpp
 ·exact .inr fun I w vs bs _ _ ha => absurd (hp I w vs bs ha) hpp
def GOk (P : Program) (Γ : Nat → Option App) : Prop := ∀ f app, Γ f = some app → l5 P f app
section
variable {P : Program} {tb : Tab} {Γ : Nat → Option App} {Kp : Int → St → Prop} {w0 : World} {F : Nat → Prop} {Fn : Nat → Option Nat} {I0 : Nat → Prop} {W : Nat → Prop} {Zc : Nat → Option Obj} {G : g0} {I : Nat → Prop}
 {st : St} {tm : Array Value} {ds : List Deferred} {w : World} {k : St → Prop} {next : Act → World → Prop} {Q : Exit → Act → World → Prop} {o : Oper}
/-! ### the arguments -/
theorem U9 (x : Operand) (xs : List Operand) : F9 st (x :: xs) = (match st.ev x with | .box k [] => k :: F9 st xs | .fn _ [k] => k :: F9 st xs | _ => F9 st xs) := rfl
/-- names and the blocks of their variables -/
def P7 (G : g0) (bx : List (Nat × Cell)) : List Nat → List Nat → Prop
 | [], [] => True
 | n :: ns, b :: bs => (∃ c, l6 bx n = some c ∧ G n = some (.box b c.t) ∧ c.t.noO = true) ∧ P7 G bx ns bs
 | _, _ => False
theorem P7.append {G : g0} {bx : List (Nat × Cell)} : ∀ {ns ms bs cs : List Nat}, P7 G bx ns bs → P7 G bx ms cs → P7 G bx (ns ++ ms) (bs ++ cs)
 | [], ms, [], cs, _, h => h
 | n :: ns, ms, b :: bs, cs, h, g => ⟨h.1, P7.append h.2 g⟩
 | [], _, _ :: _, _, h, _ => h.elim
 | _ :: _, _, [], _, h, _ => h.elim
theorem P7.mem {G : g0} {bx : List (Nat × Cell)} : ∀ {ns bs : List Nat} {b : Nat}, P7 G bx ns bs → b ∈ bs → ∃ n c, n ∈ ns ∧ l6 bx n = some c ∧ G n = some (.box b c.t) ∧ c.t.noO = true
 | n :: ns, b' :: bs, b, h, hb => by
  rcases List.mem_cons.1 hb with rfl | hb
  ·obtain ⟨⟨c, h1, h2⟩, _⟩ := h; exact ⟨n, c, List.mem_cons_self, h1, h2⟩
  ·obtain ⟨m, c, h1, h2⟩ := P7.mem h.2 hb; exact ⟨m, c, List.mem_cons_of_mem _ h1, h2⟩
 | [], [], b, _, hb => by cases hb
 | [], _ :: _, _, h, _ => h.elim
 | _ :: _, [], _, h, _ => h.elim
theorem V9 {n : Nat} : ∀ {ks : List Nat}, n ∈ ks → a04 ks n = true
 | k :: ks, h => by
  unfold a04
  split
  ·rfl
  ·rename_i hk
   rcases List.mem_cons.1 h with rfl | h
   ·simp at hk
   ·exact V9 h
theorem j3.append {w : World} {I : Nat → Prop} : ∀ {ags cs : List Arg} {vs us : List Value} {bs ds : List Nat}, j3 I w ags vs bs → j3 I w cs us ds → (∀ b ∈ bs, b ∉ ds) → j3 I w (ags ++ cs) (vs ++ us) (bs ++ ds)
 | [], cs, [], us, [], ds, _, h, _ => h
 | .v t x :: ags, cs, v :: vs, us, bs, ds, h, g, hd => ⟨h.1, j3.append h.2 g hd⟩
 | .fn _ :: ags, cs, v :: vs, us, bs, ds, h, g, hd => ⟨h.1, j3.append h.2 g hd⟩
 | .ref fo c :: ags, cs, v :: vs, us, b :: bs, ds, ⟨h1, h2, h3, h4, h5, h6⟩, g, hd => by
  refine ⟨h1, h2, h3, ?_, h5, j3.append h6 g fun b' hb' => hd b' (List.mem_cons_of_mem _ hb')⟩
  intro h
  rcases List.mem_append.1 h with h | h
  ·exact h4 h
  ·exact hd b List.mem_cons_self h
 | .own et e x :: ags, cs, v :: vs, us, b :: bs, ds, ⟨h1, h2⟩, g, hd => by
  refine ⟨?_, j3.append h2 g fun b' hb' => hd b' (List.mem_cons_of_mem _ hb')⟩
  rcases h1 with h1 | ⟨h3, h4, h5, h6⟩
  ·exact .inl h1
  ·refine .inr ⟨h3, h4, h5, fun h => ?_⟩
   rcases List.mem_append.1 h with h | h
   ·exact h6 h
   ·exact hd b List.mem_cons_self h
 | .own _ _ _ :: _, _, [], _, _, _, h, _, _ => by cases h
 | .own _ _ _ :: _, _, _ :: _, _, [], _, h, _, _ => by cases h
 | [], _, _ :: _, _, _, _, h, _, _ => by cases h
 | [], _, [], _, _ :: _, _, h, _, _ => by cases h
 | .v _ _ :: _, _, [], _, _, _, h, _, _ => by cases h
 | .fn _ :: _, _, [], _, _, _, h, _, _ => by cases h
 | .ref _ _ :: _, _, [], _, _, _, h, _, _ => by cases h
 | .ref _ _ :: _, _, _ :: _, _, [], _, h, _, _ => by cases h
theorem G8 {G1 : g0} {I1 : Nat → Prop} {s1 : St} (hI : Inv w0 F Fn I0 W Zc G I st tm w) (h1 : Inv w0 F Fn I0 W Zc G1 I1 s1 tm w) (hl : G4 G G1 I I1) (hb : a4p st s1) :
  ∀ (xs : List Operand) (ts : List TypeId) {ags : List Arg}, P4 tb st xs ts = some ags → u5 (F9 st xs) = true →
   (∀ x ∈ xs, ∀ k, (st.ev x).tok = some k → ∀ b, G k = some (.tok (some b)) → I1 b) →
   ∃ bs, j3 I1 w ags (xs.map (Act.mk tm ds).eval) bs ∧ P7 G st.boxes (F9 st xs) bs
 | [], ts, ags, h, _, _ => by
  cases ts with
  | nil => simp only [P4, Option.some.injEq] at h; subst h; exact ⟨[], trivial, trivial⟩
  | cons t ts => simp [P4] at h
 | x :: xs, ts, ags, h, hn, htok => by
  cases ts with
  | nil => simp [P4] at h
  | cons t ts =>
   simp only [P4] at h
   have hs := hI.ev x ds
   split at h
   ·cases h
   ·rename_i a ha
    split at h
    ·cases h
    ·rename_i as' has
     simp only [Option.some.injEq] at h; subst h
     have htok' : ∀ y ∈ xs, ∀ k, (st.ev y).tok = some k → ∀ b, G k = some (.tok (some b)) → I1 b := fun y hy => htok y (List.mem_cons_of_mem _ hy)
     split at ha
     ·rename_i t' y hx
      simp only [Option.some.injEq] at ha; subst ha
      rw [hx] at hs
      rw [U9, hx] at hn ⊢
      obtain ⟨bs, hr, hnm⟩ := G8 hI h1 hl hb xs ts has hn htok'
      exact ⟨bs, ⟨g6.keep ⟨hl.sub, fun _ _ => rfl⟩ hs, hr⟩, hnm⟩
     ·rename_i k et e y hx
      simp only [Option.some.injEq] at ha; subst ha
      rw [U9, hx] at hn ⊢
      obtain ⟨bs, hr, hnm⟩ := G8 hI h1 hl hb xs ts has hn htok'
      exact ⟨bs, ⟨a4v (c := ⟨.sl e, y⟩) (by rw [hx]; rfl) hs hl.sub (fun k et e y hown => htok x List.mem_cons_self k (by rw [hown]; rfl)), hr⟩, hnm⟩
     ·rename_i k et e o y hx
      simp only [Option.some.injEq] at ha; subst ha
      rw [hx] at hs
      rw [U9, hx] at hn ⊢
      obtain ⟨bs, hr, hnm⟩ := G8 hI h1 hl hb xs ts has hn htok'
      refine ⟨bs, ⟨g6.keep ⟨fun b hb => ?_, fun _ _ => rfl⟩ (a7Q.rep hs), hr⟩, hnm⟩
      rcases hb with hb | hb
      ·exact hl.sub b hb
      ·exact htok x List.mem_cons_self k (by rw [hx]; rfl) b hb
     ·rename_i hx
      rw [hx] at hs
      split at ha
      ·rename_i e _ _ _ _
       simp only [Option.some.injEq] at ha; subst ha
       rw [U9, hx] at hn ⊢
       obtain ⟨bs, hr, hnm⟩ := G8 hI h1 hl hb xs ts has hn htok'
       refine ⟨bs, ⟨?_, hr⟩, hnm⟩
       rw [show (Act.mk tm ds).eval x = .slice none 0 0 from hs]
       exact g6.of_one rfl ⟨none, 0, rfl, Nat.le_refl 0, Nat.zero_le _, fun i hi => absurd hi (Nat.not_lt_zero i)⟩
      ·cases ha
     ·rename_i n hx
      split at ha
      ·rename_i c hc
       split at ha
       ·rename_i hno
        have he := V5 hno
        simp only [Option.some.injEq] at ha; subst ha
        rw [hx] at hs
        rw [U9, hx] at hn ⊢
        simp only [u5] at hn
        split at hn
        ·cases hn
        ·rename_i hmem
         obtain ⟨bs, hr, hnm⟩ := G8 hI h1 hl hb xs ts has hn htok'
         obtain ⟨b, t', off, u, hG, hp, hv⟩ := hs
         rw [N2] at hp; injection hp with hp; injection hp with e1 e2; subst e1
         obtain ⟨b', hG', hbox⟩ := h1.box n c (hb n c hc hno)
         have hG1 := hl.box n b t' hG
         rw [hG1, he] at hG'; injection hG' with e; injection e with e1 e2; subst e1; subst e2
         have hown := h1.own n _ b hG1 rfl
         refine ⟨b :: bs, ⟨hv, hown.1, hown.2.1, fun hbm => ?_, hbox.1, hr⟩, ⟨⟨c, hc, hG, hno⟩, hnm⟩⟩
         obtain ⟨m, c', hm, _, hGm, _⟩ := hnm.mem hbm
         have := hI.inj n m _ _ b hG hGm rfl rfl
         subst this
         rw [V9 hm] at hmem; cases hmem
       ·cases ha
      ·cases ha
     ·rename_i f hx
      simp only [Option.some.injEq] at ha; subst ha
      rw [hx] at hs
      rw [U9, hx] at hn ⊢
      obtain ⟨bs, hr, hnm⟩ := G8 hI h1 hl hb xs ts has hn htok'
      obtain ⟨vs, hv, hlen, _⟩ := hs
      obtain rfl : vs = [] := List.length_eq_zero_iff.1 hlen
      exact ⟨bs, ⟨hv, hr⟩, hnm⟩
     ·rename_i f n hx
      split at ha
      ·rename_i c hc
       split at ha
       ·rename_i hno
        have he := V5 hno
        simp only [Option.some.injEq] at ha; subst ha
        rw [hx] at hs
        rw [U9, hx] at hn ⊢
        simp only [u5] at hn
        split at hn
        ·cases hn
        ·rename_i hmem
         obtain ⟨bs, hr, hnm⟩ := G8 hI h1 hl hb xs ts has hn htok'
         obtain ⟨us, hv, hlen, hcap⟩ := hs
         cases us with
         | nil => simp at hlen
         | cons u us =>
          cases us with
          | cons _ _ => simp at hlen
          | nil =>
           obtain ⟨b, t', hG, hu⟩ := hcap 0 n u rfl rfl
           obtain ⟨b', hG', hbox⟩ := h1.box n c (hb n c hc hno)
           have hG1 := hl.box n b t' hG
           rw [hG1, he] at hG'; injection hG' with e; injection e with e1 e2; subst e1; subst e2
           have hown := h1.own n _ b hG1 rfl
           refine ⟨b :: bs, ⟨by rw [hv, hu]; rfl, hown.1, hown.2.1, fun hbm => ?_, hbox.1, hr⟩, ⟨⟨c, hc, hG, hno⟩, hnm⟩⟩
           obtain ⟨m, c', hm, _, hGm, _⟩ := hnm.mem hbm
           have := hI.inj n m _ _ b hG hGm rfl rfl
           subst this
           rw [V9 hm] at hmem; cases hmem
       ·cases ha
      ·cases ha
     ·cases ha
theorem a1T {G1 : g0} {I1 : Nat → Prop} {s1 : St} (hI : Inv w0 F Fn I0 W Zc G I st tm w) (h1 : Inv w0 F Fn I0 W Zc G1 I1 s1 tm w) (hl : G4 G G1 I I1) (hb : a4p st s1) :
  ∀ (ks : List Nat) (vs : List Value) {ags : List Arg}, V4 st ks = some ags → u5 ks = true → vs.length = ks.length →
   (∀ (i k : Nat) (u : Value), ks[i]? = some k → vs[i]? = some u → ∃ b t, G k = some (.box b t) ∧ u = Value.pointer (some ⟨b, 0, none⟩)) →
   ∃ bs, j3 I1 w ags vs bs ∧ P7 G st.boxes ks bs
 | [], vs, ags, h, _, hv, _ => by
  simp only [V4, Option.some.injEq] at h; subst h
  cases vs with
  | nil => exact ⟨[], trivial, trivial⟩
  | cons v vs => simp at hv
 | n :: ks, vs, ags, h, hn, hv, hp => by
  cases vs with
  | nil => simp at hv
  | cons v vs =>
   simp only [V4] at h
   split at h
   ·cases h
   ·rename_i c hc
    split at h
    ·rename_i as' hno has
     have he := V5 hno
     simp only [Option.some.injEq] at h; subst h
     simp only [u5] at hn
     split at hn
     ·cases hn
     ·rename_i hmem
      obtain ⟨bs, hr, hnm⟩ := a1T hI h1 hl hb ks vs has hn (by simpa using hv) (fun i k u hk hu => hp (i + 1) k u (by simpa using hk) (by simpa using hu))
      obtain ⟨b, t, hG, rfl⟩ := hp 0 n v rfl rfl
      obtain ⟨b', hG', hbox⟩ := h1.box n c (hb n c hc hno)
      have hG1 := hl.box n b t hG
      rw [hG1, he] at hG'; injection hG' with e; injection e with e1 e2; subst e1; subst e2
      have hown := h1.own n _ b hG1 rfl
      refine ⟨b :: bs, ⟨rfl, hown.1, hown.2.1, fun hbm => ?_, hbox.1, hr⟩, ⟨⟨c, hc, hG, hno⟩, hnm⟩⟩
      obtain ⟨m, c', hm, _, hGm, _⟩ := hnm.mem hbm
      have := hI.inj n m _ _ b hG hGm rfl rfl
      subst this
      rw [V9 hm] at hmem; cases hmem
    ·cases h
theorem a1v : ∀ {a b : List Nat}, u5 (a ++ b) = true → u5 a = true
 | [], _, _ => rfl
 | k :: ks, b, h => by
  simp only [List.cons_append, u5] at h ⊢
  split at h
  ·cases h
  ·rename_i hm
   split
   ·rename_i hm2
    have : a04 (ks ++ b) k = true := by
     clear h hm
     induction ks with
     | nil => cases hm2
     | cons j js ih =>
      simp only [List.cons_append, a04] at hm2 ⊢
      split
      ·rfl
      ·rename_i hj; rw [hj] at hm2; exact ih hm2
    rw [this] at hm; cases hm
   ·exact a1v h
theorem Y0 : ∀ {a b : List Nat}, u5 (a ++ b) = true → u5 b = true
 | [], _, h => h
 | k :: ks, b, h => by
  simp only [List.cons_append, u5] at h
  split at h
  ·cases h
  ·exact Y0 (a := ks) h
theorem a0V : ∀ {a b : List Nat} {n : Nat}, u5 (a ++ b) = true → n ∈ a → n ∉ b
 | k :: ks, b, n, h, hn => by
  simp only [List.cons_append, u5] at h
  split at h
  ·cases h
  ·rename_i hm
   rcases List.mem_cons.1 hn with rfl | hn
   ·intro hb
    rw [V9 (List.mem_append_right ks hb)] at hm; cases hm
   ·exact a0V h hn
/-! ### behind the call -/
theorem a3t : ∀ {ns : List Nat} {outs : List Cell} {bx bx' : List (Nat × Cell)}, Q6 ns outs bx = some bx' → ∀ n c, l6 bx' n = some c →
  (∃ i : Nat, ns[i]? = some n ∧ outs[i]? = some c) ∨ (n ∉ ns ∧ l6 bx n = some c)
 | [], [], bx, bx', h, n, c, hc => by simp only [Q6, Option.some.injEq] at h; subst h; exact .inr ⟨by simp, hc⟩
 | [], _ :: _, _, _, h, _, _, _ => by simp [Q6] at h
 | _ :: _, [], _, _, h, _, _, _ => by simp [Q6] at h
 | m :: ns, d :: outs, bx, bx', h, n, c, hc => by
  simp only [Q6] at h
  split at h
  ·cases h
  ·rename_i c0 h0
   split at h
   ·cases h
   ·rcases a3t h n c hc with ⟨i, h1, h2⟩ | ⟨h1, h2⟩
    ·exact .inl ⟨i + 1, by simpa using h1, by simpa using h2⟩
    ·by_cases hm : n = m
     ·subst hm
      rw [N1] at h2
      exact .inl ⟨0, rfl, by simpa using h2⟩
     ·rw [S2 _ _ _ _ hm] at h2
      exact .inr ⟨by simp [hm, h1], h2⟩
theorem a1z : ∀ {ns : List Nat} {outs : List Cell} {bx bx' : List (Nat × Cell)}, Q6 ns outs bx = some bx' → ∀ (i n : Nat) (c : Cell), ns[i]? = some n → outs[i]? = some c → ∀ c0, l6 bx n = some c0 → c.t = c0.t
 | [], _, _, _, _, i, n, c, hn, _, _, _ => by simp at hn
 | _ :: _, [], _, _, h, _, _, _, _, _, _, _ => by simp [Q6] at h
 | m :: ns, d :: outs, bx, bx', h, i, n, c, hn, hc, c0, h0 => by
  simp only [Q6] at h
  split at h
  ·cases h
  ·rename_i c1 h1
   split at h
   ·cases h
   ·rename_i hb
    have e := Ty.beq_eq hb
    cases i with
    | zero =>
     simp at hn hc; subst hn; subst hc
     rw [h0] at h1; injection h1 with e1; subst e1; exact e
    | succ i =>
     by_cases hm : n = m
     ·subst hm
      have := a1z h i n c (by simpa using hn) (by simpa using hc) d (N1 _ _ _)
      rw [h0] at h1; injection h1 with e1; subst e1
      exact this.trans e
     ·exact a1z h i n c (by simpa using hn) (by simpa using hc) c0 (by rw [S2 _ _ _ _ hm]; exact h0)
theorem S0.get {I : Nat → Prop} {w : World} : ∀ {cs : List Cell} {bs : List Nat} {i : Nat} {c : Cell}, S0 I w cs bs → cs[i]? = some c → ∃ b, bs[i]? = some b ∧ a4o I w b c
 | [], _, i, c, _, h => by simp at h
 | _ :: _, [], _, _, h, _ => h.elim
 | c0 :: cs, b0 :: bs, i, c, h, hc => by
  cases i with
  | zero => simp at hc; subst hc; exact ⟨b0, rfl, h.1⟩
  | succ i => obtain ⟨b, h1, h2⟩ := S0.get h.2 (by simpa using hc); exact ⟨b, by simpa using h1, h2⟩
theorem P7.get {G : g0} {bx : List (Nat × Cell)} : ∀ {ns bs : List Nat} {i n b : Nat}, P7 G bx ns bs → ns[i]? = some n → bs[i]? = some b → ∃ c, l6 bx n = some c ∧ G n = some (.box b c.t) ∧ c.t.noO = true
 | [], _, i, n, b, _, h, _ => by simp at h
 | _ :: _, [], _, _, _, h, _, _ => h.elim
 | m :: ns, b0 :: bs, i, n, b, h, hn, hb => by
  cases i with
  | zero => simp at hn hb; subst hn; subst hb; exact h.1
  | succ i => exact P7.get h.2 (by simpa using hn) (by simpa using hb)
theorem Inv.called (h : Inv w0 F Fn I0 W Zc G I st tm w) {w' : World} {bs rs ns : List Nat} {outs : List Cell} {bx' : List (Nat × Cell)} {J : Nat → Prop} (hWn : ∀ n ∈ ns, W n) (hn : P7 G st.boxes ns rs) (hs : Z4 w w' (fun b => b ∈ bs))
  (hov : ∀ b ∈ bs, b ∈ rs ∨ w.heap.size ≤ b ∨ (¬ I b ∧ Fr w0 F Fn b ∧ Zc b = none ∧ ∀ k o, G k = some o → o.blk ≠ some b))
  (hJ : ∀ b, J b → Nw w bs rs b ∧ b < w'.heap.size) (ho : S0 (orP I J) w' outs rs) (hset : Q6 ns outs st.boxes = some bx') : Inv w0 F Fn I0 W Zc G (orP I J) ⟨st.tmps, bx'⟩ tm w' := by
 have hrs : ∀ b ∈ rs, ∃ n t, n ∈ ns ∧ G n = some (.box b t) := fun b hb => by
  obtain ⟨n, c, h1, _, h2, _⟩ := hn.mem hb; exact ⟨n, c.t, h1, h2⟩
 have hsame : ∀ b, b < w.heap.size → b ∉ bs → w'.heap[b]? = w.heap[b]? := fun b h1 h2 => hs.block b h1 h2
 have hInb : ∀ b, I b → b ∉ bs := fun b hb hm => by
  rcases hov b hm with hm | hm | hm
  ·obtain ⟨n, t, _, hG⟩ := hrs b hm
   exact (h.own n _ b hG rfl).1 hb
  ·have := h.lt b hb; omega
  ·exact hm.1 hb
 have hGnb : ∀ k o b, G k = some o → o.blk = some b → b ∈ bs → b ∈ rs := fun k o b hG hb hm => by
  rcases hov b hm with hm | hm | hm
  ·exact hm
  ·have := (h.own k o b hG hb).2.1; omega
  ·exact absurd hb (hm.2.2.2 k o hG)
 have hk : p5 I (orP I J) w w' := ⟨fun b hb => .inl hb, fun b hb => hsame b (h.lt b hb) (hInb b hb)⟩
 refine { gl := h.gl, sub := fun b hb => .inl (h.sub b hb), sup := ?_, lt := ?_, own := ?_, inj := h.inj, size := h.size, slot := ?_, box := ?_, since := ?_, hold := ?_, seven := h.seven, fix := h.fix }
 ·rintro b (hb | hb)
  ·exact h.sup b hb
  ·rcases (hJ b hb).1 with h1 | ⟨h1, h2⟩
   ·exact .inr (.of (Nat.le_trans h.since.size h1))
   ·rcases hov b h1 with hm | hm | hm
    ·exact absurd hm h2
    ·exact .inr (.of (Nat.le_trans h.since.size hm))
    ·exact .inr hm.2.1
 ·rintro b (hb | hb)
  ·exact Nat.lt_of_lt_of_le (h.lt b hb) hs.size
  ·exact (hJ b hb).2
 ·intro k o b hG hb
  obtain ⟨h1, h2, h3⟩ := h.own k o b hG hb
  refine ⟨?_, Nat.lt_of_lt_of_le h2 hs.size, h3⟩
  rintro (hI | hj)
  ·exact h1 hI
  ·rcases (hJ b hj).1 with h4 | ⟨h4, h5⟩
   ·omega
   ·exact h5 (hGnb k o b hG hb h4)
 ·intro i
  refine (h.slot i).move (s := fun _ => true) (fun _ _ => rfl) ⟨hk, fun j o _ hj => ⟨hj, fun b e => ?_⟩⟩
  refine hsame b (h.own j o b hj (by rw [e]; rfl)).2.1 fun hm => ?_
  obtain ⟨n, t, _, hG⟩ := hrs b (hGnb j o b hj (by rw [e]; rfl) hm)
  have := h.inj j n _ _ b hj hG (by rw [e]; rfl) rfl
  subst this; rw [hG] at hj; injection hj with e2; rw [e] at e2; cases e2
 ·intro n c hc
  rcases a3t hset n c hc with ⟨i, h1, h2⟩ | ⟨h1, h2⟩
  ·obtain ⟨b, h3, h4⟩ := ho.get h2
   obtain ⟨c0, h5, h6, h7⟩ := hn.get h1 h3
   have := a1z hset i n c h1 h2 c0 h5
   have hno : c.t.noO = true := by rw [this]; exact h7
   exact ⟨b, by rw [V5 hno, this]; exact h6, h4, fun _ => OLv.none hno⟩
  ·obtain ⟨b, hG, hB⟩ := h.box n c h2
   refine ⟨b, hG, hB.move (hsame b (h.own n _ b hG rfl).2.1 fun hm => ?_) hk fun _ bo hG2 => ⟨hG2, fun b2 e => hsame b2 (h.own _ _ b2 hG2 (by rw [e]; rfl)).2.1 fun hm => ?_⟩⟩
   ·obtain ⟨m, t, hm', hG'⟩ := hrs b (hGnb n _ b hG rfl hm)
    have := h.inj n m _ _ b hG hG' rfl rfl
    subst this; exact h1 hm'
   ·subst e
    obtain ⟨m, t, hm', hG'⟩ := hrs b2 (hGnb _ _ b2 hG2 rfl hm)
    have := h.inj _ m _ _ b2 hG2 hG' rfl rfl
    rw [this, hG'] at hG2; cases hG2
 ·refine ⟨hs.os.trans h.since.os, hs.tape.trans h.since.tape, hs.output.trans h.since.output, Nat.le_trans h.since.size hs.size, fun b hb hF => ?_, fun b => (h.since.shape b).trans (hs.shape b)⟩
  rw [hsame b (Nat.lt_of_lt_of_le hb h.since.size) fun hm => ?_]
  ·exact h.since.block b hb hF
  ·rcases hov b hm with hm | hm | hm
   ·obtain ⟨n, t, _, hG⟩ := hrs b hm
    rcases (h.own n _ b hG rfl).2.2 with h3 | h3
    ·exact hF (h3.f hb)
    ·exact hF (h.fix n b h3).2.1
   ·have := h.since.size; omega
   ·exact hF (hm.2.1.f hb)
 ·intro b ob hb
  obtain ⟨h1, h2⟩ := h.hold b ob hb
  have hlt := (Array.getElem?_eq_some_iff.1 h1).1
  refine ⟨?_, h2⟩
  rw [hsame b hlt fun hm => ?_]
  ·exact h1
  ·rcases hov b hm with hm | hm | hm
   ·obtain ⟨n, t, hn', hG⟩ := hrs b hm
    exact (h2 n _ hG rfl).2 (hWn n hn')
   ·omega
   ·rw [hm.2.2.1] at hb; cases hb
/-! ### the results -/
theorem Inv.rn' (h : Inv w0 F Fn I0 W Zc G I st tm w) (k : Nat) : ∃ G' I', Inv w0 F Fn I0 W Zc G' I' (st.rn k) tm w ∧ (∀ b, I b → I' b) ∧ G' k = none ∧ (∀ j o, G' j = some o → G j = some o) ∧
  (∀ b, I' b → I b ∨ ∃ j o, G j = some o ∧ o.blk = some b) := by
 by_cases hk : ∃ bo, G k = some (.tok bo)
 ·obtain ⟨bo, hk⟩ := hk
  have h1 := h.fz_tok k (fun b t e => by rw [hk] at e; cases e)
  refine ⟨_, _, h1.kl k, fun b hb => .inl hb, by simp [g0.del], fun j o hj => (g0.del_of (g0.del_of hj).2).2, fun b hb => ?_⟩
  rcases hb with hb | hb
  ·exact .inl hb
  ·exact .inr ⟨k, _, hb, rfl⟩
 ·have h1 := h.fz_none k (fun bo e => hk ⟨bo, e⟩)
  exact ⟨_, _, h1.kl k, fun b hb => hb, by simp [g0.del], fun j o hj => (g0.del_of hj).2, fun b hb => .inl hb⟩
theorem Inv.rnAll : ∀ (n k0 : Nat) {G : g0} {I : Nat → Prop} {st : St}, Inv w0 F Fn I0 W Zc G I st tm w → ∃ G' I', Inv w0 F Fn I0 W Zc G' I' (VE.rnAll st n k0) tm w ∧ (∀ b, I b → I' b) ∧ (∀ j, k0 ≤ j → j < k0 + n → G' j = none) ∧ (∀ j o, G' j = some o → G j = some o) ∧
  (∀ b, I' b → I b ∨ ∃ j o, G j = some o ∧ o.blk = some b)
 | 0, k0, G, I, st, h => ⟨G, I, h, fun _ h => h, fun j h1 h2 => by omega, fun _ _ h => h, fun b hb => .inl hb⟩
 | n + 1, k0, G, I, st, h => by
  obtain ⟨G1, I1, h1, s1, n1, m1, t1⟩ := h.rn' k0
  obtain ⟨G2, I2, h2, s2, n2, m2, t2⟩ := Inv.rnAll n (k0 + 1) h1
  refine ⟨G2, I2, h2, fun b hb => s2 b (s1 b hb), fun j hj1 hj2 => ?_, fun j o hj => m1 j o (m2 j o hj), fun b hb => ?_⟩
  ·by_cases e : j = k0
   ·subst e
    cases hj : G2 j with
    | none => rfl
    | some o => rw [m2 j o hj] at n1; cases n1
   ·exact n2 j (by omega) (by omega)
  ·rcases t2 b hb with h3 | ⟨j, o, h3, h4⟩
   ·rcases t1 b h3 with h5 | h5
    ·exact .inl h5
    ·exact .inr h5
   ·exact .inr ⟨j, o, m1 j o h3, h4⟩
/-- the new slices that came back get names -/
theorem Inv.names : ∀ (xs : List P8) {G : g0} (k0 : Nat) (vs : List Value) (fb : List (Option Nat)), Inv w0 F Fn I0 W Zc G I st tm w → (∀ j, k0 ≤ j → j < k0 + xs.length → G j = none ∧ j % 8 ≠ 7) →
  vs.length = xs.length → fb.length = xs.length →
  (∀ (i : Nat) (x : P8) (u : Value) (b : Option Nat), xs[i]? = some x → vs[i]? = some u → fb[i]? = some b → Z3 I w x u b) →
  (∀ (i b : Nat), fb[i]? = some (some b) → ¬ I b ∧ b < w.heap.size ∧ Fr w0 F Fn b ∧ (∀ j o, G j = some o → o.blk ≠ some b) ∧ ∀ j, fb[j]? = some (some b) → j = i) → (∀ (i b : Nat), fb[i]? = some (some b) → Zc b = none) →
  ∃ G', Inv w0 F Fn I0 W Zc G' I st tm w ∧ (∀ j o, G j = some o → G' j = some o) ∧ ∀ (i : Nat) (x : P8) (u : Value), xs[i]? = some x → vs[i]? = some u → a4q G' I w (a87 (k0 + i) x) u
 | [], G, k0, vs, fb, h, _, _, _, _, _, _ => ⟨G, h, fun _ _ h => h, fun i x u hx _ => by simp at hx⟩
 | x :: xs, G, k0, vs, fb, h, hfree, hv, hf, hr, hb, hzb => by
  cases vs with
  | nil => simp at hv
  | cons v vs =>
   cases fb with
   | nil => simp at hf
   | cons b0 fb =>
    have hx := hr 0 x v b0 rfl rfl rfl
    have hk0 := hfree k0 (Nat.le_refl _) (by simp)
    -- the first one
    have first : ∃ G1, Inv w0 F Fn I0 W Zc G1 I st tm w ∧ (∀ j o, G j = some o → G1 j = some o) ∧ a4q G1 I w (a87 k0 x) v ∧ (∀ j o, G1 j = some o → G j = some o ∨ (j = k0 ∧ o.blk = b0)) := by
     cases x with
     | v t y => exact ⟨G, h, fun _ _ h => h, hx.2, fun j o hj => .inl hj⟩
     | fr et e ys =>
      cases b0 with
      | none =>
       refine ⟨_, h.add (k := k0) (o := .tok none) hk0.1 hk0.2 (fun b hb => by cases hb) (fun b hb => by cases hb), fun j o hj => ?_, ⟨none, by simp [g0.add], .inl ⟨rfl, hx.1, hx.2⟩⟩, fun j o hj => ?_⟩
       ·unfold g0.add; rw [if_neg (by intro e; subst e; rw [hk0.1] at hj; cases hj)]; exact hj
       ·unfold g0.add at hj
        split at hj
        ·rename_i e; injection hj with hj; subst hj; exact .inr ⟨e, rfl⟩
        ·exact .inl hj
      | some b =>
       obtain ⟨q1, q2, q3, q4, _⟩ := hb 0 b rfl
       refine ⟨_, h.add (k := k0) (o := .tok (some b)) hk0.1 hk0.2 (fun b' hb' => by injection hb' with e; subst e; exact ⟨q1, q2, q3, q4⟩) (fun b' hb' => by injection hb' with e; subst e; exact hzb 0 b rfl), fun j o hj => ?_, ⟨some b, by simp [g0.add], .inr ⟨b, rfl, hx⟩⟩, fun j o hj => ?_⟩
       ·unfold g0.add; rw [if_neg (by intro e; subst e; rw [hk0.1] at hj; cases hj)]; exact hj
       ·unfold g0.add at hj
        split at hj
        ·rename_i e; injection hj with hj; subst hj; exact .inr ⟨e, rfl⟩
        ·exact .inl hj
    obtain ⟨G1, h1, m1, r1, o1⟩ := first
    obtain ⟨G2, h2, m2, r2⟩ := Inv.names xs (G := G1) (k0 + 1) vs fb h1 (fun j hj1 hj2 => by
      have := hfree j (by omega) (by simp only [List.length_cons]; omega)
      refine ⟨?_, this.2⟩
      cases hj : G1 j with
      | none => rfl
      | some o =>
       rcases o1 j o hj with h3 | ⟨h3, _⟩
       ·rw [this.1] at h3; cases h3
       ·omega) (by simpa using hv) (by simpa using hf) (fun i x u b h3 h4 h5 => hr (i + 1) x u b (by simpa using h3) (by simpa using h4) (by simpa using h5))
     (fun i b h3 => by
      obtain ⟨q1, q2, q3, q4, q5⟩ := hb (i + 1) b (by simpa using h3)
      refine ⟨q1, q2, q3, fun j o hj e => ?_, fun j hj => ?_⟩
      ·rcases o1 j o hj with h6 | ⟨_, h6⟩
       ·exact q4 j o h6 e
       ·rw [h6] at e; subst e
        have := q5 0 rfl
        omega
      ·have := q5 (j + 1) (by simpa using hj)
       omega)
     (fun i b h3 => hzb (i + 1) b (by simpa using h3))
    refine ⟨G2, h2, fun j o hj => m2 j o (m1 j o hj), fun i y u hy hu => ?_⟩
    cases i with
    | zero =>
     simp at hy hu; subst hy; subst hu
     exact r1.move (s := fun _ => true) (fun _ _ => rfl) ⟨p5.refl _ _, fun j o _ hj => ⟨m2 j o hj, fun _ _ => rfl⟩⟩
    | succ i =>
     have := r2 i y u (by simpa using hy) (by simpa using hu)
     rw [show k0 + 1 + i = k0 + (i + 1) by omega] at this
     exact this
theorem a5o : ∀ (xs : List P8) (k0 i : Nat), (a33 xs k0)[i]? = (xs[i]?).map (a87 (k0 + i))
 | [], _, _ => by simp [a33]
 | x :: xs, k0, 0 => by simp [a33]
 | x :: xs, k0, i + 1 => by simp only [a33, List.getElem?_cons_succ]; rw [a5o xs (k0 + 1) i, show k0 + 1 + i = k0 + (i + 1) by omega]
theorem a3q : ∀ (xs : List P8) (k0 : Nat), (a33 xs k0).length = xs.length
 | [], _ => rfl
 | x :: xs, k0 => by simp [a33, a3q xs (k0 + 1)]
theorem Z3.keep {I I' : Nat → Prop} {x : P8} {v : Value} {b : Option Nat} (hs : ∀ b, I b → I' b) (h : Z3 I w x v b) : Z3 I' w x v b := by
 cases x with
 | v t y => exact ⟨h.1, h.2.keep ⟨hs, fun _ _ => rfl⟩⟩
 | fr et e ys => cases b with
  | none => exact h
  | some b => exact F3.keep ⟨hs, fun _ _ => rfl⟩ rfl h
/-- the slot of what came back -/
theorem a3F {res : Res} {v : Value} {fb : List (Option Nat)} {d : Option Nat} (h : Inv w0 F Fn I0 W Zc G I st tm w) (hres : Y9 I w res v fb)
  (hfb : ∀ (i b : Nat), fb[i]? = some (some b) → ¬ I b ∧ b < w.heap.size ∧ Fr w0 F Fn b ∧ (∀ j o, G j = some o → o.blk ≠ some b) ∧ ∀ j, fb[j]? = some (some b) → j = i) (hzb : ∀ (i b : Nat), fb[i]? = some (some b) → Zc b = none)
  (hk : p6 w0 F Fn I0 W Zc ds k next) (hf : fit d res st k) : next ((Act.mk tm ds).put d v) w := by
 unfold fit at hf
 cases d with
 | none =>
  rw [a13]
  exact hk _ _ _ _ _ hf h
 | some d =>
  dsimp only at hf
  split at hf
  ·rename_i hc
   have hc := Nat.le_of_ble_eq_true hc
   obtain ⟨G1, I1, h1, s1, n1, m1, t1⟩ := Inv.rnAll res.count (nm d 0) h
   have hfb1 : ∀ (i b : Nat), fb[i]? = some (some b) → ¬ I1 b ∧ b < w.heap.size ∧ Fr w0 F Fn b ∧ (∀ j o, G1 j = some o → o.blk ≠ some b) ∧ ∀ j, fb[j]? = some (some b) → j = i := fun i b hb => by
    obtain ⟨q1, q2, q3, q4, q5⟩ := hfb i b hb
    refine ⟨fun hI => ?_, q2, q3, fun j o hj => q4 j o (m1 j o hj), q5⟩
    rcases t1 b hI with h2 | ⟨j, o, h2, h3⟩
    ·exact q1 h2
    ·exact q4 j o h2 h3
   cases res with
   | one x =>
    obtain ⟨b, rfl, hx⟩ := hres
    obtain ⟨G2, h2, _, r2⟩ := Inv.names [x] (G := G1) (nm d 0) [v] [b] h1 (fun j hj1 hj2 => by
     simp at hj2
     have : j = nm d 0 := by omega
     subst this
     exact ⟨n1 _ (Nat.le_refl _) (by simp [Res.count]), nm7 d 0 (by omega)⟩) rfl rfl
     (fun i y u b' hy hu hb => by
      cases i with
      | zero => simp at hy hu hb; subst hy; subst hu; subst hb; exact hx.keep s1
      | succ i => simp at hy) hfb1 hzb
    have hv := r2 0 x v rfl rfl
    have hs : B9 G2 I1 w (Res.slot d (.one x)) v := by
     cases x with
     | v t y => exact hv
     | fr et e ys => exact hv
    rw [a13]
    exact hk _ _ _ _ _ hf (h2.put (some d) hs)
   | tup xs =>
    obtain ⟨vs, rfl, hz, hl, hx⟩ := hres
    obtain ⟨G2, h2, _, r2⟩ := Inv.names xs (G := G1) (nm d 0) vs.toList fb h1 (fun j hj1 hj2 => by
     simp only [Res.count] at hc n1
     exact ⟨n1 j hj1 hj2, by unfold nm at hj1 hj2; omega⟩) (by simpa using hz) hl
     (fun i y u b' hy hu hb => (hx i y u b' hy (by simpa using hu) hb).keep s1) hfb1 hzb
    have hs : B9 G2 I1 w (Res.slot d (.tup xs)) (.tuple vs) := by
     refine ⟨vs, rfl, by rw [a3q]; exact hz, fun i x u hxi hu => ?_⟩
     rw [a5o] at hxi
     cases hy : xs[i]? with
     | none => rw [hy] at hxi; cases hxi
     | some y =>
      rw [hy] at hxi; simp at hxi; subst hxi
      exact r2 i y u hy (by simpa using hu)
    rw [a13]
    exact hk _ _ _ _ _ hf (h2.put (some d) hs)
   | pan n => exact hres.elim
  ·cases hf
end
end Go.VE
namespace Go.VE
variable [M9]
open Go Go.RowKit Go.Lib
section
variable {P : Program} {tb : Tab} {Γ : Nat → Option App} {Kp : Int → St → Prop} {w0 : World} {F : Nat → Prop} {Fn : Nat → Option Nat} {I0 : Nat → Prop} {W : Nat → Prop} {Zc : Nat → Option Obj} {G : g0} {I : Nat → Prop}
 {st : St} {tm : Array Value} {ds : List Deferred} {w : World} {k : St → Prop} {next : Act → World → Prop} {Q : Exit → Act → World → Prop} {o : Oper}
theorem a60 {I I' : Nat → Prop} {x : P8} {v : Value} {b : Option Nat} (hf : x.free = true) (h : Z3 I w x v b) : Z3 I' w x v b := by
 cases x with
 | v t y => exact ⟨h.1, g6.flat hf h.2⟩
 | fr et e ys => cases b with
  | none => exact h
  | some b =>
   obtain ⟨cap, cur, fr, h1, h2, h3, h4, h5, h6, h7⟩ := h
   refine ⟨cap, cur, fr, h1, h2, h3, h4, h5, h6, fun i hi => ?_⟩
   obtain ⟨cs, hc, hj⟩ := h7 i hi
   exact ⟨cs, hc.flat hf, hj⟩
theorem a5h : ∀ {xs : List P8} {i : Nat} {x : P8}, a6Z xs = true → xs[i]? = some x → x.free = true
 | [], i, x, _, h => by simp at h
 | y :: xs, i, x, hf, h => by
  simp only [a6Z] at hf
  split at hf
  ·rename_i hy
   cases i with
   | zero => simp at h; subst h; exact hy
   | succ i => exact a5h hf (by simpa using h)
  ·cases hf
theorem a79 {I I' : Nat → Prop} {res : Res} {v : Value} {fb : List (Option Nat)} (hf : res.free = true) (h : Y9 I w res v fb) : Y9 I' w res v fb := by
 cases res with
 | one x => obtain ⟨b, h1, h2⟩ := h; exact ⟨b, h1, a60 hf h2⟩
 | tup xs =>
  obtain ⟨vs, h1, h2, h3, h4⟩ := h
  exact ⟨vs, h1, h2, h3, fun i x u b hx hu hb => a60 (a5h hf hx) (h4 i x u b hx hu hb)⟩
 | pan n => exact h.elim
/-- what came back is an answer -/
theorem a59 {Kp : Int → Prop} {I : Nat → Prop} {res : Res} {v : Value} {fb : List (Option Nat)} {p : Prop} (hr : Y9 I w res v fb) (h : a7a Kp res p) : p := by
 cases res with
 | one x => exact h
 | tup xs => exact h
 | pan n => exact hr.elim
/-- registers that point to variables that were handed in: by the state's word -/
def a5u (Fn : Nat → Option Nat) (st : St) (tm : Array Value) : Prop := ∀ i k b, C5 st.tmps i = .box k [] → Fn k = some b → tm.getD i undef = .pointer (some ⟨b, 0, none⟩)
theorem a5u.st0 {Fn : Nat → Option Nat} {tm : Array Value} : a5u Fn st0 tm := fun i k b h => by cases h
theorem Inv.pins (h : Inv w0 F Fn I0 W Zc G I st tm w) : a5u Fn st tm := fun i k b hi hf => by
 have hs := h.slot i
 rw [hi] at hs
 obtain ⟨b', t, off, u, hG, hp, hv⟩ := hs
 obtain ⟨t', ho⟩ := (h.fix k b hf).2.2 _ hG
 cases ho
 cases hp
 exact hv
/-- where a panic of the program's own is foreseen -/
def a3a (w0 : World) (F : Nat → Prop) (Fn : Nat → Option Nat) (ds : List Deferred) (Kp : Int → St → Prop) (Q : Exit → Act → World → Prop) : Prop :=
 ∀ n st tm w', Kp n st → a5u Fn st tm → Z4 w0 w' F → Q (.panic [{ v := M9.pan n, recovered := false }]) ⟨tm, ds⟩ w'
/-- a callee's turns are the caller's to make -/
theorem Inv.sinceP (h : Inv w0 F Fn I0 W Zc G I st tm w) {w' : World} {bs : List Nat} (hs : Z4 w w' (fun b => b ∈ bs)) (hov : ∀ b ∈ bs, b < w.heap.size → ∃ k o, G k = some o ∧ o.blk = some b) : Z4 w0 w' F := by
 refine ⟨hs.os.trans h.since.os, hs.tape.trans h.since.tape, hs.output.trans h.since.output, Nat.le_trans h.since.size hs.size, fun b hb hF => ?_, fun b => (h.since.shape b).trans (hs.shape b)⟩
 rw [hs.block b (Nat.lt_of_lt_of_le hb h.since.size) fun hm => ?_]
 ·exact h.since.block b hb hF
 ·obtain ⟨k, o, hG, ho⟩ := hov b hm (Nat.lt_of_lt_of_le hb h.since.size)
  rcases (h.own k o b hG ho).2.2 with h3 | h3
  ·exact hF (h3.f hb)
  ·exact hF (h.fix k b h3).2.1
theorem a5i {I I' : Nat → Prop} : ∀ {cs : List Cell} {bs : List Nat}, a5V cs = true → S0 I w cs bs → S0 I' w cs bs
 | [], [], _, _ => trivial
 | [], _ :: _, _, h => h.elim
 | _ :: _, [], _, h => h.elim
 | c :: cs, b :: bs, hf, h => by
  simp only [a5V] at hf
  split at hf
  ·rename_i hc
   obtain ⟨⟨l, et, h1, h2⟩, h3⟩ := h
   exact ⟨⟨l, et, h1, h2.flat hc⟩, a5i hf h3⟩
  ·cases hf
theorem a3B {ks : List Nat} {outs : List Cell} {st : St} {k : St → Prop} (h : st.back ks outs k) : ∃ bs, Q6 ks outs st.boxes = some bs ∧ k ⟨st.tmps, bs⟩ := by
 unfold St.back at h
 split at h
 ·cases h
 ·rename_i bs hb; exact ⟨bs, hb, h⟩
def a4H : List Arg → Bool
 | [] => true
 | .own _ _ _ :: _ => false
 | _ :: r => a4H r
theorem a0r : ∀ {a b : List Arg}, a4H a = true → a4H b = true → a4H (a ++ b) = true
 | [], _, _, h => h
 | .v _ _ :: a, b, h, g => a0r (a := a) h g
 | .fn _ :: a, b, h, g => a0r (a := a) h g
 | .ref _ _ :: a, b, h, g => a0r (a := a) h g
 | .own _ _ _ :: _, _, h, _ => by cases h
theorem O5 {I : Nat → Prop} {w : World} : ∀ {ags : List Arg} {vs : List Value} {bs : List Nat}, a4H ags = true → j3 I w ags vs bs → l4 ags bs = bs
 | [], [], [], _, _ => rfl
 | .v _ _ :: ags, v :: vs, bs, h, ha => O5 (ags := ags) h ha.2
 | .fn _ :: ags, v :: vs, bs, h, ha => O5 (ags := ags) h ha.2
 | .ref _ _ :: ags, v :: vs, b :: bs, h, ha => by
  simp only [l4]
  rw [O5 (ags := ags) h ha.2.2.2.2.2]
 | .own _ _ _ :: _, _, _, h, _ => by cases h
 | [], _ :: _, _, _, h => by cases h
 | [], [], _ :: _, _, h => by cases h
 | .v _ _ :: _, [], _, _, h => by cases h
 | .fn _ :: _, [], _, _, h => by cases h
 | .ref _ _ :: _, [], _, _, h => by cases h
 | .ref _ _ :: _, _ :: _, [], _, h => by cases h
theorem M2 {I : Nat → Prop} {w : World} {cs : List Arg} {ds : List Nat} : ∀ {ags : List Arg} {vs : List Value} {bs : List Nat}, j3 I w ags vs bs → l4 (ags ++ cs) (bs ++ ds) = l4 ags bs ++ l4 cs ds
 | [], [], [], _ => rfl
 | .v _ _ :: ags, v :: vs, bs, ha => M2 (ags := ags) ha.2
 | .fn _ :: ags, v :: vs, bs, ha => M2 (ags := ags) ha.2
 | .ref _ _ :: ags, v :: vs, b :: bs, ha => by
  simp only [l4, List.cons_append]
  rw [M2 (ags := ags) ha.2.2.2.2.2]
 | .own _ _ _ :: ags, v :: vs, b :: bs, ha => by
  simp only [l4, List.cons_append]
  rw [M2 (ags := ags) ha.2]
 | [], _ :: _, _, h => by cases h
 | [], [], _ :: _, h => by cases h
 | .v _ _ :: _, [], _, h => by cases h
 | .fn _ :: _, [], _, h => by cases h
 | .ref _ _ :: _, [], _, h => by cases h
 | .ref _ _ :: _, _ :: _, [], h => by cases h
 | .own _ _ _ :: _, [], _, h => by cases h
 | .own _ _ _ :: _, _ :: _, [], h => by cases h
theorem a1u : ∀ (xs : List Operand) (ts : List TypeId) {ags : List Arg}, P4 tb st xs ts = some ags → a4H ags = true
 | [], ts, ags, h => by
  cases ts with
  | nil => simp only [P4, Option.some.injEq] at h; subst h; rfl
  | cons t ts => simp [P4] at h
 | x :: xs, ts, ags, h => by
  cases ts with
  | nil => simp [P4] at h
  | cons t ts =>
   simp only [P4] at h
   split at h
   ·cases h
   ·rename_i a ha
    split at h
    ·cases h
    ·rename_i ags' hags
     simp only [Option.some.injEq] at h; subst h
     have hr := a1u xs ts hags
     split at ha
     ·simp only [Option.some.injEq] at ha; subst ha; exact hr
     ·simp only [Option.some.injEq] at ha; subst ha; exact hr
     ·simp only [Option.some.injEq] at ha; subst ha; exact hr
     ·split at ha
      ·simp only [Option.some.injEq] at ha; subst ha; exact hr
      ·cases ha
     ·split at ha
      ·split at ha
       ·simp only [Option.some.injEq] at ha; subst ha; exact hr
       ·cases ha
      ·cases ha
     ·simp only [Option.some.injEq] at ha; subst ha; exact hr
     ·split at ha
      ·split at ha
       ·simp only [Option.some.injEq] at ha; subst ha; exact hr
       ·cases ha
      ·cases ha
     ·cases ha
theorem a01 : ∀ (ks : List Nat) {ags : List Arg}, V4 st ks = some ags → a4H ags = true
 | [], ags, h => by simp only [V4, Option.some.injEq] at h; subst h; rfl
 | n :: ks, ags, h => by
  simp only [V4] at h
  split at h
  ·cases h
  ·split at h
   ·rename_i ags' _ hags
    simp only [Option.some.injEq] at h; subst h
    have := a01 ks hags
    exact this
   ·cases h
/-! #### arguments that are handed over -/
theorem Y8 (x : Operand) (xs : List Operand) : F9 st (x :: xs) = F9 st [x] ++ F9 st xs := by
 simp only [F9]
 split <;> simp
theorem a12 : ∀ {xs : List Operand} {fl : List Bool} {x : Operand}, x ∈ o8 xs fl → x ∈ xs
 | [], _, x, h => by simp [o8] at h
 | y :: r, true :: fl, x, h => List.mem_cons_of_mem _ (a12 (xs := r) h)
 | y :: r, false :: fl, x, h => by
  rcases List.mem_cons.1 h with rfl | h
  ·exact List.mem_cons_self
  ·exact List.mem_cons_of_mem _ (a12 (xs := r) h)
 | y :: r, [], x, h => by
  rcases List.mem_cons.1 h with rfl | h
  ·exact List.mem_cons_self
  ·exact List.mem_cons_of_mem _ (a12 (xs := r) h)
theorem a1y : ∀ {xs : List Operand} {fl : List Bool} {n : Nat}, n ∈ F9 st (o8 xs fl) → n ∈ F9 st xs
 | [], _, n, h => by simp [o8, F9] at h
 | y :: r, true :: fl, n, h => by
  rw [Y8]; exact List.mem_append_right _ (a1y (xs := r) h)
 | y :: r, false :: fl, n, h => by
  rw [Y8]
  simp only [o8] at h
  rw [Y8] at h
  rcases List.mem_append.1 h with h | h
  ·exact List.mem_append_left _ h
  ·exact List.mem_append_right _ (a1y (xs := r) h)
 | y :: r, [], n, h => by
  rw [Y8]
  simp only [o8] at h
  rw [Y8] at h
  rcases List.mem_append.1 h with h | h
  ·exact List.mem_append_left _ h
  ·exact List.mem_append_right _ (a1y (xs := r) h)
theorem a2k {G1 : g0} {I1 : Nat → Prop} {s1 : St} (h1 : Inv w0 F Fn I0 W Zc G1 I1 s1 tm w) : ∀ {xs : List Operand} {fl : List Bool} {k : Nat}, k ∈ M1 s1 xs fl → ∃ bo, G1 k = some (.tok bo)
 | [], _, k, h => by simp [M1] at h
 | x :: r, true :: fl, k, h => by
  simp only [M1] at h
  split at h
  ·rename_i k' et e y hx
   rcases List.mem_cons.1 h with rfl | h
   ·have hs := h1.ev x []
    rw [hx] at hs
    obtain ⟨bo, hG, _⟩ := hs
    exact ⟨bo, hG⟩
   ·exact a2k h1 (xs := r) h
  ·exact a2k h1 (xs := r) h
 | x :: r, false :: fl, k, h => a2k h1 (xs := r) h
 | _ :: _, [], k, h => by simp [M1] at h
theorem a56 {G1 : g0} {I1 : Nat → Prop} {s1 : St} (hI : Inv w0 F Fn I0 W Zc G I st tm w) (h1 : Inv w0 F Fn I0 W Zc G1 I1 s1 tm w) (hl : G4 G G1 I I1) (hb : a4p st s1) :
  ∀ (xs : List Operand) (ts : List TypeId) (fl : List Bool) {ags : List Arg}, S6 tb st s1 xs ts fl = some ags → u5 (F9 st (o8 xs fl)) = true → u5 (M1 s1 xs fl) = true →
   (∀ x ∈ o8 xs fl, ∀ k, (st.ev x).tok = some k → ∀ b, G k = some (.tok (some b)) → I1 b) →
   ∃ bs, j3 I1 w ags (xs.map (Act.mk tm ds).eval) bs ∧ P7 G st.boxes (F9 st (o8 xs fl)) (l4 ags bs) ∧
    ∀ b ∈ bs, b ∈ l4 ags bs ∨ w.heap.size ≤ b ∨ ∃ k ∈ M1 s1 xs fl, G1 k = some (.tok (some b)) := by
 -- a plain one ahead
 have plain : ∀ (x : Operand) (r : List Operand) (t : TypeId) (ts : List TypeId) (fl : List Bool) (a ags' : List Arg), P4 tb st [x] [t] = some a → u5 (F9 st (x :: o8 r fl)) = true →
   (∀ y ∈ x :: o8 r fl, ∀ k, (st.ev y).tok = some k → ∀ b, G k = some (.tok (some b)) → I1 b) →
   (∃ bs, j3 I1 w ags' (r.map (Act.mk tm ds).eval) bs ∧ P7 G st.boxes (F9 st (o8 r fl)) (l4 ags' bs) ∧
    ∀ b ∈ bs, b ∈ l4 ags' bs ∨ w.heap.size ≤ b ∨ ∃ k ∈ M1 s1 r fl, G1 k = some (.tok (some b))) →
   ∃ bs, j3 I1 w (a ++ ags') ((x :: r).map (Act.mk tm ds).eval) bs ∧ P7 G st.boxes (F9 st (x :: o8 r fl)) (l4 (a ++ ags') bs) ∧
    ∀ b ∈ bs, b ∈ l4 (a ++ ags') bs ∨ w.heap.size ≤ b ∨ ∃ k ∈ M1 s1 r fl, G1 k = some (.tok (some b)) := by
  intro x r t ts fl a ags' ha hn htok ⟨bs, hr, hnm, hov⟩
  rw [Y8] at hn ⊢
  obtain ⟨bs1, hr1, hnm1⟩ := G8 (tb := tb) (ds := ds) hI h1 hl hb [x] [t] ha (a1v hn) (fun y hy => htok y (by
   rcases List.mem_singleton.1 hy with rfl; exact List.mem_cons_self))
  have e1 := O5 (a1u _ _ ha) hr1
  have hd : ∀ b ∈ bs1, b ∉ bs := by
   intro b hb1 hb2
   obtain ⟨n, cn, hn1, _, hG, _⟩ := hnm1.mem hb1
   rcases hov b hb2 with h3 | h3 | ⟨k, _, h3⟩
   ·obtain ⟨m, cm, hm, _, hG', _⟩ := hnm.mem h3
    have := hI.inj n m _ _ b hG hG' rfl rfl
    subst this
    exact a0V hn hn1 hm
   ·have := (hI.own n _ b hG rfl).2.1; omega
   ·have hG1 := hl.box n b _ hG
    have := h1.inj n k _ _ b hG1 h3 rfl rfl
    subst this; rw [hG1] at h3; cases h3
  have e2 : l4 (a ++ ags') (bs1 ++ bs) = bs1 ++ l4 ags' bs := by rw [M2 hr1, e1]
  refine ⟨bs1 ++ bs, hr1.append hr hd, ?_, fun b hb => ?_⟩
  ·rw [e2]; exact hnm1.append hnm
  ·rw [e2]
   rcases List.mem_append.1 hb with hb | hb
   ·exact .inl (List.mem_append_left _ hb)
   ·rcases hov b hb with h3 | h3
    ·exact .inl (List.mem_append_right _ h3)
    ·exact .inr h3
 intro xs
 induction xs with
 | nil =>
  intro ts fl ags h _ _ _
  cases ts with
  | nil =>
   simp only [S6, Option.some.injEq] at h; subst h
   exact ⟨[], trivial, by simp [o8, F9, l4, P7], fun b hb => by cases hb⟩
  | cons t ts => simp [S6] at h
 | cons x r ih =>
  intro ts fl ags h hn hk htok
  cases ts with
  | nil => simp [S6] at h
  | cons t ts =>
   cases fl with
   | nil =>
    simp only [S6] at h
    split at h
    ·cases h
    ·rename_i a ha
     split at h
     ·cases h
     ·rename_i ags' hags
      simp only [Option.some.injEq] at h; subst h
      have hn' := hn
      simp only [o8] at hn htok ⊢
      have e : M1 s1 (x :: r) [] = M1 s1 r [] := by cases r <;> rfl
      rw [e] at hk ⊢
      refine plain x r t ts [] a ags' ha hn htok (ih ts [] hags ?_ hk fun y hy => htok y (List.mem_cons_of_mem _ hy))
      rw [Y8] at hn; exact Y0 (a := F9 st [x]) hn
   | cons f fl =>
    cases f with
    | false =>
     simp only [S6] at h
     split at h
     ·cases h
     ·rename_i a ha
      split at h
      ·cases h
      ·rename_i ags' hags
       simp only [Option.some.injEq] at h; subst h
       simp only [o8, M1] at hn hk htok ⊢
       refine plain x r t ts fl a ags' ha hn htok (ih ts fl hags ?_ hk fun y hy => htok y (List.mem_cons_of_mem _ hy))
       rw [Y8] at hn; exact Y0 (a := F9 st [x]) hn
    | true =>
     simp only [S6] at h
     split at h
     ·cases h
     ·rename_i a ha
      split at h
      ·cases h
      ·rename_i ags' hags
       simp only [Option.some.injEq] at h; subst h
       simp only [o8] at hn htok ⊢
       have hs := h1.ev x ds
       have hk' : u5 (M1 s1 r fl) = true := by
        simp only [M1] at hk
        split at hk
        ·simp only [u5] at hk
         split at hk
         ·cases hk
         ·exact hk
        ·exact hk
       obtain ⟨bs, hr, hnm, hov⟩ := ih ts fl hags hn hk' htok
       unfold a8z at ha
       split at ha
       ·rename_i k et e y hx
        simp only [Option.some.injEq] at ha; subst ha
        rw [hx] at hs
        have ek : M1 s1 (x :: r) (true :: fl) = k :: M1 s1 r fl := by simp [M1, hx]
        rw [ek] at hk ⊢
        obtain ⟨bo, hG, ⟨rfl, hv, rfl⟩ | ⟨b, rfl, hrow⟩⟩ := hs
        ·refine ⟨w.heap.size :: bs, ⟨.inl ⟨hv, rfl, Nat.le_refl _⟩, hr⟩, by simpa [l4] using hnm, fun b hb => ?_⟩
         simp only [l4]
         rcases List.mem_cons.1 hb with rfl | hb
         ·exact .inr (.inl (Nat.le_refl _))
         ·rcases hov b hb with h3 | h3 | ⟨j, h3, h4⟩
          ·exact .inl h3
          ·exact .inr (.inl h3)
          ·exact .inr (.inr ⟨j, List.mem_cons_of_mem _ h3, h4⟩)
        ·have hown := h1.own k _ b hG rfl
         refine ⟨b :: bs, ⟨.inr ⟨hrow, hown.1, hown.2.1, fun hbm => ?_⟩, hr⟩, by simpa [l4] using hnm, fun b' hb => ?_⟩
         ·rcases hov b hbm with h3 | h3 | ⟨j, h3, h4⟩
          ·obtain ⟨m, cm, hm, _, hG', _⟩ := hnm.mem h3
           have hG1 := hl.box m b _ hG'
           have := h1.inj k m _ _ b hG hG1 rfl rfl
           subst this; rw [hG] at hG1; cases hG1
          ·have := hown.2.1; omega
          ·have := h1.inj k j _ _ b hG h4 rfl rfl
           subst this
           simp only [u5, V9 h3] at hk
           cases hk
         ·simp only [l4]
          rcases List.mem_cons.1 hb with rfl | hb
          ·exact .inr (.inr ⟨k, List.mem_cons_self, hG⟩)
          ·rcases hov b' hb with h3 | h3 | ⟨j, h3, h4⟩
           ·exact .inl h3
           ·exact .inr (.inl h3)
           ·exact .inr (.inr ⟨j, List.mem_cons_of_mem _ h3, h4⟩)
       ·rename_i hx
        rw [hx] at hs
        have ek : M1 s1 (x :: r) (true :: fl) = M1 s1 r fl := by simp [M1, hx]
        rw [ek]
        split at ha
        ·simp only [Option.some.injEq] at ha; subst ha
         have hv : (Act.mk tm ds).eval x = .slice none 0 0 := hs
         refine ⟨w.heap.size :: bs, ⟨.inl ⟨hv, rfl, Nat.le_refl _⟩, hr⟩, by simpa [l4] using hnm, fun b hb => ?_⟩
         simp only [l4]
         rcases List.mem_cons.1 hb with rfl | hb
         ·exact .inr (.inl (Nat.le_refl _))
         ·exact hov b hb
        ·cases ha
       ·cases ha
def g0.dels : List Nat → g0 → g0
 | [], G => G
 | k :: ks, G => dels ks (G.del k)
theorem g0.dels_of : ∀ {ks : List Nat} {G : g0} {n : Nat} {o : Own}, g0.dels ks G n = some o → n ∉ ks ∧ G n = some o
 | [], G, n, o, h => ⟨by simp, h⟩
 | k :: ks, G, n, o, h => by
  obtain ⟨h1, h2⟩ := g0.dels_of (ks := ks) h
  obtain ⟨h3, h4⟩ := g0.del_of h2
  exact ⟨by simp [h3, h1], h4⟩
theorem g0.dels_ne : ∀ {ks : List Nat} {G : g0} {n : Nat}, n ∉ ks → g0.dels ks G n = G n
 | [], G, n, h => rfl
 | k :: ks, G, n, h => by
  simp only [List.mem_cons, not_or] at h
  show g0.dels ks (G.del k) n = G n
  rw [g0.dels_ne h.2]
  unfold g0.del
  rw [if_neg h.1]
theorem a1o : ∀ (l : List (Nat × Cell)) (k n : Nat), n ≠ k → l6 (a6x l k) n = l6 l n
 | [], k, n, h => rfl
 | (j, x) :: l, k, n, h => by
  unfold a6x
  cases hj : Nat.beq j k with
  | true =>
   have e := Nat.eq_of_beq_eq_true hj
   subst e
   have : Nat.beq j n = false := by rw [Bool.eq_false_iff]; intro e; exact h (Nat.eq_of_beq_eq_true e).symm
   simp [l6, this, a1o l j n h]
  | false =>
   simp only [l6]
   cases hn : Nat.beq j n with
   | true => rfl
   | false => exact a1o l k n h
/-- what holds nothing of its own stays as it is -/
theorem a2H : ∀ {l : List (Nat × Cell)} (k : Nat) {n : Nat} {c : Cell}, l6 l n = some c → c.t.noO = true → l6 (a1W k l) n = some c
 | [], k, n, c, h, _ => by cases h
 | (j, x) :: l, k, n, c, h, hc => by
  by_cases hj : j = n
  ·subst hj
   simp only [l6, Nat.beq_refl, Option.some.injEq] at h
   subst h
   simp only [a1W]
   split
   ·simp only [l6, Nat.beq_refl]; rw [a8g _ hc]
   ·simp [l6]
  ·have hb : Nat.beq j n = false := by rw [Bool.eq_false_iff]; intro e; exact hj (Nat.eq_of_beq_eq_true e)
   have h' : l6 l n = some c := by simpa [l6, hb] using h
   have := a2H k h' hc
   simp only [a1W]
   split <;> simpa [l6, hb] using this
theorem a3Y : ∀ {ks : List Nat} {st : St} {n : Nat} {c : Cell}, n ∉ ks → l6 st.boxes n = some c → c.t.noO = true → l6 (klAll ks st).boxes n = some c
 | [], st, n, c, _, h, _ => h
 | k :: ks, st, n, c, h, hc, hno => by
  simp only [List.mem_cons, not_or] at h
  show l6 (klAll ks (st.kl k)).boxes n = _
  exact a3Y h.2 (a2H k (by rw [a1o _ _ _ h.1]; exact hc) hno) hno
theorem Inv.klAll : ∀ {ks : List Nat} {G : g0} {st : St}, Inv w0 F Fn I0 W Zc G I st tm w → Inv w0 F Fn I0 W Zc (g0.dels ks G) I (VE.klAll ks st) tm w
 | [], _, _, h => h
 | k :: ks, _, _, h => Inv.klAll (ks := ks) (h.kl k)
/-- what is known of the package's variables holds here too -/
theorem Inv.glob (h : Inv w0 F Fn I0 W Zc G I st tm w) : M9.ok I w :=
 M9.keep ⟨h.sub, fun b hb => h.since.block b (h.gl.2 b hb).1 (h.gl.2 b hb).2⟩ h.gl.1
theorem a6h (hQP : a3a w0 F Fn ds Kp Q) (hΓ : GOk P Γ) {c : Call} {x : Operand} {f : Nat} {ks : List Nat} (hWr : ∀ n ∈ F9 st c.args.toList ++ ks, W n) (hop : o.op = .call c) (hc : c.callee = .value x) (hx : st.ev x = .fn f ks) (hI : Inv w0 F Fn I0 W Zc G I st tm w) (hk : p6 w0 F Fn I0 W Zc ds k next)
  {app : App} (happ : Γ f = some app) (h : match P4 tb st c.args.toList c.argTypes.toList, V4 st ks with
   | some ags, some cs => match u5 (F9 st c.args.toList ++ ks) with
    | false => False
    | true => app.run (ags ++ cs) fun res outs => a7a (fun n => Kp n st) res <|
      match (match res.free with | true => a5V outs | false => false) with
      | true => st.back (F9 st c.args.toList ++ ks) outs fun st' => fit o.dst res st' k
      | false => (layAll st c.args.toList st).back (F9 st c.args.toList ++ ks) outs fun st' => fit o.dst res st' k
   | _, _ => False) : o.wp P ⟨tm, ds⟩ w next Q := by
 ·split at h
  ·rename_i ags cs has hcs
   split at h
   ·cases h
   ·rename_i hnd
    have hspec := hΓ f app happ (ags ++ cs) _ h
    have hsx := hI.ev x ds
    rw [hx] at hsx
    obtain ⟨caps, hv, hcl, hcap⟩ := hsx
    obtain ⟨G1, I1, h1, hl1, hb1, _, hpl⟩ := hI.layAll (st := st) (G := G) c.args.toList (G4.refl G I) (fun _ _ h _ => h) (fun k b hk => .inl hk)
    obtain ⟨bs1, ha1, hn1⟩ := G8 (tb := tb) (ds := ds) hI h1 hl1 hb1 c.args.toList c.argTypes.toList has (a1v hnd) hpl
    obtain ⟨bs2, ha2, hn2⟩ := a1T hI h1 hl1 hb1 ks caps hcs (Y0 hnd) hcl hcap
    have hdisj : ∀ b ∈ bs1, b ∉ bs2 := by
     intro b hb hb'
     obtain ⟨n, cn, hn, _, hG, _⟩ := hn1.mem hb
     obtain ⟨m, cm, hm, _, hG', _⟩ := hn2.mem hb'
     have := hI.inj n m _ _ b hG hG' rfl rfl
     subst this
     exact a0V hnd hn hm
    have hargs := ha1.append ha2 hdisj
    have hnamed := hn1.append hn2
    have hex : (execOp (Act.mk tm ds).eval o).run P w = (callFunc f (c.args.toList.map (Act.mk tm ds).eval ++ caps).toArray).run P w := by
     unfold execOp
     rw [hop]
     have e : (c.args.map (Act.mk tm ds).eval) ++ caps.toArray = (c.args.toList.map (Act.mk tm ds).eval ++ caps).toArray := by
      apply Array.ext'; simp
     simp only [Sem.run_bind, resolve, hc, hv, Deferred.ofValue, Sem.run_pure, Result.andThen_ok, invoke, Array.empty_append, e]
    have hrs : l4 (ags ++ cs) (bs1 ++ bs2) = bs1 ++ bs2 := O5 (a0r (a1u _ _ has) (a01 _ hcs)) hargs
    suffices hmain : ∀ (v : Value) (w' : World), a0w I1 w (bs1 ++ bs2) (l4 (ags ++ cs) (bs1 ++ bs2)) _ v w' → next ((Act.mk tm ds).put o.dst v) w' by
     unfold Oper.wp
     rw [hex]
     rcases hspec with ⟨hent, hspec⟩ | hspec
     ·rw [hent]
      refine (hspec I1 w _ _ h1.lt h1.glob hargs).mono ?_
      rintro e w' (⟨v, rfl, hb⟩ | ⟨n, rfl, hb, hsn⟩)
      ·exact hmain v w' hb
      ·refine hQP n st tm w' hb hI.pins (hI.sinceP hsn fun b hb hlt => ?_)
       obtain ⟨m, cm, _, _, hGm, _⟩ := hnamed.mem hb
       exact ⟨m, _, hGm, rfl⟩
     ·obtain ⟨v, w', hr, hb⟩ := hspec I1 w _ _ h1.lt h1.glob hargs
      rw [hr]
      exact hmain v w' hb
    intro v w' ⟨res, outs, J, fb, h, hs, hJ, hfb, hres, houts⟩
    dsimp only at h
    replace h := a59 hres h
    rw [hrs] at hJ hfb houts
    have hnw : ∀ b, Nw w (bs1 ++ bs2) (bs1 ++ bs2) b → w.heap.size ≤ b := fun b hb => by
     rcases hb with hb | hb
     ·exact hb
     ·exact absurd hb.1 hb.2
    have hzb : ∀ (i b : Nat), fb[i]? = some (some b) → Zc b = none := by
     intro i b hb
     cases hz : Zc b with
     | none => rfl
     | some ob =>
      have h5 := (Array.getElem?_eq_some_iff.1 (hI.hold b ob hz).1).1
      have := hnw b (hfb i b hb).1; omega
    have hfbG : ∀ (i b : Nat), fb[i]? = some (some b) → b < w'.heap.size ∧ w0.heap.size ≤ b ∧ (∀ (G : g0) (I : Nat → Prop) (st : St), Inv w0 F Fn I0 W Zc G I st tm w → ¬ orP I J b ∧ ∀ j o, G j = some o → o.blk ≠ some b) ∧ ∀ j, fb[j]? = some (some b) → j = i := by
     intro i b hb
     obtain ⟨q1, q2, q3, q4⟩ := hfb i b hb
     have q1 := hnw b q1
     refine ⟨q2, Nat.le_trans hI.since.size q1, fun G I st hi => ⟨?_, fun j o hj e => ?_⟩, q4⟩
     ·rintro (hIb | hJb)
      ·have := hi.lt b hIb; omega
      ·exact q3 hJb
     ·have := (hi.own j o b hj e).2.1; omega
    split at h
    ·rename_i hfree
     split at hfree
     ·rename_i hrf
      obtain ⟨bx, hset, hf⟩ := a3B h
      have h2 := hI.called hWr hnamed hs (fun b hb => .inl hb) hJ (a5i (I' := orP I J) hfree houts) hset
      exact a3F h2 (a79 hrf hres) (fun i b hb => by
       obtain ⟨p1, p2, p3, p4⟩ := hfbG i b hb
       exact ⟨(p3 G I st hI).1, p1, .of p2, (p3 G I st hI).2, p4⟩) hzb hk hf
     ·cases hfree
    ·obtain ⟨bx, hset, hf⟩ := a3B h
     have hnamed1 : P7 G1 (VE.layAll st c.args.toList st).boxes (F9 st c.args.toList ++ ks) (bs1 ++ bs2) := by
      clear hset hf hargs hs houts hspec
      generalize F9 st c.args.toList ++ ks = ns at hnamed
      generalize bs1 ++ bs2 = bs at hnamed
      revert bs
      induction ns with
      | nil => intro bs h; cases bs <;> exact h
      | cons n ns ih =>
       intro bs h
       cases bs with
       | nil => exact h
       | cons b bs =>
        obtain ⟨⟨c, h5, h6, h8⟩, h7⟩ := h
        exact ⟨⟨c, hb1 n c h5 h8, hl1.box n b c.t h6, h8⟩, ih bs h7⟩
     have h2 := h1.called hWr hnamed1 hs (fun b hb => .inl hb) hJ houts hset
     exact a3F h2 hres (fun i b hb => by
      obtain ⟨p1, p2, p3, p4⟩ := hfbG i b hb
      exact ⟨(p3 G1 I1 _ h1).1, p1, .of p2, (p3 G1 I1 _ h1).2, p4⟩) hzb hk hf
  ·cases h
theorem a6g (hQP : a3a w0 F Fn ds Kp Q) (hΓ : GOk P Γ) {c : Call} {x : Operand} {f : Nat} {ks : List Nat} (hWr : ∀ n ∈ F9 st c.args.toList ++ ks, W n) (hop : o.op = .call c) (hc : c.callee = .value x) (hx : st.ev x = .fn f ks) (hI : Inv w0 F Fn I0 W Zc G I st tm w) (hk : p6 w0 F Fn I0 W Zc ds k next)
  {app : App} (happ : Γ f = some app) (h : a7V tb Kp app ks c o.dst st (layAll st (o8 c.args.toList app.own) st) k) : o.wp P ⟨tm, ds⟩ w next Q := by
 unfold a7V at h
 split at h
 ·rename_i ags cs has hcs
  split at h
  ·rename_i hnd hnt
   have hspec := hΓ f app happ (ags ++ cs) _ h
   have hsx := hI.ev x ds
   rw [hx] at hsx
   obtain ⟨caps, hv, hcl, hcap⟩ := hsx
   obtain ⟨G1, I1, h1, hl1, hb1, _, hpl⟩ := hI.layAll (st := st) (G := G) (o8 c.args.toList app.own) (G4.refl G I) (fun _ _ h _ => h) (fun k b hk => .inl hk)
   obtain ⟨bs1, ha1, hn1, hov1⟩ := a56 (tb := tb) (ds := ds) hI h1 hl1 hb1 c.args.toList c.argTypes.toList app.own has (a1v hnd) hnt hpl
   obtain ⟨bs2, ha2, hn2⟩ := a1T hI h1 hl1 hb1 ks caps hcs (Y0 hnd) hcl hcap
   generalize hst1 : VE.layAll st (o8 c.args.toList app.own) st = st1 at *
   generalize htk : M1 st1 c.args.toList app.own = toks at *
   have htok : ∀ k ∈ toks, ∃ bo, G1 k = some (.tok bo) := fun k hk => by subst htk; exact a2k h1 hk
   have hdisj : ∀ b ∈ bs1, b ∉ bs2 := by
    intro b hb hb'
    obtain ⟨m, cm, hm, _, hG', _⟩ := hn2.mem hb'
    rcases hov1 b hb with h3 | h3 | ⟨k, _, h3⟩
    ·obtain ⟨n, cn, hn, _, hG, _⟩ := hn1.mem h3
     have := hI.inj n m _ _ b hG hG' rfl rfl
     subst this
     exact a0V hnd hn hm
    ·have := (hI.own m _ b hG' rfl).2.1; omega
    ·have hG1 := hl1.box m b _ hG'
     have := h1.inj m k _ _ b hG1 h3 rfl rfl
     subst this; rw [hG1] at h3; cases h3
   have hargs := ha1.append ha2 hdisj
   have hrs : l4 (ags ++ cs) (bs1 ++ bs2) = l4 ags bs1 ++ bs2 := by
    rw [M2 ha1, O5 (a01 _ hcs) ha2]
   have hnamed := hn1.append hn2
   rw [← hrs] at hnamed
   have hov : ∀ b ∈ bs1 ++ bs2, b ∈ l4 (ags ++ cs) (bs1 ++ bs2) ∨ w.heap.size ≤ b ∨ ∃ k ∈ toks, G1 k = some (.tok (some b)) := by
    intro b hb
    rw [hrs]
    rcases List.mem_append.1 hb with hb | hb
    ·rcases hov1 b hb with h3 | h3
     ·exact .inl (List.mem_append_left _ h3)
     ·exact .inr h3
    ·exact .inl (List.mem_append_right _ hb)
   have hex : (execOp (Act.mk tm ds).eval o).run P w = (callFunc f (c.args.toList.map (Act.mk tm ds).eval ++ caps).toArray).run P w := by
    unfold execOp
    rw [hop]
    have e : (c.args.map (Act.mk tm ds).eval) ++ caps.toArray = (c.args.toList.map (Act.mk tm ds).eval ++ caps).toArray := by
     apply Array.ext'; simp
    simp only [Sem.run_bind, resolve, hc, hv, Deferred.ofValue, Sem.run_pure, Result.andThen_ok, invoke, Array.empty_append, e]
   suffices hmain : ∀ (v : Value) (w' : World), a0w I1 w (bs1 ++ bs2) (l4 (ags ++ cs) (bs1 ++ bs2)) _ v w' → next ((Act.mk tm ds).put o.dst v) w' by
    unfold Oper.wp
    rw [hex]
    rcases hspec with ⟨hent, hspec⟩ | hspec
    ·rw [hent]
     refine (hspec I1 w _ _ h1.lt h1.glob hargs).mono ?_
     rintro e w' (⟨v, rfl, hb⟩ | ⟨n, rfl, hb, hsn⟩)
     ·exact hmain v w' hb
     ·refine hQP n st tm w' hb hI.pins (h1.sinceP hsn fun b hb hlt => ?_)
      rcases hov b hb with h3 | h3 | ⟨k, _, hG⟩
      ·obtain ⟨m, cm, _, _, hGm, _⟩ := hnamed.mem h3
       exact ⟨m, _, hl1.box m b _ hGm, rfl⟩
      ·omega
      ·exact ⟨k, _, hG, rfl⟩
    ·obtain ⟨v, w', hr, hb⟩ := hspec I1 w _ _ h1.lt h1.glob hargs
     rw [hr]
     exact hmain v w' hb
   intro v w' ⟨res, outs, J, fb, h, hs, hJ, hfb, hres, houts⟩
   dsimp only at h
   replace h := a59 hres h
   generalize hrr : l4 (ags ++ cs) (bs1 ++ bs2) = rs at *
   generalize bs1 ++ bs2 = bs at *
   obtain ⟨bx, hset, hf⟩ := a3B h
   have h2 := h1.klAll (ks := toks)
   have hunn : ∀ k b, k ∈ toks → G1 k = some (.tok (some b)) → ∀ j o, g0.dels toks G1 j = some o → o.blk ≠ some b := by
    intro k b hk hG j o hj e
    obtain ⟨hj1, hj2⟩ := g0.dels_of hj
    have := h1.inj j k _ _ b hj2 hG e rfl
    subst this; exact hj1 hk
   have hov2 : ∀ b ∈ bs, b ∈ rs ∨ w.heap.size ≤ b ∨ (¬ I1 b ∧ Fr w0 F Fn b ∧ Zc b = none ∧ ∀ k o, g0.dels toks G1 k = some o → o.blk ≠ some b) := by
    intro b hb
    rcases hov b hb with h3 | h3 | ⟨k, hk, hG⟩
    ·exact .inl h3
    ·exact .inr (.inl h3)
    ·exact .inr (.inr ⟨(h1.own k _ b hG rfl).1, h1.tok_new hG, h1.tok_free hG, hunn k b hk hG⟩)
   have hnamed1 : P7 (g0.dels toks G1) (VE.klAll toks st1).boxes (F9 st (o8 c.args.toList app.own) ++ ks) rs := by
    clear hset hf hargs hs houts hspec hov hov2 hrs hrr h hnd hfb hJ
    generalize F9 st (o8 c.args.toList app.own) ++ ks = ns at hnamed
    revert rs
    induction ns with
    | nil => intro rs h; cases rs <;> exact h
    | cons n ns ih =>
     intro rs h
     cases rs with
     | nil => exact h
     | cons b rs =>
      obtain ⟨⟨c, h5, h6, h8⟩, h7⟩ := h
      have hG1 := hl1.box n b c.t h6
      have hnt : n ∉ toks := fun hm => by
       obtain ⟨bo, hbo⟩ := htok n hm
       rw [hG1] at hbo; cases hbo
      exact ⟨⟨c, a3Y hnt (hb1 n c h5 h8) h8, by rw [g0.dels_ne hnt]; exact hG1, h8⟩, ih rs h7⟩
   have h3 := h2.called (fun n hn => hWr n (by
    rcases List.mem_append.1 hn with hn | hn
    ·exact List.mem_append_left _ (a1y hn)
    ·exact List.mem_append_right _ hn)) hnamed1 hs hov2 hJ houts hset
   have hnw : ∀ b, Nw w bs rs b → Fr w0 F Fn b ∧ Zc b = none ∧ ¬ I1 b ∧ ∀ k o, g0.dels toks G1 k = some o → o.blk ≠ some b := by
    intro b hb
    have old : w.heap.size ≤ b → Fr w0 F Fn b ∧ Zc b = none ∧ ¬ I1 b ∧ ∀ k o, g0.dels toks G1 k = some o → o.blk ≠ some b := fun hb => by
     refine ⟨.of (Nat.le_trans h1.since.size hb), ?_, fun hi => by have := h1.lt b hi; omega, fun k o hk e => ?_⟩
     ·cases hz : Zc b with
      | none => rfl
      | some ob =>
       have := (Array.getElem?_eq_some_iff.1 (h1.hold b ob hz).1).1
       omega
     ·have := (h2.own k o b hk e).2.1; omega
    rcases hb with hb | ⟨hb, hr⟩
    ·exact old hb
    ·rcases hov2 b hb with h4 | h4 | h4
     ·exact absurd h4 hr
     ·exact old h4
     ·exact ⟨h4.2.1, h4.2.2.1, h4.1, h4.2.2.2⟩
   exact a3F h3 hres (fun i b hb => by
    obtain ⟨q1, q2, q3, q4⟩ := hfb i b hb
    obtain ⟨r1, r2, r3, r4⟩ := hnw b q1
    exact ⟨fun hi => by rcases hi with hi | hi; exact r3 hi; exact q3 hi, q2, r1, r4, q4⟩) (fun i b hb => (hnw b (hfb i b hb).1).2.1) hk hf
  ·cases h
 ·cases h
theorem a6K (hQP : a3a w0 F Fn ds Kp Q) (hΓ : GOk P Γ) {c : Call} {x : Operand} {f : Nat} {ks : List Nat} (hWr : ∀ n ∈ F9 st c.args.toList ++ ks, W n) (hop : o.op = .call c) (hc : c.callee = .value x) (hx : st.ev x = .fn f ks) (hI : Inv w0 F Fn I0 W Zc G I st tm w) (hk : p6 w0 F Fn I0 W Zc ds k next)
  (h : a7U tb Γ Kp f ks c o.dst st k) : o.wp P ⟨tm, ds⟩ w next Q := by
 unfold a7U at h
 split at h
 ·cases h
 ·rename_i app happ
  split at h
  ·exact a6g hQP hΓ hWr hop hc hx hI hk happ h
  ·exact a6h hQP hΓ hWr hop hc hx hI hk happ h
theorem a4E : ∀ {cs : List j4} {ks : List Nat}, (cs.mapM fun | .box k [] => some k | _ => none) = some ks → cs = ks.map fun k => j4.box k []
 | [], ks, h => by simp at h; subst h; rfl
 | c :: cs, ks, h => by
  simp only [List.mapM_cons, Option.bind_eq_bind, Option.pure_def] at h
  cases c with
  | box k p =>
   cases p with
   | nil =>
    simp only [Option.bind_some] at h
    cases hm : (cs.mapM fun | .box k [] => some k | _ => none) with
    | none => rw [hm] at h; cases h
    | some l => rw [hm] at h; simp at h; subst h; rw [a4E hm]; rfl
   | cons a p => simp at h
  | _ => simp at h
theorem a4S {fn : Go.Fn} {first caps : Array Operand} (hop : o.op = .makeFunc fn first caps) (hI : Inv w0 F Fn I0 W Zc G I st tm w) (hk : p6 w0 F Fn I0 W Zc ds k next) (h : opk tb Γ Kp o st k) : o.wp P ⟨tm, ds⟩ w next Q := by
 unfold opk at h
 rw [hop] at h
 cases fn with
 | func f =>
  dsimp only at h
  split at h
  ·rename_i cs hfirst
   split at h
   ·rename_i ks hks
    have hcs := a4E hks
    refine fin hI (s := .fn f ks) (v := .func (.func f) (first.map (Act.mk tm ds).eval) (caps.map (Act.mk tm ds).eval)) ⟨(caps.toList.map (Act.mk tm ds).eval), ?_, ?_, ?_⟩ hk h (by unfold execOp; rw [hop]; simp [Instr.makeFunc])
    ·have hf : first = #[] := by apply Array.ext'; simpa using hfirst
     have h2 : first.map (Act.mk tm ds).eval = #[] := by rw [hf]; simp
     have : caps.map (Act.mk tm ds).eval = (caps.toList.map (Act.mk tm ds).eval).toArray := by apply Array.ext'; simp
     rw [this, h2]
    ·have := congrArg List.length hcs
     simpa using this
    ·intro i n u hn hu
     have h1 : (caps.toList.map st.ev)[i]? = some (.box n []) := by rw [hcs, List.getElem?_map, hn]; rfl
     rw [List.getElem?_map] at h1 hu
     cases hx : caps.toList[i]? with
     | none => rw [hx] at h1; cases h1
     | some x =>
      rw [hx] at h1 hu
      simp only [Option.map_some, Option.some.injEq] at h1 hu
      have hs := hI.ev x ds
      rw [h1, hu] at hs
      obtain ⟨b, t', off, uu, hG, hp, hv⟩ := hs
      have hoff : j8 t' [] = some (0, t') := by cases t' <;> rfl
      rw [hoff] at hp; injection hp with hp; injection hp with e1 _; subst e1
      exact ⟨b, t', hG, hv⟩
   ·cases h
  ·cases h
 | _ => cases h
/-- what an operation may write: a region that draws its order asks it; else all -/
def a6r (W : Nat → Prop) (st : St) (o : Oper) : Prop :=
 (∀ t a x n p, o.op = .store t a x → st.ev a = .box n p → W n) ∧ (∀ c x f ks, o.op = .call c → c.callee = .value x → st.ev x = .fn f ks → ∀ n ∈ F9 st c.args.toList ++ ks, W n)
theorem a3K (hQP : a3a w0 F Fn ds Kp Q) (hT : o4 P tb) (hΓ : GOk P Γ) (hWo : a6r W st o) (hst : ∀ t a x, o.op = .store t a x → o.dst = none) (hI : Inv w0 F Fn I0 W Zc G I st tm w) (hk : p6 w0 F Fn I0 W Zc ds k next) (h : opk tb Γ Kp o st k) : o.wp P ⟨tm, ds⟩ w next Q := by
 cases hop : o.op with
 | move x => exact a4T (.inl hop) hI hk (by unfold opk at h; rw [hop] at h; exact h)
 | assign x => exact a4T (.inr hop) hI hk (by unfold opk at h; rw [hop] at h; exact h)
 | pick c a b => exact a6M hop hI hk h
 | alloc t => exact a6d hT hop hI hk h
 | box t x => exact a7H hop hI hk h
 | build t ps => exact a6f hT hop hI hk h
 | buildSlice t n ps => exact a3R hT hop hI hk h
 | makeSlice t l c => exact a4i hT hop hI hk h
 | load t a => exact a6L hT hop hI hk h
 | store t a x => exact a6l hT (fun n p => hWo.1 t a x n p hop) hop (hst t a x hop) hI hk h
 | binOp op t x y u => exact a6e hT hop hI hk h
 | unOp op t x => exact a6N hop hI hk h
 | convert s t x => exact a5a hT hop hI hk h
 | makeFunc fn first caps => exact a4S hop hI hk h
 | slice t x lo hi mx => exact a6k hT hop hI hk h
 | nilCheck x => exact a4U hop hI hk h
 | fieldAddr s x f => exact a4g hT hop hI hk h
 | field s x f => exact a6i hT hop hI hk h
 | indexAddr t x i => exact a4h hT hop hI hk h
 | index t x i => exact a6j hT hop hI hk h
 | extract x i => exact a5b hop hI hk h
 | call c =>
  have h' := h
  unfold opk at h'
  rw [hop] at h'
  dsimp only at h'
  split at h'
  ·rename_i b hc
   exact a49 hT hop hc hI hk h'
  ·rename_i x hc
   split at h'
   ·rename_i f ks hx
    exact a6K hQP hΓ (hWo.2 c x f ks hop hc hx) hop hc hx hI hk h'
   ·cases h'
  ·cases h'
 | _ => unfold opk at h; rw [hop] at h; cases h
theorem a5m (hQP : a3a w0 F Fn ds Kp Q) (hT : o4 P tb) (hΓ : GOk P Γ) (hWo : a6r W st o) (hst : ∀ t a x, o.op = .store t a x → o.dst = none) {ops : Array Oper} (hI : Inv w0 F Fn I0 W Zc G I st tm w) (hk : p6 w0 F Fn I0 W Zc ds k next) (h : opx tb Γ Kp ops o st k) : o.wp P ⟨tm, ds⟩ w next Q := by
 unfold opx at h
 split at h
 ·rename_i t x lo hi d hop hd
  split at h
  ·exact a7J hT hop hI hk (fun h => a3K hQP hT hΓ hWo hst hI hk h) h
  ·exact a3K hQP hT hΓ hWo hst hI hk h
 ·exact a3K hQP hT hΓ hWo hst hI hk h
/-! ### regions -/
/-- a store has no slot of its own (asked of the code, once) -/
def a4Z (ops : List Oper) : Bool := ops.all fun o => match o.op, o.dst with | .store .., some _ => false | _, _ => true
theorem a35 {ops : List Oper} (h : a4Z ops = true) {o : Oper} (ho : o ∈ ops) : ∀ t a x, o.op = .store t a x → o.dst = none := by
 intro t a x e
 have := List.all_eq_true.1 h o ho
 rw [e] at this
 cases hd : o.dst with
 | none => rfl
 | some d => rw [hd] at this; cases this
theorem a8D {g : Nat} {b : Bool} (hI : Inv w0 F Fn I0 W Zc G I st tm w) (h : C5 st.tmps g = .v .bool b) : tm.getD g undef = .bool b := by
 have := hI.slot g
 rw [h] at this
 exact g6.bool_eq this
/-- the guard's own value is laid plain -/
theorem Inv.known (hI : Inv w0 F Fn I0 W Zc G I st tm w) {g : Nat} {b : Bool} (h : C5 st.tmps g = .v .bool b) (b' : Bool) (hb : b = b') : Inv w0 F Fn I0 W Zc G I (st.put (some g) (.v .bool b')) tm w := by
 subst hb
 have hs := hI.slot g
 rw [h] at hs
 have h2 := hI.put (some g) hs
 have e : tm.setIfInBounds g (tm.getD g undef) = tm := by
  apply Array.ext
  ·simp
  ·intro i h1 h2
   rw [Array.getElem_setIfInBounds]
   split
   ·rename_i hi; subst hi; simp [Array.getD, h2]
   ·rfl
 have h3 : Inv w0 F Fn I0 W Zc G I (st.put (some g) (.v .bool b)) (tm.setIfInBounds g (tm.getD g undef)) w := h2
 rw [e] at h3
 exact h3
theorem a6p {ops : Array Oper} {j g : Nat} {b : Bool} (hd : a4w ops j = some g) (h : tm.getD g undef = .bool b) : yielded ops tm j = some b := by
 unfold yielded
 unfold a4w at hd
 rw [hd]
 have : tm[g]? = some (.bool b) := by
  rw [Array.getD_eq_getD_getElem?] at h
  cases hg : tm[g]? with
  | none => rw [hg] at h; cases h
  | some v => rw [hg] at h; simp at h; rw [h]
 simp [this]
theorem a6q {ops : Array Oper} {j g : Nat} (hd : a4w ops j = some g) (h : tm.getD g undef = undef) : yielded ops tm j = none := by
 unfold yielded
 unfold a4w at hd
 rw [hd]
 rw [Array.getD_eq_getD_getElem?] at h
 cases hg : tm[g]? with
 | none => simp [hg]
 | some v => rw [hg] at h; simp at h; subst h; simp [hg]; rfl
theorem a4A {ops : Array Oper} {body : St → (St → Prop) → Prop} (hI : Inv w0 F Fn I0 W Zc G I st tm w) (h : gd ops o body st k) :
  (Region.wanted o (yielded ops tm) = true ∧ ∃ st1, Inv w0 F Fn I0 W Zc G I st1 tm w ∧ body st1 k) ∨
  (Region.wanted o (yielded ops tm) = false ∧ ∃ st1, Inv w0 F Fn I0 W Zc G I st1 tm w ∧ k (st1.put o.dst .skip)) := by
 unfold gd at h
 split at h
 ·rename_i hg
  exact .inl ⟨by simp [Region.wanted, hg], st, hI, h⟩
 ·rename_i j want hg
  split at h
  ·cases h
  ·rename_i g hd
   have wants : ∀ b, tm.getD g undef = .bool b → Region.wanted o (yielded ops tm) = (b == want) := by
    intro b hb
    simp only [Region.wanted, hg, a6p hd hb]
    cases b <;> cases want <;> rfl
   split at h
   ·rename_i b hb
    have hbv := a8D hI hb
    split at h
    ·split at h
     ·exact .inl ⟨by rw [wants _ hbv]; rfl, _, hI.known hb true rfl, h⟩
     ·exact .inr ⟨by rw [wants _ hbv]; simp, _, hI.known hb true rfl, h⟩
    ·split at h
     ·exact .inr ⟨by rw [wants _ hbv]; simp, _, hI.known hb false rfl, h⟩
     ·exact .inl ⟨by rw [wants _ hbv]; rfl, _, hI.known hb false rfl, h⟩
   ·rename_i hb
    have hs := hI.slot g
    rw [hb] at hs
    exact .inr ⟨by simp only [Region.wanted, hg, a6q hd hs]; rfl, st, hI, h⟩
   ·cases h
theorem a4I (Q : Exit → Act → World → Prop) (hQP : a3a w0 F Fn ds Kp Q) (hT : o4 P tb) (hΓ : GOk P Γ) (hW : ∀ n, W n) (ops : Array Oper) : ∀ (l : List Oper) (ix : List Nat) {G : g0} {I : Nat → Prop} {st : St} {tm : Array Value} {w : World},
  (∀ o ∈ l, ∀ t a x, o.op = .store t a x → o.dst = none) → ix.length = l.length → (∀ i, i < ix.length → ∃ j o, ix[i]? = some j ∧ l[i]? = some o ∧ ops[j]? = some o) →
  Inv w0 F Fn I0 W Zc G I st tm w → a8y tb Γ Kp ops l st k →
  (∀ st' tm' w' G' I', k st' → Inv w0 F Fn I0 W Zc G' I' st' tm' w' → Q .normal ⟨tm', ds⟩ w') → wpOps P ops Q ix ⟨tm, ds⟩ w
 | [], ix, G, I, st, tm, w, _, hl, _, hI, h, hk => by
  have : ix = [] := List.eq_nil_of_length_eq_zero hl
  subst this
  exact hk _ _ _ _ _ h hI
 | o :: l, ix, G, I, st, tm, w, hst, hl, hix, hI, h, hk => by
  cases ix with
  | nil => simp at hl
  | cons i ix =>
   obtain ⟨j, o', h1, h2, h3⟩ := hix 0 (by simp)
   simp at h1 h2
   subst h1; subst h2
   have rest : ∀ {G : g0} {I : Nat → Prop} {st : St} {tm : Array Value} {w : World}, Inv w0 F Fn I0 W Zc G I st tm w → a8y tb Γ Kp ops l st k → wpOps P ops Q ix ⟨tm, ds⟩ w :=
    fun hI h => a4I Q hQP hT hΓ hW ops l ix (fun o ho => hst o (List.mem_cons_of_mem _ ho)) (by simpa using hl) (fun n hn => by
     obtain ⟨j, o, g1, g2, g3⟩ := hix (n + 1) (by simpa using hn)
     exact ⟨j, o, by simpa using g1, by simpa using g2, g3⟩) hI h hk
   simp only [wpOps, h3]
   simp only [a8y, opg, St.frc_eq] at h
   rcases a4A hI h with ⟨hw, st1, hI1, h1⟩ | ⟨hw, st1, hI1, h1⟩
   ·rw [if_pos hw]
    exact .inl (a5m hQP hT hΓ ⟨fun _ _ _ n _ _ _ => hW n, fun _ _ _ _ _ _ _ n _ => hW n⟩ (hst o List.mem_cons_self) hI1 (fun st' tm' w' G' I' h' hI' => rest hI' h') h1)
   ·rw [if_neg (by rw [hw]; simp), a13]
    exact rest (hI1.put o.dst (s := .skip) rfl) h1
end
end Go.VE
