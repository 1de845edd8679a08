import Derived.Test.YteekiicblankjaaGreatDoorSb6
import Derived.ChangeArms
import Derived.DataReads
import Derived.Carry
import Derived.ChangeSame
set_option linter.unusedVariables false
set_option linter.unusedSectionVars false
set_option linter.unusedSimpArgs false
namespace Go.VE
variable [M9]
open Go Go.RowKit
/-- how much plain data hold -/
def bulk : (t : Ty) → t.den → Nat
 | .int _, _ => 1
 | .bool, _ => 1
 | .str, s => List.length s + 1
 | .unit, _ => 0
 | .pair a b, x => bulk a x.1 + bulk b x.2
 | .st a, x => bulk a x
 | .sl e, xs => ((xs : List e.den).map (bulk e)).sum + 1
 | .osl _ _, _ => 0
 | .hole _, _ => 0
 | .arr _ _, _ => 0
structure a2M {H : Type} (U : DataW H → Nat) (UA : List (DataW H) → Nat) : Prop where
 str : ∀ b : List UInt8, b.length + 1 ≤ U (.lit (.string b))
 lit : ∀ l, 1 ≤ U (.lit l)
 nil : 1 ≤ U .nil
 slice : ∀ a b, UA a + 1 ≤ U (.slice a b)
 agg : ∀ a, UA a ≤ U (.agg a)
 cons : ∀ d r, U d + UA r ≤ UA (d :: r)
abbrev Old (W : World) : Nat → Prop := fun b => b < W.heap.size
theorem a7t {k : IntKind} {n : Int} (h : (Lit.int k n).wf = true) : inR k n := by
 simp only [Lit.wf, Bool.and_eq_true, decide_eq_true_eq] at h
 unfold inR a03 a02
 cases k <;> simp [IntKind.min, IntKind.max, IntKind.signed, IntKind.bits] at h ⊢ <;> omega
/-- the parts of a struct, put together -/
theorem a6D {I : Nat → Prop} {W : World} {H : Type} {U : DataW H → Nat} {UA : List (DataW H) → Nat} (hU : a2M U UA) : ∀ (a : Ty) (xs : List (DataW H × List MemPlace)) (cs : List Value), cs.length = a.cells →
  (∀ (n o : Nat) (u : Ty), g9 a n = some (o, u) → ∃ y, xs[n]? = some y ∧ ∃ d : u.den, l0 I W u d ((cs.drop o).take u.cells) ∧ bulk u d ≤ U y.1) →
  ∃ d : a.den, l0 I W a d cs ∧ bulk a d ≤ UA (xs.map (·.1)) := by
 intro a
 have leaf : ∀ (a : Ty), g9 a 0 = some (0, a) → ∀ (xs : List (DataW H × List MemPlace)) (cs : List Value), cs.length = a.cells →
   (∀ (n o : Nat) (u : Ty), g9 a n = some (o, u) → ∃ y, xs[n]? = some y ∧ ∃ d : u.den, l0 I W u d ((cs.drop o).take u.cells) ∧ bulk u d ≤ U y.1) →
   ∃ d : a.den, l0 I W a d cs ∧ bulk a d ≤ UA (xs.map (·.1)) := by
  intro a h0 xs cs hl h
  obtain ⟨y, hy, d, hd, hb⟩ := h 0 0 a h0
  refine ⟨d, by simpa [hl.symm] using hd, ?_⟩
  cases xs with
  | nil => cases hy
  | cons x xs =>
   simp only [List.getElem?_cons_zero, Option.some.injEq] at hy; subst hy
   have := hU.cons x.1 (xs.map (·.1))
   simp only [List.map_cons]; omega
 induction a with
 | pair a b iha ihb =>
  intro xs cs hl h
  obtain ⟨y, hy, d, hd, hb⟩ := h 0 0 a rfl
  cases xs with
  | nil => cases hy
  | cons x xs =>
   simp only [List.getElem?_cons_zero, Option.some.injEq] at hy; subst hy
   simp only [Ty.cells] at hl
   obtain ⟨e, he, hbe⟩ := ihb xs (cs.drop a.cells) (by simp [hl]) (fun n o u hf => by
    obtain ⟨y, hy, d, hd, hb⟩ := h (n + 1) (a.cells + o) u (by simp [g9, hf])
    exact ⟨y, by simpa using hy, d, by simpa [List.drop_drop] using hd, hb⟩)
   refine ⟨(d, e), ⟨cs.take a.cells, cs.drop a.cells, (List.take_append_drop _ _).symm, by simpa using hd, he⟩, ?_⟩
   have := hU.cons x.1 (xs.map (·.1))
   simp only [List.map_cons, bulk]; omega
 | unit =>
  intro xs cs hl h
  refine ⟨(), ?_, Nat.zero_le _⟩
  exact List.eq_nil_of_length_eq_zero hl
 | int k => exact leaf _ rfl
 | bool => exact leaf _ rfl
 | str => exact leaf _ rfl
 | st a _ => exact leaf _ rfl
 | osl n a _ => exact leaf _ rfl
 | hole a _ => exact leaf _ rfl
 | arr m9 a _ => exact leaf _ rfl
 | sl e _ => exact leaf _ rfl
theorem a5P {α β : Type} {p : Nat → α → β → Prop} : ∀ (n : Nat) (ys : List α), ys.length = n → (∀ i y, ys[i]? = some y → ∃ b, p i y b) → ∃ bs : List β, bs.length = n ∧ ∀ i y, ys[i]? = some y → ∃ b, bs[i]? = some b ∧ p i y b := by
 intro n
 induction n with
 | zero => intro ys hl _; exact ⟨[], rfl, fun i y hy => by rw [List.eq_nil_of_length_eq_zero hl] at hy; cases hy⟩
 | succ n ih =>
  intro ys hl h
  have hlt : n < ys.length := by omega
  obtain ⟨bs, hbl, hbs⟩ := ih (ys.take n) (by simp; omega) (fun i y hy => by
   have hi : i < n := by
    rcases Nat.lt_or_ge i n with hi | hi
    ·exact hi
    ·rw [List.getElem?_eq_none (by simp; omega)] at hy; cases hy
   exact h i y (by simpa [List.getElem?_take, hi] using hy))
  obtain ⟨b, hb⟩ := h n ys[n] (List.getElem?_eq_getElem hlt)
  refine ⟨bs ++ [b], by simp [hbl], fun i y hy => ?_⟩
  by_cases hi : i < n
  ·obtain ⟨c, hc, hp⟩ := hbs i y (by simpa [List.getElem?_take, hi] using hy)
   exact ⟨c, by rw [List.getElem?_append_left (by omega)]; exact hc, hp⟩
  ·have : i < ys.length := (List.getElem?_eq_some_iff.1 hy).1
   obtain rfl : i = n := by omega
   rw [List.getElem?_eq_getElem hlt] at hy
   injection hy with hy; subst hy
   exact ⟨b, by rw [List.getElem?_append_right (by omega)]; simp [hbl], hb⟩
theorem a8F {α H : Type} {U : DataW H → Nat} {UA : List (DataW H) → Nat} (hU : a2M U UA) {f : α → Nat} : ∀ (ys : List (DataW H × List MemPlace)) (bs : List α), bs.length = ys.length →
  (∀ (i : Nat) (y : DataW H × List MemPlace), ys[i]? = some y → ∃ b, bs[i]? = some b ∧ f b ≤ U y.1) → (bs.map f).sum ≤ UA (ys.map (·.1))
 | [], [], _, _ => Nat.zero_le _
 | [], _ :: _, h, _ => by cases h
 | _ :: _, [], h, _ => by cases h
 | y :: ys, b :: bs, hl, h => by
  have ih := a8F hU ys bs (by simpa using hl) (fun i z hz => by simpa using h (i + 1) z (by simpa using hz))
  obtain ⟨c, hc, hf⟩ := h 0 y rfl
  simp only [List.getElem?_cons_zero, Option.some.injEq] at hc; subst hc
  have := hU.cons y.1 (ys.map (·.1))
  simp only [List.map_cons, List.sum_cons]; omega
theorem a6F {W : World} {a : Addr} {v : Value} (h : W.cell? a = some v) : a.block < W.heap.size ∧ a.spot = none := by
 unfold World.cell? at h
 split at h
 ·rename_i hb
  split at h
  ·cases h
  ·rename_i hs
   exact ⟨(Array.getElem?_eq_some_iff.1 hb).1, by simpa using hs⟩
 ·cases h
theorem a2P {P : Program} {tb : Tab} {t : Nat} {ti : TI} (h : p8 P tb t ti) : P.cellsOf t = ti.ty.cells := by
 obtain ⟨i, hi, hs, _⟩ := h.info
 unfold Program.cellsOf
 simp [hi, hs]
/-- no arrays among the types that are read -/
def a4G : Tab → Bool
 | [] => true
 | (_, ti) :: r => match ti.ty with | .arr _ _ => false | _ => a4G r
theorem a3J : ∀ {tb : Tab} {t : Nat} {ti : TI}, a4G tb = true → tb.get t = some ti → ∀ n e, ti.ty ≠ .arr n e
 | [], t, ti, _, h => by cases h
 | (k, i) :: r, t, ti, hn, h => by
  simp only [a4G] at hn
  split at hn
  ·cases hn
  ·rename_i hne
   simp only [Tab.get] at h
   split at h
   ·injection h with h; subst h; exact fun n e he => hne n e he
   ·exact a3J hn h
/-- a reading is plain data, in memory that was there -/
theorem a8H {P : Program} {tb : Tab} (hT : o4 P tb) (hna : a4G tb = true) {H : Type} {enc : TypeId × Value → H} {W : World} {U : DataW H → Nat} {UA : List (DataW H) → Nat} (hU : a2M U UA) :
  ∀ (fuel t : Nat) (ti : TI) (cs : List Value) (x : DataW H × List MemPlace), tb.get t = some ti → DataW.trod enc P W 0 (fun _ => true) true fuel t cs = some x →
   ∃ d : ti.ty.den, l0 (Old W) W ti.ty d cs ∧ bulk ti.ty d ≤ U x.1 := by
 intro fuel
 induction fuel with
 | zero => intro t ti cs x _ h; simp [DataW.trod] at h
 | succ fuel ih =>
  intro t ti cs x ht h
  have hs := hT t ti ht
  obtain ⟨ty, el, fts, by_⟩ := ti
  cases ty with
  | int k =>
   obtain ⟨n, rfl, rfl, hw⟩ := DataW.trod_int (hs.int k rfl) h
   exact ⟨n, ⟨a7t hw, rfl⟩, hU.lit _⟩
  | bool =>
   obtain ⟨b, rfl, rfl⟩ := DataW.trod_bool (hs.bool rfl) h
   exact ⟨b, rfl, hU.lit _⟩
  | str =>
   obtain ⟨s, rfl, rfl, hm⟩ := DataW.trod_string (hs.str rfl) h
   refine ⟨bytesOf s, ⟨s, rfl, rfl, hm⟩, ?_⟩
   have := hU.str s.data.toList
   simp only [bulk, bytesOf, List.length_map] at this ⊢
   exact this
  | unit => exact absurd rfl hs.kind.1
  | pair a b => exact absurd rfl (hs.kind.2.1 a b)
  | osl n a => have h9 := hs.plain; cases h9
  | hole a => have h9 := hs.plain; cases h9
  | arr m9 a => exact absurd rfl (a3J hna ht m9 a)
  | sl e =>
   obtain ⟨hu, te, hte, hee⟩ := hs.sl e rfl
   have hce := a2P (hT _ _ hte)
   have hne := (hT _ _ hte).kind.2.2
   rw [hee] at hce hne
   rcases DataW.trod_slice hu h with ⟨rfl, rfl⟩ | ⟨a, len, cap, a08, rest, n, hn, rfl, rfl, _, hl, hm, hlen, hel, _⟩
   ·refine ⟨([] : List e.den), ⟨none, 0, rfl, Nat.le_refl 0, Nat.zero_le _, fun i hi => absurd hi (Nat.not_lt_zero i)⟩, ?_⟩
    simpa [bulk] using hU.nil
   ·obtain rfl : fuel = n := by omega
    have each : ∀ i y, a08[i]? = some y → ∃ d : e.den, (∃ cs, W.cells? 0 (a.add (i * e.cells)) e.cells = some cs ∧ l0 (Old W) W e d cs) ∧ bulk e d ≤ U y.1 := by
     intro i y hy
     have hi : i < len := by rw [← hlen]; exact (List.getElem?_eq_some_iff.1 hy).1
     have := hel i hi
     rw [hy, hce, Option.bind_eq_some_iff] at this
     obtain ⟨cs, hcs, hd⟩ := this
     obtain ⟨d, hr, hb⟩ := ih _ te cs y hte hd
     subst hee
     exact ⟨d, ⟨cs, hcs, hr⟩, hb⟩
    obtain ⟨bs, hbl, hbs⟩ := a5P (p := fun i y d => (∃ cs, W.cells? 0 (a.add (i * e.cells)) e.cells = some cs ∧ l0 (Old W) W e d cs) ∧ bulk e d ≤ U y.1) len a08 hlen each
    refine ⟨bs, ⟨some a, cap, by rw [hbl], by omega, hm, fun i hi => ?_⟩, ?_⟩
    ·have hie : i < a08.length := by omega
     obtain ⟨d, hd, ⟨cs, hcs, hr⟩, _⟩ := hbs i a08[i] (List.getElem?_eq_getElem hie)
     obtain ⟨_, hcl, hcell⟩ := World.cells?_some hcs
     have hspot : a.spot = none ∧ a.block < W.heap.size := by
      obtain ⟨_, _, ⟨cs0, hcs0, _⟩, _⟩ := hbs 0 a08[0] (List.getElem?_eq_getElem (by omega))
      obtain ⟨_, hcl0, hcell0⟩ := World.cells?_some hcs0
      have h0 : W.cell? a = some cs0[0] := by
       have := hcell0 0 (by omega)
       rw [List.getElem?_eq_getElem (by omega)] at this
       simpa [Addr.add] using this
      obtain ⟨h1, h2⟩ := a6F h0
      exact ⟨h2, h1⟩
     obtain ⟨b, o, sp⟩ := a
     obtain ⟨hsp, hb⟩ := hspot
     simp only at hsp hb; subst hsp
     have e1 : bs[i] = d := by rw [List.getElem?_eq_getElem hi] at hd; simpa using hd
     refine ⟨b, o, rfl, hb, cs, by rw [e1]; exact hr, hcl, fun j v hj => ?_⟩
     have hj' : j < e.cells := by rw [← hcl]; exact (List.getElem?_eq_some_iff.1 hj).1
     have := hcell j hj'
     rw [hj] at this
     simpa [C2] using this
    ·have h1 := a8F hU a08 bs (by omega) (f := bulk e) (fun i y hy => by
      obtain ⟨d, hd, _, hb⟩ := hbs i y hy
      exact ⟨d, hd, hb⟩)
     have h2 := hU.slice (a08.map (·.1)) (rest.map (·.1))
     simp only [bulk]; omega
  | st a =>
   obtain ⟨fs, hu, hoff, _⟩ := hs.st a rfl
   obtain ⟨xs, n, hn, rfl, hcl, hxl, hf⟩ := DataW.trod_struct hu h
   obtain rfl : fuel = n := by omega
   rw [a2P hs] at hcl
   obtain ⟨d, hd, hb⟩ := a6D (I := Old W) (W := W) hU a xs cs hcl (fun n o u hfo => by
    obtain ⟨f, tf, hfn, hfo', htf, htu⟩ := hoff n u o hfo
    have h1 := hf n f hfn
    have hnl : n < xs.length := by
     rw [hxl]
     exact (Array.getElem?_eq_some_iff.1 hfn).1
    rw [List.getElem?_eq_getElem hnl] at h1
    obtain ⟨d, hr, hb⟩ := ih _ tf _ _ htf h1
    rw [a2P (hT _ _ htf), hfo'] at hr
    subst htu
    exact ⟨xs[n], List.getElem?_eq_getElem hnl, d, hr, hb⟩)
   exact ⟨d, hd, Nat.le_trans hb (hU.agg _)⟩
/-- and so is the value itself -/
theorem a7L {P : Program} {tb : Tab} (hT : o4 P tb) (hna : a4G tb = true) {H : Type} {enc : TypeId × Value → H} {W : World} {U : DataW H → Nat} {UA : List (DataW H) → Nat} (hU : a2M U UA) {t base : Nat} {ti : TI} {v : Value} {d : DataW H} {ps : List MemPlace}
  (ht : tb.get t = some ti) (hok : Value.okWide P W .any base t v) (h : DataW.Trod enc P W 0 (fun _ => true) true t v d ps) :
  ∃ x : ti.ty.den, g6 (Old W) W ti.ty x v ∧ bulk ti.ty x ≤ U d := by
 obtain ⟨fuel, h⟩ := h
 obtain ⟨x, hr, hb⟩ := a8H hT hna hU fuel t ti _ _ ht h
 have hs := hT t ti ht
 refine ⟨x, ?_, hb⟩
 obtain ⟨ty, el, fts, by_⟩ := ti
 have one : ty.agg = false → v.cells.toList = [v] → g6 (Old W) W ty x v := fun ha hv => g6.of_one ha (by rw [← hv]; exact hr)
 cases ty with
 | int k =>
  have hu := hs.int k rfl
  simp only [Value.okWide, hu, Cell.okWide] at hok
  refine one rfl ?_
  unfold Cell.ok at hok
  rw [hu] at hok
  split at hok <;> first | rfl | (exact hok.elim) | simp_all
 | bool =>
  have hu := hs.bool rfl
  simp only [Value.okWide, hu, Cell.okWide] at hok
  refine one rfl ?_
  unfold Cell.ok at hok
  rw [hu] at hok
  split at hok <;> first | rfl | (exact hok.elim) | simp_all
 | str =>
  have hu := hs.str rfl
  simp only [Value.okWide, hu, Cell.okWide] at hok
  refine one rfl ?_
  unfold Cell.ok at hok
  rw [hu] at hok
  split at hok <;> first | rfl | (exact hok.elim) | simp_all
 | sl e =>
  have hu := (hs.sl e rfl).1
  simp only [Value.okWide, hu, Cell.okWide] at hok
  refine one rfl ?_
  unfold Cell.ok at hok
  rw [hu] at hok
  split at hok <;> first | rfl | (exact hok.elim) | simp_all
 | unit => exact absurd rfl hs.kind.1
 | pair a b => exact absurd rfl (hs.kind.2.1 a b)
 | osl n a => have h9 := hs.plain; cases h9
 | hole a => have h9 := hs.plain; cases h9
 | arr m9 a => exact absurd rfl (a3J hna ht m9 a)
 | st a =>
  obtain ⟨fs, hu, _⟩ := hs.st a rfl
  simp only [Value.okWide, hu] at hok
  obtain ⟨cs, rfl, _⟩ := hok
  have : (Value.agg cs).cells.toList = cs.toList := by simp [Value.cells]
  rw [this] at hr
  have := g6.of_agg (t := .st a) rfl hr
  simpa using this
end Go.VE
