import Derived.Test.YteekiicblankjaaGreatDoorSb8
import Derived.Lib.BytesEntry
set_option linter.unusedVariables false
set_option linter.unusedSectionVars false
set_option linter.unusedSimpArgs false
namespace Go.VE
variable [M9]
open Go Go.RowKit Go.Lib
theorem a4M {P : Program} {I : Nat → Prop} {w : World} {xs : List Int} {v : Value} (h : g6 I w (.sl (.int .u8)) xs v) : (Extern.Bytes.bytesOf v).run P w = .ok ⟨(Lib.bytesOf xs).toArray⟩ w := by
 obtain ⟨A, cap, rfl, hl, hm2, hr⟩ := g6.sl_eq h
 cases A with
 | none =>
  have hx : xs = [] := by
   cases xs with
   | nil => rfl
   | cons n ns => obtain ⟨b, o, hA, _⟩ := hr 0 (by simp); cases hA
  subst hx
  rfl
 | some a =>
  have hload := run_loadBytesX (P := P) w xs a .empty (fun j x hj => by
   have hjl : j < xs.length := (List.getElem?_eq_some_iff.1 hj).1
   obtain ⟨b, o, hA, _, cs, hc, _, hq⟩ := hr j hjl
   injection hA with hA; subst hA
   have hx : xs[j] = x := by have := (List.getElem?_eq_some_iff.1 hj).2; exact this
   obtain ⟨_, rfl⟩ := hc
   have := hq 0 _ rfl
   rw [C2]
   rw [hx] at this
   simpa [Ty.cells] using this)
  have he : (⟨ByteArray.empty.data ++ (Lib.bytesOf xs).toArray⟩ : ByteArray) = ⟨(Lib.bytesOf xs).toArray⟩ := by
   apply ByteArray.ext
   show (#[] : Array UInt8) ++ (Lib.bytesOf xs).toArray = (Lib.bytesOf xs).toArray
   simp
  rw [he] at hload
  exact hload
/-- where c stands first, or -1 -/
def a1X (xs : List Int) (c : Int) : Int := if c ∈ xs then (xs.idxOf c : Int) else -1
theorem a4k {a b : Int} (ha : 0 ≤ a ∧ a ≤ 255) (hb : 0 ≤ b ∧ b ≤ 255) : (UInt8.ofNat a.toNat = b.toNat.toUInt8) ↔ a = b := by
 constructor
 ·intro h
  have h2 := congrArg UInt8.toNat h
  simp only [Nat.toUInt8, UInt8.toNat_ofNat'] at h2
  try omega
 ·intro h; rw [h]
theorem a0z {c : Int} (hc : 0 ≤ c ∧ c ≤ 255) : ∀ {xs : List Int}, (∀ x ∈ xs, 0 ≤ x ∧ x ≤ 255) → indexByte (Lib.bytesOf xs) c.toNat.toUInt8 = a1X xs c
 | [], _ => by simp [Lib.bytesOf, indexByte, a1X]
 | x :: xs, h => by
  have hx := h x List.mem_cons_self
  have ih := a0z hc (fun y hy => h y (List.mem_cons_of_mem _ hy))
  have e : Lib.bytesOf (x :: xs) = UInt8.ofNat x.toNat :: Lib.bytesOf xs := rfl
  rw [e]
  simp only [indexByte, ih]
  by_cases hxc : x = c
  ·subst hxc
   have hb : (UInt8.ofNat x.toNat == x.toNat.toUInt8) = true := by rw [(a4k hx hx).2 rfl]; exact beq_self_eq_true _
   rw [if_pos hb]
   unfold a1X
   rw [if_pos List.mem_cons_self]
   simp
  ·have : ¬ UInt8.ofNat x.toNat = c.toNat.toUInt8 := fun h => hxc ((a4k hx hc).1 h)
   have hcx : ¬ c = x := fun h => hxc h.symm
   unfold a1X
   by_cases hm : c ∈ xs
   ·have h0 : ¬ ((xs.idxOf c : Int) = -1) := by omega
    have hb : (x == c) = false := by simpa using hxc
    simp [this, hm, h0, hcx, List.idxOf_cons, hb]
   ·simp [this, hm, hcx]
theorem a1B {c : Int} (hc : 0 ≤ c ∧ c ≤ 255) : ∀ {xs : List Int}, (∀ x ∈ xs, 0 ≤ x ∧ x ≤ 255) → countByte (Lib.bytesOf xs) c.toNat.toUInt8 = xs.count c
 | [], _ => rfl
 | x :: xs, h => by
  have hx := h x List.mem_cons_self
  have ih := a1B hc (fun y hy => h y (List.mem_cons_of_mem _ hy))
  have e : Lib.bytesOf (x :: xs) = UInt8.ofNat x.toNat :: Lib.bytesOf xs := rfl
  rw [e]
  unfold countByte at ih ⊢
  rw [List.count_cons, List.count_cons, ih]
  by_cases hxc : x = c
  ·have := (a4k hx hc).2 hxc
   simp [hxc]
  ·have : ¬ UInt8.ofNat x.toNat = c.toNat.toUInt8 := fun h => hxc ((a4k hx hc).1 h)
   simp [this, hxc]
abbrev BS : Ty := .sl (.int .u8)
def a16 : List AS := [.v (.sl (.int .u8)), .v (.int .u8)]
/-- a function of the model's own of a []byte and a byte, whose answer is F -/
theorem a5f {P : Program} {f : FuncId} {fn : Func} {e : Array Value → Sem Value} (hf : P.funcs[f]? = some fn) (hname : (fn.name == "runtime.NumGoroutine") = false)
  (hb : fn.body.isNone = true) (hn : Extern.findNext fn = none) (he : Extern.find fn = some e) (F : List Int → Int → Int)
  (hF : ∀ (I : Nat → Prop) (w : World) (xs : List Int) (c : Int) (v : Value), g6 I w (.sl (.int .u8)) xs v → inR .u8 c → (e #[v, .int .u8 c]).run P w = .ok (.int .i64 (F xs c)) w ∧ inR .i64 (F xs c)) :
  l5 P f (specW a16 fun v K => ∀ r : Int, r = F v.1 v.2.1 → K (.one (.v (.int .i64) r)) []) := by
 refine l5.specW fun ags K hs => ?_
 obtain ⟨v, rfl, hk⟩ := R2 _ ags _ hs
 refine .inr fun I w vs bs hI _ ha => ?_
 obtain ⟨xs, c, ⟨⟩⟩ := v
 match vs, bs, ha with
 | [x, y], [], ha =>
  obtain ⟨hx, hy, _⟩ := ha
  obtain ⟨hc, rfl⟩ := g6.int_eq hy
  obtain ⟨h1, h2⟩ := hF I w xs c x hx hc
  refine ⟨.int .i64 (F xs c), w, ?_, ?_⟩
  ·rw [run_callFunc_extern hf hname hb hn he, h1]; rfl
  ·exact ⟨.one (.v (.int .i64) (F xs c)), [], fun _ => False, [none], hk _ rfl, Z4.refl _ _, fun b h => h.elim, fun i b h => by
    cases i with
    | zero => simp at h
    | succ i => simp at h, ⟨none, rfl, rfl, g6.int_mk h2⟩, trivial⟩
theorem a8L {P : Program} {f : FuncId} {fn : Func} (hf : P.funcs[f]? = some fn) (hname : (fn.name == "runtime.NumGoroutine") = false)
  (hb : fn.body.isNone = true) (hn : Extern.findNext fn = none) (he : Extern.find fn = some Extern.BytealgIndexByte.indexByte) :
  l5 P f (specW a16 fun v K => ∀ r : Int, r = a1X v.1 v.2.1 → K (.one (.v (.int .i64) r)) []) := by
 refine a5f hf hname hb hn he a1X fun I w xs c v hv hc => ?_
 have hw := g6.wf hv
 have hl := a4M (P := P) hv
 have hs := run_indexByteString (P := P) ⟨(Lib.bytesOf xs).toArray⟩ c w
 constructor
 ·rw [← a0z hc hw.2]
  change Sem.run P (do
   let b ← Extern.Bytes.bytesOf v
   let c ← Extern.Bytes.asByte (.int .u8 c)
   match (List.range b.size).find? fun i => b[i]! == c with
   | some i => pure (goInt i)
   | none => pure (goInt (-1))) w = _
  change Sem.run P (do
   let b ← Extern.Bytes.bytesOf (.string ⟨(Lib.bytesOf xs).toArray⟩)
   let c ← Extern.Bytes.asByte (.int .u8 c)
   match (List.range b.size).find? fun i => b[i]! == c with
   | some i => pure (goInt i)
   | none => pure (goInt (-1))) w = _ at hs
  rw [Sem.run_bind, hl]
  rw [Sem.run_bind] at hs
  simpa [Extern.Bytes.bytesOf] using hs
 ·unfold a1X
  have := hw.1
  have h2 := List.idxOf_le_length (a := c) (l := xs)
  split <;> constructor <;> simp only [a03, a02] <;> omega
theorem a9Q {P : Program} {f : FuncId} {fn : Func} (hf : P.funcs[f]? = some fn) (hname : (fn.name == "runtime.NumGoroutine") = false)
  (hb : fn.body.isNone = true) (hn : Extern.findNext fn = none) (he : Extern.find fn = some Extern.BytealgCount.count) :
  l5 P f (specW a16 fun v K => ∀ r : Int, r = (List.count v.2.1 (v.1 : List Int) : Int) → K (.one (.v (.int .i64) r)) []) := by
 refine a5f hf hname hb hn he (fun xs c => (xs.count c : Int)) fun I w xs c v hv hc => ?_
 have hw := g6.wf hv
 have hl := a4M (P := P) hv
 have hs := run_countString (P := P) ⟨(Lib.bytesOf xs).toArray⟩ c w
 constructor
 ·rw [← a1B hc hw.2]
  change Sem.run P (do
   let b ← Extern.Bytes.bytesOf v
   let c' ← Extern.Bytes.asByte (.int .u8 c)
   pure (goInt (b.foldl (fun n x => if x == c' then n + 1 else n) (0 : Nat)))) w = _
  change Sem.run P (do
   let b ← Extern.Bytes.bytesOf (.string ⟨(Lib.bytesOf xs).toArray⟩)
   let c' ← Extern.Bytes.asByte (.int .u8 c)
   pure (goInt (b.foldl (fun n x => if x == c' then n + 1 else n) (0 : Nat)))) w = _ at hs
  rw [Sem.run_bind, hl]
  rw [Sem.run_bind] at hs
  simpa [Extern.Bytes.bytesOf] using hs
 ·have := hw.1
  have h2 := List.count_le_length (a := c) (l := xs)
  constructor <;> simp only [a03, a02] <;> omega
end Go.VE
namespace Go.VE
variable [M9]
open Go Go.RowKit Go.Lib
def a5r : List AS := [.v .str, .v (.int .u8)]
theorem a5v (s : ByteArray) : Lib.bytesOf (VE.bytesOf s) = s.data.toList := by
 unfold Lib.bytesOf VE.bytesOf
 simp [Function.comp_def]
theorem a2m {P : Program} {f : FuncId} {fn : Func} (hf : P.funcs[f]? = some fn) (hname : (fn.name == "runtime.NumGoroutine") = false)
  (hb : fn.body.isNone = true) (hn : Extern.findNext fn = none) (he : Extern.find fn = some Extern.BytealgIndexByte.indexByte) :
  l5 P f (specW a5r fun v K => ∀ r : Int, r = a1X v.1 v.2.1 → K (.one (.v (.int .i64) r)) []) := by
 refine l5.specW fun ags K hs => ?_
 obtain ⟨v, rfl, hk⟩ := R2 _ ags _ hs
 refine .inr fun I w vs bs hI _ ha => ?_
 obtain ⟨xs, c, ⟨⟩⟩ := v
 match vs, bs, ha with
 | [x, y], [], ha =>
  obtain ⟨hx, hy, _⟩ := ha
  obtain ⟨hc, rfl⟩ := g6.int_eq hy
  have hw := g6.wf hx
  obtain ⟨s, rfl, hs, hsz⟩ := g6.str_eq hx
  dsimp only at hs hw
  subst hs
  have h1 := run_indexByteString (P := P) s c w
  rw [← a5v, a0z hc hw.2] at h1
  have h2 : inR .i64 (a1X (VE.bytesOf s) c) := by
   unfold a1X
   have := hw.1
   have h2 := List.idxOf_le_length (a := c) (l := VE.bytesOf s)
   split <;> constructor <;> simp only [a03, a02] <;> omega
  refine ⟨.int .i64 (a1X (VE.bytesOf s) c), w, ?_, ?_⟩
  ·rw [run_callFunc_extern hf hname hb hn he]
   show (Result.andThen (Sem.run P _ w) _) = _
   rw [h1]; rfl
  ·exact ⟨.one (.v (.int .i64) (a1X (VE.bytesOf s) c)), [], fun _ => False, [none], hk _ rfl, Z4.refl _ _, fun b h => h.elim, fun i b h => by
    cases i with
    | zero => simp at h
    | succ i => simp at h, ⟨none, rfl, rfl, g6.int_mk h2⟩, trivial⟩
end Go.VE
namespace Go.VE
theorem a4u : ∀ xs : List Int, bulk (.sl (.int .u8)) xs = xs.length + 1 := by
 intro xs
 show (xs.map (bulk (.int .u8))).sum + 1 = _
 congr 1
 induction xs with
 | nil => rfl
 | cons x xs ih => rw [List.map_cons, List.sum_cons, ih, List.length_cons]; show 1 + xs.length = _; omega
end Go.VE
