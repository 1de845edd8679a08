/- AgainDots: whatever the input, up to the bulk that the statement names, the law answers true, and what was handed in reads as it did. Its conditions: the bound of the given statement and the tables that its card ties, no other. -/
import Derived.Test.YtmnhjhamgacdnaaDoorC15
import Derived.Shelf.Spec.DecodeRune
set_option linter.unusedVariables false
set_option linter.unusedSectionVars false
set_option linter.unusedSimpArgs false
namespace Go.Proofs
open Go.Shelf Go.RowKit Go.Lib
variable {P : Program}
/-- is one of the bytes there? -/
def AnyOf (s chars : ByteArray) : Prop := ∃ (j : Nat) (x : UInt8), s.data.toList[j]? = some x ∧ chars.data.toList.contains x = true
theorem any_hit {s chars : ByteArray} {i : Nat} {x : UInt8} (h : s.data.toList[i]? = some x) (hc : chars.data.toList.contains x = true) : (0 : Int) ≤ (i : Int) ↔ AnyOf s chars := ⟨fun _ => ⟨i, x, h, hc⟩, fun _ => by omega⟩
theorem any_none {s chars : ByteArray} (h : Lib.NoAny s.data.toList chars.data.toList s.size) : (0 : Int) ≤ (-1 : Int) ↔ AnyOf s chars := ⟨fun h => by omega, fun ⟨j, x, hj, hc⟩ => by
  have hl : j < s.data.toList.length := by
    rcases Nat.lt_or_ge j s.data.toList.length with h | h
    · exact h
    · rw [List.getElem?_eq_none h] at hj; cases hj
  have := h j x (by rw [Lib.size_eq]; exact hl) hj
  rw [hc] at this; cases this⟩
theorem at_get (s : ByteArray) (i : Nat) (hi : i < s.size) : ∃ x : UInt8, s.data.toList[i]? = some x ∧ s.get! i = x := ⟨s[i]'hi, Lib.data_getElem? s i hi, Utf8W.get!_of_lt s i hi⟩

set_option maxHeartbeats 8000000 in
set_option maxRecDepth 1000000 in
theorem an_long (L : AnyL P) (s chars : ByteArray) (b off cap : Nat) (w : World) (hbw : b < w.heap.size) (h8 : 8 < s.size) (hs : s.size < 4294967281) (h2 : 2 ≤ chars.size) (hcs : chars.size < 4294967281)
    (hp : ∀ j, j < s.size → w.cell? ⟨b, off + j, none⟩ = some (.int .u8 (s.get! j).toNat)) (hascii : ∀ (j : Nat) b, chars.data.toList[j]? = some b → b.toNat < 128) :
    Calls P 121 #[.slice (some ⟨b, off, none⟩) s.size cap, .string chars] w fun e w' => ∃ r : Int, e = .returned (.int .i64 r) ∧ (0 ≤ r ↔ AnyOf s chars) ∧ Below w.heap.size w w' := by
  have hM := an_make L chars w hcs hascii
  clear hascii
  have hemp : chars.toList.isEmpty = false := by
    rw [Lib.toList_data]
    cases h : chars.data.toList with
    | nil => have := Lib.size_eq chars; rw [h, List.length_nil] at this; omega
    | cons _ _ => rfl
  have hn1 : ((chars.size : Int) == 1) = false := beq_eq_false_iff_ne.2 (by omega)
  have hs1 : ((s.size : Int) == 1) = false := beq_eq_false_iff_ne.2 (by omega)
  have h8z : decide ((8 : Int) < (s.size : Int)) = true := decide_eq_true (by omega)
  have hsc : (storeCells ⟨w.heap.size + 1, 0, none⟩ (Lib.setCells chars.data.toList).toList 0).run P ((w.alloc (.cells (Lib.setCells chars.data.toList) 167)).alloc (.cells (Array.replicate 256 (.bool false)) 167)) = .ok () ((w.alloc (.cells (Lib.setCells chars.data.toList) 167)).alloc (.cells (Lib.setCells chars.data.toList) 167)) := by
    have := run_storeCells_new (P := P) (w.alloc (.cells (Lib.setCells chars.data.toList) 167)) 167 (Array.replicate 256 (.bool false)) (Lib.setCells chars.data.toList) (by rw [Lib.setCells_size]; exact L.iS) (by rw [Lib.setCells_size, Array.size_replicate]) (Lib.setCells_one _)
    simpa using this
  have hsz := Lib.setCells_size chars.data.toList
  have hcellAt : ∀ x : UInt8, ((w.alloc (.cells (Lib.setCells chars.data.toList) 167)).alloc (.cells (Lib.setCells chars.data.toList) 167)).cell? ⟨w.heap.size + 1, x.toNat, none⟩ = some (.bool (chars.data.toList.contains x)) := fun x => by
    rw [World.cell?_alloc_at _ _ _ _ (by simp), Lib.setCells_at]
  have HC : Aside (∀ x : UInt8, ((w.alloc (.cells (Lib.setCells chars.data.toList) 167)).alloc (.cells (Lib.setCells chars.data.toList) 167)).cell? ⟨w.heap.size + 1, x.toNat, none⟩ = some (.bool (chars.data.toList.contains x))) := hcellAt
  have HP : Aside (∀ j, j < s.size → ((w.alloc (.cells (Lib.setCells chars.data.toList) 167)).alloc (.cells (Lib.setCells chars.data.toList) 167)).cell? ⟨b, off + j, none⟩ = some (.int .u8 (s.get! j).toNat)) := fun j hj => by
    rw [World.cell?_alloc_past _ _ _ (by simp; omega), World.cell?_alloc_past _ _ _ hbw]; exact hp j hj
  have HB : Aside (Below w.heap.size w ((w.alloc (.cells (Lib.setCells chars.data.toList) 167)).alloc (.cells (Lib.setCells chars.data.toList) 167))) :=
    ((Below.refl w.heap.size w).alloc (Nat.le_refl _) _).alloc (by simp) _
  clear hcellAt hp
  have t3 := L.t3; have a3 := L.a3; have z3 := L.z3; have v3 := L.v3
  have t4 := L.t4; have a4 := L.a4; have z4 := L.z4; have v4 := L.v4
  have t5 := L.t5; have a5 := L.a5; have z5 := L.z5; have v5 := L.v5
  have t9 := L.t9; have a9 := L.a9; have z9 := L.z9; have v9 := L.v9
  have t21 := L.t21; have a21 := L.a21; have z21 := L.z21; have v21 := L.v21
  have t22 := L.t22; have a22 := L.a22; have z22 := L.z22; have v22 := L.v22
  have t116 := L.tS; have v116 := L.vS
  have mixed := L.mixed
  have e226 : ∀ args w, (callFunc 146 args).run P w = .ok (.enter 146 args) w := Go.VE.enters_of L.fU (by kernel_rfl)
  have e227 : ∀ args w, (callFunc 147 args).run P w = .ok (.enter 147 args) w := Go.VE.enters_of L.fM (by kernel_rfl)
  have e228 : ∀ args w, (callFunc 148 args).run P w = .ok (.enter 148 args) w := Go.VE.enters_of L.fC (by kernel_rfl)
  go_enter L.fI, Tryd.ntmps121
  go_wp2_with (first
    | (go_at_fn 146; refine (an_use L _ _).mono ?_; rintro e w' ⟨rfl, hw⟩; rw [hw, h8z])
    | (go_at_fn 147; refine hM.mono ?_; rintro e w' ⟨rfl, hw⟩; rw [hw]))
  simp only [L.zS, Result.andThen, ↓reduceIte, hsc]
  rw [Oper.upon_skip]
  go_wp2
  clear hM hsc
  go_loopg [9, 10, 62] s.size (fun g _ _ s8 wx => ∃ i : Nat, i + g = s.size ∧ s8 = .int .i64 i ∧ wx = ((w.alloc (.cells (Lib.setCells chars.data.toList) 167)).alloc (.cells (Lib.setCells chars.data.toList) 167)) ∧ Lib.NoAny s.data.toList chars.data.toList i)
  case atStart => exact ⟨0, by omega, rfl, rfl, Lib.NoAny.zero _ _⟩
  case round =>
    obtain ⟨i, hig, rfl, rfl, hno⟩ := hrel
    have HN : Aside (Lib.NoAny s.data.toList chars.data.toList i) := hno
    clear hno
    cases gk with
    | zero =>
      obtain rfl : i = s.size := by omega
      have hiz : ¬ ((s.size : Int) < (s.size : Int)) := by omega
      go_wp2
      go_ret
      exact ⟨_, rfl, any_none HN.out, HB.out⟩
    | succ g =>
      have hi : i < s.size := by omega
      have hiz : (i : Int) < (s.size : Int) := by omega
      obtain ⟨x, hxl, hx⟩ := at_get s i hi
      have Hx : Aside (s.data.toList[i]? = some x) := hxl
      clear hxl
      have hpi := HP.out i hi
      rw [hx] at hpi
      have hcx := HC.out x
      cases hin : chars.data.toList.contains x <;> rw [hin] at hcx
      · go_wp2_with (go_at_fn 148; refine (an_has L _ x _ _ hcx).mono ?_; rintro e w' ⟨rfl, hw⟩; rw [hw])
        go_roundg g
        case measure => omega
        case rel => exact ⟨i + 1, by omega, by first | rfl | simp, rfl, HN.out.succ Hx.out hin⟩
      · go_wp2_with (go_at_fn 148; refine (an_has L _ x _ _ hcx).mono ?_; rintro e w' ⟨rfl, hw⟩; rw [hw])
        go_ret
        exact ⟨_, rfl, any_hit Hx.out hin, HB.out⟩
end Go.Proofs
