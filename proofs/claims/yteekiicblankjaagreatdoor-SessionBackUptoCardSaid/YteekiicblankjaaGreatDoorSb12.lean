import Derived.Test.YteekiicblankjaaGreatDoorSb11
import Derived.WalkKit
import Derived.Shelf.Strings.Builder1
import Derived.Deep.LoopGhost
import Derived.Deep.RegionHeld3
set_option linter.unusedVariables false
set_option linter.unusedSectionVars false
set_option linter.unusedSimpArgs false
namespace Go.Proofs
open Go.Shelf Go.RowKit Go.Lib
def wr1B (c : Int) : List UInt8 := (Go.VE.wr1 c).map fun x => UInt8.ofNat x.toNat
theorem a8K (c : Int) : (wr1B c).length ≤ 7 := by
 unfold wr1B Go.VE.wr1
 rw [List.length_map]
 repeat' split
 all_goals simp
theorem wrB_len : ∀ xs : List Int, (xs.flatMap wr1B).length ≤ 7 * xs.length
 | [] => by simp
 | c :: xs => by
  have h1 := a8K c
  have h2 := wrB_len xs
  simp only [List.flatMap_cons, List.length_append, List.length_cons]; omega
theorem a9p : ∀ n : Fin 256, bits BinOp.and IntKind.u8 (n.val : Int) 15 = ((n.val % 16 : Nat) : Int) := by decide +kernel
theorem a9S (c : UInt8) : bits BinOp.and IntKind.u8 (c.toNat : Int) 15 = ((c.toNat % 16 : Nat) : Int) := a9p ⟨c.toNat, c.toNat_lt⟩
def hxB : ByteArray := ⟨#[48, 49, 50, 51, 52, 53, 54, 55, 56, 57, 97, 98, 99, 100, 101, 102]⟩
theorem b0I : ∀ n : Fin 256, ((⟨#[60, 120]⟩ : ByteArray) ++ hxB.extract (n.val / 16) (n.val / 16 + 1) ++ hxB.extract (n.val % 16) (n.val % 16 + 1) ++ ⟨#[62]⟩).data.toList = [60, 120, UInt8.ofNat (Go.VE.hx (n.val / 16 : Nat)).toNat, UInt8.ofNat (Go.VE.hx (n.val % 16 : Nat)).toNat, 62] := by decide +kernel
theorem hxw (c : UInt8) : ((⟨#[60, 120]⟩ : ByteArray) ++ (⟨#[48, 49, 50, 51, 52, 53, 54, 55, 56, 57, 97, 98, 99, 100, 101, 102]⟩ : ByteArray).extract (c.toNat / 16) (c.toNat / 16 + 1) ++ (⟨#[48, 49, 50, 51, 52, 53, 54, 55, 56, 57, 97, 98, 99, 100, 101, 102]⟩ : ByteArray).extract (c.toNat % 16) (c.toNat % 16 + 1) ++ ⟨#[62]⟩)
  = ⟨#[60, 120, UInt8.ofNat (Go.VE.hx (c.toNat / 16 : Nat)).toNat, UInt8.ofNat (Go.VE.hx (c.toNat % 16 : Nat)).toNat, 62]⟩ := by
 have h := b0I ⟨c.toNat, c.toNat_lt⟩
 apply ByteArray.ext
 apply Array.toList_inj.1
 exact h
set_option maxHeartbeats 8000000 in
set_option maxRecDepth 1000000 in
theorem write_walk (xs : List Int) (b o cap : Nat) (w : World) (hn : xs.length ≤ 1099511627776) (hb : 0 < xs.length → b < w.heap.size)
  (hx : ∀ i (h : i < xs.length), ∃ c : UInt8, xs[i] = (c.toNat : Int) ∧ w.cell? ⟨b, o + i, none⟩ = some (.int .u8 xs[i])) (A : Option Addr) (hA : 0 < xs.length → A = some ⟨b, o, none⟩) :
  Calls Tryz.prog 8 #[.slice A xs.length cap] w fun e w' => e = .returned (.string ⟨(xs.flatMap wr1B).toArray⟩) ∧ Below w.heap.size w w' := by
 have mixed := Go.VE.tb_M
 have hB : IsBuilder 40 5 w.heap.size w.heap.size (byteCells []) (w.alloc (.cells #[.pointer none, .slice none 0 0] 40)) := Lib.fresh_isBuilder _ _ w
 go_enter Tryz.func8, Tryz.ntmps8
 go_wp2
 go_loopg [8] xs.length (fun g v8 wr => ∃ i : Nat, i + g = xs.length ∧ v8 = .int .i64 i ∧ IsBuilder 40 5 w.heap.size w.heap.size (byteCells ((xs.take i).flatMap wr1B)) wr ∧ Below w.heap.size w wr)
 case atStart => exact ⟨0, by omega, rfl, hB, (Below.refl _ w).alloc (Nat.le_refl _) _⟩
 case round =>
  obtain ⟨i, hig, rfl, hI, hbw⟩ := hrel
  cases gk with
  | zero =>
   obtain rfl : i = xs.length := by omega
   have hlt : ¬ ((xs.length : Int) < (xs.length : Int)) := by omega
   rw [List.take_length] at hI
   go_wp2_with (go_at_call 17; refine (Any.Builder_String_any a66 bx159 w.heap.size w.heap.size _ _ hI hbw.size).mono ?_; rintro e W1 ⟨rfl, b1⟩)
   go_wp2
   go_ret
   exact ⟨rfl, hbw.trans b1⟩
  | succ g =>
   have hi : i < xs.length := by omega
   obtain ⟨c, hc, hcell⟩ := hx i hi
   have hA := hA (by omega)
   subst hA
   have hbw' := hb (by omega)
   have hcw : wr.cell? ⟨b, o + i, none⟩ = some (.int .u8 (c.toNat : Int)) := by rw [hbw.cell hbw', hcell, hc]
   have hlen : (byteCells ((xs.take i).flatMap wr1B)).length ≤ 7 * i := by
    rw [byteCells_length]
    have h1 := wrB_len (xs.take i)
    rw [List.length_take] at h1
    omega
   have hnext : (xs.take (i + 1)).flatMap wr1B = (xs.take i).flatMap wr1B ++ wr1B (c.toNat : Int) := by
    rw [List.take_succ_eq_append_getElem hi, List.flatMap_append, hc]; simp
   have hc256 := c.toNat_lt
   by_cases c60 : c.toNat = 60
   ·go_wp2_with (go_at_call 15; refine (Any.Builder_WriteString a4l bx159 w.heap.size w.heap.size _ _ _ hI (by show _ + 4 ≤ _; omega) hbw.size).mono ?_; rintro e W1 ⟨rfl, h1, b1⟩)
    go_wp2
    go_roundg g
    case rel =>
     refine ⟨i + 1, by omega, rfl, Or.inr ?_, hbw.trans b1⟩
     rw [hnext, Lib.byteCells_append, c60]
     exact h1
    case measure => omega
   have z60 : ¬ ((c.toNat : Int) = 60) := by omega
   by_cases c32 : c.toNat = 32
   ·go_wp2_with (go_at_call 15; refine (Any.Builder_WriteString a4l bx159 w.heap.size w.heap.size _ _ _ hI (by show _ + 7 ≤ _; omega) hbw.size).mono ?_; rintro e W1 ⟨rfl, h1, b1⟩)
    go_wp2
    go_roundg g
    case rel =>
     refine ⟨i + 1, by omega, rfl, Or.inr ?_, hbw.trans b1⟩
     rw [hnext, Lib.byteCells_append, c32]
     exact h1
    case measure => omega
   have z32 : ¬ ((c.toNat : Int) = 32) := by omega
   by_cases cv : 32 < c.toNat ∧ c.toNat < 127
   ·have v1 : (32 : Int) < (c.toNat : Int) := by omega
    have v2 : (c.toNat : Int) < 127 := by omega
    go_wp2_with (go_at_call 16; refine (Any.Builder_WriteByte a8W bx159 w.heap.size w.heap.size _ _ _ hI (by omega) hbw.size).mono ?_; rintro e W1 ⟨rfl, h1, b1⟩)
    go_wp2
    go_roundg g
    case rel =>
     refine ⟨i + 1, by omega, rfl, Or.inr ?_, hbw.trans b1⟩
     rw [hnext, Lib.byteCells_append]
     have e : wr1B (c.toNat : Int) = [c] := by
      unfold wr1B Go.VE.wr1
      rw [if_neg z60, if_neg z32, if_pos ⟨v1, v2⟩]
      simp
     rw [e]
     exact h1
    case measure => omega
   ·have hv : ¬ ((32 : Int) < (c.toNat : Int)) ∨ ((32 : Int) < (c.toNat : Int) ∧ ¬ (c.toNat : Int) < 127) := by omega
    have hI2 : IsBuilder 40 5 w.heap.size w.heap.size (byteCells ((xs.take i).flatMap wr1B)) wr.drew := hI
    have q1 : IntKind.u8.wrap ((c.toNat : Int) / 16 + 1) = (c.toNat : Int) / 16 + 1 := by show ((c.toNat : Int) / 16 + 1) % (2 ^ 8 : Int) = _; omega
    have q2 : (c.toNat : Int) / 16 + 1 ≤ 16 := by omega
    have q3 : (0 : Int) ≤ (c.toNat : Int) / 16 := by omega
    have q4 : (c.toNat : Int) / 16 ≤ (c.toNat : Int) / 16 + 1 := by omega
    have p1 : IntKind.u8.wrap ((c.toNat : Int) % 16 + 1) = (c.toNat : Int) % 16 + 1 := by show ((c.toNat : Int) % 16 + 1) % (2 ^ 8 : Int) = _; omega
    have p2 : (c.toNat : Int) % 16 + 1 ≤ 16 := by omega
    have p3 : (0 : Int) ≤ (c.toNat : Int) % 16 := by omega
    have p4 : (c.toNat : Int) % 16 ≤ (c.toNat : Int) % 16 + 1 := by omega
    have r1 : IntKind.u8.wrap (((c.toNat % 16 : Nat) : Int) + 1) = ((c.toNat % 16 : Nat) : Int) + 1 := by show (((c.toNat % 16 : Nat) : Int) + 1) % (2 ^ 8 : Int) = _; omega
    have r2 : ((c.toNat % 16 : Nat) : Int) + 1 ≤ 16 := by omega
    have r3 : (0 : Int) ≤ ((c.toNat % 16 : Nat) : Int) := by omega
    have r4 : ((c.toNat % 16 : Nat) : Int) ≤ ((c.toNat % 16 : Nat) : Int) + 1 := by omega
    have a1 : bits BinOp.and IntKind.u8 (c.toNat : Int) 15 = ((c.toNat % 16 : Nat) : Int) := a9S c
    have t1 : ((c.toNat : Int) / 16).toNat = c.toNat / 16 := by omega
    have t2 : ((c.toNat : Int) / 16 + 1).toNat = c.toNat / 16 + 1 := by omega
    have t3 : (((c.toNat % 16 : Nat) : Int) + 1).toNat = c.toNat % 16 + 1 := by omega
    have t4 : (c.toNat % 16 + 1) % 256 = c.toNat % 16 + 1 := by omega
    have hsz : wr.heap.size = wr.drew.heap.size := rfl
    have fin : ∀ W1, BuilderAt 40 5 w.heap.size w.heap.size (.pointer (some ⟨w.heap.size, 0, none⟩)) (byteCells ((xs.take i).flatMap wr1B) ++ strCells ((⟨#[60, 120]⟩ : ByteArray) ++ (⟨#[48, 49, 50, 51, 52, 53, 54, 55, 56, 57, 97, 98, 99, 100, 101, 102]⟩ : ByteArray).extract (c.toNat / 16) (c.toNat / 16 + 1) ++ (⟨#[48, 49, 50, 51, 52, 53, 54, 55, 56, 57, 97, 98, 99, 100, 101, 102]⟩ : ByteArray).extract (c.toNat % 16) (c.toNat % 16 + 1) ++ ⟨#[62]⟩)) W1 →
      IsBuilder 40 5 w.heap.size w.heap.size (byteCells ((xs.take (i + 1)).flatMap wr1B)) W1 := by
     intro W1 h1
     rw [hxw c] at h1
     rw [hnext, Lib.byteCells_append]
     have e : wr1B (c.toNat : Int) = [60, 120, UInt8.ofNat (Go.VE.hx (c.toNat / 16 : Nat)).toNat, UInt8.ofNat (Go.VE.hx (c.toNat % 16 : Nat)).toNat, 62] := by
      unfold wr1B Go.VE.wr1
      rw [if_neg z60, if_neg z32, if_neg (by omega)]
      rfl
     rw [e]
     exact Or.inr h1
    rcases hv with v1 | ⟨v1, v2⟩
    all_goals go_wp2
    all_goals go_region_with_o (first | (go_at_call 15; refine (Any.Builder_WriteString a4l bx159 w.heap.size w.heap.size _ _ _ hI2 (by rw [hxw c]; show _ + 5 ≤ _; omega) hbw.size).mono ?_; rintro e W1 ⟨rfl, h1, b1⟩))
    all_goals go_wp2
    all_goals go_roundg g
    all_goals first | omega | exact ⟨i + 1, by omega, rfl, fin _ h1, hbw.trans ((Below.refl _ wr).drew.trans b1)⟩
end Go.Proofs
namespace Go.VE
open Go Go.RowKit Go.Lib
def a6t : List AS := [.v (.sl (.int .u8))]
def L8 (s : List Int) : Prop := s.length ≤ 1099511627776
def L7 (s : List Int) : List Int := wrM s
theorem a7h : ∀ {xs : List Int}, (∀ c ∈ xs, 0 ≤ c ∧ c ≤ 255) → (xs.flatMap Go.Proofs.wr1B).map (fun b : UInt8 => (b.toNat : Int)) = wrM xs
 | [], _ => rfl
 | c :: xs, h => by
  have hc := h c List.mem_cons_self
  have ih := a7h fun x hx => h x (List.mem_cons_of_mem _ hx)
  have e : (Go.Proofs.wr1B c).map (fun b : UInt8 => (b.toNat : Int)) = wr1 c := by
   unfold Go.Proofs.wr1B
   rw [List.map_map]
   conv => rhs; rw [← List.map_id (wr1 c)]
   apply List.map_congr_left
   intro x hx
   have hv := a7g hc.1 hc.2 hx
   show (((UInt8.ofNat x.toNat).toNat : Nat) : Int) = x
   have : (UInt8.ofNat x.toNat).toNat = x.toNat % 256 := by simp
   rw [this]; omega
  rw [List.flatMap_cons, List.map_append, e, ih]
  simp [wrM]
theorem a6S (xs : List Int) (hl : xs.length ≤ 1099511627776) {Ok : Res → List Cell → Prop} (hK : Ok (.one (.v .str (wrM xs))) []) :
  a1Q Go.Proofs.Tryz.prog 8 (mkA a6t (xs, ())) Ok := by
 intro I w vs bs hI hg ha
 have hlen := ha.length
 obtain ⟨sv, rfl⟩ : ∃ a, vs = [a] := by
  match vs, hlen with
  | [a], _ => exact ⟨a, rfl⟩
 obtain rfl : bs = [] := by
  cases bs with
  | nil => rfl
  | cons b bs => exact ha.2.elim
 obtain ⟨hs, _⟩ := ha
 have hx : ∀ x ∈ xs, 0 ≤ x ∧ x ≤ 255 := fun x hx => (g6.wf hs).2 x hx
 obtain ⟨A, cap, hv, hle, hm, hr⟩ : ∃ A cap, sv = .slice A (List.length xs) cap ∧ List.length xs ≤ cap ∧ cap ≤ maxLen ∧ a42 I w (l0 I w (.int .u8)) 1 A xs := by
  obtain ⟨cs, h1, h2, h3, h4⟩ := hs
  obtain ⟨A, cap, h5, h6, h7, h8⟩ := h1
  have h9 := h4 rfl
  rw [h9] at h5
  exact ⟨A, cap, by simpa using h5, h6, h7, h8⟩
 subst hv
 have hr' : ∀ i (hi : i < xs.length), ∃ b' o, A = some ⟨b', o, none⟩ ∧ I b' ∧ w.cell? ⟨b', o + i, none⟩ = some (.int .u8 xs[i]) := by
  intro i hi
  obtain ⟨b', o, h1, h2, cs, ⟨h3, h4⟩, h5, h6⟩ := hr i hi
  refine ⟨b', o, h1, h2, ?_⟩
  have := h6 0 (.int .u8 xs[i]) (by rw [h4]; rfl)
  simpa using this
 have hw : ∃ b o, (0 < xs.length → A = some ⟨b, o, none⟩) ∧ (0 < xs.length → b < w.heap.size) ∧ ∀ i (h : i < xs.length), ∃ c : UInt8, xs[i] = (c.toNat : Int) ∧ w.cell? ⟨b, o + i, none⟩ = some (.int .u8 xs[i]) := by
  rcases Nat.eq_zero_or_pos xs.length with h0 | hpos
  ·exact ⟨0, 0, fun h => absurd h (by omega), fun h => absurd h (by omega), fun i hi => absurd hi (by omega)⟩
  ·obtain ⟨b, o, rfl, hb, _⟩ := hr' 0 hpos
   refine ⟨b, o, fun _ => rfl, fun _ => hI b hb, fun i hi => ?_⟩
   obtain ⟨b2, o2, e, _, h⟩ := hr' i hi
   injection e with e; injection e with e1 e2; subst e1; subst e2
   have hxi := hx _ (List.getElem_mem hi)
   refine ⟨UInt8.ofNat (xs[i]).toNat, ?_, h⟩
   have : (UInt8.ofNat (xs[i]).toNat).toNat = (xs[i]).toNat % 256 := by simp
   rw [this]; omega
 obtain ⟨b, o, h1, h2, h3⟩ := hw
 refine (Go.Proofs.write_walk xs b o cap w hl h2 h3 A h1).mono ?_
 rintro e w' ⟨rfl, hbl⟩
 refine a4y hbl hK (a7h hx) ?_
 have e := Lib.size_eq (⟨(xs.flatMap Go.Proofs.wr1B).toArray⟩ : ByteArray)
 rw [List.toList_toArray] at e
 have := Go.Proofs.wrB_len xs
 rw [e]
 unfold maxLen
 omega
def a4e (v : p0 a6t) (K : Res → List Cell → Prop) : Prop := L8 v.1 ∧ ∀ r : List Int, r = L7 v.1 → K (.one (.v .str r)) []
def Q5 : App := specW a6t a4e
theorem V2 : l5 Go.Proofs.Tryz.prog 8 Q5 := by
 refine l5.specW fun ags K hs => ?_
 obtain ⟨v, rfl, hP, hK⟩ := R2 _ ags _ hs
 obtain ⟨s, ⟨⟩⟩ := v
 exact .inl ⟨enters_of Go.Proofs.Tryz.func8 (by kernel_rfl), a6S s hP (hK _ rfl)⟩
end Go.VE
namespace Go.VE
open Go Go.Proofs
--! external 1
--! args B
--! res S
--! import SW
end Go.VE
