import Derived.Test.YteekiicblankjaaGreatDoorSb13
import Derived.Shelf.Strings.Split
set_option linter.unusedVariables false
set_option linter.unusedSectionVars false
set_option linter.unusedSimpArgs false
namespace Go.Proofs
open Go.Shelf Go.RowKit Go.Lib
def a3Z : Go.Shelf.Ren := ⟨fun | 146 => 18 | 221 => 28 | 268 => 43 | 138 => 44 | 143 => 25 | 195 => 73 | 197 => 68 | 218 => 74 | 219 => 38 | 260 => 99 | 217 => 24 | 225 => 64 | 224 => 65 | 267 => 66 | 266 => 37 | 314 => 97 | n => n, fun | 9 => 9 | 31 => 51 | 3 => 3 | 4 => 4 | 0 => 0 | 105 => 124 | 21 => 21 | 5 => 5 | 46 => 46 | 119 => 232 | 139 => 235 | 138 => 234 | 146 => 187 | 51 => 186 | n => n, fun | 1 => 1 | 3 => 4 | 4 => 5 | n => n⟩
theorem a65 : Lays.n146 Tryz.prog a3Z where
 mixed := by kernel_rfl
 f138 := Tryz.func44.trans (congrArg some (by kernel_rfl))
 f143 := Tryz.func25.trans (congrArg some (by kernel_rfl))
 f146 := Tryz.func18.trans (congrArg some (by kernel_rfl))
 f195 := Tryz.func73.trans (congrArg some (by kernel_rfl))
 f197 := Tryz.func68.trans (congrArg some (by kernel_rfl))
 f217 := Tryz.func24.trans (congrArg some (by kernel_rfl))
 f218 := Tryz.func74.trans (congrArg some (by kernel_rfl))
 f219 := Tryz.func38.trans (congrArg some (by kernel_rfl))
 f221 := Tryz.func28.trans (congrArg some (by kernel_rfl))
 f224 := Tryz.func65.trans (congrArg some (by kernel_rfl))
 f225 := Tryz.func64.trans (congrArg some (by kernel_rfl))
 f260 := Tryz.func99.trans (congrArg some (by kernel_rfl))
 f266 := Tryz.func37.trans (congrArg some (by kernel_rfl))
 f267 := Tryz.func66.trans (congrArg some (by kernel_rfl))
 f268 := Tryz.func43.trans (congrArg some (by kernel_rfl))
 f314 := Tryz.func97.trans (congrArg some (by kernel_rfl))
 t0 := Tryz.underlying0
 a0 := Tryz.isAgg0
 z0 := Tryz.sizeOf0
 v0 := Tryz.zeroValue0
 t3 := Tryz.underlying3
 a3 := Tryz.isAgg3
 z3 := Tryz.sizeOf3
 v3 := Tryz.zeroValue3
 t4 := Tryz.underlying4
 a4 := Tryz.isAgg4
 z4 := Tryz.sizeOf4
 v4 := Tryz.zeroValue4
 t5 := Tryz.underlying5
 a5 := Tryz.isAgg5
 z5 := Tryz.sizeOf5
 v5 := Tryz.zeroValue5
 t9 := Tryz.underlying9
 a9 := Tryz.isAgg9
 z9 := Tryz.sizeOf9
 v9 := Tryz.zeroValue9
 t21 := Tryz.underlying21
 a21 := Tryz.isAgg21
 z21 := Tryz.sizeOf21
 v21 := Tryz.zeroValue21
 t31 := Tryz.underlying51
 a31 := Tryz.isAgg51
 z31 := Tryz.sizeOf51
 v31 := Tryz.zeroValue51
 t46 := Tryz.underlying46
 a46 := Tryz.isAgg46
 z46 := Tryz.sizeOf46
 v46 := Tryz.zeroValue46
 t51 := Tryz.underlying186
 a51 := Tryz.isAgg186
 z51 := Tryz.sizeOf186
 v51 := Tryz.zeroValue186
 t105 := Tryz.underlying124
 a105 := Tryz.isAgg124
 z105 := Tryz.sizeOf124
 v105 := Tryz.zeroValue124
 t119 := Tryz.underlying232
 a119 := Tryz.isAgg232
 z119 := Tryz.sizeOf232
 t138 := Tryz.underlying234
 a138 := Tryz.isAgg234
 z138 := Tryz.sizeOf234
 v138 := Tryz.zeroValue234
 t139 := Tryz.underlying235
 a139 := Tryz.isAgg235
 z139 := Tryz.sizeOf235
 v139 := Tryz.zeroValue235
 t146 := Tryz.underlying187
 a146 := Tryz.isAgg187
 z146 := Tryz.sizeOf187
 v146 := Tryz.zeroValue187
 g1 := by kernel_rfl
 g3 := by kernel_rfl
 g4 := by kernel_rfl
theorem lays143 : Lays.n143 Tryz.prog a3Z := { a65 with }
end Go.Proofs
namespace Go.VE
open Go Go.RowKit Go.Lib
def a1r : List Int := [48, 49, 50, 51, 52, 53, 54, 55, 56, 57, 97, 98, 99, 100, 101, 102]
def a8e : ByteArray := ⟨#[48, 49, 50, 51, 52, 53, 54, 55, 56, 57, 97, 98, 99, 100, 101, 102]⟩
def E4 (s t : List Int) : Prop := s = a1r ∧ (t.length = 1 ∨ t = [239, 191, 189])
def j1 (_ t : List Int) : Int := match t with
 | [c] => if 48 ≤ c ∧ c ≤ 57 then c - 48 else if 97 ≤ c ∧ c ≤ 102 then c - 87 else -1
 | _ => -1
theorem a6B : ∀ n : Fin 256, Lib.index a8e.data.toList [UInt8.ofNat n.val] = j1 a1r [(n.val : Int)] := by decide +kernel
theorem a7u : Lib.index a8e.data.toList [239, 191, 189] = -1 := by decide +kernel
theorem a3D {a b : ByteArray} (h : VE.bytesOf a = VE.bytesOf b) : a = b := by
 obtain ⟨⟨l⟩⟩ := a
 obtain ⟨⟨m⟩⟩ := b
 have h2 : l.map (fun b : UInt8 => (b.toNat : Int)) = m.map (fun b : UInt8 => (b.toNat : Int)) := h
 have h4 := (List.map_inj_right (fun a b (h : (a.toNat : Int) = (b.toNat : Int)) => UInt8.toNat_inj.1 (by omega))).1 h2
 subst h4
 rfl
def a6Q : List AS := [.v .str, .v .str]
theorem a6C (t : List Int) (hl : t.length = 1 ∨ t = [239, 191, 189]) {Ok : Res → List Cell → Prop} (hK : Ok (.one (.v (.int .i64) (j1 a1r t))) []) :
  a1Q Go.Proofs.Tryz.prog 25 (mkA a6Q (a1r, t, ())) Ok := by
 intro I w vs bs hI hg ha
 have hlen := ha.length
 obtain ⟨sv, tv, rfl⟩ : ∃ a b, vs = [a, b] := by
  match vs, hlen with
  | [a, b], _ => exact ⟨a, b, rfl⟩
 obtain rfl : bs = [] := by
  cases bs with
  | nil => rfl
  | cons b bs => exact ha.2.2.elim
 obtain ⟨hs, ht, _⟩ := ha
 obtain ⟨cb, rfl, hcb, _⟩ := g6.str_eq hs
 obtain ⟨tb', rfl, htb, _⟩ := g6.str_eq ht
 have hcb : VE.bytesOf cb = VE.bytesOf a8e := hcb
 obtain rfl := a3D hcb
 have htb : VE.bytesOf tb' = t := htb
 obtain ⟨m, hm⟩ := (GF.of hg).hM
 have key : Lib.index a8e.data.toList tb'.data.toList = j1 a1r t := by
  rcases hl with h | h
  ·obtain ⟨b, hb⟩ : ∃ b, tb'.data.toList = [b] := by
    have h1 : tb'.data.toList.length = 1 := by
     have := congrArg List.length htb
     unfold VE.bytesOf at this
     rw [List.length_map] at this
     omega
    exact List.length_eq_one_iff.1 h1
   have e : UInt8.ofNat b.toNat = b := UInt8.ofNat_toNat
   have h2 : t = [(b.toNat : Int)] := by rw [← htb]; unfold VE.bytesOf; rw [hb]; rfl
   have h3 := a6B ⟨b.toNat, b.toNat_lt⟩
   rw [hb, h2]
   simpa [e] using h3
  ·have : tb' = ⟨#[239, 191, 189]⟩ := a3D (htb.trans h)
   rw [this, h]
   exact a7u
 refine (Go.Proofs.Any.strings_Index Go.Proofs.lays143 a8e tb' m w (by decide) hm).mono ?_
 rintro e w' ⟨rfl, rfl⟩
 rw [key]
 have hb : Below w'.heap.size w' w' := Below.refl _ _
 have hr : inR .i64 (j1 a1r t) := by
  unfold j1 inR a03 a02
  dsimp only
  repeat' split
  all_goals omega
 exact .inl ⟨_, rfl, .one (.v (.int .i64) (j1 a1r t)), [], fun _ => False, [none], hK, ⟨hb.os, hb.tape, hb.output, hb.size, fun k hk _ => hb.block k hk, a5E hb.block⟩, fun b h => h.elim, fun i b h => by
  cases i with
  | zero => simp at h
  | succ i => simp at h, ⟨none, rfl, rfl, g6.of_one rfl ⟨hr, rfl⟩⟩, trivial⟩
def a4j (v : p0 a6Q) (K : Res → List Cell → Prop) : Prop := E4 v.1 v.2.1 ∧ ∀ r : Int, r = j1 v.1 v.2.1 → K (.one (.v (.int .i64) r)) []
def a1M : App := specW a6Q a4j
theorem a3T : l5 Go.Proofs.Tryz.prog 25 a1M := by
 refine l5.specW fun ags K hs => ?_
 obtain ⟨v, rfl, hP, hK⟩ := R2 _ ags _ hs
 obtain ⟨s, t, ⟨⟩⟩ := v
 obtain ⟨h1, h2⟩ := hP
 have h1 : s = a1r := h1
 subst h1
 exact .inl ⟨enters_of Go.Proofs.Tryz.func25 (by kernel_rfl), a6C t h2 (hK _ rfl)⟩
end Go.VE
