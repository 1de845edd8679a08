import Derived.Test.YteekiicblankjaaGreatDoorSb10
import Derived.Shelf.Strings.CaseAny
import Derived.Ground.NamesProg
set_option linter.unusedVariables false
set_option linter.unusedSectionVars false
set_option linter.unusedSimpArgs false
namespace Go.Proofs
open Go.Shelf Go.RowKit Go.Lib
def E7 : Go.Shelf.Ren := ⟨fun | 159 => 26 | 165 => 39 | 166 => 15 | 167 => 16 | 169 => 17 | 230 => 40 | 204 => 41 | 240 => 27 | 241 => 67 | 197 => 68 | 118 => 69 | 168 => 70 | 270 => 71 | 262 => 72 | 276 => 42 | 277 => 98 | 260 => 99 | 242 => 100 | 313 => 101 | 278 => 125 | 274 => 126 | 275 => 127 | n => n, fun | 9 => 9 | 4 => 4 | 3 => 3 | 5 => 5 | 72 => 40 | 0 => 0 | 76 => 43 | 75 => 42 | 107 => 71 | 70 => 38 | 20 => 20 | 37 => 22 | 127 => 60 | 21 => 21 | 105 => 124 | 164 => 72 | 162 => 193 | 203 => 191 | 119 => 232 | 46 => 46 | 139 => 235 | 138 => 234 | 51 => 186 | 160 => 236 | 208 => 274 | 206 => 272 | 80 => 47 | n => n, fun | 13 => 2 | 3 => 4 | 4 => 5 | n => n⟩
theorem lays159 : Lays.n159 Tryz.prog E7 where
 mixed := by kernel_rfl
 f118 := Tryz.func69.trans (congrArg some (by kernel_rfl))
 f159 := Tryz.func26.trans (congrArg some (by kernel_rfl))
 f165 := Tryz.func39.trans (congrArg some (by kernel_rfl))
 f166 := Tryz.func15.trans (congrArg some (by kernel_rfl))
 f167 := Tryz.func16.trans (congrArg some (by kernel_rfl))
 f168 := Tryz.func70.trans (congrArg some (by kernel_rfl))
 f169 := Tryz.func17.trans (congrArg some (by kernel_rfl))
 f197 := Tryz.func68.trans (congrArg some (by kernel_rfl))
 f204 := Tryz.func41.trans (congrArg some (by kernel_rfl))
 f230 := Tryz.func40.trans (congrArg some (by kernel_rfl))
 f240 := Tryz.func27.trans (congrArg some (by kernel_rfl))
 f241 := Tryz.func67.trans (congrArg some (by kernel_rfl))
 f242 := Tryz.func100.trans (congrArg some (by kernel_rfl))
 f260 := Tryz.func99.trans (congrArg some (by kernel_rfl))
 f262 := Tryz.func72.trans (congrArg some (by kernel_rfl))
 f270 := Tryz.func71.trans (congrArg some (by kernel_rfl))
 f274 := Tryz.func126.trans (congrArg some (by kernel_rfl))
 f275 := Tryz.func127.trans (congrArg some (by kernel_rfl))
 f276 := Tryz.func42.trans (congrArg some (by kernel_rfl))
 f277 := Tryz.func98.trans (congrArg some (by kernel_rfl))
 f278 := Tryz.func125.trans (congrArg some (by kernel_rfl))
 f313 := Tryz.func101.trans (congrArg some (by kernel_rfl))
 t0 := Tryz.underlying0
 a0 := Tryz.isAgg0
 z0 := Tryz.sizeOf0
 v0 := Tryz.zeroValue0
 t3 := Tryz.underlying3
 a3 := Tryz.isAgg3
 z3 := Tryz.sizeOf3
 v3 := Tryz.zeroValue3
 t4 := Tryz.underlying4
 a4 := Tryz.isAgg4
 z4 := Tryz.sizeOf4
 v4 := Tryz.zeroValue4
 t5 := Tryz.underlying5
 a5 := Tryz.isAgg5
 z5 := Tryz.sizeOf5
 v5 := Tryz.zeroValue5
 t9 := Tryz.underlying9
 a9 := Tryz.isAgg9
 z9 := Tryz.sizeOf9
 v9 := Tryz.zeroValue9
 t20 := Tryz.underlying20
 a20 := Tryz.isAgg20
 z20 := Tryz.sizeOf20
 v20 := Tryz.zeroValue20
 t21 := Tryz.underlying21
 a21 := Tryz.isAgg21
 z21 := Tryz.sizeOf21
 v21 := Tryz.zeroValue21
 t37 := Tryz.underlying22
 a37 := Tryz.isAgg22
 z37 := Tryz.sizeOf22
 v37 := Tryz.zeroValue22
 t46 := Tryz.underlying46
 a46 := Tryz.isAgg46
 z46 := Tryz.sizeOf46
 v46 := Tryz.zeroValue46
 t51 := Tryz.underlying186
 a51 := Tryz.isAgg186
 z51 := Tryz.sizeOf186
 v51 := Tryz.zeroValue186
 t70 := Tryz.underlying38
 a70 := Tryz.isAgg38
 z70 := Tryz.sizeOf38
 v70 := Tryz.zeroValue38
 t72 := Tryz.underlying40
 a72 := Tryz.isAgg40
 z72 := Tryz.sizeOf40
 v72 := Tryz.zeroValue40
 t75 := Tryz.underlying42
 a75 := Tryz.isAgg42
 z75 := Tryz.sizeOf42
 v75 := Tryz.zeroValue42
 t76 := Tryz.underlying43
 a76 := Tryz.isAgg43
 z76 := Tryz.sizeOf43
 v76 := Tryz.zeroValue43
 t105 := Tryz.underlying124
 a105 := Tryz.isAgg124
 z105 := Tryz.sizeOf124
 v105 := Tryz.zeroValue124
 t107 := Tryz.underlying71
 a107 := Tryz.isAgg71
 z107 := Tryz.sizeOf71
 v107 := Tryz.zeroValue71
 t119 := Tryz.underlying232
 a119 := Tryz.isAgg232
 z119 := Tryz.sizeOf232
 t127 := Tryz.underlying60
 a127 := Tryz.isAgg60
 z127 := Tryz.sizeOf60
 v127 := Tryz.zeroValue60
 t138 := Tryz.underlying234
 a138 := Tryz.isAgg234
 z138 := Tryz.sizeOf234
 v138 := Tryz.zeroValue234
 t139 := Tryz.underlying235
 a139 := Tryz.isAgg235
 z139 := Tryz.sizeOf235
 v139 := Tryz.zeroValue235
 t160 := Tryz.underlying236
 a160 := Tryz.isAgg236
 z160 := Tryz.sizeOf236
 v160 := Tryz.zeroValue236
 t162 := Tryz.underlying193
 a162 := Tryz.isAgg193
 z162 := Tryz.sizeOf193
 v162 := Tryz.zeroValue193
 t164 := Tryz.underlying72
 a164 := Tryz.isAgg72
 z164 := Tryz.sizeOf72
 v164 := Tryz.zeroValue72
 t203 := Tryz.underlying191
 a203 := Tryz.isAgg191
 z203 := Tryz.sizeOf191
 v203 := Tryz.zeroValue191
 t206 := Tryz.underlying272
 a206 := Tryz.isAgg272
 z206 := Tryz.sizeOf272
 v206 := Tryz.zeroValue272
 t208 := Tryz.underlying274
 a208 := Tryz.isAgg274
 z208 := Tryz.sizeOf274
 v208 := Tryz.zeroValue274
 g3 := by kernel_rfl
 g4 := by kernel_rfl
 g13 := by kernel_rfl
theorem a4l : Lays.n166 Tryz.prog E7 := { lays159 with }
theorem a8W : Lays.n167 Tryz.prog E7 := { lays159 with }
theorem a66 : Lays.n169 Tryz.prog E7 := { lays159 with }
theorem bx159 : Builder.Extra Tryz.prog E7 where
 sizeBuilder := by kernel_rfl
 liesBuilder := by kernel_rfl
 t5 := by kernel_rfl
 a5 := fun w => by kernel_rfl
 z5 := fun w => by kernel_rfl
 v5 := fun w => by kernel_rfl
 infoByte := by kernel_rfl
 cellsByte := by kernel_rfl
 sizeByte := by kernel_rfl
 neB5 := by decide
end Go.Proofs
namespace Go.VE
open Go Go.RowKit Go.Lib
def F2 (s : List Int) : Prop := s.length = 1
def g7 (s : List Int) : List Int := match s with
 | [c] => if 65 ≤ c ∧ c ≤ 90 then [c + 32] else if c < 128 then [c] else [239, 191, 189]
 | _ => []
theorem a8r : ∀ n : Fin 256, (Lib.toLowerD [UInt8.ofNat n.val]).map (fun b : UInt8 => (b.toNat : Int)) = g7 [(n.val : Int)] := by decide +kernel
theorem a68 (b : UInt8) : (Lib.toLowerD [b]).map (fun b : UInt8 => (b.toNat : Int)) = g7 [(b.toNat : Int)] := by
 have h := a8r ⟨b.toNat, b.toNat_lt⟩
 have e : UInt8.ofNat b.toNat = b := UInt8.ofNat_toNat
 simpa [e] using h
theorem a8Z (b : UInt8) : (Lib.toLowerD [b]).length ≤ 3 := by
 have h := congrArg List.length (a68 b)
 rw [List.length_map] at h
 rw [h]
 unfold g7
 dsimp only
 repeat' split
 all_goals simp
def a5s : List AS := [.v .str]
/-- how a contract that keeps what lies below becomes ours, where the answer is a string -/
theorem a4y {I : Nat → Prop} {w w' : World} {r : List Int} {sb : ByteArray} {Ok : Res → List Cell → Prop} (hb : Below w.heap.size w w') (hK : Ok (.one (.v .str r)) []) (h1 : VE.bytesOf sb = r) (h2 : sb.size ≤ maxLen) :
  a9R I w [] [] Ok (.returned (.string sb)) w' :=
 .inl ⟨_, rfl, .one (.v .str r), [], fun _ => False, [none], hK, ⟨hb.os, hb.tape, hb.output, hb.size, fun k hk _ => hb.block k hk, a5E hb.block⟩, fun b h => h.elim, fun i b h => by
  cases i with
  | zero => simp at h
  | succ i => simp at h, ⟨none, rfl, rfl, g6.of_one rfl ⟨sb, rfl, h1, h2⟩⟩, trivial⟩
theorem a5H (s : List Int) (hl : s.length = 1) {Ok : Res → List Cell → Prop} (hK : Ok (.one (.v .str (g7 s))) []) :
  a1Q Go.Proofs.Tryz.prog 26 (mkA a5s (s, ())) Ok := by
 intro I w vs bs hI hg ha
 have hlen := ha.length
 obtain ⟨sv, rfl⟩ : ∃ a, vs = [a] := by
  match vs, hlen with
  | [a], _ => exact ⟨a, rfl⟩
 obtain rfl : bs = [] := by
  cases bs with
  | nil => rfl
  | cons b bs => exact ha.2.elim
 obtain ⟨hs, _⟩ := ha
 obtain ⟨cb, rfl, hcb, hm⟩ := g6.str_eq hs
 have hcb : VE.bytesOf cb = s := hcb
 obtain ⟨b, hb⟩ : ∃ b, cb.data.toList = [b] := by
  have h1 : cb.data.toList.length = 1 := by
   have := congrArg List.length hcb
   unfold VE.bytesOf at this
   rw [List.length_map] at this
   omega
  exact List.length_eq_one_iff.1 h1
 have hg := GF.of hg
 have hsz : cb.size < 35184372088832 := by
  have := Lib.size_eq cb
  rw [hb, List.length_singleton] at this; omega
 refine (Go.Proofs.Any.strings_ToLower_any Go.Proofs.lays159 Go.Proofs.bx159 cb w hsz hg.hC hg.hU).mono ?_
 rintro e w' ⟨rfl, hbl⟩
 rw [hb]
 refine a4y hbl hK ?_ ?_
 ·show ((Lib.toLowerD [b]).toArray.toList).map _ = _
  have h2 : s = [(b.toNat : Int)] := by
   rw [← hcb]; unfold VE.bytesOf; rw [hb]; rfl
  rw [h2]
  exact a68 b
 ·have := a8Z b
  have e := Lib.size_eq (⟨(Lib.toLowerD [b]).toArray⟩ : ByteArray)
  rw [List.toList_toArray] at e
  unfold maxLen
  omega
def a3w (v : p0 a5s) (K : Res → List Cell → Prop) : Prop := F2 v.1 ∧ ∀ r : List Int, r = g7 v.1 → K (.one (.v .str r)) []
def a00 : App := specW a5s a3w
theorem a28 : l5 Go.Proofs.Tryz.prog 26 a00 := by
 refine l5.specW fun ags K hs => ?_
 obtain ⟨v, rfl, hP, hK⟩ := R2 _ ags _ hs
 obtain ⟨s, ⟨⟩⟩ := v
 exact .inl ⟨enters_of Go.Proofs.Tryz.func26 (by kernel_rfl), a5H s hP (hK _ rfl)⟩
end Go.VE
namespace Go.VE
def hx (n : Int) : Int := if n < 10 then 48 + n else 87 + n
def wr1 (c : Int) : List Int := if c = 60 then [60, 108, 116, 62] else if c = 32 then [60, 83, 112, 97, 99, 101, 62] else if 32 < c ∧ c < 127 then [c] else [60, 120, hx (c / 16), hx (c % 16), 62]
def wrM (b : List Int) : List Int := b.flatMap wr1
/-- a digit's value, or -1 -/
def hv (c : Int) : Int := if 48 ≤ c ∧ c ≤ 57 then c - 48 else if 97 ≤ c ∧ c ≤ 102 then c - 87 else if 65 ≤ c ∧ c ≤ 70 then c - 55 else -1
/-- a name's byte -/
def nmM (s : List Int) : Option Int :=
 if s = [108, 116] then some 60 else if s = [83, 112, 97, 99, 101] then some 32 else if s = [69, 115, 99] then some 27 else if s = [67, 82] then some 13 else if s = [78, 76] then some 10 else
 if s = [84, 97, 98] then some 9 else if s = [66, 83] then some 8 else if s = [67, 45, 114] then some 18 else if s = [67, 45, 119] then some 23 else if s = [67, 45, 117] then some 21 else
 match s with
 | [120, h, l] => if 0 ≤ hv h ∧ 0 ≤ hv l then some (16 * hv h + hv l) else none
 | _ => none
/-- what stands ahead of the first '>', and what behind it -/
def gtM : List Int → Option (List Int × List Int)
 | [] => none
 | c :: r => if c = 62 then some ([], r) else (gtM r).map fun p => (c :: p.1, p.2)
theorem U6 : ∀ {l : List Int} {n t : List Int}, gtM l = some (n, t) ↔ l = n ++ 62 :: t ∧ 62 ∉ n
 | [], n, t => by simp [gtM]
 | c :: r, n, t => by
  unfold gtM
  by_cases h : c = 62
  ·rw [if_pos h]; subst h
   cases n with
   | nil => simp
   | cons x n =>
    simp only [Option.some.injEq, Prod.mk.injEq, List.nil_eq, reduceCtorEq, false_and, List.cons_append, List.cons.injEq, List.mem_cons, not_or, false_iff, not_and]
    rintro ⟨rfl, _⟩ h; exact absurd rfl h
  ·rw [if_neg h]
   cases n with
   | nil =>
    simp only [Option.map_eq_some_iff, Prod.mk.injEq, reduceCtorEq, false_and, and_false, exists_false, List.nil_append, List.cons.injEq, false_iff]
    rintro ⟨⟨h1, _⟩, _⟩; exact h h1
   | cons x n =>
    simp only [Option.map_eq_some_iff, Prod.mk.injEq, Prod.exists, List.cons.injEq, List.cons_append, List.mem_cons, not_or]
    constructor
    ·rintro ⟨a, b, hab, ⟨rfl, rfl⟩, rfl⟩
     obtain ⟨h1, h2⟩ := U6.1 hab
     exact ⟨⟨rfl, h1⟩, fun e => h e.symm, h2⟩
    ·rintro ⟨⟨rfl, h1⟩, _, h2⟩
     exact ⟨n, t, U6.2 ⟨h1, h2⟩, ⟨rfl, rfl⟩, rfl⟩
theorem a5y {l n t : List Int} (h : gtM l = some (n, t)) : t.length < l.length := by
 obtain ⟨rfl, _⟩ := U6.1 h
 simp only [List.length_append, List.length_cons]; omega
def rdM (l : List Int) : Option (List Int) :=
 match l with
 | [] => some []
 | c :: r => if c < 33 ∨ 126 < c then none else if c ≠ 60 then (rdM r).map (c :: ·) else
  match h : gtM r with
  | none => none
  | some (n, t) => match nmM n with
   | none => none
   | some b => (rdM t).map (b :: ·)
termination_by l.length
decreasing_by
 ·simp
 ·have := a5y h; simp only [List.length_cons]; omega
theorem a3m : rdM [] = some [] := by rw [rdM]
theorem O1 (c : Int) (r : List Int) : rdM (c :: r) = if c < 33 ∨ 126 < c then none else if c ≠ 60 then (rdM r).map (c :: ·) else
  match gtM r with
  | none => none
  | some (n, t) => match nmM n with
   | none => none
   | some b => (rdM t).map (b :: ·) := by
 conv => lhs; rw [rdM]
 split
 ·rfl
 ·split
  ·rfl
  ·split
   ·rename_i h; rw [h]
   ·rename_i n t h; rw [h]
/-- a byte's notation is printable -/
theorem a7g {c x : Int} (h0 : 0 ≤ c) (h1 : c ≤ 255) (hx' : x ∈ wr1 c) : 33 ≤ x ∧ x ≤ 126 := by
 unfold wr1 at hx'
 split at hx'
 ·simp at hx'; omega
 ·split at hx'
  ·simp at hx'; omega
  ·split at hx'
   ·simp at hx'; omega
   ·have hh : ∀ n : Int, 0 ≤ n → n < 16 → 33 ≤ hx n ∧ hx n ≤ 126 := fun n a b => by unfold hx; split <;> omega
    have e1 := hh (c / 16) (by omega) (by omega)
    have e2 := hh (c % 16) (by omega) (by omega)
    simp only [List.mem_cons, List.not_mem_nil, or_false] at hx'
    rcases hx' with h | h | h | h | h <;> subst h <;> omega
theorem a9i {n : Int} (h0 : 0 ≤ n) (h1 : n < 16) : hv (hx n) = n := by
 unfold hx hv
 by_cases h : n < 10
 ·rw [if_pos h, if_pos (by omega)]; omega
 ·rw [if_neg h, if_neg (by omega), if_pos (by omega)]; omega
theorem a9C {c : Int} (h0 : 0 ≤ c) (h1 : c ≤ 255) (t : List Int) : rdM (wr1 c ++ t) = (rdM t).map (c :: ·) := by
 have key : ∀ n : List Int, 62 ∉ n → nmM n = some c → rdM ((60 :: n ++ [62]) ++ t) = (rdM t).map (c :: ·) := by
  intro n hn hm
  have hg : gtM (n ++ 62 :: t) = some (n, t) := U6.2 ⟨rfl, hn⟩
  rw [show (60 :: n ++ [62]) ++ t = 60 :: (n ++ 62 :: t) by simp, O1, if_neg (by omega), if_neg (by simp), hg]
  dsimp only
  rw [hm]
 unfold wr1
 by_cases c1 : c = 60
 ·rw [if_pos c1]; exact key [108, 116] (by decide) (by rw [c1]; decide)
 rw [if_neg c1]
 by_cases c2 : c = 32
 ·rw [if_pos c2]; exact key [83, 112, 97, 99, 101] (by decide) (by rw [c2]; decide)
 rw [if_neg c2]
 by_cases c3 : 32 < c ∧ c < 127
 ·rw [if_pos c3, List.singleton_append, O1, if_neg (by omega), if_pos c1]
 ·rw [if_neg c3]
  have hh : ∀ n : Int, 0 ≤ n → n < 16 → hx n ≠ 62 := fun n a b => by unfold hx; split <;> omega
  have e1 := hh (c / 16) (by omega) (by omega)
  have e2 := hh (c % 16) (by omega) (by omega)
  refine key [120, hx (c / 16), hx (c % 16)] ?_ ?_
  ·simp only [List.mem_cons, List.not_mem_nil, or_false, not_or]
   exact ⟨by decide, fun h => e1 h.symm, fun h => e2 h.symm⟩
  ·unfold nmM
   simp only [List.cons.injEq, reduceCtorEq, and_false, and_true, if_false, show (120 : Int) ≠ 108 by decide, show (120 : Int) ≠ 83 by decide, show (120 : Int) ≠ 69 by decide, show (120 : Int) ≠ 67 by decide, show (120 : Int) ≠ 78 by decide, show (120 : Int) ≠ 84 by decide, show (120 : Int) ≠ 66 by decide, false_and]
   rw [a9i (by omega) (by omega), a9i (by omega) (by omega), if_pos (by omega)]
   congr 1; omega
theorem a8A : ∀ {b : List Int}, (∀ c ∈ b, 0 ≤ c ∧ c ≤ 255) → rdM (wrM b) = some b
 | [], _ => a3m
 | c :: b, h => by
  have hc := h c List.mem_cons_self
  have e : wrM (c :: b) = wr1 c ++ wrM b := by simp [wrM]
  rw [e, a9C hc.1 hc.2, a8A fun x hx => h x (List.mem_cons_of_mem _ hx)]
  rfl
theorem a2R (c : Int) : -1 ≤ hv c ∧ hv c ≤ 15 := by unfold hv; repeat' split <;> omega
theorem a91 {x y : Int} (_ : 0 ≤ hv x ∧ 0 ≤ hv y) : 16 * hv x + hv y ≤ 255 := by
 have := a2R x
 have := a2R y
 omega
theorem a8v {n : List Int} {b : Int} (h : nmM n = some b) : 0 ≤ b ∧ b ≤ 255 := by
 unfold nmM at h
 iterate 10
  split at h
  ·injection h with h; omega
 split at h
 ·split at h
  ·rename_i h2
   injection h with h
   subst h
   have a := a2R
   refine ⟨?_, ?_⟩
   ·omega
   ·exact a91 h2
  ·cases h
 ·cases h
theorem a5A : ∀ (k : Nat) (l b : List Int), l.length ≤ k → rdM l = some b → ∀ c ∈ b, 0 ≤ c ∧ c ≤ 255
 | k, [], b, _, h => by rw [a3m] at h; cases h; simp
 | 0, c :: r, b, hk, _ => by simp at hk
 | k + 1, c :: r, b, hk, h => by
  simp only [List.length_cons] at hk
  rw [O1] at h
  split at h
  ·cases h
  ·rename_i hc
   split at h
   ·rw [Option.map_eq_some_iff] at h
    obtain ⟨b', h1, rfl⟩ := h
    have ih := a5A k r b' (by omega) h1
    intro x hx
    rcases List.mem_cons.1 hx with rfl | hx
    ·omega
    ·exact ih x hx
   ·split at h
    ·cases h
    ·rename_i n t hg
     have := a5y hg
     split at h
     ·cases h
     ·rename_i d hd
      rw [Option.map_eq_some_iff] at h
      obtain ⟨b', h1, rfl⟩ := h
      have ih := a5A k t b' (by omega) h1
      intro x hx
      rcases List.mem_cons.1 hx with rfl | hx
      ·exact a8v hd
      ·exact ih x hx
end Go.VE
