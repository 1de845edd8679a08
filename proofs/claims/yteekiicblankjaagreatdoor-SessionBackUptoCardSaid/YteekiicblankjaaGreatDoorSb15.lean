import Derived.Test.YteekiicblankjaaGreatDoorSb14
import Derived.WalkKit
import Derived.Shelf.Strings.Builder1
import Derived.Shelf.Strings.Split
import Derived.Shelf.Strings.FieldsFuncGrows
import Derived.Shelf.Strconv.Itoa3
import Derived.Deep.LoopGhost
set_option linter.unusedVariables false
set_option linter.unusedSectionVars false
set_option linter.unusedSimpArgs false
namespace Go.Proofs
open Go.Shelf Go.RowKit Go.Lib
set_option maxHeartbeats 8000000 in
set_option maxRecDepth 1000000 in
theorem a7p (n : Int) (w : World) (hE : w.cell? ⟨0, 0, none⟩ = some (.iface 175 (.agg #[.pointer (some ⟨9, 42, none⟩)]))) :
  Calls Tryz.prog 23 #[.iface 26 (.int .i64 n)] w fun e w' => e = .returned (.int .i64 n) ∧ Below w.heap.size w w' := by
 have mixed := Go.VE.tb_M
 have hlt : 0 < w.heap.size := World.block_lt_of_cell? w _ hE
 have hE2 : (w.alloc (.cells #[.int .i64 0] 26)).cell? ⟨0, 0, none⟩ = some (.iface 175 (.agg #[.pointer (some ⟨9, 42, none⟩)])) := by
  rw [World.cell?_alloc_lt _ _ ⟨0, 0, none⟩ hlt]; exact hE
 have hA := a9q n ⟨w.heap.size, 0, none⟩ (.int .i64 0) (w.alloc (.cells #[.int .i64 0] 26)) hE2 (by rw [World.cell?_alloc_at _ _ _ _ (by simp)]; rfl) (by rw [World.frozen?_alloc_at]; rfl)
 go_enter Tryz.func23, Tryz.ntmps23
 go_wp2_with (go_at_call 36; refine hA.mono ?_; rintro e W1 ⟨rfl, rfl⟩)
 go_wp2
 go_ret
 exact ⟨rfl, (((((Below.refl _ w).alloc (Nat.le_refl _) _).alloc (by simp) _).alloc (by simp; omega) _).alloc (by simp; omega) _).alloc (by simp; omega) _⟩
def textB : ByteArray := ⟨#[116, 101, 120, 116]⟩
set_option maxHeartbeats 8000000 in
set_option maxRecDepth 1000000 in
theorem a7v (d A : Nat) (o cap : Nat) (w : World) (hd : w.cell? ⟨d, 0, none⟩ = some (.pointer none)) (hA : w.cell? ⟨A, o, none⟩ = some (.string textB)) :
  Calls Tryz.prog 21 #[.pointer (some ⟨d, 0, none⟩), .slice (some ⟨A, o, none⟩) 1 cap] w fun e w' => e = .returned (.tuple #[.string ⟨#[]⟩, .iface 26 (.int .i64 280)]) ∧ w' = w := by
 have mixed := Go.VE.tb_M
 unfold textB at hA
 go_enter Tryz.func21, Tryz.ntmps21
 go_wp2
 go_ret2
 exact ⟨rfl, rfl⟩
def a52 : Go.Shelf.Ren := ⟨fun | 229 => 19 | n => n, fun | 9 => 9 | 40 => 54 | 31 => 51 | 152 => 62 | 3 => 3 | 0 => 0 | 4 => 4 | 21 => 21 | 154 => 64 | n => n, fun | n => n⟩
theorem a8Y : Lays.n229 Tryz.prog a52 where
 mixed := by kernel_rfl
 f229 := Tryz.func19.trans (congrArg some (by kernel_rfl))
 t0 := Tryz.underlying0
 a0 := Tryz.isAgg0
 z0 := Tryz.sizeOf0
 v0 := Tryz.zeroValue0
 t3 := Tryz.underlying3
 a3 := Tryz.isAgg3
 z3 := Tryz.sizeOf3
 v3 := Tryz.zeroValue3
 t4 := Tryz.underlying4
 a4 := Tryz.isAgg4
 z4 := Tryz.sizeOf4
 v4 := Tryz.zeroValue4
 t9 := Tryz.underlying9
 a9 := Tryz.isAgg9
 z9 := Tryz.sizeOf9
 v9 := Tryz.zeroValue9
 t21 := Tryz.underlying21
 a21 := Tryz.isAgg21
 z21 := Tryz.sizeOf21
 v21 := Tryz.zeroValue21
 t31 := Tryz.underlying51
 a31 := Tryz.isAgg51
 z31 := Tryz.sizeOf51
 v31 := Tryz.zeroValue51
 t40 := Tryz.underlying54
 a40 := Tryz.isAgg54
 z40 := Tryz.sizeOf54
 v40 := Tryz.zeroValue54
 t152 := Tryz.underlying62
 a152 := Tryz.isAgg62
 z152 := Tryz.sizeOf62
 v152 := Tryz.zeroValue62
 t154 := Tryz.underlying64
 a154 := Tryz.isAgg64
 z154 := Tryz.sizeOf64
 v154 := Tryz.zeroValue64
def a50 : Go.Shelf.Ren := ⟨fun | 171 => 22 | 243 => 35 | 246 => 59 | 283 => 91 | 284 => 92 | 285 => 93 | 286 => 94 | 129 => 121 | 317 => 120 | 318 => 122 | 319 => 123 | 320 => 124 | 337 => 161 | 338 => 162 | n => n, fun | 3 => 3 | 9 => 9 | 2 => 2 | 4 => 4 | 171 => 168 | 0 => 0 | 53 => 169 | 37 => 22 | 5 => 5 | 173 => 172 | 212 => 229 | 51 => 186 | 20 => 20 | 213 => 230 | 46 => 46 | 232 => 334 | 233 => 335 | n => n, fun | 17 => 3 | 18 => 6 | 19 => 7 | n => n⟩
theorem a8X : LaysM.n171 Tryz.prog a50 where
 mixed := by kernel_rfl
 f129 := Tryz.func121.trans (congrArg some (by kernel_rfl))
 f171 := Tryz.func22.trans (congrArg some (by kernel_rfl))
 f243 := Tryz.func35.trans (congrArg some (by kernel_rfl))
 f246 := Tryz.func59.trans (congrArg some (by kernel_rfl))
 f283 := Tryz.func91.trans (congrArg some (by kernel_rfl))
 f284 := Tryz.func92.trans (congrArg some (by kernel_rfl))
 f285 := Tryz.func93.trans (congrArg some (by kernel_rfl))
 f286 := Tryz.func94.trans (congrArg some (by kernel_rfl))
 f317 := Tryz.func120.trans (congrArg some (by kernel_rfl))
 f318 := Tryz.func122.trans (congrArg some (by kernel_rfl))
 f319 := Tryz.func123.trans (congrArg some (by kernel_rfl))
 f320 := Tryz.func124.trans (congrArg some (by kernel_rfl))
 f337 := Tryz.func161.trans (congrArg some (by kernel_rfl))
 f338 := Tryz.func162.trans (congrArg some (by kernel_rfl))
 t0 := Tryz.underlying0
 a0 := Tryz.isAgg0
 z0 := Tryz.sizeOf0
 v0 := Tryz.zeroValue0
 t2 := Tryz.underlying2
 a2 := Tryz.isAgg2
 z2 := Tryz.sizeOf2
 v2 := Tryz.zeroValue2
 t3 := Tryz.underlying3
 a3 := Tryz.isAgg3
 z3 := Tryz.sizeOf3
 v3 := Tryz.zeroValue3
 t4 := Tryz.underlying4
 a4 := Tryz.isAgg4
 z4 := Tryz.sizeOf4
 v4 := Tryz.zeroValue4
 t5 := Tryz.underlying5
 a5 := Tryz.isAgg5
 z5 := Tryz.sizeOf5
 v5 := Tryz.zeroValue5
 t9 := Tryz.underlying9
 a9 := Tryz.isAgg9
 z9 := Tryz.sizeOf9
 v9 := Tryz.zeroValue9
 t20 := Tryz.underlying20
 a20 := Tryz.isAgg20
 z20 := Tryz.sizeOf20
 v20 := Tryz.zeroValue20
 t37 := Tryz.underlying22
 a37 := Tryz.isAgg22
 z37 := Tryz.sizeOf22
 v37 := Tryz.zeroValue22
 t46 := Tryz.underlying46
 a46 := Tryz.isAgg46
 z46 := Tryz.sizeOf46
 v46 := Tryz.zeroValue46
 t51 := Tryz.underlying186
 a51 := Tryz.isAgg186
 z51 := Tryz.sizeOf186
 v51 := Tryz.zeroValue186
 t53 := Tryz.underlying169
 a53 := Tryz.isAgg169
 z53 := Tryz.sizeOf169
 v53 := Tryz.zeroValue169
 t171 := Tryz.underlying168
 a171 := Tryz.isAgg168
 z171 := Tryz.sizeOf168
 v171 := Tryz.zeroValue168
 t173 := Tryz.underlying172
 a173 := Tryz.isAgg172
 z173 := Tryz.sizeOf172
 v173 := Tryz.zeroValue172
 t212 := Tryz.underlying229
 a212 := Tryz.isAgg229
 z212 := Tryz.sizeOf229
 v212 := Tryz.zeroValue229
 t213 := Tryz.underlying230
 a213 := Tryz.isAgg230
 z213 := Tryz.sizeOf230
 t232 := Tryz.underlying334
 a232 := Tryz.isAgg334
 z232 := Tryz.sizeOf334
 v232 := Tryz.zeroValue334
 t233 := Tryz.underlying335
 a233 := Tryz.isAgg335
 z233 := Tryz.sizeOf335
 v233 := Tryz.zeroValue335
 g17 := by kernel_rfl
 g18 := by kernel_rfl
 g19 := by kernel_rfl
 i0 := by kernel_rfl
 i2 := by kernel_rfl
 i3 := by kernel_rfl
 i4 := by kernel_rfl
 i5 := by kernel_rfl
 i9 := by kernel_rfl
 i20 := by kernel_rfl
 i37 := by kernel_rfl
 i46 := by kernel_rfl
 i51 := by kernel_rfl
 i53 := by kernel_rfl
 i171 := by kernel_rfl
 i173 := by kernel_rfl
 i212 := by kernel_rfl
 i232 := by kernel_rfl
 i233 := by kernel_rfl
 m17 := by kernel_rfl
 m18 := by kernel_rfl
 m19 := by kernel_rfl
def spP (r : Nat) : Bool := r == 32
set_option maxHeartbeats 8000000 in
set_option maxRecDepth 1000000 in
theorem a7B (w : World) : PredGrows Tryz.prog 20 #[] spP w := by
 intro W x hx hb
 have mixed := Go.VE.tb_M
 show Calls Tryz.prog 20 #[.int .i32 x] W _
 have hd : decide ((x : Int) = 32) = spP x := by
  unfold spP
  by_cases h : x = 32
  ·subst h; rfl
  ·rw [decide_eq_false (by omega)]; symm; simpa using h
 go_enter Tryz.func20, Tryz.ntmps20
 go_wp2
 go_ret
 refine ⟨?_, Below.refl _ W⟩
 rw [← hd]; rfl
theorem a4W : Lib.splitB ⟨#[10]⟩ 0 (Lib.countB textB ⟨#[10]⟩) textB = [textB] ∧ Lib.countB textB ⟨#[10]⟩ = 0 := by decide +kernel
theorem a5S : Lib.goFieldsP spP textB = [textB] := by decide +kernel
theorem b03 (w : World) (D B ob : Obj) : (((w.alloc D).alloc B).alloc ob).heap[w.heap.size + 1]? = some B := by
 show (((w.heap.push D).push B).push ob)[w.heap.size + 1]? = some B
 rw [Array.getElem?_push, if_neg (by rw [Array.size_push, Array.size_push]; omega), Array.getElem?_push, if_pos (by rw [Array.size_push])]
theorem b04 (w : World) (D B ob : Obj) : (((w.alloc D).alloc B).alloc ob).heap[w.heap.size]? = some D := by
 show (((w.heap.push D).push B).push ob)[w.heap.size]? = some D
 rw [Array.getElem?_push, if_neg (by rw [Array.size_push, Array.size_push]; omega), Array.getElem?_push, if_neg (by rw [Array.size_push]; omega), Array.getElem?_push, if_pos rfl]
theorem b05 (w : World) (D B ob : Obj) : w.heap.size + 1 < (((w.alloc D).alloc B).alloc ob).heap.size := by
 show _ < (((w.heap.push D).push B).push ob).size
 rw [Array.size_push, Array.size_push, Array.size_push]; omega
theorem a1S {B B' : Nat} {w w' : World} (h : Below B w w') (hle : B' ≤ B) : Below B' w w' := ⟨h.os, h.tape, h.output, h.size, fun k hk => h.block k (by omega)⟩
theorem a5M (w : World) (q : Nat) (os : Array Obj) : Below w.heap.size w (Sort.grow (w.drewN q) os) :=
 ⟨rfl, rfl, rfl, by show w.heap.size ≤ (w.heap ++ os).size; rw [Array.size_append]; omega, fun i hi => by
  show (w.heap ++ os)[i]? = _
  rw [Array.getElem?_append_left hi]⟩
theorem a8T : Lib.itoa 280 = [50, 56, 48] := by decide +kernel
theorem a6v {B : Nat} {w w' : World} (h : Below B w w') {b o : Nat} (hb : b < B) : w'.cell? ⟨b, o, none⟩ = w.cell? ⟨b, o, none⟩ := h.cell hb
set_option maxHeartbeats 8000000 in
set_option maxRecDepth 1000000 in
theorem run_walk (w : World) (hg : Go.VE.GF w) :
  Calls Tryz.prog 10 #[.string textB] w fun e w' => e = .returned (.string ⟨#[101, 114, 114, 111, 114, 32, 50, 56, 48, 10]⟩) ∧ Below w.heap.size w w' := by
 have mixed := Go.VE.tb_M
 obtain ⟨m, hm⟩ := hg.hM
 have hb2 : Below w.heap.size w ((w.alloc (.cells #[.pointer none] 50)).alloc (.cells #[.pointer none, .slice none 0 0] 40)) := ((Below.refl _ w).alloc (Nat.le_refl _) _).alloc (by simp) _
 have g2 := hg.below hb2
 obtain ⟨m2, hm2⟩ := g2.hM
 have hS := Any.strings_Split a65 (by kernel_rfl) textB ⟨#[10]⟩ m2 _ (by decide) hm2 (by decide)
 rw [a4W.1, a4W.2] at hS
 have hF : ∀ W : World, Calls Tryz.prog 19 #[.string textB, .func (.func 20) #[] #[]] W fun e w' => ∃ A, e = .returned (.slice (some ⟨A, 0, none⟩) 1 1) ∧ W.heap.size ≤ A ∧
   w'.ownsRow W.heap.size 9 1 (.slice (some ⟨A, 0, none⟩) 1 1) 1 [.string textB] ∧ Below W.heap.size W w' := by
  intro W
  have h := Any.strings_FieldsFunc_grows a8Y 20 #[] (Go.VE.enters_of Tryz.func20 (by kernel_rfl)) spP textB W (by decide) (a7B W) (by kernel_rfl) (by kernel_rfl)
  rw [a5S] at h
  exact h
 have b3 : ∀ ob, (((w.alloc (.cells #[.pointer none] 50)).alloc (.cells #[.pointer none, .slice none 0 0] 40)).alloc ob).heap[w.heap.size + 1]? = some (.cells #[.pointer none, .slice none 0 0] 40 (0, 0)) := by
  intro ob
  exact b03 w _ _ ob
 have d3 : ∀ ob, (((w.alloc (.cells #[.pointer none] 50)).alloc (.cells #[.pointer none, .slice none 0 0] 40)).alloc ob).cell? ⟨w.heap.size, 0, none⟩ = some (.pointer none) := by
  intro ob
  rw [Lib.cell_of_heap (b04 w _ _ ob)]; rfl
 have s3 : ∀ ob, w.heap.size + 1 < (((w.alloc (.cells #[.pointer none] 50)).alloc (.cells #[.pointer none, .slice none 0 0] 40)).alloc ob).heap.size := by
  intro ob
  exact b05 w _ _ ob
 have hWB : ∀ W : World, Below w.heap.size w W → Go.VE.GF W := fun W h => hg.below h
 unfold textB at hS hF
 go_enter Tryz.func10, Tryz.ntmps10
 go_wp2_with (go_at_call 18; refine hS.mono ?_; rintro e W1 ⟨rfl, rfl⟩)
 refine wp_loop_rounds 2 ?_
 rw [rounds_succ]
 go_wp2_with (first
  | (
    go_at_call 19; refine (hF _).mono ?_; rintro e W4 ⟨A, rfl, hA, hown, hb4⟩
    have c4 : W4.cell? ⟨A, 0, none⟩ = some (.string ⟨#[116, 101, 120, 116]⟩) := hown.cells rfl 0 _ rfl
    have d4 : W4.cell? ⟨w.heap.size, 0, none⟩ = some (.pointer none) := by
     rw [a6v hb4 (Nat.lt_of_succ_lt (s3 _)), d3]
    have hbw4 : Below w.heap.size w W4 := (hb2.alloc (by simp; omega) _).trans (a1S hb4 (Nat.le_of_lt (Nat.lt_of_succ_lt (s3 _))))
    have b4 : W4.heap[w.heap.size + 1]? = some (.cells #[.pointer none, .slice none 0 0] 40 (0, 0)) := by
     rw [hb4.block _ (s3 _), b3])
  | (go_at_call 21; refine (a7v w.heap.size A 0 1 W4 d4 c4).mono ?_; rintro e w5 ⟨rfl, hw5⟩; rw [hw5])
  | (
    go_at_call 23; refine (a7p 280 W4 (hWB W4 hbw4).hE).mono ?_; rintro e W5 ⟨rfl, hb5⟩
    have hbw5 : Below w.heap.size w W5 := hbw4.trans (a1S hb5 hbw4.size))
  | (
    go_at_call 22; refine (Any.strconv_Itoa a8X 280 (by decide) (by decide) W5 (hWB W5 hbw5).hT).mono ?_; rintro e W6 ⟨rfl, k, os, hW6⟩
    have hb6 : Below W5.heap.size W5 W6 := hW6 ▸ a5M W5 k os
    have hbw6 : Below w.heap.size w W6 := hbw5.trans (a1S hb6 hbw5.size)
    have b6 : W6.heap[w.heap.size + 1]? = some (.cells #[.pointer none, .slice none 0 0] 40 (0, 0)) := by
     have h4 : w.heap.size + 1 < W4.heap.size := (Array.getElem?_eq_some_iff.1 b4).1
     rw [hb6.block _ (Nat.lt_of_lt_of_le h4 hb5.size), hb5.block _ h4, b4]
    clear hW6
    rw [a8T])
  | (go_at_call 15; refine (Any.Builder_WriteString a4l bx159 (w.heap.size + 1) (w.heap.size + 1) [] _ W6 (Or.inl ⟨Nat.le_refl _, .slice none 0 0, b6, World.ownsRow_nil _ _ _ _, by simp [Value.ownBlock]⟩) (by decide) (by have := (Array.getElem?_eq_some_iff.1 b6).1; omega)).mono ?_; rintro e W7 ⟨rfl, h7, hb7⟩))
 rw [rounds_succ]
 go_wp2_with (go_at_call 17; refine (Any.Builder_String_any a66 bx159 (w.heap.size + 1) (w.heap.size + 1) [101, 114, 114, 111, 114, 32, 50, 56, 48, 10] W7 (Or.inr h7) (by have := (Array.getElem?_eq_some_iff.1 b6).1; have := hb7.size; omega)).mono ?_; rintro e W8 ⟨rfl, hb8⟩)
 go_wp2
 go_ret
 exact ⟨rfl, (hbw6.trans (a1S hb7 (by omega))).trans (a1S hb8 (by omega))⟩
end Go.Proofs
namespace Go.VE
open Go Go.RowKit Go.Lib
def a2J (s : List Int) : Prop := s = [116, 101, 120, 116]
def a2I (_ : List Int) : List Int := [101, 114, 114, 111, 114, 32, 50, 56, 48, 10]
theorem a8C {Ok : Res → List Cell → Prop} (hK : Ok (.one (.v .str [101, 114, 114, 111, 114, 32, 50, 56, 48, 10])) []) :
  a1Q Go.Proofs.Tryz.prog 10 (mkA a5s ([116, 101, 120, 116], ())) Ok := by
 intro I w vs bs hI hg ha
 have hlen := ha.length
 obtain ⟨sv, rfl⟩ : ∃ a, vs = [a] := by
  match vs, hlen with
  | [a], _ => exact ⟨a, rfl⟩
 obtain rfl : bs = [] := by
  cases bs with
  | nil => rfl
  | cons b bs => exact ha.2.elim
 obtain ⟨hs, _⟩ := ha
 obtain ⟨cb, rfl, hcb, _⟩ := g6.str_eq hs
 have hcb : VE.bytesOf cb = VE.bytesOf Go.Proofs.textB := hcb
 obtain rfl := a3D hcb
 refine (Go.Proofs.run_walk w (GF.of hg)).mono ?_
 rintro e w' ⟨rfl, hbl⟩
 exact a4y hbl hK rfl (by decide)
def a48 (v : p0 a5s) (K : Res → List Cell → Prop) : Prop := a2J v.1 ∧ ∀ r : List Int, r = a2I v.1 → K (.one (.v .str r)) []
def a2K : App := specW a5s a48
theorem a4Q : l5 Go.Proofs.Tryz.prog 10 a2K := by
 refine l5.specW fun ags K hs => ?_
 obtain ⟨v, rfl, hP, hK⟩ := R2 _ ags _ hs
 obtain ⟨s, ⟨⟩⟩ := v
 have hP : s = [116, 101, 120, 116] := hP
 subst hP
 exact .inl ⟨enters_of Go.Proofs.Tryz.func10 (by kernel_rfl), a8C (hK _ rfl)⟩
end Go.VE
namespace Go.VE
open Go Go.Proofs
--! external 1
--! args S
--! res S
--! import SR
/-! ### quoin/quoinlaw28.awake -/
def a0B : List (Nat × App) := [(8, Q5), (10, a2K)]
theorem a14 : GOk Tryz.prog (O3 a0B) := GOk.cons V2 (GOk.cons a4Q (GOk.nil))
def N6  (K : Res → List Cell → Prop) : Prop :=
 L8 ([(32 : Int)] : List Int) ∧ (
 ∀ (r1 : List Int), r1 = L7 ([(32 : Int)] : List Int) → (
 wfR (.one (.v (.str) r1)) → (
 bif (decide (r1 = ([60, 83, 112, 97, 99, 101, 62] : List Int))) then
 a2J ([116, 101, 120, 116] : List Int) ∧ (
 ∀ (r2 : List Int), r2 = a2I ([116, 101, 120, 116] : List Int) → (
 wfR (.one (.v (.str) r2)) → (
 K (.one (.v (.bool) (decide (r2 = ([101, 114, 114, 111, 114, 32, 50, 56, 48, 10] : List Int))))) [])))
 else
 K (.one (.v (.bool) false)) [])))
def D2 : List AS := []
--! pre 0
def G9 : Bool := true
theorem a2n (K : Res → List Cell → Prop) (_ : wfA D2 ()) (h : ∀ r : Bool, r = G9 → K (.one (.v .bool r)) []) : N6 K := by
 unfold N6
 refine ⟨show (1 : Nat) ≤ 1099511627776 by decide, fun r1 h1 _ => ?_⟩
 subst h1
 refine brb (fun _ => ?_) (fun h => absurd h (by decide))
 refine ⟨rfl, fun r2 h2 _ => ?_⟩
 subst h2
 exact h _ rfl
def a2U (v : p0 D2) (K : Res → List Cell → Prop) : Prop := ∀ r : Bool, r = G9 → K (.one (.v (.bool) r)) []
def Q8 : App := specW D2 a2U
theorem a2o (K : Res → List Cell → Prop) : ∀ v : p0 D2, a3p tb (O3 a0B) [] Tryz.f5 [true] (mkA D2 v) K = N6  K
 | () => by kernel_rfl
set_option maxRecDepth 20000 in
theorem Z6 : l5 Tryz.prog 5 Q8 :=
 l5.specW (a0t ((S9 tb_M a0p a14 (p7.nil) (f := 5) (fn := Tryz.f5) (by kernel_rfl) (by kernel_rfl) (by kernel_rfl) [true])) fun v K hw h => (a2o K v).mpr (a2n  K hw h))
end Go.VE
namespace Go.VE
/-- the reference's names, in their order -/
def rnT : List (List Int × Int) := [([60, 108, 116, 62], 60), ([60, 83, 112, 97, 99, 101, 62], 32), ([60, 69, 115, 99, 62], 27), ([60, 67, 82, 62], 13), ([60, 78, 76, 62], 10), ([60, 84, 97, 98, 62], 9), ([60, 66, 83, 62], 8), ([60, 67, 45, 114, 62], 18), ([60, 67, 45, 119, 62], 23), ([60, 67, 45, 117, 62], 21)]
def rnF : List (List Int × Int) → List Int → Int × Int
 | [], _ => (0, 0)
 | (n, b) :: r, s => if s.take n.length = n then (b, n.length) else rnF r s
/-- one step of the reference at '<': the byte and how many are taken -/
def rsF (s : List Int) : Option (Int × Nat) :=
 match rnF rnT s with
 | (b, n) => if 0 < n then some (b, n.toNat) else
  if s.length < 5 ∨ s.getD 1 0 ≠ 120 ∨ s.getD 4 0 ≠ 62 then none
  else if hv (s.getD 2 0) < 0 ∨ hv (s.getD 3 0) < 0 then none else some (16 * hv (s.getD 2 0) + hv (s.getD 3 0), 5)
/-- the same step, as 'rdM' takes it -/
def psF (r : List Int) : Option (Int × Nat) :=
 match gtM r with
 | none => none
 | some (n, _) => match nmM n with
  | none => none
  | some b => some (b, n.length + 2)
theorem a9h : hv 62 < 0 := by decide
theorem a6m {n s : List Int} : s.take n.length = n ↔ ∃ t, s = n ++ t := by
 constructor
 ·intro h; exact ⟨s.drop n.length, by rw [← List.take_append_drop n.length s]; rw [h]; simp⟩
 ·rintro ⟨t, rfl⟩; simp
theorem a4Y {n r : List Int} {b : Int} (h62 : 62 ∉ n) (hb : nmM n = some b) {t : List Int} (e : r = n ++ 62 :: t) : psF r = some (b, n.length + 2) := by
 unfold psF
 rw [U6.2 ⟨e, h62⟩]
 dsimp only
 rw [hb]
theorem a5C : ∀ {l : List (List Int × Int)} {s : List Int}, rnF l s = (0, 0) ∨ ∃ n b, (n, b) ∈ l ∧ (∃ t, s = n ++ t) ∧ rnF l s = (b, (n.length : Int))
 | [], s => .inl rfl
 | (n, b) :: r, s => by
  unfold rnF
  by_cases h : s.take n.length = n
  ·rw [if_pos h]; exact .inr ⟨n, b, List.mem_cons_self, a6m.1 h, rfl⟩
  ·rw [if_neg h]
   rcases a5C (l := r) (s := s) with h1 | ⟨n', b', h1, h2, h3⟩
   ·exact .inl h1
   ·exact .inr ⟨n', b', List.mem_cons_of_mem _ h1, h2, h3⟩
theorem a7c : ∀ {l : List (List Int × Int)} {s : List Int}, (∀ p ∈ l, p.1 ≠ []) → rnF l s = (0, 0) → ∀ p ∈ l, ¬ ∃ t, s = p.1 ++ t
 | [], s, _, _, p, hp => by cases hp
 | (n, b) :: r, s, hne, h, p, hp => by
  unfold rnF at h
  by_cases h1 : s.take n.length = n
  ·rw [if_pos h1] at h
   have := congrArg Prod.snd h
   have h2 := hne _ List.mem_cons_self
   dsimp only at this h2
   have : n.length = 0 := by omega
   exact absurd (List.length_eq_zero_iff.1 this) h2
  ·rw [if_neg h1] at h
   rcases List.mem_cons.1 hp with rfl | hp
   ·exact fun h => h1 (a6m.2 h)
   ·exact a7c (fun q hq => hne q (List.mem_cons_of_mem _ hq)) h p hp
/-- the ten names, as 'nmM' reads them -/
theorem a9G : ∀ p ∈ rnT, ∃ n, p.1 = 60 :: (n ++ [62]) ∧ 62 ∉ n ∧ nmM n = some p.2 := by
 intro p hp
 unfold rnT at hp
 simp only [List.mem_cons, List.not_mem_nil, or_false] at hp
 rcases hp with rfl | rfl | rfl | rfl | rfl | rfl | rfl | rfl | rfl | rfl
 ·exact ⟨[108, 116], rfl, by decide, by decide⟩
 ·exact ⟨[83, 112, 97, 99, 101], rfl, by decide, by decide⟩
 ·exact ⟨[69, 115, 99], rfl, by decide, by decide⟩
 ·exact ⟨[67, 82], rfl, by decide, by decide⟩
 ·exact ⟨[78, 76], rfl, by decide, by decide⟩
 ·exact ⟨[84, 97, 98], rfl, by decide, by decide⟩
 ·exact ⟨[66, 83], rfl, by decide, by decide⟩
 ·exact ⟨[67, 45, 114], rfl, by decide, by decide⟩
 ·exact ⟨[67, 45, 119], rfl, by decide, by decide⟩
 ·exact ⟨[67, 45, 117], rfl, by decide, by decide⟩
/-- and no other names but digits -/
theorem a8w {n : List Int} {b : Int} (h : nmM n = some b) : (60 :: (n ++ [62]), b) ∈ rnT ∨ ∃ x y, n = [120, x, y] ∧ 0 ≤ hv x ∧ 0 ≤ hv y ∧ b = 16 * hv x + hv y := by
 unfold nmM at h
 iterate 10
  split at h
  ·rename_i hn; injection h with h; subst hn; subst h; exact .inl (by decide)
 split at h
 ·split at h
  ·rename_i hh; injection h with h; exact .inr ⟨_, _, rfl, hh.1, hh.2, h.symm⟩
  ·cases h
 ·cases h
theorem b0q (r : List Int) : rsF (60 :: r) = psF r := by
 unfold rsF
 rcases a5C (l := rnT) (s := 60 :: r) with h | ⟨n, b, hm, ⟨t, ht⟩, h⟩
 ·rw [h]
  dsimp only
  rw [if_neg (by decide)]
  have hno := a7c (by decide) h
  -- none of the names
  have hx : ∀ n b t, gtM r = some (n, t) → nmM n = some b → ∃ x y, n = [120, x, y] ∧ 0 ≤ hv x ∧ 0 ≤ hv y ∧ b = 16 * hv x + hv y := by
   intro n b t hg hn
   rcases a8w hn with h1 | h1
   ·exact absurd ⟨t, by rw [(U6.1 hg).1]; simp⟩ (hno _ h1)
   ·exact h1
  by_cases hc : (60 :: r).length < 5 ∨ (60 :: r).getD 1 0 ≠ 120 ∨ (60 :: r).getD 4 0 ≠ 62
  ·rw [if_pos hc]
   unfold psF
   cases hg : gtM r with
   | none => rfl
   | some p =>
    obtain ⟨n, t⟩ := p
    dsimp only
    cases hn : nmM n with
    | none => rfl
    | some b =>
     obtain ⟨x, y, rfl, _⟩ := hx n b t hg hn
     have := (U6.1 hg).1
     rw [this] at hc
     simp at hc
     omega
  ·rw [if_neg hc]
   simp only [not_or, Nat.not_lt, ne_eq, Decidable.not_not] at hc
   obtain ⟨h5, h1, h4⟩ := hc
   match r, h5, h1, h4 with
   | a :: x :: y :: g :: t, _, h1, h4 =>
    simp only [List.getD_cons_succ, List.getD_cons_zero] at h1 h4 ⊢
    subst h1; subst h4
    by_cases hd : hv x < 0 ∨ hv y < 0
    ·rw [if_pos hd]
     unfold psF
     cases hg : gtM (120 :: x :: y :: 62 :: t) with
     | none => rfl
     | some p =>
      obtain ⟨n, t'⟩ := p
      dsimp only
      cases hn : nmM n with
      | none => rfl
      | some b =>
       obtain ⟨x', y', rfl, q1, q2, _⟩ := hx n b t' hg hn
       have := (U6.1 hg).1
       simp only [List.cons_append, List.nil_append, List.cons.injEq, true_and] at this
       obtain ⟨rfl, rfl, _⟩ := this
       omega
    ·rw [if_neg hd]
     have hn : nmM [120, x, y] = some (16 * hv x + hv y) := by
      unfold nmM
      simp only [List.cons.injEq, reduceCtorEq, and_false, and_true, if_false, show (120 : Int) ≠ 108 by decide, show (120 : Int) ≠ 83 by decide, show (120 : Int) ≠ 69 by decide, show (120 : Int) ≠ 67 by decide, show (120 : Int) ≠ 78 by decide, show (120 : Int) ≠ 84 by decide, show (120 : Int) ≠ 66 by decide, false_and]
      rw [if_pos (by omega)]
     have h62 : (62 : Int) ∉ [120, x, y] := by
      simp only [List.mem_cons, List.not_mem_nil, or_false, not_or]
      refine ⟨by decide, fun e => ?_, fun e => ?_⟩
      ·subst e; exact hd (.inl a9h)
      ·subst e; exact hd (.inr a9h)
     exact (a4Y h62 hn (t := t) rfl).symm
 ·rw [h]
  dsimp only
  obtain ⟨m, hm1, hm2, hm3⟩ := a9G _ hm
  dsimp only at hm1 hm3
  have hl : n.length = m.length + 2 := by rw [hm1]; simp
  rw [if_pos (by omega)]
  rw [hm1] at ht
  simp only [List.cons_append, List.append_assoc, List.cons.injEq, true_and, List.nil_append] at ht
  rw [a4Y hm2 hm3 ht, hl]
  congr 2
/-- reading on behind a step -/
theorem a5B (r : List Int) : rdM (60 :: r) = match psF r with
  | none => none
  | some (b, n) => (rdM ((60 :: r).drop n)).map (b :: ·) := by
 rw [O1, if_neg (by omega), if_neg (by simp)]
 unfold psF
 cases hg : gtM r with
 | none => rfl
 | some p =>
  obtain ⟨n, t⟩ := p
  dsimp only
  cases hn : nmM n with
  | none => rfl
  | some b =>
   dsimp only
   rw [(U6.1 hg).1]
   congr 2
   rw [show (60 :: (n ++ 62 :: t)).drop (n.length + 2) = (n ++ 62 :: t).drop (n.length + 1) from rfl, List.drop_append]
   simp
end Go.VE
namespace Go.VE
open Go Go.Proofs
/-! ### quoin/quoinref28.named -/
def R1 : List (Nat × App) := []
theorem Y6 : GOk Tryz.prog (O3 R1) := GOk.nil
theorem a0l : C1 (p9 Tryz.f11) = true := by kernel_rfl
def j6 : List LS := [.v 0 (.str), .o 4 37 9 (.str), .o 5 45 5 (.int .u8), .v 6 (.int .i64)]
def F1 : List LS := [.v 2 (.int .u8), .v 3 (.int .i64)]
def E0 : List LS := []
def N9 : DX := ⟨none, some F1, [(0, E0)]⟩
def O0 (k : Ex → St → Prop) (x2 : Int) (x3 : Int) : Prop := wfD F1 (x2, x3, ()) → k .ret (mkD 40 F1 (x2, x3, ()))
def M4 (k : Ex → St → Prop) : Prop := wfD E0 () → k (.exit 0) (mkD 40 E0 ())
def F6 (Y : List Int → List (List Int) → List Int → Int → Prop) (kr : Int → Int → Prop) (kx0 : Prop) (s0 : List Int) (names4 : List (List Int)) (bytes5 : List Int) (i6 : Int) : Prop :=
 bif (decide (i6 < (List.length names4 : Int))) then
 bif decide (0 ≤ i6 ∧ i6 < (List.length names4 : Int)) then
 bif (decide ((List.length (rd ([] : List Int) names4 i6) : Int) ≤ (List.length s0 : Int))) then
 bif decide (0 ≤ (List.length (rd ([] : List Int) names4 i6) : Int) ∧ (List.length (rd ([] : List Int) names4 i6) : Int) ≤ (List.length s0 : Int)) then
 bif decide (0 ≤ i6 ∧ i6 < (List.length names4 : Int)) then
 bif (decide ((List.take (Int.toNat (List.length (rd ([] : List Int) names4 i6) : Int)) s0) = (rd ([] : List Int) names4 i6))) then
 bif decide (0 ≤ i6 ∧ i6 < (List.length bytes5 : Int)) then
 kr (rd (0 : Int) bytes5 i6) (List.length (rd ([] : List Int) names4 i6) : Int)
 else False
 else
 Y s0 names4 bytes5 (IntKind.wrap .i64 (i6 + (1 : Int)))
 else False
 else False
 else
 Y s0 names4 bytes5 (IntKind.wrap .i64 (i6 + (1 : Int)))
 else False
 else
 kx0
def u9 (kr : Int → Int → Prop) (kx0 : Prop) : Nat → List Int → List (List Int) → List Int → Int → Prop
 | 0, _, _, _, _ => False
 | n + 1, s0, names4, bytes5, i6 => wfD j6 (s0, names4, bytes5, i6, ()) → F6 (u9 kr kx0 n) kr kx0 s0 names4 bytes5 i6
def a0i : Pce := ex tb (O3 R1) [] (at' (p9 Tryz.f11) [0, 0, 1, 0, 1, 1, 1]) [0, 0, 1, 0, 1, 1, 1]
def a0j (k : Ex → St → Prop) (n : Nat) (v : E1 j6) : Prop := u9 (O0 k) (M4 k) n v.1 v.2.1 v.2.2.1 v.2.2.2.1
theorem a2A (k : Ex → St → Prop) (Y : E1 j6 → Prop) : ∀ v : E1 j6, a0i (mkD 40 j6 v) (lpK 40 j6 N9 k Y) = F6 (fun s0 names4 bytes5 i6 => Y (s0, names4, bytes5, i6, ())) (O0 k) (M4 k) v.1 v.2.1 v.2.2.1 v.2.2.2.1
 | (s0, names4, bytes5, i6, ()) => by kernel_rfl
theorem a0m (k : Ex → St → Prop) : ∀ (n : Nat) (v : E1 j6), lpD 40 j6 N9 a0i k n v = a0j k n v
 | 0, (s0, names4, bytes5, i6, ()) => rfl
 | n + 1, (s0, names4, bytes5, i6, ()) => congrArg (fun Z : Prop => wfD j6 (s0, names4, bytes5, i6, ()) → Z) ((a2A k _ (s0, names4, bytes5, i6, ())).trans (congrArg (fun Y => F6 Y (O0 k) (M4 k) s0 names4 bytes5 i6) (funext fun s0 => funext fun names4 => funext fun bytes5 => funext fun i6 => a0m k n (s0, names4, bytes5, i6, ()))))
def a0h : Pce := fun st k => ckD 40 j6 st fun v => wfD j6 v → ∃ n, a0j k n v
set_option maxRecDepth 20000 in
theorem a2D : N0 Tryz.prog (at' (p9 Tryz.f11) [0, 1, 0, 1, 1, 1]) a0h :=
 (N0.loop (a1a tb_M a0p Y6 (p7.nil) (at' (p9 Tryz.f11) [0, 0, 1, 0, 1, 1, 1]) [0, 0, 1, 0, 1, 1, 1] rfl (V3 a0l [0, 0, 1, 0, 1, 1, 1])) 40 j6 N9).mono fun st k h => a1U h fun v hv hw => (hv hw).elim fun n hn => ⟨n, Eq.mpr (a0m k n v) hn⟩
def a0g : a2N := ([0, 1, 0, 1, 1, 1], a0h) :: []
theorem a2y : p7 Tryz.prog (p9 Tryz.f11) a0g := p7.cons a2D (p7.nil)
def Y7 (s0 : List Int) (K : Res → List Cell → Prop) : Prop :=
 (wfD j6 (s0, ([([60, 108, 116, 62] : List Int), ([60, 83, 112, 97, 99, 101, 62] : List Int), ([60, 69, 115, 99, 62] : List Int), ([60, 67, 82, 62] : List Int), ([60, 78, 76, 62] : List Int), ([60, 84, 97, 98, 62] : List Int), ([60, 66, 83, 62] : List Int), ([60, 67, 45, 114, 62] : List Int), ([60, 67, 45, 119, 62] : List Int), ([60, 67, 45, 117, 62] : List Int)] : List (List Int)), ([(60 : Int), (32 : Int), (27 : Int), (13 : Int), (10 : Int), (9 : Int), (8 : Int), (18 : Int), (23 : Int), (21 : Int)] : List Int), (0 : Int), ()) → ∃ n, u9 (fun (x2 : Int) (x3 : Int) => wfD F1 (x2, x3, ()) → (
 K (.tup [.v (.int .u8) x2, .v (.int .i64) x3]) [])) (wfD E0 () → (
 K (.tup [.v (.int .u8) (0 : Int), .v (.int .i64) (0 : Int)]) [])) n s0 ([([60, 108, 116, 62] : List Int), ([60, 83, 112, 97, 99, 101, 62] : List Int), ([60, 69, 115, 99, 62] : List Int), ([60, 67, 82, 62] : List Int), ([60, 78, 76, 62] : List Int), ([60, 84, 97, 98, 62] : List Int), ([60, 66, 83, 62] : List Int), ([60, 67, 45, 114, 62] : List Int), ([60, 67, 45, 119, 62] : List Int), ([60, 67, 45, 117, 62] : List Int)] : List (List Int)) ([(60 : Int), (32 : Int), (27 : Int), (13 : Int), (10 : Int), (9 : Int), (8 : Int), (18 : Int), (23 : Int), (21 : Int)] : List Int) (0 : Int))
def D5 : List AS := [.v (.str)]
--! pre 1
--! import SP2
def rnN : List (List Int) := [[60, 108, 116, 62], [60, 83, 112, 97, 99, 101, 62], [60, 69, 115, 99, 62], [60, 67, 82, 62], [60, 78, 76, 62], [60, 84, 97, 98, 62], [60, 66, 83, 62], [60, 67, 45, 114, 62], [60, 67, 45, 119, 62], [60, 67, 45, 117, 62]]
def rnB : List Int := [60, 32, 27, 13, 10, 9, 8, 18, 23, 21]
theorem a9F : rnN = rnT.map (·.1) := rfl
theorem a9E : rnB = rnT.map (·.2) := rfl
def U3 (s : List Int) (ns : List (List Int)) (bs : List Int) (i : Int) : Prop := ns = rnN ∧ bs = rnB ∧ i = 0 ∧ s.length ≤ lim
def D9 (s : List Int) (_ : List (List Int)) (_ : List Int) (_ : Int) : (Int × Int) ⊕ Unit := if 0 < (rnF rnT s).2 then .inl (rnF rnT s) else .inr ()
theorem a85 : ∀ p ∈ rnT, 0 < p.1.length := by decide
theorem a0k (kr : Int → Int → Prop) (kx0 : Prop) (s : List Int) (hs : s.length ≤ lim) :
  ∀ (n i : Nat), 10 < n + i → i ≤ 10 → (0 < (rnF (rnT.drop i) s).2 → kr (rnF (rnT.drop i) s).1 (rnF (rnT.drop i) s).2) → (¬ 0 < (rnF (rnT.drop i) s).2 → kx0) → u9 kr kx0 n s rnN rnB (i : Int)
 | 0, i, hn, hi, hr, hx => absurd hn (by omega)
 | n + 1, i, hn, hi, hr, hx => by
  intro _
  unfold F6
  have hlim : lim = 1099511627776 := rfl
  have hl : rnN.length = 10 := rfl
  have hb : rnB.length = 10 := rfl
  refine brn (fun hlt => R6 (by omega) ?_) (fun hge => hx (by rw [List.drop_eq_nil_of_le (show rnT.length ≤ i by show 10 ≤ i; omega)]; exact Int.lt_irrefl 0))
  have hi' : i < rnT.length := by show i < 10; omega
  have e1 : rd ([] : List Int) rnN (i : Int) = rnT[i].1 := by
   unfold rd
   rw [a9F, Int.toNat_natCast, List.getD_eq_getElem?_getD, List.getElem?_map, List.getElem?_eq_getElem hi']; rfl
  have e2 : rd (0 : Int) rnB (i : Int) = rnT[i].2 := by
   unfold rd
   rw [a9E, Int.toNat_natCast, List.getD_eq_getElem?_getD, List.getElem?_map, List.getElem?_eq_getElem hi']; rfl
  have hp := a85 _ (List.getElem_mem hi')
  have next : (rnF (rnT.drop i) s = if s.take rnT[i].1.length = rnT[i].1 then (rnT[i].2, (rnT[i].1.length : Int)) else rnF (rnT.drop (i + 1)) s) := by
   rw [List.drop_eq_getElem_cons hi']; rfl
  rw [e1, e2, Q1 (n := (i : Int) + 1) (by omega) (by omega), show (i : Int) + 1 = ((i + 1 : Nat) : Int) by omega]
  have go : s.take rnT[i].1.length ≠ rnT[i].1 → u9 kr kx0 n s rnN rnB ((i + 1 : Nat) : Int) := fun h => by
   rw [next, if_neg h] at hr hx
   exact a0k kr kx0 s hs n (i + 1) (by omega) (by omega) hr hx
  refine brn (fun hle => R6 (by omega) (R6 (by omega) (brn (fun he => R6 (by omega) ?_) (fun he => ?_)))) (fun hgt => go fun h => ?_)
  ·rw [Int.toNat_natCast] at he
   rw [next, if_pos he] at hr
   exact hr (by omega)
  ·rw [Int.toNat_natCast] at he
   exact go he
  ·have := congrArg List.length h
   rw [List.length_take] at this
   omega
theorem a1x (kr : Int → Int → Prop) (kx0 : Prop) (s : List Int) (ns : List (List Int)) (bs : List Int) (i : Int) (hp : U3 s ns bs i)
  (hr : ∀ q : Int × Int, D9 s ns bs i = .inl q → kr q.1 q.2) (hx : ∀ q : Unit, D9 s ns bs i = .inr q → kx0) : ∃ m, u9 kr kx0 m s ns bs i := by
 obtain ⟨rfl, rfl, rfl, hs⟩ := hp
 refine ⟨11, a0k kr kx0 s hs _ 0 (by omega) (by omega) (fun h => ?_) (fun h => ?_)⟩
 ·exact hr _ (if_pos h)
 ·exact hx () (if_neg h)
def L3 (s0 : List Int) : Prop :=
 U3 s0 ([([60, 108, 116, 62] : List Int), ([60, 83, 112, 97, 99, 101, 62] : List Int), ([60, 69, 115, 99, 62] : List Int), ([60, 67, 82, 62] : List Int), ([60, 78, 76, 62] : List Int), ([60, 84, 97, 98, 62] : List Int), ([60, 66, 83, 62] : List Int), ([60, 67, 45, 114, 62] : List Int), ([60, 67, 45, 119, 62] : List Int), ([60, 67, 45, 117, 62] : List Int)] : List (List Int)) ([(60 : Int), (32 : Int), (27 : Int), (13 : Int), (10 : Int), (9 : Int), (8 : Int), (18 : Int), (23 : Int), (21 : Int)] : List Int) (0 : Int)
def D6 (s0 : List Int) : Int × Int :=
 Sum.elim (fun q0r =>
 let x2 : Int := q0r.1
 let x3 : Int := q0r.2
 (x2, x3)) (fun q0x0 =>
 ((0 : Int), (0 : Int))) (D9 s0 ([([60, 108, 116, 62] : List Int), ([60, 83, 112, 97, 99, 101, 62] : List Int), ([60, 69, 115, 99, 62] : List Int), ([60, 67, 82, 62] : List Int), ([60, 78, 76, 62] : List Int), ([60, 84, 97, 98, 62] : List Int), ([60, 66, 83, 62] : List Int), ([60, 67, 45, 114, 62] : List Int), ([60, 67, 45, 119, 62] : List Int), ([60, 67, 45, 117, 62] : List Int)] : List (List Int)) ([(60 : Int), (32 : Int), (27 : Int), (13 : Int), (10 : Int), (9 : Int), (8 : Int), (18 : Int), (23 : Int), (21 : Int)] : List Int) (0 : Int))
set_option maxRecDepth 20000 in
theorem a2B (s0 : List Int) (K : Res → List Cell → Prop) (_ : wfA D5 (s0, ())) (hp : L3 s0) (h : ∀ r : Int × Int, r = D6 s0 → K (.tup [.v (.int .u8) r.1, .v (.int .i64) r.2]) []) : Y7 s0 K :=
 fun _ => a1x _ _ _ _ _ _ hp
 (fun _ e _ => have h := sl e h; h _ rfl)
 (fun _ e _ => have h := sr e h; h _ rfl)
def a26 (v : p0 D5) (K : Res → List Cell → Prop) : Prop := L3 v.1 ∧ ∀ r : Int × Int, r = D6 v.1 → K (.tup [.v (.int .u8) r.1, .v (.int .i64) r.2]) []
def a0L : App := specW D5 a26
theorem a2C (K : Res → List Cell → Prop) : ∀ v : p0 D5, a3p tb (O3 R1) a0g Tryz.f11 [true, true] (mkA D5 v) K = Y7 v.1 K
 | (s0, ()) => by kernel_rfl
set_option maxRecDepth 20000 in
theorem a2z : l5 Tryz.prog 11 a0L :=
 l5.specW (a0t ((S9 tb_M a0p Y6 (a2y) (f := 11) (fn := Tryz.f11) (by kernel_rfl) (by kernel_rfl) a0l [true, true])) fun v K hw h => (a2C K v).mpr (a2B v.1 K hw h.1 h.2))
/-! ### quoin/quoinref28.digit -/
def a0J : List (Nat × App) := []
theorem a15 : GOk Tryz.prog (O3 a0J) := GOk.nil
def Y5 (c0 : Int) (K : Res → List Cell → Prop) : Prop :=
 bif (decide ((48 : Int) ≤ c0)) then
 bif (decide (c0 ≤ (57 : Int))) then
 K (.one (.v (.int .i64) (IntKind.wrap .i64 (IntKind.wrap .u8 (c0 - (48 : Int)))))) []
 else
 bif (decide ((97 : Int) ≤ c0)) then
 bif (decide (c0 ≤ (102 : Int))) then
 K (.one (.v (.int .i64) (IntKind.wrap .i64 ((IntKind.wrap .i64 (IntKind.wrap .u8 (c0 - (97 : Int)))) + (10 : Int))))) []
 else
 bif (decide ((65 : Int) ≤ c0)) then
 bif (decide (c0 ≤ (70 : Int))) then
 K (.one (.v (.int .i64) (IntKind.wrap .i64 ((IntKind.wrap .i64 (IntKind.wrap .u8 (c0 - (65 : Int)))) + (10 : Int))))) []
 else
 K (.one (.v (.int .i64) (-1 : Int))) []
 else
 K (.one (.v (.int .i64) (-1 : Int))) []
 else
 bif (decide ((65 : Int) ≤ c0)) then
 bif (decide (c0 ≤ (70 : Int))) then
 K (.one (.v (.int .i64) (IntKind.wrap .i64 ((IntKind.wrap .i64 (IntKind.wrap .u8 (c0 - (65 : Int)))) + (10 : Int))))) []
 else
 K (.one (.v (.int .i64) (-1 : Int))) []
 else
 K (.one (.v (.int .i64) (-1 : Int))) []
 else
 bif (decide ((97 : Int) ≤ c0)) then
 bif (decide (c0 ≤ (102 : Int))) then
 K (.one (.v (.int .i64) (IntKind.wrap .i64 ((IntKind.wrap .i64 (IntKind.wrap .u8 (c0 - (97 : Int)))) + (10 : Int))))) []
 else
 bif (decide ((65 : Int) ≤ c0)) then
 bif (decide (c0 ≤ (70 : Int))) then
 K (.one (.v (.int .i64) (IntKind.wrap .i64 ((IntKind.wrap .i64 (IntKind.wrap .u8 (c0 - (65 : Int)))) + (10 : Int))))) []
 else
 K (.one (.v (.int .i64) (-1 : Int))) []
 else
 K (.one (.v (.int .i64) (-1 : Int))) []
 else
 bif (decide ((65 : Int) ≤ c0)) then
 bif (decide (c0 ≤ (70 : Int))) then
 K (.one (.v (.int .i64) (IntKind.wrap .i64 ((IntKind.wrap .i64 (IntKind.wrap .u8 (c0 - (65 : Int)))) + (10 : Int))))) []
 else
 K (.one (.v (.int .i64) (-1 : Int))) []
 else
 K (.one (.v (.int .i64) (-1 : Int))) []
def D4 : List AS := [.v (.int .u8)]
def B5 (c0 : Int) : Int :=
 bif (decide ((48 : Int) ≤ c0)) then
 bif (decide (c0 ≤ (57 : Int))) then
 (IntKind.wrap .i64 (IntKind.wrap .u8 (c0 - (48 : Int))))
 else
 bif (decide ((97 : Int) ≤ c0)) then
 bif (decide (c0 ≤ (102 : Int))) then
 (IntKind.wrap .i64 ((IntKind.wrap .i64 (IntKind.wrap .u8 (c0 - (97 : Int)))) + (10 : Int)))
 else
 bif (decide ((65 : Int) ≤ c0)) then
 bif (decide (c0 ≤ (70 : Int))) then
 (IntKind.wrap .i64 ((IntKind.wrap .i64 (IntKind.wrap .u8 (c0 - (65 : Int)))) + (10 : Int)))
 else
 (-1 : Int)
 else
 (-1 : Int)
 else
 bif (decide ((65 : Int) ≤ c0)) then
 bif (decide (c0 ≤ (70 : Int))) then
 (IntKind.wrap .i64 ((IntKind.wrap .i64 (IntKind.wrap .u8 (c0 - (65 : Int)))) + (10 : Int)))
 else
 (-1 : Int)
 else
 (-1 : Int)
 else
 bif (decide ((97 : Int) ≤ c0)) then
 bif (decide (c0 ≤ (102 : Int))) then
 (IntKind.wrap .i64 ((IntKind.wrap .i64 (IntKind.wrap .u8 (c0 - (97 : Int)))) + (10 : Int)))
 else
 bif (decide ((65 : Int) ≤ c0)) then
 bif (decide (c0 ≤ (70 : Int))) then
 (IntKind.wrap .i64 ((IntKind.wrap .i64 (IntKind.wrap .u8 (c0 - (65 : Int)))) + (10 : Int)))
 else
 (-1 : Int)
 else
 (-1 : Int)
 else
 bif (decide ((65 : Int) ≤ c0)) then
 bif (decide (c0 ≤ (70 : Int))) then
 (IntKind.wrap .i64 ((IntKind.wrap .i64 (IntKind.wrap .u8 (c0 - (65 : Int)))) + (10 : Int)))
 else
 (-1 : Int)
 else
 (-1 : Int)
set_option maxRecDepth 20000 in
theorem a2w (c0 : Int) (K : Res → List Cell → Prop) (_ : wfA D4 (c0, ())) (h : ∀ r : Int, r = B5 c0 → K (.one (.v (.int .i64) r)) []) : Y5 c0 K :=
 br0 h (fun _ h => br0 h (fun _ h => h _ rfl)
 fun _ h => br0 h (fun _ h => br0 h (fun _ h => h _ rfl)
 fun _ h => br0 h (fun _ h => br0 h (fun _ h => h _ rfl)
 fun _ h => h _ rfl)
 fun _ h => h _ rfl)
 fun _ h => br0 h (fun _ h => br0 h (fun _ h => h _ rfl)
 fun _ h => h _ rfl)
 fun _ h => h _ rfl)
 fun _ h => br0 h (fun _ h => br0 h (fun _ h => h _ rfl)
 fun _ h => br0 h (fun _ h => br0 h (fun _ h => h _ rfl)
 fun _ h => h _ rfl)
 fun _ h => h _ rfl)
 fun _ h => br0 h (fun _ h => br0 h (fun _ h => h _ rfl)
 fun _ h => h _ rfl)
 fun _ h => h _ rfl
def a24 (v : p0 D4) (K : Res → List Cell → Prop) : Prop := ∀ r : Int, r = B5 v.1 → K (.one (.v (.int .i64) r)) []
def a0K : App := specW D4 a24
theorem a2x (K : Res → List Cell → Prop) : ∀ v : p0 D4, a3p tb (O3 a0J) [] Tryz.f12 [true] (mkA D4 v) K = Y5 v.1 K
 | (c0, ()) => by kernel_rfl
set_option maxRecDepth 20000 in
theorem a2v : l5 Tryz.prog 12 a0K :=
 l5.specW (a0t ((S9 tb_M a0p a15 (p7.nil) (f := 12) (fn := Tryz.f12) (by kernel_rfl) (by kernel_rfl) (by kernel_rfl) [true])) fun v K hw h => (a2x K v).mpr (a2w v.1 K hw h))
end Go.VE
namespace Go.VE
open Go
theorem a7q : ∀ n : Fin 256, B5 (n.val : Int) = hv (n.val : Int) := by decide +kernel
theorem a5Q {c : Int} (h0 : 0 ≤ c) (h1 : c ≤ 255) : B5 c = hv c := by
 have := a7q ⟨c.toNat, by omega⟩
 simpa [Int.toNat_of_nonneg h0] using this
theorem a7D (s : List Int) (hs : s.length ≤ lim) : L3 s ∧ D6 s = if 0 < (rnF rnT s).2 then rnF rnT s else (0, 0) := by
 refine ⟨⟨rfl, rfl, rfl, hs⟩, ?_⟩
 unfold D6 D9
 split <;> rfl
end Go.VE
namespace Go.VE
open Go Go.Proofs
/-! ### quoin/quoinref28.Read -/
def S8 : List (Nat × App) := [(11, a0L), (12, a0K)]
theorem Z7 : GOk Tryz.prog (O3 S8) := GOk.cons a2z (GOk.cons a2v (GOk.nil))
theorem a0G : C1 (p9 Tryz.f6) = true := by kernel_rfl
def j7 : List LS := [.v 0 (.str), .o 4 37 5 (.int .u8), .v 5 (.int .i64)]
def F4 : List LS := [.o 2 21 5 (.int .u8), .v 3 (.int .i64)]
def F0 : List LS := [.o 4 37 5 (.int .u8)]
def P5 : DX := ⟨none, some F4, [(0, F0)]⟩
def P6 (k : Ex → St → Prop) (x2 : List Int) (x3 : Int) : Prop := wfD F4 (x2, x3, ()) → k .ret (mkD 94 F4 (x2, x3, ()))
def N7 (k : Ex → St → Prop) (out4 : List Int) : Prop := wfD F0 (out4, ()) → k (.exit 0) (mkD 94 F0 (out4, ()))
def L0 (Y : List Int → List Int → Int → Prop) (kr : List Int → Int → Prop) (kx0 : List Int → Prop) (s0 : List Int) (out4 : List Int) (i5 : Int) : Prop :=
 bif (decide (i5 < (List.length s0 : Int))) then
 bif decide (0 ≤ i5 ∧ i5 < (List.length s0 : Int)) then
 bif (decide ((rd (0 : Int) s0 i5) < (33 : Int))) then
 kr ([] : List Int) (280 : Int)
 else
 bif (decide ((126 : Int) < (rd (0 : Int) s0 i5))) then
 kr ([] : List Int) (280 : Int)
 else
 bif (!decide ((rd (0 : Int) s0 i5) = (60 : Int))) then
 bif decide (List.length out4 + List.length ([(rd (0 : Int) s0 i5)] : List Int) ≤ lim) then
 Y s0 (out4 ++ ([(rd (0 : Int) s0 i5)] : List Int)) (IntKind.wrap .i64 (i5 + (1 : Int)))
 else False
 else
 bif decide (0 ≤ i5 ∧ i5 ≤ (List.length s0 : Int)) then
 L3 (List.drop (Int.toNat i5) s0) ∧ (
 ∀ (r1 : Int × Int), r1 = D6 (List.drop (Int.toNat i5) s0) → (
 wfR (.tup [.v (.int .u8) r1.1, .v (.int .i64) r1.2]) → (
 bif (decide ((0 : Int) < r1.2)) then
 bif decide (List.length out4 + List.length ([r1.1] : List Int) ≤ lim) then
 Y s0 (out4 ++ ([r1.1] : List Int)) (IntKind.wrap .i64 (i5 + r1.2))
 else False
 else
 bif (decide ((List.length s0 : Int) < (IntKind.wrap .i64 (i5 + (5 : Int))))) then
 kr ([] : List Int) (280 : Int)
 else
 bif decide (0 ≤ (IntKind.wrap .i64 (i5 + (1 : Int))) ∧ (IntKind.wrap .i64 (i5 + (1 : Int))) < (List.length s0 : Int)) then
 bif (!decide ((rd (0 : Int) s0 (IntKind.wrap .i64 (i5 + (1 : Int)))) = (120 : Int))) then
 kr ([] : List Int) (280 : Int)
 else
 bif decide (0 ≤ (IntKind.wrap .i64 (i5 + (4 : Int))) ∧ (IntKind.wrap .i64 (i5 + (4 : Int))) < (List.length s0 : Int)) then
 bif (!decide ((rd (0 : Int) s0 (IntKind.wrap .i64 (i5 + (4 : Int)))) = (62 : Int))) then
 kr ([] : List Int) (280 : Int)
 else
 bif decide (0 ≤ (IntKind.wrap .i64 (i5 + (2 : Int))) ∧ (IntKind.wrap .i64 (i5 + (2 : Int))) < (List.length s0 : Int)) then
 ∀ (r2 : Int), r2 = B5 (rd (0 : Int) s0 (IntKind.wrap .i64 (i5 + (2 : Int)))) → (
 wfR (.one (.v (.int .i64) r2)) → (
 bif decide (0 ≤ (IntKind.wrap .i64 (i5 + (3 : Int))) ∧ (IntKind.wrap .i64 (i5 + (3 : Int))) < (List.length s0 : Int)) then
 ∀ (r3 : Int), r3 = B5 (rd (0 : Int) s0 (IntKind.wrap .i64 (i5 + (3 : Int)))) → (
 wfR (.one (.v (.int .i64) r3)) → (
 bif (decide (r2 < (0 : Int))) then
 kr ([] : List Int) (280 : Int)
 else
 bif (decide (r3 < (0 : Int))) then
 kr ([] : List Int) (280 : Int)
 else
 bif decide (List.length out4 + List.length ([(IntKind.wrap .u8 (IntKind.wrap .i64 ((IntKind.wrap .i64 ((16 : Int) * r2)) + r3)))] : List Int) ≤ lim) then
 Y s0 (out4 ++ ([(IntKind.wrap .u8 (IntKind.wrap .i64 ((IntKind.wrap .i64 ((16 : Int) * r2)) + r3)))] : List Int)) (IntKind.wrap .i64 (i5 + (5 : Int)))
 else False))
 else False))
 else False
 else False
 else False)))
 else False
 else False
 else
 kx0 out4
def B4 (kr : List Int → Int → Prop) (kx0 : List Int → Prop) : Nat → List Int → List Int → Int → Prop
 | 0, _, _, _ => False
 | n + 1, s0, out4, i5 => wfD j7 (s0, out4, i5, ()) → L0 (B4 kr kx0 n) kr kx0 s0 out4 i5
def a0E : Pce := ex tb (O3 S8) [] (at' (p9 Tryz.f6) [0, 0, 1, 0, 1, 1]) [0, 0, 1, 0, 1, 1]
def a0F (k : Ex → St → Prop) (n : Nat) (v : E1 j7) : Prop := B4 (P6 k) (N7 k) n v.1 v.2.1 v.2.2.1
theorem a2X (k : Ex → St → Prop) (Y : E1 j7 → Prop) : ∀ v : E1 j7, a0E (mkD 94 j7 v) (lpK 94 j7 P5 k Y) = L0 (fun s0 out4 i5 => Y (s0, out4, i5, ())) (P6 k) (N7 k) v.1 v.2.1 v.2.2.1
 | (s0, out4, i5, ()) => by kernel_rfl
theorem a0H (k : Ex → St → Prop) : ∀ (n : Nat) (v : E1 j7), lpD 94 j7 P5 a0E k n v = a0F k n v
 | 0, (s0, out4, i5, ()) => rfl
 | n + 1, (s0, out4, i5, ()) => congrArg (fun Z : Prop => wfD j7 (s0, out4, i5, ()) → Z) ((a2X k _ (s0, out4, i5, ())).trans (congrArg (fun Y => L0 Y (P6 k) (N7 k) s0 out4 i5) (funext fun s0 => funext fun out4 => funext fun i5 => a0H k n (s0, out4, i5, ()))))
def a0D : Pce := fun st k => ckD 94 j7 st fun v => wfD j7 v → ∃ n, a0F k n v
set_option maxRecDepth 20000 in
theorem a22 : N0 Tryz.prog (at' (p9 Tryz.f6) [0, 1, 0, 1, 1]) a0D :=
 (N0.loop (a1a tb_M a0p Z7 (p7.nil) (at' (p9 Tryz.f6) [0, 0, 1, 0, 1, 1]) [0, 0, 1, 0, 1, 1] rfl (V3 a0G [0, 0, 1, 0, 1, 1])) 94 j7 P5).mono fun st k h => a1U h fun v hv hw => (hv hw).elim fun n hn => ⟨n, Eq.mpr (a0H k n v) hn⟩
def a0C : a2N := ([0, 1, 0, 1, 1], a0D) :: []
theorem a2V : p7 Tryz.prog (p9 Tryz.f6) a0C := p7.cons a22 (p7.nil)
def Z8 (s0 : List Int) (K : Res → List Cell → Prop) : Prop :=
 (wfD j7 (s0, ([] : List Int), (0 : Int), ()) → ∃ n, B4 (fun (x2 : List Int) (x3 : Int) => wfD F4 (x2, x3, ()) → (
 K (.tup [.fr 5 (.int .u8) x2, .v (.int .i64) x3]) [])) (fun (out4 : List Int) => wfD F0 (out4, ()) → (
 K (.tup [.fr 5 (.int .u8) out4, .v (.int .i64) (0 : Int)]) [])) n s0 ([] : List Int) (0 : Int))
def E8 : List AS := [.v (.str)]
--! pre 1
--! import SP3
def Y2 (s out : List Int) (i : Int) : Prop := out = [] ∧ i = 0 ∧ s.length + 10 ≤ lim ∧ ∀ x ∈ s, 0 ≤ x ∧ x ≤ 255
def u3 (s _ : List Int) (_ : Int) : (List Int × Int) ⊕ List Int := match rdM s with
 | none => .inl ([], 280)
 | some t => .inr t
theorem a9H {l : List (List Int × Int)} {s : List Int} (h : 0 < (rnF l s).2) : (rnF l s).2 ≤ s.length := by
 rcases a5C (l := l) (s := s) with h1 | ⟨n, b, _, ⟨t, ht⟩, h1⟩
 ·rw [h1] at h; exact absurd h (by decide)
 ·rw [h1, ht]
  simp only [List.length_append]
  omega
theorem Q9 (kr : List Int → Int → Prop) (kx0 : List Int → Prop) (s : List Int) (hs : s.length + 10 ≤ lim) (hb : ∀ x ∈ s, 0 ≤ x ∧ x ≤ 255) :
  ∀ (n i : Nat) (out : List Int), s.length < n + i → i ≤ s.length → out.length ≤ i → (rdM (s.drop i) = none → kr [] 280) → (∀ t, rdM (s.drop i) = some t → kx0 (out ++ t)) → B4 kr kx0 n s out (i : Int)
 | 0, i, out, hn, hi, ho, hr, hx => absurd hn (by omega)
 | n + 1, i, out, hn, hi, ho, hr, hx => by
  intro _
  unfold L0
  have hlim : lim = 1099511627776 := rfl
  refine brn (fun hlt => R6 (by omega) ?_) (fun hge => ?_)
  rotate_left
  ·have := hx [] (by rw [List.drop_eq_nil_of_le (by omega)]; exact a3m)
   simpa using this
  have hi' : i < s.length := by omega
  have at' : ∀ k : Nat, rd (0 : Int) s ((i + k : Nat) : Int) = (s.drop i).getD k 0 := fun k => by
   unfold rd; rw [Int.toNat_natCast, List.getD_eq_getElem?_getD, List.getD_eq_getElem?_getD, List.getElem?_drop]
  have hc : rd (0 : Int) s (i : Int) = s[i] := by
   unfold rd; rw [Int.toNat_natCast, List.getD_eq_getElem?_getD, List.getElem?_eq_getElem hi']; rfl
  have w : ∀ k : Nat, k ≤ 10 → IntKind.wrap .i64 ((i : Int) + k) = ((i + k : Nat) : Int) := fun k hk => by rw [Q1 (by omega) (by omega)]; omega
  have w1 : IntKind.wrap .i64 ((i : Int) + 1) = ((i + 1 : Nat) : Int) := w 1 (by omega)
  have w2 : IntKind.wrap .i64 ((i : Int) + 2) = ((i + 2 : Nat) : Int) := w 2 (by omega)
  have w3 : IntKind.wrap .i64 ((i : Int) + 3) = ((i + 3 : Nat) : Int) := w 3 (by omega)
  have w4 : IntKind.wrap .i64 ((i : Int) + 4) = ((i + 4 : Nat) : Int) := w 4 (by omega)
  have w5 : IntKind.wrap .i64 ((i : Int) + 5) = ((i + 5 : Nat) : Int) := w 5 (by omega)
  have hd : s.drop i = s[i] :: s.drop (i + 1) := List.drop_eq_getElem_cons hi'
  rw [hc, w1, w2, w3, w4, w5]
  generalize hcc : s[i] = c at hd
  refine brn (fun h => hr (by rw [hd, O1, if_pos (.inl h)])) (fun h1 => brn (fun h => hr (by rw [hd, O1, if_pos (.inr h)])) (fun h2 => ?_))
  have hlow : ¬ (c < 33 ∨ 126 < c) := by omega
  refine brx (fun h60 => R6 (by simp only [List.length_cons, List.length_nil]; omega) ?_) (fun h60 => ?_)
  ·have e : rdM (s.drop i) = (rdM (s.drop (i + 1))).map (c :: ·) := by rw [hd, O1, if_neg hlow, if_pos h60]
   refine Q9 kr kx0 s hs hb n (i + 1) _ (by omega) (by omega) (by simp only [List.length_append, List.length_cons, List.length_nil]; omega) (fun h => hr (by rw [e, h]; rfl)) (fun t h => ?_)
   have := hx (c :: t) (by rw [e, h]; rfl)
   simpa using this
  ·subst h60
   have e : rdM (s.drop i) = match rsF (s.drop i) with
     | none => none
     | some (b, k) => (rdM (s.drop (i + k))).map (b :: ·) := by
    rw [hd, a5B, b0q]
    cases psF (s.drop (i + 1)) with
    | none => rfl
    | some p =>
     dsimp only
     rw [← hd, List.drop_drop]
   have hl : (s.drop i).length = s.length - i := List.length_drop
   obtain ⟨np, nf⟩ := a7D (s.drop i) (by omega)
   have step : ∀ (b : Int) (k : Nat), rsF (s.drop i) = some (b, k) → 0 < k → i + k ≤ s.length → B4 kr kx0 n s (out ++ [b]) ((i + k : Nat) : Int) := fun b k h hk hik => by
    rw [h] at e
    dsimp only at e
    refine Q9 kr kx0 s hs hb n (i + k) _ (by omega) hik (by simp only [List.length_append, List.length_cons, List.length_nil]; omega) (fun h => hr (by rw [e, h]; rfl)) (fun t h => ?_)
    have := hx (b :: t) (by rw [e, h]; rfl)
    simpa using this
   have none' : rsF (s.drop i) = none → kr [] 280 := fun h => hr (by rw [e, h])
   refine R6 (by omega) ?_
   rw [Int.toNat_natCast]
   refine ⟨np, fun r1 h1 _ => ?_⟩
   rw [nf] at h1
   by_cases hpos : 0 < (rnF rnT (s.drop i)).2
   ·rw [if_pos hpos] at h1
    subst h1
    have hle := a9H hpos
    rw [hl] at hle
    refine brb (fun _ => R6 (by simp only [List.length_cons, List.length_nil]; omega) ?_) (fun h => absurd (decide_eq_true hpos) (by rw [h]; decide))
    have e1 : rsF (s.drop i) = some ((rnF rnT (s.drop i)).1, (rnF rnT (s.drop i)).2.toNat) := by
     unfold rsF
     dsimp only
     rw [if_pos hpos]
    have := step _ _ e1 (by omega) (by omega)
    rw [Q1 (by omega) (by omega), show (i : Int) + (rnF rnT (s.drop i)).2 = ((i + (rnF rnT (s.drop i)).2.toNat : Nat) : Int) by omega]
    exact this
   ·rw [if_neg hpos] at h1
    subst h1
    refine brb (fun h => absurd h (by decide)) (fun _ => ?_)
    have base : rsF (s.drop i) = if (s.drop i).length < 5 ∨ (s.drop i).getD 1 0 ≠ 120 ∨ (s.drop i).getD 4 0 ≠ 62 then none
      else if hv ((s.drop i).getD 2 0) < 0 ∨ hv ((s.drop i).getD 3 0) < 0 then none else some (16 * hv ((s.drop i).getD 2 0) + hv ((s.drop i).getD 3 0), 5) := by
     unfold rsF
     dsimp only
     rw [if_neg hpos]
    refine brn (fun h5 => none' (by rw [base, if_pos (.inl (by omega))])) (fun h5 => R6 (by omega) ?_)
    rw [at' 1, at' 2, at' 3, at' 4]
    refine brx (fun h => none' (by rw [base, if_pos (.inr (.inl h))])) (fun hx1 => R6 (by omega) ?_)
    refine brx (fun h => none' (by rw [base, if_pos (.inr (.inr h))])) (fun hx4 => R6 (by omega) ?_)
    rw [if_neg (by rw [hx1, hx4]; simp; omega)] at base
    have byte : ∀ k : Nat, i + k < s.length → 0 ≤ (s.drop i).getD k 0 ∧ (s.drop i).getD k 0 ≤ 255 := fun k hk => by
     rw [List.getD_eq_getElem?_getD, List.getElem?_drop, List.getElem?_eq_getElem hk]
     exact hb _ (List.getElem_mem hk)
    obtain ⟨a2, a3⟩ := byte 2 (by omega)
    obtain ⟨a4, a5⟩ := byte 3 (by omega)
    rw [a5Q a2 a3, a5Q a4 a5]
    have r2 := a2R ((s.drop i).getD 2 0)
    have r3 := a2R ((s.drop i).getD 3 0)
    intro d2 g2 _
    refine R6 (by omega) ?_
    intro d3 g3 _
    subst g2
    subst g3
    refine brn (fun h => none' (by rw [base, if_pos (.inl h)])) (fun h6 => brn (fun h => none' (by rw [base, if_pos (.inr h)])) (fun h7 => R6 (by simp only [List.length_cons, List.length_nil]; omega) ?_))
    rw [if_neg (by omega)] at base
    have e5 : IntKind.wrap .u8 (IntKind.wrap .i64 (IntKind.wrap .i64 (16 * hv ((s.drop i).getD 2 0)) + hv ((s.drop i).getD 3 0))) = 16 * hv ((s.drop i).getD 2 0) + hv ((s.drop i).getD 3 0) := by
     rw [Q1 (n := 16 * hv ((s.drop i).getD 2 0)) (by omega) (by omega), Q1 (by omega) (by omega)]
     show (_ : Int) % (2 ^ 8 : Int) = _
     omega
    rw [e5]
    exact step _ 5 base (by omega) (by omega)
theorem a1O (kr : List Int → Int → Prop) (kx0 : List Int → Prop) (s out : List Int) (i : Int) (hp : Y2 s out i)
  (hr : ∀ q : List Int × Int, u3 s out i = .inl q → kr q.1 q.2) (hx : ∀ q : List Int, u3 s out i = .inr q → kx0 q) : ∃ m, B4 kr kx0 m s out i := by
 obtain ⟨rfl, rfl, hs, hb⟩ := hp
 refine ⟨s.length + 1, Q9 kr kx0 s hs hb _ 0 [] (by omega) (by omega) (by simp) (fun h => ?_) (fun t h => ?_)⟩
 ·rw [List.drop_zero] at h
  exact hr ([], 280) (by unfold u3; rw [h])
 ·rw [List.drop_zero] at h
  exact hx t (by unfold u3; rw [h])
def M6 (s0 : List Int) : Prop :=
 Y2 s0 ([] : List Int) (0 : Int)
def E9 (s0 : List Int) : List Int × Int :=
 Sum.elim (fun q0r =>
 let x2 : List Int := q0r.1
 let x3 : Int := q0r.2
 (x2, x3)) (fun q0x0 =>
 let out4 : List Int := q0x0
 (out4, (0 : Int))) (u3 s0 ([] : List Int) (0 : Int))
set_option maxRecDepth 20000 in
theorem a2Y (s0 : List Int) (K : Res → List Cell → Prop) (_ : wfA E8 (s0, ())) (hp : M6 s0) (h : ∀ r : List Int × Int, r = E9 s0 → K (.tup [.fr 5 (.int .u8) r.1, .v (.int .i64) r.2]) []) : Z8 s0 K :=
 fun _ => a1O _ _ _ _ _ hp
 (fun _ e _ => have h := sl e h; h _ rfl)
 (fun _ e _ => have h := sr e h; h _ rfl)
def a3l (v : p0 E8) (K : Res → List Cell → Prop) : Prop := M6 v.1 ∧ ∀ r : List Int × Int, r = E9 v.1 → K (.tup [.fr 5 (.int .u8) r.1, .v (.int .i64) r.2]) []
def a0W : App := specW E8 a3l
theorem a2Z (K : Res → List Cell → Prop) : ∀ v : p0 E8, a3p tb (O3 S8) a0C Tryz.f6 [true, true] (mkA E8 v) K = Z8 v.1 K
 | (s0, ()) => by kernel_rfl
set_option maxRecDepth 20000 in
theorem a2W : l5 Tryz.prog 6 a0W :=
 l5.specW (a0t ((S9 tb_M a0p Z7 (a2V) (f := 6) (fn := Tryz.f6) (by kernel_rfl) (by kernel_rfl) a0G [true, true])) fun v K hw h => (a2Z K v).mpr (a2Y v.1 K hw h.1 h.2))
--! external 1
--! args S U
--! res I
--! pre 0
--! import VEv
def q9 (xs : List Int) (c : Int) : Int := a1X xs c
def C7 : App := specW a5r fun v K => ∀ r : Int, r = q9 v.1 v.2.1 → K (.one (.v (.int .i64) r)) []
theorem P9 : l5 Tryz.prog 37 C7 :=
 a2m (fn := Tryz.f37) (by kernel_rfl) (by kernel_rfl) (by kernel_rfl) (by kernel_rfl) (by kernel_rfl)
/-! ### internal/stringslite.IndexByte -/
def E5 : List (Nat × App) := [(37, C7)]
theorem Q7 : GOk Tryz.prog (O3 E5) := GOk.cons P9 (GOk.nil)
def C8 (s0 : List Int) (c1 : Int) (K : Res → List Cell → Prop) : Prop :=
 ∀ (r1 : Int), r1 = q9 s0 c1 → (
 wfR (.one (.v (.int .i64) r1)) → (
 K (.one (.v (.int .i64) r1)) []))
def l9 : List AS := [.v (.str), .v (.int .u8)]
def o7 (s0 : List Int) (c1 : Int) : Int :=
 let r1 : Int := q9 s0 c1
 r1
set_option maxRecDepth 20000 in
theorem R8 (s0 : List Int) (c1 : Int) (K : Res → List Cell → Prop) (_ : wfA l9 (s0, c1, ())) (h : ∀ r : Int, r = o7 s0 c1 → K (.one (.v (.int .i64) r)) []) : C8 s0 c1 K :=
 al (h _ rfl)
def S5 (v : p0 l9) (K : Res → List Cell → Prop) : Prop := ∀ r : Int, r = o7 v.1 v.2.1 → K (.one (.v (.int .i64) r)) []
def E6 : App := specW l9 S5
theorem R9 (K : Res → List Cell → Prop) : ∀ v : p0 l9, a3p tb (O3 E5) [] Tryz.f24 [true] (mkA l9 v) K = C8 v.1 v.2.1 K
 | (s0, c1, ()) => by kernel_rfl
set_option maxRecDepth 20000 in
theorem R7 : l5 Tryz.prog 24 E6 :=
 l5.specW (a0t ((S9 tb_M a0p Q7 (p7.nil) (f := 24) (fn := Tryz.f24) (by kernel_rfl) (by kernel_rfl) (by kernel_rfl) [true])) fun v K hw h => (R9 K v).mpr (R8 v.1 v.2.1 K hw h))
/-! ### strings.IndexByte -/
def a0n : List (Nat × App) := [(24, E6)]
theorem a1P : GOk Tryz.prog (O3 a0n) := GOk.cons R7 (GOk.nil)
def U4 (s0 : List Int) (c1 : Int) (K : Res → List Cell → Prop) : Prop :=
 ∀ (r1 : Int), r1 = o7 s0 c1 → (
 wfR (.one (.v (.int .i64) r1)) → (
 K (.one (.v (.int .i64) r1)) []))
def C3 : List AS := [.v (.str), .v (.int .u8)]
def C4 (s0 : List Int) (c1 : Int) : Int :=
 let r1 : Int := o7 s0 c1
 r1
set_option maxRecDepth 20000 in
theorem a18 (s0 : List Int) (c1 : Int) (K : Res → List Cell → Prop) (_ : wfA C3 (s0, c1, ())) (h : ∀ r : Int, r = C4 s0 c1 → K (.one (.v (.int .i64) r)) []) : U4 s0 c1 K :=
 al (h _ rfl)
def a2E (v : p0 C3) (K : Res → List Cell → Prop) : Prop := ∀ r : Int, r = C4 v.1 v.2.1 → K (.one (.v (.int .i64) r)) []
def a0o : App := specW C3 a2E
theorem a19 (K : Res → List Cell → Prop) : ∀ v : p0 C3, a3p tb (O3 a0n) [] Tryz.f13 [true] (mkA C3 v) K = U4 v.1 v.2.1 K
 | (s0, c1, ()) => by kernel_rfl
set_option maxRecDepth 20000 in
theorem a17 : l5 Tryz.prog 13 a0o :=
 l5.specW (a0t ((S9 tb_M a0p a1P (p7.nil) (f := 13) (fn := Tryz.f13) (by kernel_rfl) (by kernel_rfl) (by kernel_rfl) [true])) fun v K hw h => (a19 K v).mpr (a18 v.1 v.2.1 K hw h))
--! external 1
--! args S
--! res S
--! import SL
--! external 1
--! args S S
--! res I
--! import SI
/-! ### quoin/session.named -/
def a1K : List (Nat × App) := [(26, a00), (25, a1M)]
theorem a3r : GOk Tryz.prog (O3 a1K) := GOk.cons a28 (GOk.cons a3T (GOk.nil))
def a0Y (s0 : List Int) (K : Res → List Cell → Prop) : Prop :=
 bif (decide (s0 = ([108, 116] : List Int))) then
 K (.tup [.v (.int .u8) (60 : Int), .v (.bool) true]) []
 else
 bif (decide (s0 = ([83, 112, 97, 99, 101] : List Int))) then
 K (.tup [.v (.int .u8) (32 : Int), .v (.bool) true]) []
 else
 bif (decide (s0 = ([69, 115, 99] : List Int))) then
 K (.tup [.v (.int .u8) (27 : Int), .v (.bool) true]) []
 else
 bif (decide (s0 = ([67, 82] : List Int))) then
 K (.tup [.v (.int .u8) (13 : Int), .v (.bool) true]) []
 else
 bif (decide (s0 = ([78, 76] : List Int))) then
 K (.tup [.v (.int .u8) (10 : Int), .v (.bool) true]) []
 else
 bif (decide (s0 = ([84, 97, 98] : List Int))) then
 K (.tup [.v (.int .u8) (9 : Int), .v (.bool) true]) []
 else
 bif (decide (s0 = ([66, 83] : List Int))) then
 K (.tup [.v (.int .u8) (8 : Int), .v (.bool) true]) []
 else
 bif (decide (s0 = ([67, 45, 114] : List Int))) then
 K (.tup [.v (.int .u8) (18 : Int), .v (.bool) true]) []
 else
 bif (decide (s0 = ([67, 45, 119] : List Int))) then
 K (.tup [.v (.int .u8) (23 : Int), .v (.bool) true]) []
 else
 bif (decide (s0 = ([67, 45, 117] : List Int))) then
 K (.tup [.v (.int .u8) (21 : Int), .v (.bool) true]) []
 else
 bif (!decide ((List.length s0 : Int) = (3 : Int))) then
 K (.tup [.v (.int .u8) (0 : Int), .v (.bool) false]) []
 else
 bif decide (0 ≤ (0 : Int) ∧ (0 : Int) < (List.length s0 : Int)) then
 bif (!decide ((rd (0 : Int) s0 (0 : Int)) = (120 : Int))) then
 K (.tup [.v (.int .u8) (0 : Int), .v (.bool) false]) []
 else
 bif decide (0 ≤ (1 : Int) ∧ (1 : Int) ≤ (2 : Int) ∧ (2 : Int) ≤ (List.length s0 : Int)) then
 F2 (slc s0 (1 : Int) (2 : Int)) ∧ (
 ∀ (r1 : List Int), r1 = g7 (slc s0 (1 : Int) (2 : Int)) → (
 wfR (.one (.v (.str) r1)) → (
 E4 ([48, 49, 50, 51, 52, 53, 54, 55, 56, 57, 97, 98, 99, 100, 101, 102] : List Int) r1 ∧ (
 ∀ (r2 : Int), r2 = j1 ([48, 49, 50, 51, 52, 53, 54, 55, 56, 57, 97, 98, 99, 100, 101, 102] : List Int) r1 → (
 wfR (.one (.v (.int .i64) r2)) → (
 bif decide (0 ≤ (2 : Int) ∧ (2 : Int) ≤ (List.length s0 : Int)) then
 F2 (List.drop (Int.toNat (2 : Int)) s0) ∧ (
 ∀ (r3 : List Int), r3 = g7 (List.drop (Int.toNat (2 : Int)) s0) → (
 wfR (.one (.v (.str) r3)) → (
 E4 ([48, 49, 50, 51, 52, 53, 54, 55, 56, 57, 97, 98, 99, 100, 101, 102] : List Int) r3 ∧ (
 ∀ (r4 : Int), r4 = j1 ([48, 49, 50, 51, 52, 53, 54, 55, 56, 57, 97, 98, 99, 100, 101, 102] : List Int) r3 → (
 wfR (.one (.v (.int .i64) r4)) → (
 bif (decide ((0 : Int) ≤ r2)) then
 K (.tup [.v (.int .u8) (IntKind.wrap .u8 (M5 .or .i64 (IntKind.wrap .i64 (r2 * (2 ^ (min (Int.toNat (4 : Int)) (IntKind.bits .i64))))) (M5 .and .i64 r4 (15 : Int)))), .v (.bool) (decide ((0 : Int) ≤ r4))]) []
 else
 K (.tup [.v (.int .u8) (IntKind.wrap .u8 (M5 .or .i64 (IntKind.wrap .i64 (r2 * (2 ^ (min (Int.toNat (4 : Int)) (IntKind.bits .i64))))) (M5 .and .i64 r4 (15 : Int)))), .v (.bool) false]) []))))))
 else False))))))
 else False
 else False
def L9 : List AS := [.v (.str)]
def M0 (s0 : List Int) : Prop :=
 bif (decide (s0 = ([108, 116] : List Int))) then
 True
 else
 bif (decide (s0 = ([83, 112, 97, 99, 101] : List Int))) then
 True
 else
 bif (decide (s0 = ([69, 115, 99] : List Int))) then
 True
 else
 bif (decide (s0 = ([67, 82] : List Int))) then
 True
 else
 bif (decide (s0 = ([78, 76] : List Int))) then
 True
 else
 bif (decide (s0 = ([84, 97, 98] : List Int))) then
 True
 else
 bif (decide (s0 = ([66, 83] : List Int))) then
 True
 else
 bif (decide (s0 = ([67, 45, 114] : List Int))) then
 True
 else
 bif (decide (s0 = ([67, 45, 119] : List Int))) then
 True
 else
 bif (decide (s0 = ([67, 45, 117] : List Int))) then
 True
 else
 bif (!decide ((List.length s0 : Int) = (3 : Int))) then
 True
 else
 (0 ≤ (0 : Int) ∧ (0 : Int) < (List.length s0 : Int)) ∧ (
 bif (!decide ((rd (0 : Int) s0 (0 : Int)) = (120 : Int))) then
 True
 else
 (0 ≤ (1 : Int) ∧ (1 : Int) ≤ (2 : Int) ∧ (2 : Int) ≤ (List.length s0 : Int)) ∧ (
 F2 (slc s0 (1 : Int) (2 : Int)) ∧ (
 let r1 : List Int := g7 (slc s0 (1 : Int) (2 : Int))
 E4 ([48, 49, 50, 51, 52, 53, 54, 55, 56, 57, 97, 98, 99, 100, 101, 102] : List Int) r1 ∧ (
 let r2 : Int := j1 ([48, 49, 50, 51, 52, 53, 54, 55, 56, 57, 97, 98, 99, 100, 101, 102] : List Int) r1
 (0 ≤ (2 : Int) ∧ (2 : Int) ≤ (List.length s0 : Int)) ∧ (
 F2 (List.drop (Int.toNat (2 : Int)) s0) ∧ (
 let r3 : List Int := g7 (List.drop (Int.toNat (2 : Int)) s0)
 E4 ([48, 49, 50, 51, 52, 53, 54, 55, 56, 57, 97, 98, 99, 100, 101, 102] : List Int) r3))))))
def E3 (s0 : List Int) : Int × Bool :=
 bif (decide (s0 = ([108, 116] : List Int))) then
 ((60 : Int), true)
 else
 bif (decide (s0 = ([83, 112, 97, 99, 101] : List Int))) then
 ((32 : Int), true)
 else
 bif (decide (s0 = ([69, 115, 99] : List Int))) then
 ((27 : Int), true)
 else
 bif (decide (s0 = ([67, 82] : List Int))) then
 ((13 : Int), true)
 else
 bif (decide (s0 = ([78, 76] : List Int))) then
 ((10 : Int), true)
 else
 bif (decide (s0 = ([84, 97, 98] : List Int))) then
 ((9 : Int), true)
 else
 bif (decide (s0 = ([66, 83] : List Int))) then
 ((8 : Int), true)
 else
 bif (decide (s0 = ([67, 45, 114] : List Int))) then
 ((18 : Int), true)
 else
 bif (decide (s0 = ([67, 45, 119] : List Int))) then
 ((23 : Int), true)
 else
 bif (decide (s0 = ([67, 45, 117] : List Int))) then
 ((21 : Int), true)
 else
 bif (!decide ((List.length s0 : Int) = (3 : Int))) then
 ((0 : Int), false)
 else
 bif (!decide ((rd (0 : Int) s0 (0 : Int)) = (120 : Int))) then
 ((0 : Int), false)
 else
 let r1 : List Int := g7 (slc s0 (1 : Int) (2 : Int))
 let r2 : Int := j1 ([48, 49, 50, 51, 52, 53, 54, 55, 56, 57, 97, 98, 99, 100, 101, 102] : List Int) r1
 let r3 : List Int := g7 (List.drop (Int.toNat (2 : Int)) s0)
 let r4 : Int := j1 ([48, 49, 50, 51, 52, 53, 54, 55, 56, 57, 97, 98, 99, 100, 101, 102] : List Int) r3
 bif (decide ((0 : Int) ≤ r2)) then
 ((IntKind.wrap .u8 (M5 .or .i64 (IntKind.wrap .i64 (r2 * (2 ^ (min (Int.toNat (4 : Int)) (IntKind.bits .i64))))) (M5 .and .i64 r4 (15 : Int)))), (decide ((0 : Int) ≤ r4)))
 else
 ((IntKind.wrap .u8 (M5 .or .i64 (IntKind.wrap .i64 (r2 * (2 ^ (min (Int.toNat (4 : Int)) (IntKind.bits .i64))))) (M5 .and .i64 r4 (15 : Int)))), false)
set_option maxRecDepth 20000 in
theorem a3P (s0 : List Int) (K : Res → List Cell → Prop) (_ : wfA L9 (s0, ())) (hp : M0 s0) (h : ∀ r : Int × Bool, r = E3 s0 → K (.tup [.v (.int .u8) r.1, .v (.bool) r.2]) []) : a0Y s0 K :=
 br1 hp h (fun _ hp h => h _ rfl)
 fun _ hp h => br1 hp h (fun _ hp h => h _ rfl)
 fun _ hp h => br1 hp h (fun _ hp h => h _ rfl)
 fun _ hp h => br1 hp h (fun _ hp h => h _ rfl)
 fun _ hp h => br1 hp h (fun _ hp h => h _ rfl)
 fun _ hp h => br1 hp h (fun _ hp h => h _ rfl)
 fun _ hp h => br1 hp h (fun _ hp h => h _ rfl)
 fun _ hp h => br1 hp h (fun _ hp h => h _ rfl)
 fun _ hp h => br1 hp h (fun _ hp h => h _ rfl)
 fun _ hp h => br1 hp h (fun _ hp h => h _ rfl)
 fun _ hp h => br1 hp h (fun _ hp h => h _ rfl)
 fun _ hp h => as1 hp fun hp => br1 hp h (fun _ hp h => h _ rfl)
 fun _ hp h => as1 hp fun hp => an1 hp fun hp => al (an1 hp fun hp => al (as1 hp fun hp => an1 hp fun hp => al (⟨hp, al (br0 h (fun _ h => h _ rfl)
 fun _ h => h _ rfl)⟩)))
def a4f (v : p0 L9) (K : Res → List Cell → Prop) : Prop := M0 v.1 ∧ ∀ r : Int × Bool, r = E3 v.1 → K (.tup [.v (.int .u8) r.1, .v (.bool) r.2]) []
def a1L : App := specW L9 a4f
theorem a3Q (K : Res → List Cell → Prop) : ∀ v : p0 L9, a3p tb (O3 a1K) [] Tryz.f14 [true, true] (mkA L9 v) K = a0Y v.1 K
 | (s0, ()) => by kernel_rfl
set_option maxRecDepth 20000 in
theorem a3O : l5 Tryz.prog 14 a1L :=
 l5.specW (a0t ((S9 tb_M a0p a3r (p7.nil) (f := 14) (fn := Tryz.f14) (by kernel_rfl) (by kernel_rfl) (by kernel_rfl) [true, true])) fun v K hw h => (a3Q K v).mpr (a3P v.1 K hw h.1 h.2))
end Go.VE
namespace Go.VE
open Go
theorem a8q : ∀ n : Fin 256, j1 a1r (g7 [(n.val : Int)]) = hv (n.val : Int) := by decide +kernel
theorem a67 {c : Int} (h0 : 0 ≤ c) (h1 : c ≤ 255) : j1 a1r (g7 [c]) = hv c := by
 have := a8q ⟨c.toNat, by omega⟩
 simpa [Int.toNat_of_nonneg h0] using this
theorem a8p {c : Int} : E4 a1r (g7 [c]) := by
 refine ⟨rfl, ?_⟩
 unfold g7
 dsimp only
 split
 ·exact .inl rfl
 ·split
  ·exact .inl rfl
  ·exact .inr rfl
theorem a8n : ∀ a b : Fin 16, IntKind.wrap .u8 (M5 .or .i64 (IntKind.wrap .i64 ((a.val : Int) * (2 ^ (min (Int.toNat (4 : Int)) (IntKind.bits .i64))))) (M5 .and .i64 (b.val : Int) (15 : Int))) = 16 * (a.val : Int) + (b.val : Int) := by decide +kernel
theorem a8U {a b : Int} (h0 : 0 ≤ a) (h1 : a ≤ 15) (h2 : 0 ≤ b) (h3 : b ≤ 15) : IntKind.wrap .u8 (M5 .or .i64 (IntKind.wrap .i64 (a * (2 ^ (min (Int.toNat (4 : Int)) (IntKind.bits .i64))))) (M5 .and .i64 b (15 : Int))) = 16 * a + b := by
 have := a8n ⟨a.toNat, by omega⟩ ⟨b.toNat, by omega⟩
 simpa [Int.toNat_of_nonneg h0, Int.toNat_of_nonneg h2] using this
theorem a7G (n : List Int) (hb : ∀ x ∈ n, 0 ≤ x ∧ x ≤ 255) : M0 n ∧ (E3 n).2 = (nmM n).isSome ∧ ∀ b, nmM n = some b → (E3 n).1 = b := by
 unfold M0 E3 nmM
 by_cases h0 : n = [108, 116]
 ·rw [decide_eq_true h0, if_pos h0]; exact ⟨trivial, rfl, fun b h => by injection h⟩
 rw [decide_eq_false h0, if_neg h0]
 by_cases h1 : n = [83, 112, 97, 99, 101]
 ·rw [decide_eq_true h1, if_pos h1]; exact ⟨trivial, rfl, fun b h => by injection h⟩
 rw [decide_eq_false h1, if_neg h1]
 by_cases h2 : n = [69, 115, 99]
 ·rw [decide_eq_true h2, if_pos h2]; exact ⟨trivial, rfl, fun b h => by injection h⟩
 rw [decide_eq_false h2, if_neg h2]
 by_cases h3 : n = [67, 82]
 ·rw [decide_eq_true h3, if_pos h3]; exact ⟨trivial, rfl, fun b h => by injection h⟩
 rw [decide_eq_false h3, if_neg h3]
 by_cases h4 : n = [78, 76]
 ·rw [decide_eq_true h4, if_pos h4]; exact ⟨trivial, rfl, fun b h => by injection h⟩
 rw [decide_eq_false h4, if_neg h4]
 by_cases h5 : n = [84, 97, 98]
 ·rw [decide_eq_true h5, if_pos h5]; exact ⟨trivial, rfl, fun b h => by injection h⟩
 rw [decide_eq_false h5, if_neg h5]
 by_cases h6 : n = [66, 83]
 ·rw [decide_eq_true h6, if_pos h6]; exact ⟨trivial, rfl, fun b h => by injection h⟩
 rw [decide_eq_false h6, if_neg h6]
 by_cases h7 : n = [67, 45, 114]
 ·rw [decide_eq_true h7, if_pos h7]; exact ⟨trivial, rfl, fun b h => by injection h⟩
 rw [decide_eq_false h7, if_neg h7]
 by_cases h8 : n = [67, 45, 119]
 ·rw [decide_eq_true h8, if_pos h8]; exact ⟨trivial, rfl, fun b h => by injection h⟩
 rw [decide_eq_false h8, if_neg h8]
 by_cases h9 : n = [67, 45, 117]
 ·rw [decide_eq_true h9, if_pos h9]; exact ⟨trivial, rfl, fun b h => by injection h⟩
 rw [decide_eq_false h9, if_neg h9]
 by_cases h3 : n.length = 3
 ·match n, h3, hb with
  | [a, x, y], _, hb =>
   have hx := hb x (by simp)
   have hy := hb y (by simp)
   have r1 := a2R x
   have r2 := a2R y
   by_cases ha : a = 120
   ·subst ha
    have lx := a67 hx.1 hx.2
    have ly := a67 hy.1 hy.2
    refine ⟨⟨show (0 : Int) ≤ 0 ∧ (0 : Int) < 3 by decide, show (0 : Int) ≤ 1 ∧ (1 : Int) ≤ 2 ∧ (2 : Int) ≤ 3 by decide, rfl, a8p, show (0 : Int) ≤ 2 ∧ (2 : Int) ≤ 3 by decide, rfl, a8p⟩, ?_⟩
    show (bif decide (0 ≤ j1 a1r (g7 [x])) then (IntKind.wrap .u8 (M5 .or .i64 (IntKind.wrap .i64 (j1 a1r (g7 [x]) * (2 ^ (min (Int.toNat (4 : Int)) (IntKind.bits .i64))))) (M5 .and .i64 (j1 a1r (g7 [y])) (15 : Int))), decide (0 ≤ j1 a1r (g7 [y]))) else (_, false)).2 = Option.isSome (if 0 ≤ hv x ∧ 0 ≤ hv y then some (16 * hv x + hv y) else none) ∧ ∀ b, (if 0 ≤ hv x ∧ 0 ≤ hv y then some (16 * hv x + hv y) else none) = some b → (bif decide (0 ≤ j1 a1r (g7 [x])) then (IntKind.wrap .u8 (M5 .or .i64 (IntKind.wrap .i64 (j1 a1r (g7 [x]) * (2 ^ (min (Int.toNat (4 : Int)) (IntKind.bits .i64))))) (M5 .and .i64 (j1 a1r (g7 [y])) (15 : Int))), decide (0 ≤ j1 a1r (g7 [y]))) else (_, false)).1 = b
    rw [lx, ly]
    by_cases hx0 : 0 ≤ hv x
    ·rw [decide_eq_true hx0]
     by_cases hy0 : 0 ≤ hv y
     ·rw [decide_eq_true hy0]
      rw [if_pos ⟨hx0, hy0⟩]
      refine ⟨rfl, fun b h => ?_⟩
      injection h with h
      rw [← h]
      exact a8U hx0 r1.2 hy0 r2.2
     ·rw [decide_eq_false hy0]
      rw [if_neg (fun h => hy0 h.2)]
      exact ⟨rfl, fun b h => by cases h⟩
    ·rw [decide_eq_false hx0]
     rw [if_neg (fun h => hx0 h.1)]
     exact ⟨rfl, fun b h => by cases h⟩
   ·refine ⟨⟨show (0 : Int) ≤ 0 ∧ (0 : Int) < 3 by decide, ?_⟩, ?_⟩
    ·show (bif !decide (a = 120) then True else _)
     rw [decide_eq_false ha]
     trivial
    ·show (bif !decide (a = 120) then ((0 : Int), false) else _).2 = _ ∧ ∀ b, _ → (bif !decide (a = 120) then ((0 : Int), false) else _).1 = b
     rw [decide_eq_false ha]
     refine ⟨?_, ?_⟩ <;> (split <;> simp_all)
 ·rw [show decide ((n.length : Int) = 3) = false from decide_eq_false (by omega)]
  refine ⟨trivial, ?_, fun b h => ?_⟩
  ·split
   ·exact absurd rfl h3
   ·rfl
  ·split at h
   ·exact absurd rfl h3
   ·cases h
end Go.VE
namespace Go.VE
open Go Go.Proofs
/-! ### quoin/session.Read -/
def a0M : List (Nat × App) := [(13, a0o), (14, a1L)]
theorem a1j : GOk Tryz.prog (O3 a0M) := GOk.cons a17 (GOk.cons a3O (GOk.nil))
theorem a1I : C1 (p9 Tryz.f7) = true := by kernel_rfl
def l8 : List LS := [.v 0 (.str), .o 4 37 5 (.int .u8), .v 5 (.int .i64)]
def O6 : List LS := [.o 2 21 5 (.int .u8), .v 3 (.int .i64)]
def M8 : List LS := [.o 4 37 5 (.int .u8)]
def V0 : DX := ⟨none, some O6, [(0, M8)]⟩
def V1 (k : Ex → St → Prop) (x2 : List Int) (x3 : Int) : Prop := wfD O6 (x2, x3, ()) → k .ret (mkD 58 O6 (x2, x3, ()))
def U0 (k : Ex → St → Prop) (out4 : List Int) : Prop := wfD M8 (out4, ()) → k (.exit 0) (mkD 58 M8 (out4, ()))
def Q4 (Y : List Int → List Int → Int → Prop) (kr : List Int → Int → Prop) (kx0 : List Int → Prop) (s0 : List Int) (out4 : List Int) (i5 : Int) : Prop :=
 bif (decide (i5 < (List.length s0 : Int))) then
 bif decide (0 ≤ i5 ∧ i5 < (List.length s0 : Int)) then
 bif (decide ((rd (0 : Int) s0 i5) < (33 : Int))) then
 kr ([] : List Int) (280 : Int)
 else
 bif (decide ((126 : Int) < (rd (0 : Int) s0 i5))) then
 kr ([] : List Int) (280 : Int)
 else
 bif (!decide ((rd (0 : Int) s0 i5) = (60 : Int))) then
 bif decide (List.length out4 + List.length ([(rd (0 : Int) s0 i5)] : List Int) ≤ lim) then
 Y s0 (out4 ++ ([(rd (0 : Int) s0 i5)] : List Int)) (IntKind.wrap .i64 (i5 + (1 : Int)))
 else False
 else
 bif decide (0 ≤ i5 ∧ i5 ≤ (List.length s0 : Int)) then
 ∀ (r1 : Int), r1 = C4 (List.drop (Int.toNat i5) s0) (62 : Int) → (
 wfR (.one (.v (.int .i64) r1)) → (
 bif (decide (r1 < (0 : Int))) then
 kr ([] : List Int) (280 : Int)
 else
 bif decide (0 ≤ (IntKind.wrap .i64 (i5 + (1 : Int))) ∧ (IntKind.wrap .i64 (i5 + (1 : Int))) ≤ (IntKind.wrap .i64 (i5 + r1)) ∧ (IntKind.wrap .i64 (i5 + r1)) ≤ (List.length s0 : Int)) then
 M0 (slc s0 (IntKind.wrap .i64 (i5 + (1 : Int))) (IntKind.wrap .i64 (i5 + r1))) ∧ (
 ∀ (r2 : Int × Bool), r2 = E3 (slc s0 (IntKind.wrap .i64 (i5 + (1 : Int))) (IntKind.wrap .i64 (i5 + r1))) → (
 wfR (.tup [.v (.int .u8) r2.1, .v (.bool) r2.2]) → (
 bif (!r2.2) then
 kr ([] : List Int) (280 : Int)
 else
 bif decide (List.length out4 + List.length ([r2.1] : List Int) ≤ lim) then
 Y s0 (out4 ++ ([r2.1] : List Int)) (IntKind.wrap .i64 ((IntKind.wrap .i64 (i5 + r1)) + (1 : Int)))
 else False)))
 else False))
 else False
 else False
 else
 kx0 out4
def L6 (kr : List Int → Int → Prop) (kx0 : List Int → Prop) : Nat → List Int → List Int → Int → Prop
 | 0, _, _, _ => False
 | n + 1, s0, out4, i5 => wfD l8 (s0, out4, i5, ()) → Q4 (L6 kr kx0 n) kr kx0 s0 out4 i5
def a1F : Pce := ex tb (O3 a0M) [] (at' (p9 Tryz.f7) [0, 0, 1, 0, 1, 1]) [0, 0, 1, 0, 1, 1]
def a1G (k : Ex → St → Prop) (n : Nat) (v : E1 l8) : Prop := L6 (V1 k) (U0 k) n v.1 v.2.1 v.2.2.1
theorem a4a (k : Ex → St → Prop) (Y : E1 l8 → Prop) : ∀ v : E1 l8, a1F (mkD 58 l8 v) (lpK 58 l8 V0 k Y) = Q4 (fun s0 out4 i5 => Y (s0, out4, i5, ())) (V1 k) (U0 k) v.1 v.2.1 v.2.2.1
 | (s0, out4, i5, ()) => by kernel_rfl
theorem a1J (k : Ex → St → Prop) : ∀ (n : Nat) (v : E1 l8), lpD 58 l8 V0 a1F k n v = a1G k n v
 | 0, (s0, out4, i5, ()) => rfl
 | n + 1, (s0, out4, i5, ()) => congrArg (fun Z : Prop => wfD l8 (s0, out4, i5, ()) → Z) ((a4a k _ (s0, out4, i5, ())).trans (congrArg (fun Y => Q4 Y (V1 k) (U0 k) s0 out4 i5) (funext fun s0 => funext fun out4 => funext fun i5 => a1J k n (s0, out4, i5, ()))))
def a1E : Pce := fun st k => ckD 58 l8 st fun v => wfD l8 v → ∃ n, a1G k n v
set_option maxRecDepth 20000 in
theorem a4d : N0 Tryz.prog (at' (p9 Tryz.f7) [0, 1, 0, 1, 1]) a1E :=
 (N0.loop (a1a tb_M a0p a1j (p7.nil) (at' (p9 Tryz.f7) [0, 0, 1, 0, 1, 1]) [0, 0, 1, 0, 1, 1] rfl (V3 a1I [0, 0, 1, 0, 1, 1])) 58 l8 V0).mono fun st k h => a1U h fun v hv hw => (hv hw).elim fun n hn => ⟨n, Eq.mpr (a1J k n v) hn⟩
def a1D : a2N := ([0, 1, 0, 1, 1], a1E) :: []
theorem a39 : p7 Tryz.prog (p9 Tryz.f7) a1D := p7.cons a4d (p7.nil)
def a1k (s0 : List Int) (K : Res → List Cell → Prop) : Prop :=
 (wfD l8 (s0, ([] : List Int), (0 : Int), ()) → ∃ n, L6 (fun (x2 : List Int) (x3 : Int) => wfD O6 (x2, x3, ()) → (
 K (.tup [.fr 5 (.int .u8) x2, .v (.int .i64) x3]) [])) (fun (out4 : List Int) => wfD M8 (out4, ()) → (
 K (.tup [.fr 5 (.int .u8) out4, .v (.int .i64) (0 : Int)]) [])) n s0 ([] : List Int) (0 : Int))
def O2 : List AS := [.v (.str)]
--! pre 1
--! import SP4
theorem a5W : ∀ {l : List Int}, gtM l = none → 62 ∉ l
 | [], _ => by simp
 | c :: r, h => by
  unfold gtM at h
  by_cases hc : c = 62
  ·rw [if_pos hc] at h; cases h
  ·rw [if_neg hc, Option.map_eq_none_iff] at h
   have := a5W h
   simp only [List.mem_cons, not_or]
   exact ⟨fun e => hc e.symm, this⟩
theorem a8h {r : List Int} (h : gtM r = none) : C4 (60 :: r) 62 = -1 := by
 show a1X (60 :: r) 62 = -1
 unfold a1X
 rw [if_neg]
 simp only [List.mem_cons, not_or]
 exact ⟨by decide, a5W h⟩
theorem a5X : ∀ {n : List Int} (t : List Int), 62 ∉ n → (n ++ 62 :: t).idxOf 62 = n.length
 | [], t, _ => by simp
 | c :: n, t, h => by
  simp only [List.mem_cons, not_or] at h
  rw [List.cons_append, List.idxOf_cons, a5X t h.2]
  have : (c == 62) = false := by simpa using fun e => h.1 (Eq.symm e)
  rw [this]; rfl
theorem a8i {r n t : List Int} (h : gtM r = some (n, t)) : C4 (60 :: r) 62 = (n.length : Int) + 1 := by
 obtain ⟨rfl, hn⟩ := U6.1 h
 show a1X (60 :: (n ++ 62 :: t)) 62 = _
 unfold a1X
 rw [if_pos (by simp)]
 have := a5X (n := 60 :: n) t (by simp only [List.mem_cons, not_or]; exact ⟨by decide, hn⟩)
 rw [List.cons_append] at this
 rw [this]
 simp
def a0X (s out : List Int) (i : Int) : Prop := out = [] ∧ i = 0 ∧ s.length + 10 ≤ lim ∧ ∀ x ∈ s, 0 ≤ x ∧ x ≤ 255
def C0 (s _ : List Int) (_ : Int) : (List Int × Int) ⊕ List Int := match rdM s with
 | none => .inl ([], 280)
 | some t => .inr t
theorem Z2 (kr : List Int → Int → Prop) (kx0 : List Int → Prop) (s : List Int) (hs : s.length + 10 ≤ lim) (hb : ∀ x ∈ s, 0 ≤ x ∧ x ≤ 255) :
  ∀ (n i : Nat) (out : List Int), s.length < n + i → i ≤ s.length → out.length ≤ i → (rdM (s.drop i) = none → kr [] 280) → (∀ t, rdM (s.drop i) = some t → kx0 (out ++ t)) → L6 kr kx0 n s out (i : Int)
 | 0, i, out, hn, hi, ho, hr, hx => absurd hn (by omega)
 | n + 1, i, out, hn, hi, ho, hr, hx => by
  intro _
  unfold Q4
  have hlim : lim = 1099511627776 := rfl
  refine brn (fun hlt => R6 (by omega) ?_) (fun hge => by have := hx [] (by rw [List.drop_eq_nil_of_le (by omega)]; exact a3m); simpa using this)
  have hi' : i < s.length := by omega
  have hc : rd (0 : Int) s (i : Int) = s[i] := by
   unfold rd; rw [Int.toNat_natCast, List.getD_eq_getElem?_getD, List.getElem?_eq_getElem hi']; rfl
  have w1 : IntKind.wrap .i64 ((i : Int) + 1) = ((i + 1 : Nat) : Int) := by rw [Q1 (by omega) (by omega)]; omega
  have hd : s.drop i = s[i] :: s.drop (i + 1) := List.drop_eq_getElem_cons hi'
  rw [hc, w1]
  generalize hcc : s[i] = c at hd
  refine brn (fun h => hr (by rw [hd, O1, if_pos (.inl h)])) (fun h1 => brn (fun h => hr (by rw [hd, O1, if_pos (.inr h)])) (fun h2 => ?_))
  have hlow : ¬ (c < 33 ∨ 126 < c) := by omega
  refine brb (fun h60 => R6 (by simp only [List.length_cons, List.length_nil]; omega) ?_) (fun h60 => ?_)
  ·have h60 : c ≠ 60 := by simpa using h60
   have e : rdM (s.drop i) = (rdM (s.drop (i + 1))).map (c :: ·) := by rw [hd, O1, if_neg hlow, if_pos h60]
   refine Z2 kr kx0 s hs hb n (i + 1) _ (by omega) (by omega) (by simp only [List.length_append, List.length_cons, List.length_nil]; omega) (fun h => hr (by rw [e, h]; rfl)) (fun t h => ?_)
   have := hx (c :: t) (by rw [e, h]; rfl)
   simpa using this
  ·have h60 : c = 60 := by simpa using h60
   subst h60
   refine R6 (by omega) ?_
   rw [Int.toNat_natCast]
   intro r1 hr1 _
   rw [hd] at hr1
   have hrl : (s.drop (i + 1)).length = s.length - (i + 1) := List.length_drop
   cases hg : gtM (s.drop (i + 1)) with
   | none =>
    rw [a8h hg] at hr1
    subst hr1
    refine brb (fun _ => hr ?_) (fun h => absurd h (by decide))
    rw [hd, a5B]
    unfold psF
    rw [hg]
   | some p =>
    obtain ⟨m, t⟩ := p
    rw [a8i hg] at hr1
    subst hr1
    have hle : m.length + t.length + 1 = s.length - (i + 1) := by
     have := congrArg List.length (U6.1 hg).1
     rw [hrl] at this
     simp only [List.length_append, List.length_cons] at this
     omega
    have w2 : IntKind.wrap .i64 ((i : Int) + ((m.length : Int) + 1)) = ((i + m.length + 1 : Nat) : Int) := by rw [Q1 (by omega) (by omega)]; omega
    have w3 : IntKind.wrap .i64 (((i + m.length + 1 : Nat) : Int) + 1) = ((i + (m.length + 2) : Nat) : Int) := by rw [Q1 (by omega) (by omega)]; omega
    rw [w2, w3]
    refine brn (fun h => absurd h (by omega)) (fun _ => R6 (by omega) ?_)
    have es : slc s ((i + 1 : Nat) : Int) ((i + m.length + 1 : Nat) : Int) = m := by
     unfold slc
     rw [Int.toNat_natCast, Int.toNat_natCast, List.drop_take, show i + m.length + 1 - (i + 1) = m.length by omega, (U6.1 hg).1]
     simp
    rw [es]
    have hbm : ∀ x ∈ m, 0 ≤ x ∧ x ≤ 255 := fun x hx => by
     refine hb x (List.mem_of_mem_drop (i := i + 1) ?_)
     rw [(U6.1 hg).1]
     exact List.mem_append_left _ hx
    obtain ⟨np, n1, n2⟩ := a7G m hbm
    refine ⟨np, fun r2 hr2 _ => ?_⟩
    subst hr2
    rw [n1]
    have e : rdM (s.drop i) = match nmM m with
      | none => none
      | some b => (rdM (s.drop (i + (m.length + 2)))).map (b :: ·) := by
     rw [hd, a5B]
     unfold psF
     rw [hg]
     dsimp only
     cases nmM m with
     | none => rfl
     | some b =>
      dsimp only
      rw [← hd, List.drop_drop]
    cases hm : nmM m with
    | none =>
     rw [hm] at e
     refine brb (fun _ => hr e) (fun h => absurd h (by decide))
    | some b =>
     rw [hm] at e
     dsimp only at e
     rw [n2 b hm]
     refine brb (fun h => absurd h (by simp)) (fun _ => R6 (by simp only [List.length_cons, List.length_nil]; omega) ?_)
     refine Z2 kr kx0 s hs hb n (i + (m.length + 2)) _ (by omega) (by omega) (by simp only [List.length_append, List.length_cons, List.length_nil]; omega) (fun h => hr (by rw [e, h]; rfl)) (fun t h => ?_)
     have := hx (b :: t) (by rw [e, h]; rfl)
     simpa using this
theorem a27 (kr : List Int → Int → Prop) (kx0 : List Int → Prop) (s out : List Int) (i : Int) (hp : a0X s out i)
  (hr : ∀ q : List Int × Int, C0 s out i = .inl q → kr q.1 q.2) (hx : ∀ q : List Int, C0 s out i = .inr q → kx0 q) : ∃ m, L6 kr kx0 m s out i := by
 obtain ⟨rfl, rfl, hs, hb⟩ := hp
 refine ⟨s.length + 1, Z2 kr kx0 s hs hb _ 0 [] (by omega) (by omega) (by simp) (fun h => ?_) (fun t h => ?_)⟩
 ·rw [List.drop_zero] at h
  exact hr ([], 280) (by unfold C0; rw [h])
 ·rw [List.drop_zero] at h
  exact hx t (by unfold C0; rw [h])
def D7 (s0 : List Int) : Prop :=
 a0X s0 ([] : List Int) (0 : Int)
def B8 (s0 : List Int) : List Int × Int :=
 Sum.elim (fun q0r =>
 let x2 : List Int := q0r.1
 let x3 : Int := q0r.2
 (x2, x3)) (fun q0x0 =>
 let out4 : List Int := q0x0
 (out4, (0 : Int))) (C0 s0 ([] : List Int) (0 : Int))
set_option maxRecDepth 20000 in
theorem a4b (s0 : List Int) (K : Res → List Cell → Prop) (_ : wfA O2 (s0, ())) (hp : D7 s0) (h : ∀ r : List Int × Int, r = B8 s0 → K (.tup [.fr 5 (.int .u8) r.1, .v (.int .i64) r.2]) []) : a1k s0 K :=
 fun _ => a27 _ _ _ _ _ hp
 (fun _ e _ => have h := sl e h; h _ rfl)
 (fun _ e _ => have h := sr e h; h _ rfl)
def a4P (v : p0 O2) (K : Res → List Cell → Prop) : Prop := D7 v.1 ∧ ∀ r : List Int × Int, r = B8 v.1 → K (.tup [.fr 5 (.int .u8) r.1, .v (.int .i64) r.2]) []
def a0N : App := specW O2 a4P
theorem a4c (K : Res → List Cell → Prop) : ∀ v : p0 O2, a3p tb (O3 a0M) a1D Tryz.f7 [true, true] (mkA O2 v) K = a1k v.1 K
 | (s0, ()) => by kernel_rfl
set_option maxRecDepth 20000 in
theorem a1H : l5 Tryz.prog 7 a0N :=
 l5.specW (a0t ((S9 tb_M a0p a1j (a39) (f := 7) (fn := Tryz.f7) (by kernel_rfl) (by kernel_rfl) a1I [true, true])) fun v K hw h => (a4c K v).mpr (a4b v.1 K hw h.1 h.2))
/-! ### quoin/quoinref28.Write -/
def R0 : List (Nat × App) := []
theorem Y3 : GOk Tryz.prog (O3 R0) := GOk.nil
theorem a0e : C1 (p9 Tryz.f9) = true := by kernel_rfl
def j5 : List LS := [.v 0 (.sl (.int .u8)), .o 3 29 5 (.int .u8), .v 4 (.int .i64)]
def D8 : List LS := [.o 3 29 5 (.int .u8)]
def N8 : DX := ⟨none, none, [(0, D8)]⟩
def M3 (k : Ex → St → Prop) (out3 : List Int) : Prop := wfD D8 (out3, ()) → k (.exit 0) (mkD 48 D8 (out3, ()))
def F5 (Y : List Int → List Int → Int → Prop) (kx0 : List Int → Prop) (b0 : List Int) (out3 : List Int) (i4 : Int) : Prop :=
 bif (decide (i4 < (List.length b0 : Int))) then
 bif decide (0 ≤ i4 ∧ i4 < (List.length b0 : Int)) then
 bif (decide ((rd (0 : Int) b0 i4) = (60 : Int))) then
 bif decide (List.length out3 + List.length ([60, 108, 116, 62] : List Int) ≤ lim) then
 Y b0 (out3 ++ ([60, 108, 116, 62] : List Int)) (IntKind.wrap .i64 (i4 + (1 : Int)))
 else False
 else
 bif (decide ((rd (0 : Int) b0 i4) = (32 : Int))) then
 bif decide (List.length out3 + List.length ([60, 83, 112, 97, 99, 101, 62] : List Int) ≤ lim) then
 Y b0 (out3 ++ ([60, 83, 112, 97, 99, 101, 62] : List Int)) (IntKind.wrap .i64 (i4 + (1 : Int)))
 else False
 else
 bif (decide ((32 : Int) < (rd (0 : Int) b0 i4))) then
 bif (decide ((rd (0 : Int) b0 i4) < (127 : Int))) then
 bif decide (List.length out3 + List.length ([(rd (0 : Int) b0 i4)] : List Int) ≤ lim) then
 Y b0 (out3 ++ ([(rd (0 : Int) b0 i4)] : List Int)) (IntKind.wrap .i64 (i4 + (1 : Int)))
 else False
 else
 bif decide (0 ≤ (IntKind.wrap .u8 (Int.tdiv (rd (0 : Int) b0 i4) (16 : Int))) ∧ (IntKind.wrap .u8 (Int.tdiv (rd (0 : Int) b0 i4) (16 : Int))) < (List.length ([48, 49, 50, 51, 52, 53, 54, 55, 56, 57, 97, 98, 99, 100, 101, 102] : List Int) : Int)) then
 bif decide (0 ≤ (Int.tmod (rd (0 : Int) b0 i4) (16 : Int)) ∧ (Int.tmod (rd (0 : Int) b0 i4) (16 : Int)) < (List.length ([48, 49, 50, 51, 52, 53, 54, 55, 56, 57, 97, 98, 99, 100, 101, 102] : List Int) : Int)) then
 bif decide (List.length out3 + List.length ([(60 : Int), (120 : Int), (rd (0 : Int) ([48, 49, 50, 51, 52, 53, 54, 55, 56, 57, 97, 98, 99, 100, 101, 102] : List Int) (IntKind.wrap .u8 (Int.tdiv (rd (0 : Int) b0 i4) (16 : Int)))), (rd (0 : Int) ([48, 49, 50, 51, 52, 53, 54, 55, 56, 57, 97, 98, 99, 100, 101, 102] : List Int) (Int.tmod (rd (0 : Int) b0 i4) (16 : Int))), (62 : Int)] : List Int) ≤ lim) then
 Y b0 (out3 ++ ([(60 : Int), (120 : Int), (rd (0 : Int) ([48, 49, 50, 51, 52, 53, 54, 55, 56, 57, 97, 98, 99, 100, 101, 102] : List Int) (IntKind.wrap .u8 (Int.tdiv (rd (0 : Int) b0 i4) (16 : Int)))), (rd (0 : Int) ([48, 49, 50, 51, 52, 53, 54, 55, 56, 57, 97, 98, 99, 100, 101, 102] : List Int) (Int.tmod (rd (0 : Int) b0 i4) (16 : Int))), (62 : Int)] : List Int)) (IntKind.wrap .i64 (i4 + (1 : Int)))
 else False
 else False
 else False
 else
 bif decide (0 ≤ (IntKind.wrap .u8 (Int.tdiv (rd (0 : Int) b0 i4) (16 : Int))) ∧ (IntKind.wrap .u8 (Int.tdiv (rd (0 : Int) b0 i4) (16 : Int))) < (List.length ([48, 49, 50, 51, 52, 53, 54, 55, 56, 57, 97, 98, 99, 100, 101, 102] : List Int) : Int)) then
 bif decide (0 ≤ (Int.tmod (rd (0 : Int) b0 i4) (16 : Int)) ∧ (Int.tmod (rd (0 : Int) b0 i4) (16 : Int)) < (List.length ([48, 49, 50, 51, 52, 53, 54, 55, 56, 57, 97, 98, 99, 100, 101, 102] : List Int) : Int)) then
 bif decide (List.length out3 + List.length ([(60 : Int), (120 : Int), (rd (0 : Int) ([48, 49, 50, 51, 52, 53, 54, 55, 56, 57, 97, 98, 99, 100, 101, 102] : List Int) (IntKind.wrap .u8 (Int.tdiv (rd (0 : Int) b0 i4) (16 : Int)))), (rd (0 : Int) ([48, 49, 50, 51, 52, 53, 54, 55, 56, 57, 97, 98, 99, 100, 101, 102] : List Int) (Int.tmod (rd (0 : Int) b0 i4) (16 : Int))), (62 : Int)] : List Int) ≤ lim) then
 Y b0 (out3 ++ ([(60 : Int), (120 : Int), (rd (0 : Int) ([48, 49, 50, 51, 52, 53, 54, 55, 56, 57, 97, 98, 99, 100, 101, 102] : List Int) (IntKind.wrap .u8 (Int.tdiv (rd (0 : Int) b0 i4) (16 : Int)))), (rd (0 : Int) ([48, 49, 50, 51, 52, 53, 54, 55, 56, 57, 97, 98, 99, 100, 101, 102] : List Int) (Int.tmod (rd (0 : Int) b0 i4) (16 : Int))), (62 : Int)] : List Int)) (IntKind.wrap .i64 (i4 + (1 : Int)))
 else False
 else False
 else False
 else False
 else
 kx0 out3
def u7 (kx0 : List Int → Prop) : Nat → List Int → List Int → Int → Prop
 | 0, _, _, _ => False
 | n + 1, b0, out3, i4 => wfD j5 (b0, out3, i4, ()) → F5 (u7 kx0 n) kx0 b0 out3 i4
def a0b : Pce := ex tb (O3 R0) [] (at' (p9 Tryz.f9) [0, 0, 1, 0, 1, 1]) [0, 0, 1, 0, 1, 1]
def a0c (k : Ex → St → Prop) (n : Nat) (v : E1 j5) : Prop := u7 (M3 k) n v.1 v.2.1 v.2.2.1
theorem a2r (k : Ex → St → Prop) (Y : E1 j5 → Prop) : ∀ v : E1 j5, a0b (mkD 48 j5 v) (lpK 48 j5 N8 k Y) = F5 (fun b0 out3 i4 => Y (b0, out3, i4, ())) (M3 k) v.1 v.2.1 v.2.2.1
 | (b0, out3, i4, ()) => by kernel_rfl
theorem a0f (k : Ex → St → Prop) : ∀ (n : Nat) (v : E1 j5), lpD 48 j5 N8 a0b k n v = a0c k n v
 | 0, (b0, out3, i4, ()) => rfl
 | n + 1, (b0, out3, i4, ()) => congrArg (fun Z : Prop => wfD j5 (b0, out3, i4, ()) → Z) ((a2r k _ (b0, out3, i4, ())).trans (congrArg (fun Y => F5 Y (M3 k) b0 out3 i4) (funext fun b0 => funext fun out3 => funext fun i4 => a0f k n (b0, out3, i4, ()))))
def a0a : Pce := fun st k => ckD 48 j5 st fun v => wfD j5 v → ∃ n, a0c k n v
set_option maxRecDepth 20000 in
theorem a2u : N0 Tryz.prog (at' (p9 Tryz.f9) [0, 1, 0, 1, 1]) a0a :=
 (N0.loop (a1a tb_M a0p Y3 (p7.nil) (at' (p9 Tryz.f9) [0, 0, 1, 0, 1, 1]) [0, 0, 1, 0, 1, 1] rfl (V3 a0e [0, 0, 1, 0, 1, 1])) 48 j5 N8).mono fun st k h => a1U h fun v hv hw => (hv hw).elim fun n hn => ⟨n, Eq.mpr (a0f k n v) hn⟩
def Z9 : a2N := ([0, 1, 0, 1, 1], a0a) :: []
theorem a2p : p7 Tryz.prog (p9 Tryz.f9) Z9 := p7.cons a2u (p7.nil)
def Y4 (b0 : List Int) (K : Res → List Cell → Prop) : Prop :=
 (wfD j5 (b0, ([] : List Int), (0 : Int), ()) → ∃ n, u7 (fun (out3 : List Int) => wfD D8 (out3, ()) → (
 K (.one (.v (.str) out3)) [])) n b0 ([] : List Int) (0 : Int))
def D3 : List AS := [.v (.sl (.int .u8))]
--! pre 1
--! import SP1
theorem a9z : ∀ n : Fin 16, rd (0 : Int) [48, 49, 50, 51, 52, 53, 54, 55, 56, 57, 97, 98, 99, 100, 101, 102] (n.val : Int) = hx (n.val : Int) := by decide
theorem a8f {n : Int} (h0 : 0 ≤ n) (h1 : n < 16) : rd (0 : Int) [48, 49, 50, 51, 52, 53, 54, 55, 56, 57, 97, 98, 99, 100, 101, 102] n = hx n := by
 have := a9z ⟨n.toNat, by omega⟩
 simpa [Int.toNat_of_nonneg h0] using this
theorem a5I (c : Int) : (wr1 c).length ≤ 7 := by
 unfold wr1
 repeat' split
 all_goals simp
def U2 (b out : List Int) (i : Int) : Prop := out = [] ∧ i = 0 ∧ 7 * b.length ≤ lim ∧ ∀ x ∈ b, 0 ≤ x ∧ x ≤ 255
def U1 (b _ : List Int) (_ : Int) : List Int := wrM b
theorem a0d (kx0 : List Int → Prop) (b : List Int) (hl : 7 * b.length ≤ lim) (hb : ∀ x ∈ b, 0 ≤ x ∧ x ≤ 255) :
  ∀ (n i : Nat) (out : List Int), b.length < n + i → i ≤ b.length → out.length ≤ 7 * i → kx0 (out ++ wrM (b.drop i)) → u7 kx0 n b out (i : Int)
 | 0, i, out, hn, hi, ho, hx => absurd hn (by omega)
 | n + 1, i, out, hn, hi, ho, hx => by
  intro _
  unfold F5
  have hlim : lim = 1099511627776 := rfl
  refine brn (fun hlt => R6 (by omega) ?_) (fun hge => ?_)
  rotate_left
  ·rw [List.drop_eq_nil_of_le (by omega)] at hx
   simpa [wrM] using hx
  have hi' : i < b.length := by omega
  have hc : rd (0 : Int) b (i : Int) = b[i] := by
   unfold rd; rw [Int.toNat_natCast, List.getD_eq_getElem?_getD, List.getElem?_eq_getElem hi']; rfl
  obtain ⟨h0, h255⟩ := hb _ (List.getElem_mem hi')
  rw [hc, Q1 (n := (i : Int) + 1) (by omega) (by omega), show (i : Int) + 1 = ((i + 1 : Nat) : Int) by omega]
  generalize hcc : b[i] = c at h0 h255
  have e : wrM (b.drop i) = wr1 c ++ wrM (b.drop (i + 1)) := by
   rw [List.drop_eq_getElem_cons hi', hcc]; simp [wrM]
  have go : ∀ l, l = wr1 c → u7 kx0 n b (out ++ l) ((i + 1 : Nat) : Int) := fun l h => by
   subst h
   have := a5I c
   refine a0d kx0 b hl hb n (i + 1) _ (by omega) (by omega) (by rw [List.length_append]; omega) ?_
   rw [List.append_assoc, ← e]; exact hx
  have q : IntKind.wrap .u8 (Int.tdiv c 16) = c / 16 := by
   rw [Int.tdiv_eq_ediv_of_nonneg h0]
   show (c / 16) % (2 ^ 8 : Int) = _
   omega
  have m : Int.tmod c 16 = c % 16 := Int.tmod_eq_emod_of_nonneg h0
  have l7 : ∀ l, l = wr1 c → out.length + l.length ≤ lim := fun l h => by
   subst h
   have := a5I c
   omega
  refine brn (fun c60 => R6 (l7 _ (by rw [c60]; rfl)) (go _ (by rw [c60]; rfl))) (fun c60 => ?_)
  refine brn (fun c32 => R6 (l7 _ (by rw [c32]; rfl)) (go _ (by rw [c32]; rfl))) (fun c32 => ?_)
  have big : ¬ (32 < c ∧ c < 127) → [60, 120, rd (0 : Int) [48, 49, 50, 51, 52, 53, 54, 55, 56, 57, 97, 98, 99, 100, 101, 102] (c / 16), rd (0 : Int) [48, 49, 50, 51, 52, 53, 54, 55, 56, 57, 97, 98, 99, 100, 101, 102] (c % 16), 62] = wr1 c := fun h => by
   unfold wr1
   rw [if_neg c60, if_neg c32, if_neg h, a8f (by omega) (by omega), a8f (by omega) (by omega)]
  rw [q, m]
  have b16 : (([48, 49, 50, 51, 52, 53, 54, 55, 56, 57, 97, 98, 99, 100, 101, 102] : List Int).length : Int) = 16 := rfl
  refine brn (fun h1 => brn (fun h2 => ?_) (fun h2 => ?_)) (fun h1 => ?_)
  ·have e1 : [c] = wr1 c := by unfold wr1; rw [if_neg c60, if_neg c32, if_pos ⟨h1, h2⟩]
   exact R6 (l7 _ e1) (go _ e1)
  ·exact R6 (by rw [b16]; omega) (R6 (by rw [b16]; omega) (R6 (l7 _ (big (by omega))) (go _ (big (by omega)))))
  ·exact R6 (by rw [b16]; omega) (R6 (by rw [b16]; omega) (R6 (l7 _ (big (by omega))) (go _ (big (by omega)))))
theorem a1w (kx0 : List Int → Prop) (b out : List Int) (i : Int) (hp : U2 b out i)
  (hx : ∀ q : List Int, q = U1 b out i → kx0 q) : ∃ m, u7 kx0 m b out i := by
 obtain ⟨rfl, rfl, hl, hb⟩ := hp
 exact ⟨b.length + 1, a0d kx0 b hl hb _ 0 [] (by omega) (by omega) (by simp) (hx _ rfl)⟩
def L2 (b0 : List Int) : Prop :=
 U2 b0 ([] : List Int) (0 : Int)
def L1 (b0 : List Int) : List Int :=
 let q0x0 : List Int := U1 b0 ([] : List Int) (0 : Int)
 let out3 : List Int := q0x0
 out3
set_option maxRecDepth 20000 in
theorem a2s (b0 : List Int) (K : Res → List Cell → Prop) (_ : wfA D3 (b0, ())) (hp : L2 b0) (h : ∀ r : List Int, r = L1 b0 → K (.one (.v (.str) r)) []) : Y4 b0 K :=
 fun _ => a1w _ _ _ _ hp (al (h _ rfl))
def a23 (v : p0 D3) (K : Res → List Cell → Prop) : Prop := L2 v.1 ∧ ∀ r : List Int, r = L1 v.1 → K (.one (.v (.str) r)) []
def a0I : App := specW D3 a23
theorem a2t (K : Res → List Cell → Prop) : ∀ v : p0 D3, a3p tb (O3 R0) Z9 Tryz.f9 [true] (mkA D3 v) K = Y4 v.1 K
 | (b0, ()) => by kernel_rfl
set_option maxRecDepth 20000 in
theorem a2q : l5 Tryz.prog 9 a0I :=
 l5.specW (a0t ((S9 tb_M a0p Y3 (a2p) (f := 9) (fn := Tryz.f9) (by kernel_rfl) (by kernel_rfl) a0e [true])) fun v K hw h => (a2t K v).mpr (a2s v.1 K hw h.1 h.2))
/-! ### quoin/quoinlaw28.SessionWrites -/
def D1 : List (Nat × App) := [(5, Q8), (6, a0W), (7, a0N), (8, Q5), (9, a0I)]
theorem Z1 : GOk Tryz.prog (O3 D1) := GOk.cons Z6 (GOk.cons a2W (GOk.cons a1H (GOk.cons V2 (GOk.cons a2q (GOk.nil)))))
def L5 (b0 : List Int) (s1 : List Int) (K : Res → List Cell → Prop) : Prop :=
 ∀ (r1 : Bool), r1 = G9 → (
 wfR (.one (.v (.bool) r1)) → (
 bif (!r1) then
 K (.one (.v (.bool) false)) []
 else
 M6 s1 ∧ (
 ∀ (r2 : List Int × Int), r2 = E9 s1 → (
 wfR (.tup [.fr 5 (.int .u8) r2.1, .v (.int .i64) r2.2]) → (
 D7 s1 ∧ (
 ∀ (r3 : List Int × Int), r3 = B8 s1 → (
 wfR (.tup [.fr 5 (.int .u8) r3.1, .v (.int .i64) r3.2]) → (
 L8 b0 ∧ (
 ∀ (r4 : List Int), r4 = L7 b0 → (
 wfR (.one (.v (.str) r4)) → (
 L2 b0 ∧ (
 ∀ (r5 : List Int), r5 = L1 b0 → (
 wfR (.one (.v (.str) r5)) → (
 bif (decide (r4 = r5)) then
 bif (decide (r3.2 = r2.2)) then
 K (.one (.v (.bool) (decide (r3.1 = r2.1)))) []
 else
 K (.one (.v (.bool) false)) []
 else
 K (.one (.v (.bool) false)) []))))))))))))))
def o9 : List AS := [.v (.sl (.int .u8)), .v (.str)]
theorem Y1 (b0 : List Int) (s1 : List Int) (K : Res → List Cell → Prop) : a3p tb (O3 D1) [] Tryz.f3 [true] (mkA o9 (b0, s1, ())) K = L5 b0 s1 K := by kernel_rfl
--! law 1
def N5 : App := a3p tb (O3 D1) [] Tryz.f3 [true]
theorem a4n : l5 Tryz.prog 3 N5 := S9 tb_M a0p Z1 (p7.nil) (f := 3) (fn := Tryz.f3) (by kernel_rfl) (by kernel_rfl) (by kernel_rfl) [true]
/-! ### quoin/quoinlaw28.SessionBack -/
def B6 : List (Nat × App) := [(5, Q8), (8, Q5), (7, a0N)]
theorem N3 : GOk Tryz.prog (O3 B6) := GOk.cons Z6 (GOk.cons V2 (GOk.cons a1H (GOk.nil)))
theorem P2 : C1 (p9 Tryz.f4) = true := by kernel_rfl
def g8 : List LS := [.v 0 (.sl (.int .u8)), .v 1 (.str), .v 5 (.str), .v 6 (.int .i64)]
def u6 : List LS := [.v 4 (.bool)]
def u4 : List LS := [.v 0 (.sl (.int .u8)), .v 1 (.str), .v 5 (.str)]
def C9 : DX := ⟨none, some u6, [(0, u4)]⟩
def D0 (k : Ex → St → Prop) (x4 : Bool) : Prop := wfD u6 (x4, ()) → k .ret (mkD 76 u6 (x4, ()))
def C6 (k : Ex → St → Prop) (b0 : List Int) (s1 : List Int) (t5 : List Int) : Prop := wfD u4 (b0, s1, t5, ()) → k (.exit 0) (mkD 76 u4 (b0, s1, t5, ()))
def B2 (Y : List Int → List Int → List Int → Int → Prop) (kr : Bool → Prop) (kx0 : List Int → List Int → List Int → Prop) (b0 : List Int) (s1 : List Int) (t5 : List Int) (i6 : Int) : Prop :=
 bif (decide (i6 < (List.length t5 : Int))) then
 bif decide (0 ≤ i6 ∧ i6 < (List.length t5 : Int)) then
 bif (decide ((rd (0 : Int) t5 i6) < (33 : Int))) then
 kr false
 else
 bif decide (0 ≤ i6 ∧ i6 < (List.length t5 : Int)) then
 bif (decide ((126 : Int) < (rd (0 : Int) t5 i6))) then
 kr false
 else
 Y b0 s1 t5 (IntKind.wrap .i64 (i6 + (1 : Int)))
 else False
 else False
 else
 kx0 b0 s1 t5
def B1 (kr : Bool → Prop) (kx0 : List Int → List Int → List Int → Prop) : Nat → List Int → List Int → List Int → Int → Prop
 | 0, _, _, _, _ => False
 | n + 1, b0, s1, t5, i6 => wfD g8 (b0, s1, t5, i6, ()) → B2 (B1 kr kx0 n) kr kx0 b0 s1 t5 i6
def O9 : Pce := ex tb (O3 B6) [] (at' (p9 Tryz.f4) [0, 0, 1, 0, 1, 1, 1]) [0, 0, 1, 0, 1, 1, 1]
def P0 (k : Ex → St → Prop) (n : Nat) (v : E1 g8) : Prop := B1 (D0 k) (C6 k) n v.1 v.2.1 v.2.2.1 v.2.2.2.1
theorem a0Q (k : Ex → St → Prop) (Y : E1 g8 → Prop) : ∀ v : E1 g8, O9 (mkD 76 g8 v) (lpK 76 g8 C9 k Y) = B2 (fun b0 s1 t5 i6 => Y (b0, s1, t5, i6, ())) (D0 k) (C6 k) v.1 v.2.1 v.2.2.1 v.2.2.2.1
 | (b0, s1, t5, i6, ()) => by kernel_rfl
theorem P3 (k : Ex → St → Prop) : ∀ (n : Nat) (v : E1 g8), lpD 76 g8 C9 O9 k n v = P0 k n v
 | 0, (b0, s1, t5, i6, ()) => rfl
 | n + 1, (b0, s1, t5, i6, ()) => congrArg (fun Z : Prop => wfD g8 (b0, s1, t5, i6, ()) → Z) ((a0Q k _ (b0, s1, t5, i6, ())).trans (congrArg (fun Y => B2 Y (D0 k) (C6 k) b0 s1 t5 i6) (funext fun b0 => funext fun s1 => funext fun t5 => funext fun i6 => P3 k n (b0, s1, t5, i6, ()))))
def O8 : Pce := fun st k => ckD 76 g8 st fun v => wfD g8 v → ∃ n, P0 k n v
set_option maxRecDepth 20000 in
theorem a0R : N0 Tryz.prog (at' (p9 Tryz.f4) [0, 1, 0, 1, 1, 1]) O8 :=
 (N0.loop (a1a tb_M a0p N3 (p7.nil) (at' (p9 Tryz.f4) [0, 0, 1, 0, 1, 1, 1]) [0, 0, 1, 0, 1, 1, 1] rfl (V3 P2 [0, 0, 1, 0, 1, 1, 1])) 76 g8 C9).mono fun st k h => a1U h fun v hv hw => (hv hw).elim fun n hn => ⟨n, Eq.mpr (P3 k n v) hn⟩
def E2 : a2N := ([0, 1, 0, 1, 1, 1], O8) :: []
theorem a0O : p7 Tryz.prog (p9 Tryz.f4) E2 := p7.cons a0R (p7.nil)
def N4 (b0 : List Int) (s1 : List Int) (K : Res → List Cell → Prop) : Prop :=
 ∀ (r1 : Bool), r1 = G9 → (
 wfR (.one (.v (.bool) r1)) → (
 bif (!r1) then
 K (.one (.v (.bool) false)) []
 else
 L8 b0 ∧ (
 ∀ (r2 : List Int), r2 = L7 b0 → (
 wfR (.one (.v (.str) r2)) → (
 (wfD g8 (b0, s1, r2, (0 : Int), ()) → ∃ n, B1 (fun (x4 : Bool) => wfD u6 (x4, ()) → (
 K (.one (.v (.bool) x4)) [])) (fun (b0 : List Int) (s1 : List Int) (t5 : List Int) => wfD u4 (b0, s1, t5, ()) → (
 D7 t5 ∧ (
 ∀ (r3 : List Int × Int), r3 = B8 t5 → (
 wfR (.tup [.fr 5 (.int .u8) r3.1, .v (.int .i64) r3.2]) → (
 bif (!decide (r3.2 = (0 : Int))) then
 K (.one (.v (.bool) false)) []
 else
 bif (!decide (r3.1 = b0)) then
 K (.one (.v (.bool) false)) []
 else
 D7 s1 ∧ (
 ∀ (r4 : List Int × Int), r4 = B8 s1 → (
 wfR (.tup [.fr 5 (.int .u8) r4.1, .v (.int .i64) r4.2]) → (
 bif (!decide (r4.2 = (0 : Int))) then
 bif (decide (r4.2 = (280 : Int))) then
 K (.one (.v (.bool) (decide ((List.length r4.1 : Int) = (0 : Int))))) []
 else
 K (.one (.v (.bool) false)) []
 else
 L8 r4.1 ∧ (
 ∀ (r5 : List Int), r5 = L7 r4.1 → (
 wfR (.one (.v (.str) r5)) → (
 D7 r5 ∧ (
 ∀ (r6 : List Int × Int), r6 = B8 r5 → (
 wfR (.tup [.fr 5 (.int .u8) r6.1, .v (.int .i64) r6.2]) → (
 bif (decide (r6.2 = (0 : Int))) then
 K (.one (.v (.bool) (decide (r6.1 = r4.1)))) []
 else
 K (.one (.v (.bool) false)) [])))))))))))))) n b0 s1 r2 (0 : Int)))))))
def o6 : List AS := [.v (.sl (.int .u8)), .v (.str)]
theorem a0s (b0 : List Int) (s1 : List Int) (K : Res → List Cell → Prop) : a3p tb (O3 B6) E2 Tryz.f4 [true] (mkA o6 (b0, s1, ())) K = N4 b0 s1 K := by kernel_rfl
--! law 1
--! pre 1
def a47 : Unit := ()
theorem P1 (kr : Bool → Prop) (kx0 : List Int → List Int → List Int → Prop) (b s t : List Int) (ht : t.length ≤ lim) (hv : ∀ x ∈ t, 33 ≤ x ∧ x ≤ 126) (hx : kx0 b s t) :
  ∀ (n i : Nat), t.length < n + i → i ≤ t.length → B1 kr kx0 n b s t (i : Int)
 | 0, i, hn, hi => absurd hn (by omega)
 | n + 1, i, hn, hi => by
  intro _
  unfold B2
  have hlim : lim = 1099511627776 := rfl
  refine brn (fun hlt => R6 (by omega) ?_) (fun _ => hx)
  have hi' : i < t.length := by omega
  have hc : rd (0 : Int) t (i : Int) = t[i] := by
   unfold rd; rw [Int.toNat_natCast, List.getD_eq_getElem?_getD, List.getElem?_eq_getElem hi']; rfl
  obtain ⟨h1, h2⟩ := hv _ (List.getElem_mem hi')
  rw [hc, Q1 (n := (i : Int) + 1) (by omega) (by omega), show (i : Int) + 1 = ((i + 1 : Nat) : Int) by omega]
  exact brn (fun h => absurd h (by omega)) (fun _ => R6 (by omega) (brn (fun h => absurd h (by omega)) (fun _ => P1 kr kx0 b s t ht hv hx n (i + 1) (by omega) (by omega))))
def Q0 : App := a3p tb (O3 B6) E2 Tryz.f4 [true]
theorem a0P : l5 Tryz.prog 4 Q0 := S9 tb_M a0p N3 (a0O) (f := 4) (fn := Tryz.f4) (by kernel_rfl) (by kernel_rfl) P2 [true]
end Go.VE
namespace Go.VE
theorem a5O (s : List Int) : bulk .str s = s.length + 1 := rfl
theorem a5J : ∀ b : List Int, (wrM b).length ≤ 7 * b.length
 | [] => by simp [wrM]
 | c :: b => by
  have h1 := a5I c
  have h2 := a5J b
  have e : wrM (c :: b) = wr1 c ++ wrM b := by simp [wrM]
  rw [e, List.length_append, List.length_cons]; omega
theorem a7i : ∀ {b : List Int}, (∀ c ∈ b, 0 ≤ c ∧ c ≤ 255) → ∀ x ∈ wrM b, 33 ≤ x ∧ x ≤ 126 := by
 intro b hb x hx
 unfold wrM at hx
 obtain ⟨c, hc, hxc⟩ := List.mem_flatMap.1 hx
 obtain ⟨h0, h1⟩ := hb c hc
 exact a7g h0 h1 hxc
theorem a6G : ∀ (k : Nat) (l b : List Int), l.length ≤ k → rdM l = some b → b.length ≤ l.length
 | k, [], b, _, h => by rw [a3m] at h; cases h; simp
 | 0, c :: r, b, hk, _ => by simp at hk
 | k + 1, c :: r, b, hk, h => by
  simp only [List.length_cons] at hk ⊢
  rw [O1] at h
  split at h
  ·cases h
  ·split at h
   ·rw [Option.map_eq_some_iff] at h
    obtain ⟨b', h1, rfl⟩ := h
    have ih := a6G k r b' (by omega) h1
    simp only [List.length_cons]; omega
   ·split at h
    ·cases h
    ·rename_i n t hg
     have := a5y hg
     split at h
     ·cases h
     ·rw [Option.map_eq_some_iff] at h
      obtain ⟨b', h1, rfl⟩ := h
      have ih := a6G k t b' (by omega) h1
      simp only [List.length_cons]; omega
def rdB (s : List Int) : List Int × Int := match rdM s with
 | none => ([], 280)
 | some t => (t, 0)
theorem a7d {s : List Int} (hl : s.length + 10 ≤ lim) (hb : ∀ x ∈ s, 0 ≤ x ∧ x ≤ 255) : D7 s ∧ B8 s = rdB s := by
 refine ⟨⟨rfl, rfl, hl, hb⟩, ?_⟩
 unfold B8 C0 rdB
 cases rdM s <;> rfl
theorem b0p {s : List Int} (hl : s.length + 10 ≤ lim) (hb : ∀ x ∈ s, 0 ≤ x ∧ x ≤ 255) : M6 s ∧ E9 s = rdB s := by
 refine ⟨⟨rfl, rfl, hl, hb⟩, ?_⟩
 unfold E9 u3 rdB
 cases rdM s <;> rfl
theorem a9I {b : List Int} (hl : 7 * b.length ≤ lim) (hb : ∀ x ∈ b, 0 ≤ x ∧ x ≤ 255) : L2 b ∧ L1 b = wrM b := by
 refine ⟨⟨rfl, rfl, hl, hb⟩, ?_⟩
 rfl
set_option maxRecDepth 100000 in
theorem a9O (v : p0 o9) (hw : wfA o9 v) (hb : a3c o9 v ≤ 1048576) : N5 (mkA o9 v) (fun r _ => r = .one (.v .bool true)) := by
 obtain ⟨b, s, ⟨⟩⟩ := v
 refine (Y1 b s _).mpr ?_
 have hlim : lim = 1099511627776 := rfl
 have hlen : b.length ≤ 1048576 ∧ s.length ≤ 1048576 := by
  change bulk (.sl (.int .u8)) b + (bulk .str s + 0) ≤ 1048576 at hb
  rw [a4u, a5O] at hb
  omega
 have hbb : ∀ x ∈ b, 0 ≤ x ∧ x ≤ 255 := hw.1.2
 have hss : ∀ x ∈ s, 0 ≤ x ∧ x ≤ 255 := hw.2.1.2
 obtain ⟨p1, f1⟩ := b0p (s := s) (by omega) hss
 obtain ⟨p2, f2⟩ := a7d (s := s) (by omega) hss
 obtain ⟨p3, f3⟩ := a9I (b := b) (by omega) hbb
 unfold L5
 intro r1 h1 _
 subst h1
 refine brb (fun h => absurd h (by decide)) (fun _ => ?_)
 refine ⟨p1, fun r2 h2 _ => ⟨p2, fun r3 h3 _ => ⟨show b.length ≤ 1099511627776 by omega, fun r4 h4 _ => ⟨p3, fun r5 h5 _ => ?_⟩⟩⟩⟩
 rw [f1] at h2
 rw [f2] at h3
 rw [f3] at h5
 have h4 : r4 = wrM b := h4
 subst h2
 subst h3
 subst h4
 subst h5
 refine brn (fun _ => brn (fun _ => ?_) (fun h => absurd rfl h)) (fun h => absurd rfl h)
 rw [decide_eq_true rfl]
set_option maxRecDepth 100000 in
theorem back_law (v : p0 o6) (hw : wfA o6 v) (hb : a3c o6 v ≤ 1048576) : Q0 (mkA o6 v) (fun r _ => r = .one (.v .bool true)) := by
 obtain ⟨b, s, ⟨⟩⟩ := v
 refine (a0s b s _).mpr ?_
 have hlim : lim = 1099511627776 := rfl
 have hlen : b.length ≤ 1048576 ∧ s.length ≤ 1048576 := by
  change bulk (.sl (.int .u8)) b + (bulk .str s + 0) ≤ 1048576 at hb
  rw [a4u, a5O] at hb
  omega
 have hbb : ∀ x ∈ b, 0 ≤ x ∧ x ≤ 255 := hw.1.2
 have hss : ∀ x ∈ s, 0 ≤ x ∧ x ≤ 255 := hw.2.1.2
 have vis := a7i hbb
 have wl := a5J b
 obtain ⟨p1, f1⟩ := a7d (s := wrM b) (by omega) (fun x hx => by have := vis x hx; omega)
 obtain ⟨p2, f2⟩ := a7d (s := s) (by omega) hss
 unfold N4
 intro r1 h1 _
 subst h1
 refine brb (fun h => absurd h (by decide)) (fun _ => ?_)
 refine ⟨show b.length ≤ 1099511627776 by omega, fun r2 h2 _ => ?_⟩
 have h2 : r2 = wrM b := h2
 subst h2
 intro _
 refine ⟨(wrM b).length + 1, P1 _ _ b s (wrM b) (by omega) vis ?_ _ 0 (by omega) (by omega)⟩
 intro _
 refine ⟨p1, fun r3 h3 _ => ?_⟩
 rw [f1] at h3
 unfold rdB at h3
 rw [a8A hbb] at h3
 subst h3
 refine brb (fun h => absurd h (by simp)) (fun _ => brb (fun h => absurd h (by simp)) (fun _ => ?_))
 refine ⟨p2, fun r4 h4 _ => ?_⟩
 rw [f2] at h4
 unfold rdB at h4
 cases hr : rdM s with
 | none =>
  rw [hr] at h4
  subst h4
  exact brb (fun _ => brb (fun _ => rfl) (fun h => absurd h (by decide))) (fun h => absurd h (by decide))
 | some d =>
  rw [hr] at h4
  subst h4
  have hd := a5A _ s d (Nat.le_refl _) hr
  have hdl : d.length ≤ s.length := a6G _ s d (Nat.le_refl _) hr
  have vis2 := a7i hd
  have wl2 := a5J d
  obtain ⟨p3, f3⟩ := a7d (s := wrM d) (by omega) (fun x hx => by have := vis2 x hx; omega)
  refine brb (fun h => absurd h (by simp)) (fun _ => ?_)
  refine ⟨show d.length ≤ 1099511627776 by omega, fun r5 h5 _ => ?_⟩
  have h5 : r5 = wrM d := h5
  subst h5
  refine ⟨p3, fun r6 h6 _ => ?_⟩
  rw [f3] at h6
  unfold rdB at h6
  rw [a8A hd] at h6
  subst h6
  refine brn (fun _ => ?_) (fun h => absurd rfl h)
  rw [decide_eq_true rfl]
end Go.VE
