import Derived.Calls
import Derived.Laws.Sem
import Derived.Laws.World
import Derived.Laws.Cells
import Derived.Laws.Rows
import Derived.Laws.Append
import Derived.Laws.AppendOwn
import Derived.RowKit
import Derived.Below
import Derived.KernelRfl
set_option linter.unusedVariables false
set_option linter.unusedSectionVars false
set_option linter.unusedSimpArgs false
namespace Go.VE
open Go
inductive Ty
 | int (k : IntKind) | bool | str | unit | pair (a b : Ty) | st (a : Ty) | sl (e : Ty)
 /-- in a variable: a slice of its own, of that element type's number; the invariant says what it is -/
 | osl (et : Nat) (e : Ty)
 /-- in a variable: a slice that was taken out -/
 | hole (e : Ty)
 /-- an array: what it holds is not told -/
 | arr (n : Nat) (e : Ty)
@[reducible] def Ty.den : Ty → Type
 | .int _ => Int | .bool => Bool | .str => List Int | .unit => Unit | .pair a b => a.den × b.den | .st a => a.den | .sl e => List e.den | .osl _ e => List e.den | .hole _ => Unit | .arr _ _ => Unit
def Ty.dflt : (t : Ty) → t.den
 | .int _ => (0 : Int) | .bool => false | .str => ([] : List Int) | .unit => () | .pair a b => (a.dflt, b.dflt) | .st a => a.dflt | .sl _ => [] | .osl _ _ => [] | .hole _ => () | .arr _ _ => ()
def Ty.cells : Ty → Nat
 | .int _ => 1 | .bool => 1 | .str => 1 | .unit => 0 | .pair a b => a.cells + b.cells | .st a => a.cells | .sl _ => 1 | .osl _ _ => 1 | .hole _ => 1 | .arr n e => n * e.cells
def Ty.agg : Ty → Bool
 | .unit => true | .pair _ _ => true | .st _ => true | .arr _ _ => true | _ => false
/-- holds no slice: what it is does not hang on memory -/
def Ty.flat : Ty → Bool
 | .int _ => true | .bool => true | .str => true | .unit => true | .pair a b => a.flat && b.flat | .st a => a.flat | .sl _ => false | .osl _ _ => false | .hole _ => false | .arr _ _ => true
/-- holds no slice of its own, and lacks none -/
def Ty.noO : Ty → Bool
 | .pair a b => match a.noO with | true => b.noO | false => false
 | .st a => a.noO
 | .osl _ _ => false
 | .hole _ => false
 | _ => true
/-- as the program's types say it -/
def Ty.era : Ty → Ty
 | .pair a b => .pair a.era b.era
 | .st a => .st a.era
 | .osl _ e => .sl e
 | .hole e => .sl e
 | t => t
def a38 : IntKind → IntKind → Bool
 | .i8, .i8 => true | .i16, .i16 => true | .i32, .i32 => true | .i64, .i64 => true
 | .u8, .u8 => true | .u16, .u16 => true | .u32, .u32 => true | .u64, .u64 => true
 | _, _ => false
theorem Q2 {a b : IntKind} (h : a38 a b = true) : a = b := by cases a <;> cases b <;> first | rfl | cases h
theorem a3I (a : IntKind) : a38 a a = true := by cases a <;> rfl
def Ty.beq : Ty → Ty → Bool
 | .int a, .int b => a38 a b
 | .bool, .bool => true
 | .str, .str => true
 | .unit, .unit => true
 | .pair a b, .pair c d => match a.beq c with | true => b.beq d | false => false
 | .st a, .st b => a.beq b
 | .sl a, .sl b => a.beq b
 | .osl n a, .osl m b => match Nat.beq n m with | true => a.beq b | false => false
 | .hole a, .hole b => a.beq b
 | .arr n a, .arr m b => match Nat.beq n m with | true => a.beq b | false => false
 | _, _ => false
theorem Ty.beq_eq : ∀ {a b : Ty}, a.beq b = true → a = b := by
 intro a
 induction a with
 | int k => intro b h; cases b <;> simp only [Ty.beq] at h <;> first | (rw [Q2 h]) | cases h
 | bool => intro b h; cases b <;> first | rfl | cases h
 | str => intro b h; cases b <;> first | rfl | cases h
 | unit => intro b h; cases b <;> first | rfl | cases h
 | pair a c iha ihc =>
  intro b h
  cases b with
  | pair d e =>
   simp only [Ty.beq] at h
   split at h
   ·rename_i h1; rw [iha h1, ihc h]
   ·cases h
  | _ => cases h
 | st a ih => intro b h; cases b <;> simp only [Ty.beq] at h <;> first | (rw [ih h]) | cases h
 | sl a ih => intro b h; cases b <;> simp only [Ty.beq] at h <;> first | (rw [ih h]) | cases h
 | osl n a ih =>
  intro b h
  cases b with
  | osl m b =>
   simp only [Ty.beq] at h
   split at h
   ·rename_i h1; rw [Nat.eq_of_beq_eq_true h1, ih h]
   ·cases h
  | _ => cases h
 | hole a ih => intro b h; cases b <;> simp only [Ty.beq] at h <;> first | (rw [ih h]) | cases h
 | arr n a ih =>
  intro b h
  cases b with
  | arr m b =>
   simp only [Ty.beq] at h
   split at h
   ·rename_i h1; rw [Nat.eq_of_beq_eq_true h1, ih h]
   ·cases h
  | _ => cases h
def Ty.castB (t u : Ty) (x : t.den) : (b : Bool) → (t.beq u = b) → Option u.den
 | true, h => some (Ty.beq_eq h ▸ x)
 | false, _ => none
def Ty.cast? (t u : Ty) (x : t.den) : Option u.den := Ty.castB t u x (t.beq u) rfl
theorem Ty.castB_eq {t u : Ty} {x : t.den} {y : u.den} : ∀ (b : Bool) (hb : t.beq u = b), Ty.castB t u x b hb = some y → ∃ e : t = u, y = e ▸ x
 | true, hb, h => ⟨Ty.beq_eq hb, by simp only [Ty.castB, Option.some.injEq] at h; exact h.symm⟩
 | false, hb, h => by simp [Ty.castB] at h
theorem Ty.cast?_eq {t u : Ty} {x : t.den} {y : u.den} (h : Ty.cast? t u x = some y) : ∃ e : t = u, y = e ▸ x := Ty.castB_eq _ _ h
/-! ### ranges of the integer kinds, as literals -/
def a03 : IntKind → Int
 | .i8 => -128 | .i16 => -32768 | .i32 => -2147483648 | .i64 => -9223372036854775808 | _ => 0
def a02 : IntKind → Int
 | .i8 => 127 | .i16 => 32767 | .i32 => 2147483647 | .i64 => 9223372036854775807
 | .u8 => 255 | .u16 => 65535 | .u32 => 4294967295 | .u64 => 18446744073709551615
def inR (k : IntKind) (n : Int) : Prop := a03 k ≤ n ∧ n ≤ a02 k
instance (k : IntKind) (n : Int) : Decidable (inR k n) := inferInstanceAs (Decidable (_ ∧ _))
theorem S4 (k : IntKind) (n : Int) : inR k (k.wrap n) := by
 unfold inR a03 a02 IntKind.wrap
 cases k <;> simp [IntKind.bits, IntKind.signed] <;> (try split) <;> omega
theorem a1m {k : IntKind} {n : Int} (h : inR k n) : k.wrap n = n := by
 unfold inR a03 a02 at h
 unfold IntKind.wrap
 cases k <;> simp [IntKind.bits, IntKind.signed] at h ⊢ <;> (try split) <;> omega
def bytesOf (s : ByteArray) : List Int := s.data.toList.map fun b => (b.toNat : Int)
/-! ### plain data in memory -/
/-- 'xs' lie one behind the other from A on, each n cells, in blocks that I lets -/
def a42 (I : Nat → Prop) (w : World) {α : Type} (R : α → List Value → Prop) (n : Nat) (A : Option Addr) (xs : List α) : Prop :=
 ∀ i (h : i < xs.length), ∃ b o, A = some ⟨b, o, none⟩ ∧ I b ∧ ∃ cs, R xs[i] cs ∧ cs.length = n ∧ ∀ j v, cs[j]? = some v → w.cell? ⟨b, o + i * n + j, none⟩ = some v
def l0 (I : Nat → Prop) (w : World) : (t : Ty) → t.den → List Value → Prop
 | .int k, n, cs => inR k n ∧ cs = [.int k n]
 | .bool, b, cs => cs = [.bool b]
 | .str, xs, cs => ∃ s, cs = [.string s] ∧ bytesOf s = xs ∧ s.size ≤ maxLen
 | .unit, _, cs => cs = []
 | .pair a b, x, cs => ∃ c d, cs = c ++ d ∧ l0 I w a x.1 c ∧ l0 I w b x.2 d
 | .st a, x, cs => l0 I w a x cs
 | .sl e, xs, cs => ∃ A cap, cs = [.slice A (List.length xs) cap] ∧ List.length xs ≤ cap ∧ cap ≤ maxLen ∧ a42 I w (l0 I w e) e.cells A xs
 | .osl _ _, _, cs => ∃ A n m, cs = [.slice A n m]
 | .hole _, _, cs => ∃ A n m, cs = [.slice A n m]
 | .arr n e, _, cs => cs.length = n * e.cells ∧ ∀ v ∈ cs, v.oneCell' = true
theorem l0.len {I : Nat → Prop} {w : World} : ∀ {t : Ty} {x : t.den} {cs : List Value}, l0 I w t x cs → cs.length = t.cells := by
 intro t
 induction t with
 | int k => intro x cs h; rw [h.2]; rfl
 | bool => intro x cs h; rw [show cs = _ from h]; rfl
 | str => intro x cs h; obtain ⟨s, rfl, _⟩ := h; rfl
 | unit => intro x cs h; rw [show cs = _ from h]; rfl
 | pair a b iha ihb => intro x cs h; obtain ⟨c, d, rfl, hc, hd⟩ := h; rw [List.length_append, iha hc, ihb hd]; rfl
 | st a ih => intro x cs h; exact ih (x := x) h
 | sl e ih => intro x cs h; obtain ⟨A, cap, rfl, _⟩ := h; rfl
 | osl n e ih => intro x cs h; obtain ⟨A, n, m, rfl⟩ := h; rfl
 | hole e ih => intro x cs h; obtain ⟨A, n, m, rfl⟩ := h; rfl
 | arr n e ih => intro x cs h; exact h.1
/-- the one-cell values -/
theorem l0.one {I : Nat → Prop} {w : World} {t : Ty} {x : t.den} {cs : List Value} (h : l0 I w t x cs) (ha : t.agg = false) : ∃ v, cs = [v] ∧ v.cells = #[v] := by
 cases t with
 | int k => exact ⟨_, h.2, rfl⟩
 | bool => exact ⟨_, h, rfl⟩
 | str => obtain ⟨s, rfl, _⟩ := h; exact ⟨_, rfl, rfl⟩
 | sl e => obtain ⟨A, cap, rfl, _⟩ := h; exact ⟨_, rfl, rfl⟩
 | osl n e => obtain ⟨A, n, m, rfl⟩ := h; exact ⟨_, rfl, rfl⟩
 | hole e => obtain ⟨A, n, m, rfl⟩ := h; exact ⟨_, rfl, rfl⟩
 | arr n e => cases ha
 | unit => cases ha
 | pair a b => cases ha
 | st a => cases ha
theorem l0.oneCell {I : Nat → Prop} {w : World} : ∀ {t : Ty} {x : t.den} {cs : List Value}, l0 I w t x cs → ∀ v ∈ cs, v.oneCell' = true := by
 intro t
 induction t with
 | int k => intro x cs h v hv; rw [h.2] at hv; simp at hv; subst hv; rfl
 | bool => intro x cs h v hv; rw [show cs = _ from h] at hv; simp at hv; subst hv; rfl
 | str => intro x cs h v hv; obtain ⟨s, rfl, _⟩ := h; simp at hv; subst hv; rfl
 | unit => intro x cs h v hv; rw [show cs = _ from h] at hv; cases hv
 | pair a b iha ihb =>
  intro x cs h v hv; obtain ⟨c, d, rfl, hc, hd⟩ := h
  rcases List.mem_append.1 hv with hv | hv
  ·exact iha hc v hv
  ·exact ihb hd v hv
 | st a ih => intro x cs h; exact ih (x := x) h
 | sl e ih => intro x cs h v hv; obtain ⟨A, cap, rfl, _⟩ := h; simp at hv; subst hv; rfl
 | osl n e ih => intro x cs h v hv; obtain ⟨A, n, m, rfl⟩ := h; simp at hv; subst hv; rfl
 | hole e ih => intro x cs h v hv; obtain ⟨A, n, m, rfl⟩ := h; simp at hv; subst hv; rfl
 | arr n e ih => intro x cs h; exact h.2
/-- What plain data are, as a value in a slot. -/
def g6 (I : Nat → Prop) (w : World) (t : Ty) (x : t.den) (v : Value) : Prop :=
 ∃ cs, l0 I w t x cs ∧ v.cells.toList = cs ∧ (t.agg = true → v = .agg cs.toArray) ∧ (t.agg = false → cs = [v])
theorem g6.of_one {I : Nat → Prop} {w : World} {t : Ty} {x : t.den} {v : Value} (ha : t.agg = false) (h : l0 I w t x [v]) : g6 I w t x v := by
 obtain ⟨u, hu, hc⟩ := h.one ha
 simp at hu; subst hu
 exact ⟨[v], h, by rw [hc], fun e => by rw [ha] at e; (exact absurd e (by simp)), fun _ => rfl⟩
theorem g6.of_agg {I : Nat → Prop} {w : World} {t : Ty} {x : t.den} {cs : List Value} (ha : t.agg = true) (h : l0 I w t x cs) : g6 I w t x (.agg cs.toArray) :=
 ⟨cs, h, by simp [Value.cells], fun _ => rfl, fun e => by rw [ha] at e; cases e⟩
/-- the memory that counts turned not; more blocks may be let -/
structure p5 (I I' : Nat → Prop) (w w' : World) : Prop where
 sub : ∀ b, I b → I' b
 heap : ∀ b, I b → w'.heap[b]? = w.heap[b]?
/-- what is known of the package's variables: it goes on wherever plain data goes on -/
class M9 where
 ok : (Nat → Prop) → World → Prop
 keep : ∀ {I I' : Nat → Prop} {w w' : World}, p5 I I' w w' → ok I w → ok I' w'
 /-- the value that the program panics with, by its number -/
 pan : Int → Value := fun _ => undef
 /-- of which element types the blocks' sizes are kept in sight -/
 trk : Nat → Bool := fun _ => false
theorem p5.refl (I : Nat → Prop) (w : World) : p5 I I w w := ⟨fun _ h => h, fun _ _ => rfl⟩
theorem a07 {w w' : World} {b : Nat} (h : w'.heap[b]? = w.heap[b]?) (o : Nat) : w'.cell? ⟨b, o, none⟩ = w.cell? ⟨b, o, none⟩ := by
 unfold World.cell?
 rw [h]
theorem a42.keep {I I' : Nat → Prop} {w w' : World} (hk : p5 I I' w w') {α : Type} {R R' : α → List Value → Prop} {n : Nat} {A : Option Addr} {xs : List α}
  (hR : ∀ x cs, R x cs → R' x cs) (h : a42 I w R n A xs) : a42 I' w' R' n A xs := by
 intro i hi
 obtain ⟨b, o, hA, hI, cs, hcs, hl, hc⟩ := h i hi
 exact ⟨b, o, hA, hk.sub b hI, cs, hR _ _ hcs, hl, fun j v hj => by rw [a07 (hk.heap b hI)]; exact hc j v hj⟩
theorem l0.keep {I I' : Nat → Prop} {w w' : World} (hk : p5 I I' w w') : ∀ {t : Ty} {x : t.den} {cs : List Value}, l0 I w t x cs → l0 I' w' t x cs := by
 intro t
 induction t with
 | int k => intro x cs h; exact h
 | bool => intro x cs h; exact h
 | str => intro x cs h; exact h
 | unit => intro x cs h; exact h
 | pair a b iha ihb => intro x cs h; obtain ⟨c, d, e, hc, hd⟩ := h; exact ⟨c, d, e, iha hc, ihb hd⟩
 | st a ih => intro x cs h; exact ih (x := x) h
 | sl e ih => intro x cs h; obtain ⟨A, cap, e, hl, hm, hr⟩ := h; exact ⟨A, cap, e, hl, hm, hr.keep hk fun _ _ => ih⟩
 | osl n e ih => intro x cs h; exact h
 | hole e ih => intro x cs h; exact h
 | arr n e ih => intro x cs h; exact h
theorem g6.keep {I I' : Nat → Prop} {w w' : World} (hk : p5 I I' w w') {t : Ty} {x : t.den} {v : Value} (h : g6 I w t x v) : g6 I' w' t x v := by
 obtain ⟨cs, h, r⟩ := h
 exact ⟨cs, h.keep hk, r⟩
/-- what holds no slice hangs on no memory -/
theorem l0.flat {I I' : Nat → Prop} {w w' : World} : ∀ {t : Ty} {x : t.den} {cs : List Value}, t.flat = true → l0 I w t x cs → l0 I' w' t x cs := by
 intro t
 induction t with
 | int k => intro x cs _ h; exact h
 | bool => intro x cs _ h; exact h
 | str => intro x cs _ h; exact h
 | unit => intro x cs _ h; exact h
 | pair a b iha ihb =>
  intro x cs hf h
  simp only [Ty.flat, Bool.and_eq_true] at hf
  obtain ⟨c, d, e, hc, hd⟩ := h; exact ⟨c, d, e, iha hf.1 hc, ihb hf.2 hd⟩
 | st a ih => intro x cs hf h; exact ih (x := x) hf h
 | sl e ih => intro x cs hf h; cases hf
 | osl n e ih => intro x cs hf h; cases hf
 | hole e ih => intro x cs hf h; cases hf
 | arr n e ih => intro x cs hf h; exact h
theorem g6.flat {I I' : Nat → Prop} {w w' : World} {t : Ty} {x : t.den} {v : Value} (hf : t.flat = true) (h : g6 I w t x v) : g6 I' w' t x v := by
 obtain ⟨cs, h, r⟩ := h
 exact ⟨cs, h.flat hf, r⟩
/-! ### zero values -/
def G6 : Ty → List Value
 | .int k => [.int k 0] | .bool => [.bool false] | .str => [.string .empty] | .unit => [] | .pair a b => G6 a ++ G6 b | .st a => G6 a | .sl _ => [.slice none 0 0] | .osl _ _ => [.slice none 0 0] | .hole _ => [.slice none 0 0] | .arr n e => (List.replicate n (G6 e)).flatten
def q0 (t : Ty) : Value := match t.agg with | true => .agg (G6 t).toArray | false => (G6 t).headD (.tuple #[])
theorem l0.zero (I : Nat → Prop) (w : World) : ∀ t : Ty, l0 I w t t.dflt (G6 t) := by
 intro t
 induction t with
 | int k => exact ⟨by cases k <;> (simp [inR, a03, a02, Ty.dflt]), rfl⟩
 | bool => rfl
 | str => exact ⟨.empty, rfl, rfl, Nat.zero_le _⟩
 | unit => rfl
 | pair a b iha ihb => exact ⟨_, _, rfl, iha, ihb⟩
 | st a ih => exact ih
 | sl e ih => exact ⟨none, 0, rfl, Nat.le_refl 0, Nat.zero_le _, fun i hi => absurd hi (Nat.not_lt_zero i)⟩
 | osl n e ih => exact ⟨none, 0, 0, rfl⟩
 | hole e ih => exact ⟨none, 0, 0, rfl⟩
 | arr n e ih =>
  refine ⟨?_, fun v hv => ?_⟩
  ·show (List.replicate n (G6 e)).flatten.length = n * e.cells
   rw [List.length_flatten, List.map_replicate, List.sum_replicate_nat, l0.len ih]
  ·obtain ⟨l, hl, hv⟩ := List.mem_flatten.1 hv
   rw [(List.mem_replicate.1 hl).2] at hv
   exact l0.oneCell ih v hv
theorem g6.zero (I : Nat → Prop) (w : World) (t : Ty) : g6 I w t t.dflt (q0 t) := by
 unfold q0
 split
 ·rename_i h; exact g6.of_agg h (l0.zero I w t)
 ·rename_i h
  obtain ⟨v, hv, _⟩ := (l0.zero I w t).one h
  rw [hv]
  exact g6.of_one h (hv ▸ l0.zero I w t)
end Go.VE
