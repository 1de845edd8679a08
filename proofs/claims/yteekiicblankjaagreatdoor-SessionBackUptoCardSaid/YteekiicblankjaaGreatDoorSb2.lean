import Derived.Test.YteekiicblankjaaGreatDoorSb1
import Derived.Orders
set_option linter.unusedVariables false
set_option linter.unusedSectionVars false
set_option linter.unusedSimpArgs false
namespace Go.VE
open Go
inductive Val
 | v (t : Ty) (x : t.den)
 | own (k et : Nat) (e : Ty) (x : List e.den)
inductive j4
 | no | nil | skip
 | v (t : Ty) (x : t.den)
 | own (k et : Nat) (e : Ty) (x : List e.den)
 | box (k : Nat) (p : List Nat)
 | elt (t : Ty) (x : t.den)
 | oel (k : Nat) (i : Int) (e : Ty) (p : List Nat) (t : Ty) (x : t.den)
 | osub (k et : Nat) (e : Ty) (o : Nat) (x : List e.den)
 | tup (xs : List Val)
 | fn (f : Nat) (ks : List Nat)
structure Cell where
 t : Ty
 x : t.den
structure St where
 tmps : List j4
 boxes : List (Nat × Cell)
structure TI where
 ty : Ty
 el : Nat
 fts : List Nat
 bytes : Nat
abbrev Tab := List (Nat × TI)
def Tab.get : Tab → Nat → Option TI
 | [], _ => none
 | (k, i) :: r, n => match Nat.beq k n with | true => some i | false => Tab.get r n
/-! ### calls from outside -/
inductive Arg
 | v (t : Ty) (x : t.den)
 | ref (fo : Option Nat) (c : Cell)
 /-- a slice of the caller's own, handed over -/
 | own (et : Nat) (e : Ty) (x : List e.den)
 /-- a known function -/
 | fn (f : Nat)
inductive P8
 | v (t : Ty) (x : t.den)
 | fr (et : Nat) (e : Ty) (x : List e.den)
inductive Res
 | one (x : P8)
 | tup (xs : List P8)
 /-- no answer: a panic, by its number -/
 | pan (n : Int)
/-- a function that is called, as its answers: what must hold of what comes behind -/
structure App where
 /-- which arguments are handed over -/
 own : List Bool
 run : List Arg → (Res → List Cell → Prop) → Prop
instance : CoeFun App fun _ => List Arg → (Res → List Cell → Prop) → Prop := ⟨App.run⟩
/-! ### the state -/
/-- appends are taken up to this length -/
def lim : Nat := 1099511627776
def nm (d i : Nat) : Nat := d * 8 + i
/-- An element type's number, as a slice of one's own bears it: from 2^32 on, the block may bear the mark of a string's bytes behind its cells. -/
def eR (et : Nat) : Nat := et % 4294967296
def eM (et : Nat) : Nat := eR et + 4294967296
theorem a74 (et : Nat) : eR (eM et) = eR et := by unfold eM eR; omega
def C5 : List j4 → Nat → j4
 | [], _ => .no
 | x :: _, 0 => x
 | _ :: xs, n + 1 => C5 xs n
def a3s : List j4 → Nat → j4 → List j4
 | [], _, _ => []
 | _ :: xs, 0, s => s :: xs
 | x :: xs, n + 1, s => x :: a3s xs n s
def l6 : List (Nat × Cell) → Nat → Option Cell
 | [], _ => none
 | (k, s) :: bs, n => match Nat.beq k n with | true => some s | false => l6 bs n
def a6x : List (Nat × Cell) → Nat → List (Nat × Cell)
 | [], _ => []
 | (k, x) :: bs, n => match Nat.beq k n with | true => a6x bs n | false => (k, x) :: a6x bs n
def a06 : List (Nat × Cell) → Nat → Cell → List (Nat × Cell)
 | [], n, s => [(n, s)]
 | (k, x) :: bs, n, s => match Nat.beq k n with | true => (k, s) :: bs | false => (k, x) :: a06 bs n s
def a04 : List Nat → Nat → Bool
 | [], _ => false
 | k :: ks, n => match Nat.beq k n with | true => true | false => a04 ks n
def Val.has (k : Nat) : Val → Bool
 | .own j _ _ _ => Nat.beq j k
 | .v _ _ => false
def a8S (k : Nat) : List Val → Bool
 | [] => false
 | x :: xs => match x.has k with | true => true | false => a8S k xs
def j4.has (k : Nat) : j4 → Bool
 | .own j _ _ _ => Nat.beq j k
 | .box j _ => Nat.beq j k
 | .oel j _ _ _ _ _ => Nat.beq j k
 | .osub j _ _ _ _ => Nat.beq j k
 | .tup xs => a8S k xs
 | .fn _ ks => a04 ks k
 | _ => false
def Val.fz (k : Nat) : Val → Val
 | .own j et e x => match Nat.beq j k with | true => .v (.sl e) x | false => .own j et e x
 | s => s
def j4.fz (k : Nat) : j4 → j4
 | .own j et e x => match Nat.beq j k with | true => .v (.sl e) x | false => .own j et e x
 | .oel j i e p t x => match Nat.beq j k with | true => .elt t x | false => .oel j i e p t x
 | .osub j et e o x => match Nat.beq j k with | true => .v (.sl e) x | false => .osub j et e o x
 | .tup xs => .tup (xs.map (Val.fz k))
 | s => s
/-- the slice's cells are written: what the views of it read now -/
def j4.up (k : Nat) (e : Ty) (f : List e.den → List e.den) : j4 → j4
 | .own j et e' x => match Nat.beq j k with
  | true => match (Ty.sl e').cast? (.sl e) x with
   | some y => .own j et e (f y)
   | none => .no
  | false => .own j et e' x
 | s => match s.has k with | true => .no | false => s
def j4.kl (k : Nat) (s : j4) : j4 := match s.has k with | true => .no | false => s
/-! ### slices of their own in variables: the token of the variable k's is k + 4 -/
def S3 : Ty → Ty
 | .pair a b => .pair (S3 a) (S3 b)
 | .st a => .st (S3 a)
 | .osl _ e => .hole e
 | t => t
def a0U : (t : Ty) → t.den → (S3 t).den
 | .pair a b, x => (a0U a x.1, a0U b x.2)
 | .st a, x => a0U a x
 | .osl _ _, _ => ()
 | .int _, x => x
 | .bool, x => x
 | .str, x => x
 | .unit, x => x
 | .sl _, x => x
 | .hole _, x => x
 | .arr _ _, x => x
def V8 : Ty → Ty
 | .pair a b => .pair (V8 a) (V8 b)
 | .st a => .st (V8 a)
 | .osl _ e => .sl e
 | t => t
def a1C : (t : Ty) → t.den → (V8 t).den
 | .pair a b, x => (a1C a x.1, a1C b x.2)
 | .st a, x => a1C a x
 | .osl _ _, x => x
 | .int _, x => x
 | .bool, x => x
 | .str, x => x
 | .unit, x => x
 | .sl _, x => x
 | .hole _, x => x
 | .arr _ _, x => x
def a1W (k : Nat) : List (Nat × Cell) → List (Nat × Cell)
 | [] => []
 | (j, c) :: r => match Nat.beq (j + 4) k, Nat.beq (j % 8) 0 with
  | true, true => (j, ⟨S3 c.t, a0U c.t c.x⟩) :: a1W k r
  | _, _ => (j, c) :: a1W k r
def a3i (k : Nat) : List (Nat × Cell) → List (Nat × Cell)
 | [] => []
 | (j, c) :: r => match Nat.beq (j + 4) k, Nat.beq (j % 8) 0 with
  | true, true => (j, ⟨V8 c.t, a1C c.t c.x⟩) :: a3i k r
  | _, _ => (j, c) :: a3i k r
/-- the token k becomes plain data -/
def St.fz (st : St) (k : Nat) : St := ⟨st.tmps.map (j4.fz k), a3i k st.boxes⟩
/-- no slot speaks of k any more -/
def St.kl (st : St) (k : Nat) : St := ⟨st.tmps.map (j4.kl k), a1W k (a6x st.boxes k)⟩
def St.up (st : St) (k : Nat) (e : Ty) (f : List e.den → List e.den) : St := ⟨st.tmps.map (j4.up k e f), a1W k st.boxes⟩
/-- the name k is free again -/
def St.rn (st : St) (k : Nat) : St := (st.fz k).kl k
/-! ### a state laid bare: the kernel works on it in full -/
def a3G : List j4 → (List j4 → Prop) → Prop
 | [], k => k []
 | .no :: r, k => a3G r fun l => k (.no :: l)
 | .nil :: r, k => a3G r fun l => k (.nil :: l)
 | .skip :: r, k => a3G r fun l => k (.skip :: l)
 | .v t x :: r, k => a3G r fun l => k (.v t x :: l)
 | .own a b e x :: r, k => a3G r fun l => k (.own a b e x :: l)
 | .box a p :: r, k => a3G r fun l => k (.box a p :: l)
 | .elt t x :: r, k => a3G r fun l => k (.elt t x :: l)
 | .oel a i e p t x :: r, k => a3G r fun l => k (.oel a i e p t x :: l)
 | .osub a b e o x :: r, k => a3G r fun l => k (.osub a b e o x :: l)
 | .tup xs :: r, k => a3G r fun l => k (.tup xs :: l)
 | .fn f ks :: r, k => a3G r fun l => k (.fn f ks :: l)
def a9x : List (Nat × Cell) → (List (Nat × Cell) → Prop) → Prop
 | [], k => k []
 | (a, ⟨t, x⟩) :: r, k => a9x r fun l => k ((a, ⟨t, x⟩) :: l)
def St.frc (st : St) (k : St → Prop) : Prop := a3G st.tmps fun l => a9x st.boxes fun b => k ⟨l, b⟩
theorem a6Y : ∀ (l : List j4) (k : List j4 → Prop), a3G l k = k l
 | [], _ => rfl
 | s :: r, k => by cases s <;> exact a6Y r _
theorem a6X : ∀ (l : List (Nat × Cell)) (k : List (Nat × Cell) → Prop), a9x l k = k l
 | [], _ => rfl
 | (_, ⟨_, _⟩) :: r, k => a6X r _
theorem St.frc_eq (st : St) (k : St → Prop) : st.frc k = k st := by
 unfold St.frc; rw [a6Y, a6X]
def St.put (st : St) (d : Option Nat) (s : j4) : St :=
 match d with
 | none => st
 | some d => ⟨a3s st.tmps d s, st.boxes⟩
def St.ev (st : St) : Operand → j4
 | .tmp t => C5 st.tmps t
 | .const (.int k n) => match decide (inR k n) with | true => .v (.int k) n | false => .no
 | .const (.bool b) => .v .bool b
 | .const (.string s) => match Nat.ble s.size lim with | true => .v .str (bytesOf s) | false => .no
 | .const (.slice none 0 0) => .nil
 | .func f => .fn f []
 | _ => .no
/-! ### parts of structs -/
def fld : (a : Ty) → Nat → a.den → Option Cell
 | .pair a _, 0, x => some ⟨a, x.1⟩
 | .pair _ b, n + 1, x => fld b n x.2
 | .unit, 0, _ => none
 | t, 0, x => some ⟨t, x⟩
 | _, _, _ => none
def setf : (a : Ty) → Nat → a.den → Cell → Option a.den
 | .pair a _, 0, x, c => match c.t.cast? a c.x with | some z => some (z, x.2) | none => none
 | .pair _ b, n + 1, x, s => match setf b n x.2 s with | some z => some (x.1, z) | none => none
 | .unit, 0, _, _ => none
 | a, 0, _, c => c.t.cast? a c.x
 | _, _, _, _ => none
def path (c : Cell) : List Nat → Option Cell
 | [] => some c
 | n :: p => match c with
  | ⟨.st a, x⟩ => match fld a n x with
   | some d => path d p
   | none => none
  | _ => none
def setPath : List Nat → Cell → Cell → Option Cell
 | [], c, s => match s.t.cast? c.t s.x with | some y => some ⟨c.t, y⟩ | none => none
 | n :: p, ⟨.st a, x⟩, s => match fld a n x with
  | some d => match setPath p d s with
   | some d' => match setf a n x d' with
    | some z => some ⟨.st a, z⟩
    | none => none
   | none => none
  | none => none
 | _, _, _ => none
def a1l (a : Ty) : List (Nat × Cell) → a.den → Option a.den
 | [], x => some x
 | (i, c) :: r, x => match setf a i x c with
  | some y => a1l a r y
  | none => none
/-- the i-th part becomes s, whatever its own slice was -/
def a4R : (a : Ty) → Nat → a.den → Cell → Option Cell
 | .pair a b, 0, x, s => match s.t.era.beq a.era with
  | true => some ⟨.pair s.t b, (s.x, x.2)⟩
  | false => none
 | .pair a b, n + 1, x, s => match a4R b n x.2 s with
  | some c => some ⟨.pair a c.t, (x.1, c.x)⟩
  | none => none
 | .unit, _, _, _ => none
 | a, 0, _, s => match s.t.era.beq a.era with
  | true => some s
  | false => none
 | _, _, _, _ => none
/-- the i-th part of a type is a slice of its own -/
def R4 : Ty → Nat → Nat → Ty
 | .pair (.sl e) b, 0, et => .pair (.osl et e) b
 | .pair a b, n + 1, et => .pair a (R4 b n et)
 | .sl e, 0, et => .osl et e
 | t, _, _ => t
def a8b : (t : Ty) → (n et : Nat) → (R4 t n et).den
 | t, n, et => (R4 t n et).dflt
/-! ### operators -/
def a92 (op : BinOp) (k : IntKind) (a b : Int) : j4 :=
 match op with
 | .add => .v (.int k) (k.wrap (a + b))
 | .sub => .v (.int k) (k.wrap (a - b))
 | .mul => .v (.int k) (k.wrap (a * b))
 | .eql => .v .bool (decide (a = b))
 | .neq => .v .bool (!decide (a = b))
 | .lss => .v .bool (decide (a < b))
 | .leq => .v .bool (decide (a ≤ b))
 | .gtr => .v .bool (decide (b < a))
 | .geq => .v .bool (decide (b ≤ a))
 | _ => .no
/-- the operators on bits -/
def M5 (op : BinOp) (k : IntKind) (a b : Int) : Int :=
 match op with
 | .and => k.wrap ((BitVec.ofInt k.bits a &&& BitVec.ofInt k.bits b).toNat : Int)
 | .or => k.wrap ((BitVec.ofInt k.bits a ||| BitVec.ofInt k.bits b).toNat : Int)
 | .xor => k.wrap ((BitVec.ofInt k.bits a ^^^ BitVec.ofInt k.bits b).toNat : Int)
 | _ => k.wrap ((BitVec.ofInt k.bits a &&& ~~~(BitVec.ofInt k.bits b)).toNat : Int)
def b0s (op : BinOp) (a b : List Int) : j4 :=
 match op with
 | .eql => .v .bool (decide (a = b))
 | .neq => .v .bool (!decide (a = b))
 | _ => .no
def a9T (op : BinOp) (a b : Bool) : j4 :=
 match op with
 | .eql => .v .bool (a == b)
 | .neq => .v .bool (a != b)
 | _ => .no
def a8m (tb : Tab) (t : Nat) : Bool := match tb.get t with
 | some ⟨.bool, _, _, _⟩ => true
 | _ => false
/-- types whose values are told apart by their parts alone -/
def a1V : Ty → Bool
 | .int _ => true
 | .bool => true
 | .str => true
 | .pair a b => match a1V a with | true => a1V b | false => false
 | _ => false
def eqT : (t : Ty) → t.den → t.den → Bool
 | .int _, x, y => let x : Int := x; let y : Int := y; decide (x = y)
 | .bool, x, y => let x : Bool := x; let y : Bool := y; x == y
 | .str, x, y => let x : List Int := x; let y : List Int := y; decide (x = y)
 | .pair a b, x, y => match eqT a x.1 y.1 with | true => eqT b x.2 y.2 | false => false
 | _, _, _ => false
def a9m (op : BinOp) (b : Bool) : j4 :=
 match op with
 | .eql => .v .bool b
 | .neq => .v .bool (!b)
 | _ => .no
def bin (tb : Tab) (t : Nat) (op : BinOp) : j4 → j4 → j4
 | .v (.int k) a, .v (.int k') b => match a38 k k' with | true => a92 op k a b | false => .no
 | .v .bool a, .v .bool b => match a8m tb t with | true => a9T op a b | false => .no
 | .v .str a, .v .str b => b0s op a b
 | .v (.st a) x, .v (.st b) y => match tb.get t with
  | some ti => match ti.ty.beq (.st a), Nat.beq ti.el 1 with
   | true, true => match (Ty.st b).cast? (.st a) y with
    | some z => a9m op (eqT a x z)
    | none => .no
   | _, _ => .no
  | none => .no
 | _, _ => .no
/-- operators with a condition, or with more than one answer; the rest as 'bin' says -/
def a9r (tb : Tab) (t : Nat) (op : BinOp) (a b : j4) (d : Option Nat) (st : St) (k : St → Prop) : Prop :=
 match op, a, b with
 | .quo, .v (.int j) x, .v (.int j') y => match a38 j j' with
  | true => bif decide (y ≠ 0) then k (st.put d (.v (.int j) (j.wrap (Int.tdiv x y)))) else False
  | false => False
 | .rem, .v (.int j) x, .v (.int j') y => match a38 j j' with
  | true => bif decide (y ≠ 0) then k (st.put d (.v (.int j) (Int.tmod x y))) else False
  | false => False
 | .shl, .v (.int j) x, .v (.int _) y => bif decide (0 ≤ y) then k (st.put d (.v (.int j) (j.wrap (x * 2 ^ (min y.toNat j.bits))))) else False
 | .shr, .v (.int j) x, .v (.int _) y => bif decide (0 ≤ y) then k (st.put d (.v (.int j) (Int.fdiv x (2 ^ (min y.toNat j.bits))))) else False
 | .and, .v (.int j) x, .v (.int j') y => match a38 j j' with | true => k (st.put d (.v (.int j) (M5 .and j x y))) | false => False
 | .or, .v (.int j) x, .v (.int j') y => match a38 j j' with | true => k (st.put d (.v (.int j) (M5 .or j x y))) | false => False
 | .xor, .v (.int j) x, .v (.int j') y => match a38 j j' with | true => k (st.put d (.v (.int j) (M5 .xor j x y))) | false => False
 | .andNot, .v (.int j) x, .v (.int j') y => match a38 j j' with | true => k (st.put d (.v (.int j) (M5 .andNot j x y))) | false => False
 | .add, .v .str x, .v .str y => bif decide (List.length x + List.length y ≤ lim) then k (st.put d (.v .str (x ++ y))) else False
 | .eql, .v (.sl e) x, .nil => match tb.get t with
  | some ti => match ti.ty.beq (.sl e) with
   | true => k (st.put d (.v .bool false)) ∧ (bif decide (List.length x = 0) then k (st.put d (.v .bool true)) else True)
   | false => False
  | none => False
 | .eql, .own _ _ e x, .nil => match tb.get t with
  | some ti => match ti.ty.beq (.sl e) with
   | true => k (st.put d (.v .bool false)) ∧ (bif decide (List.length x = 0) then k (st.put d (.v .bool true)) else True)
   | false => False
  | none => False
 | .neq, .v (.sl e) x, .nil => match tb.get t with
  | some ti => match ti.ty.beq (.sl e) with
   | true => k (st.put d (.v .bool true)) ∧ (bif decide (List.length x = 0) then k (st.put d (.v .bool false)) else True)
   | false => False
  | none => False
 | .neq, .own _ _ e x, .nil => match tb.get t with
  | some ti => match ti.ty.beq (.sl e) with
   | true => k (st.put d (.v .bool true)) ∧ (bif decide (List.length x = 0) then k (st.put d (.v .bool false)) else True)
   | false => False
  | none => False
 | op, a, b => match bin tb t op a b with
  | .no => False
  | s => k (st.put d s)
def un (op : UnOp) : j4 → j4
 | .v .bool b => match op with | .not => .v .bool (!b) | _ => .no
 | .v (.int k) n => match op with | .neg => .v (.int k) (k.wrap (0 - n)) | _ => .no
 | _ => .no
def rd {α : Type} (d : α) (xs : List α) (i : Int) : α := xs.getD i.toNat d
def slc {α : Type} (xs : List α) (lo hi : Int) : List α := (xs.take hi.toNat).drop lo.toNat
/-- an element, or a part of it, is stored into -/
def stE (e : Ty) (i : Nat) (p : List Nat) (y : Cell) (xs : List e.den) : List e.den :=
 match p with
 | [] => match y.t.cast? e y.x with | some z => xs.set i z | none => xs
 | n :: p => match xs[i]? with
  | none => xs
  | some x => match setPath (n :: p) ⟨e, x⟩ y with
   | some c => match c.t.cast? e c.x with | some z => xs.set i z | none => xs
   | none => xs
section
variable (tb : Tab) (Γ : Nat → Option App) (Kp : Int → St → Prop)
def a3f : j4 → Option Cell
 | .v t x => some ⟨t, x⟩
 | .own _ _ e x => some ⟨.sl e, x⟩
 | _ => none
/-- the slice of one's own that a slot shows -/
def j4.tok : j4 → Option Nat
 | .own k _ _ _ => some k
 | .osub k _ _ _ _ => some k
 | _ => none
/-- the token that becomes plain data where this slot is laid down -/
def St.lay (st : St) : j4 → St
 | .own k _ _ _ => st.fz k
 | .osub k _ _ _ _ => st.fz k
 | _ => st
def a08 (e : Ty) (st : St) : List (Nat × Operand) → Nat → Option (List e.den)
 | [], _ => some []
 | (i, x) :: r, n => match Nat.beq i n with
  | false => none
  | true => match a3f (st.ev x) with
   | none => none
   | some c => match c.t.cast? e c.x with
    | none => none
    | some y => match a08 e st r (n + 1) with
     | none => none
     | some ys => some (y :: ys)
def parts (st : St) : List (Nat × Operand) → Option (List (Nat × Cell))
 | [] => some []
 | (i, x) :: r => match a3f (st.ev x) with
  | none => none
  | some c => match parts st r with
   | none => none
   | some cs => some ((i, c) :: cs)
/-- a slice of the variable's own is stored into it -/
def a8c (c : Cell) (b : Nat) (p : List Nat) : j4 → Option Cell
 | .own n et e xs => match p, c, Nat.beq n (b + 4), Nat.beq (b % 8) 0 with
  | [i], ⟨.st a, x⟩, true, true => match a4R (S3 a) i (a0U a x) ⟨.osl et e, xs⟩ with
   | some s => some ⟨.st s.t, s.x⟩
   | none => none
  | _, _, _, _ => none
 | _ => none
def layAll (st : St) : List Operand → St → St
 | [], s => s
 | x :: r, s => layAll st r (s.lay (st.ev x))
def b0V (fo : Option Nat) (k : Nat) : j4 := match fo with | none => .box k [] | some f => .fn f [k]
def P4 (st : St) : List Operand → List TypeId → Option (List Arg)
 | [], [] => some []
 | x :: r, t :: ts =>
  match (match st.ev x with
   | .v t x => some (Arg.v t x)
   | .own _ _ e x => some (.v (.sl e) x)
   | .osub _ _ e _ x => some (.v (.sl e) x)
   | .nil => match tb.get t with
    | some ⟨.sl e, _, _, _⟩ => some (.v (.sl e) [])
    | _ => none
   | .box k [] => match l6 st.boxes k with
    | some c => match c.t.noO with
     | true => some (.ref none c)
     | false => none
    | none => none
   | .fn f [] => some (.fn f)
   | .fn f [k] => match l6 st.boxes k with
    | some c => match c.t.noO with
     | true => some (.ref (some f) c)
     | false => none
    | none => none
   | _ => none) with
  | none => none
  | some a => match P4 st r ts with
   | none => none
   | some ags => some (a :: ags)
 | _, _ => none
def V4 (st : St) : List Nat → Option (List Arg)
 | [] => some []
 | k :: r => match l6 st.boxes k with
  | none => none
  | some c => match c.t.noO, V4 st r with
   | true, some ags => some (.ref none c :: ags)
   | _, _ => none
/-- the boxes that are handed on, by name -/
def F9 (st : St) : List Operand → List Nat
 | [] => []
 | x :: r => match st.ev x with
  | .box k [] => k :: F9 st r
  | .fn _ [k] => k :: F9 st r
  | _ => F9 st r
def u5 : List Nat → Bool
 | [] => true
 | k :: ks => match a04 ks k with | true => false | false => u5 ks
def P8.free : P8 → Bool
 | .v t _ => t.flat
 | .fr _ e _ => e.flat
def a6Z : List P8 → Bool
 | [] => true
 | x :: xs => match x.free with | true => a6Z xs | false => false
def Res.free : Res → Bool
 | .one x => x.free
 | .tup xs => a6Z xs
 | .pan _ => true
def a5V : List Cell → Bool
 | [] => true
 | c :: cs => match c.t.flat with | true => a5V cs | false => false
def a87 (k : Nat) : P8 → Val
 | .v t x => .v t x
 | .fr et e x => .own k et e x
def a33 : List P8 → Nat → List Val
 | [], _ => []
 | x :: xs, k => a87 k x :: a33 xs (k + 1)
def Res.slot (d : Nat) : Res → j4
 | .one (.v t x) => .v t x
 | .one (.fr et e x) => .own (nm d 0) et e x
 | .tup xs => .tup (a33 xs (nm d 0))
 | .pan _ => .no
/-- what is called may panic -/
def a7a (Kp : Int → Prop) : Res → Prop → Prop
 | .pan n, _ => Kp n
 | .one _, p => p
 | .tup _, p => p
def rnAll (st : St) : Nat → Nat → St
 | 0, _ => st
 | n + 1, k => rnAll (st.rn k) n (k + 1)
def Q6 : List Nat → List Cell → List (Nat × Cell) → Option (List (Nat × Cell))
 | [], [], bs => some bs
 | k :: ks, c :: cs, bs => match l6 bs k with
  | none => none
  | some c0 => match c.t.beq c0.t with
   | false => none
   | true => Q6 ks cs (a06 bs k c)
 | _, _, _ => none
def St.back (st : St) (ks : List Nat) (outs : List Cell) (k : St → Prop) : Prop :=
 match Q6 ks outs st.boxes with
 | none => False
 | some bs => k ⟨st.tmps, bs⟩
def Res.count : Res → Nat
 | .one _ => 1
 | .tup xs => xs.length
 | .pan _ => 0
def fit (d : Option Nat) (r : Res) (st : St) (k : St → Prop) : Prop :=
 match d with
 | none => k st
 | some d => match Nat.ble r.count 6 with
  | true => k ((rnAll st r.count (nm d 0)).put (some d) (r.slot d))
  | false => False
/-- the operands that are not handed over -/
def o8 : List Operand → List Bool → List Operand
 | [], _ => []
 | _ :: r, true :: fl => o8 r fl
 | x :: r, false :: fl => x :: o8 r fl
 | x :: r, [] => x :: o8 r []
def a8z (t : Nat) : j4 → Option Arg
 | .own _ et e x => some (.own et e x)
 | .nil => match tb.get t with
  | some ⟨.sl e, el, _, _⟩ => some (.own el e [])
  | _ => none
 | _ => none
def S6 (st st1 : St) : List Operand → List TypeId → List Bool → Option (List Arg)
 | [], [], _ => some []
 | x :: r, t :: ts, true :: fl => match a8z tb t (st1.ev x) with
  | none => none
  | some a => match S6 st st1 r ts fl with
   | none => none
   | some ags => some (a :: ags)
 | x :: r, t :: ts, false :: fl => match P4 tb st [x] [t] with
  | none => none
  | some a => match S6 st st1 r ts fl with
   | none => none
   | some ags => some (a ++ ags)
 | x :: r, t :: ts, [] => match P4 tb st [x] [t] with
  | none => none
  | some a => match S6 st st1 r ts [] with
   | none => none
   | some ags => some (a ++ ags)
 | _, _, _ => none
def M1 (st1 : St) : List Operand → List Bool → List Nat
 | x :: r, true :: fl => match st1.ev x with
  | .own k _ _ _ => k :: M1 st1 r fl
  | _ => M1 st1 r fl
 | _ :: r, false :: fl => M1 st1 r fl
 | _, _ => []
def klAll : List Nat → St → St
 | [], st => st
 | k :: ks, st => klAll ks (st.kl k)
def a7V (app : App) (ks : List Nat) (c : Call) (d : Option Nat) (st st1 : St) (k : St → Prop) : Prop :=
 match S6 tb st st1 c.args.toList c.argTypes.toList app.own, V4 st ks with
 | some ags, some cs => match u5 (F9 st (o8 c.args.toList app.own) ++ ks), u5 (M1 st1 c.args.toList app.own) with
  | true, true => app.run (ags ++ cs) fun res outs => a7a (fun n => Kp n st) res <|
    (klAll (M1 st1 c.args.toList app.own) st1).back (F9 st (o8 c.args.toList app.own) ++ ks) outs fun st' => fit d res st' k
  | _, _ => False
 | _, _ => False
def a7U (f : Nat) (ks : List Nat) (c : Call) (d : Option Nat) (st : St) (k : St → Prop) : Prop :=
 match Γ f with
 | none => False
 | some app => match app.own with
  | _ :: _ => a7V tb Kp app ks c d st (layAll st (o8 c.args.toList app.own) st) k
  | [] => match P4 tb st c.args.toList c.argTypes.toList, V4 st ks with
   | some ags, some cs => match u5 (F9 st c.args.toList ++ ks) with
    | false => False
    | true => app.run (ags ++ cs) fun res outs => a7a (fun n => Kp n st) res <|
      match (match res.free with | true => a5V outs | false => false) with
      | true => st.back (F9 st c.args.toList ++ ks) outs fun st' => fit d res st' k
      | false => (layAll st c.args.toList st).back (F9 st c.args.toList ++ ks) outs fun st' => fit d res st' k
   | _, _ => False
/-- what may be appended to elements of e -/
def source (e : Ty) (t t' : Nat) : j4 → Option (List e.den)
 | .osub _ _ u _ ys => match Nat.beq t t' with
  | true => (Ty.sl u).cast? (.sl e) ys
  | false => none
 | .v (.sl u) ys => match Nat.beq t t' with
  | true => (Ty.sl u).cast? (.sl e) ys
  | false => none
 | .own _ _ u ys => match Nat.beq t t' with
  | true => (Ty.sl u).cast? (.sl e) ys
  | false => none
 | .v .str ys => match tb.get t' with
  | some ⟨.str, _, _, _⟩ => (Ty.sl (.int .u8)).cast? (.sl e) ys
  | _ => none
 | _ => none
/-- elements of no more than 128 bytes -/
def a6J (tb : Tab) (n : Nat) : Bool := match tb.get n with
 | some te => Nat.ble te.bytes 128
 | none => false
def a8E (tb : Tab) (n : Nat) : Bool := match tb.get n with
 | some te => Nat.ble te.bytes 256
 | none => false
def apk (t t' et : Nat) (e : Ty) (xs : List e.den) (tok : Nat) (b : j4) (d : Option Nat) (st : St) (k : St → Prop) : Prop :=
 match tb.get t with
 | none => False
 | some ti => match (match Nat.beq ti.el (eR et) with | true => (match a6J tb ti.el with | true => ti.ty.beq (.sl e) | false => false) | false => false) with
  | false => False
  | true => match source tb e t t' b with
   | some ys => bif decide (xs.length + ys.length ≤ lim) then k ((st.kl tok).put d (.own tok et e (xs ++ ys))) else False
   | none => False
def mn (a b : Int) : Int := bif decide (b < a) then b else a
def mx (a b : Int) : Int := bif decide (a < b) then b else a
/-- the elements from o on are turned into these -/
def ovr {α : Type} (o : Nat) (ys xs : List α) : List α := (xs.take o ++ ys ++ xs.drop (o + ys.length)).take xs.length
def cpk (t t' : Nat) (e : Ty) (tok o : Nat) (xs : List e.den) (b : j4) (d : Option Nat) (st : St) (k : St → Prop) : Prop :=
 match tb.get t with
 | none => False
 | some ti => match ti.ty.beq (.sl e) with
  | false => False
  | true => match (match b with | .v .str _ => none | b => source tb e t t' b) with
   | some ys => k ((st.up tok e (ovr o (List.take xs.length ys))).put d (.v (.int .i64) (mn (List.length ys : Int) (List.length xs : Int))))
   | none => False
def slk (xs : j4) (lo hi : Option j4) (d : Option Nat) (st : St) (k : St → Prop) : Prop :=
 match xs, lo, hi with
 | .v (.sl e) xs, some (.v (.int _) l), some (.v (.int _) h) => bif decide (0 ≤ l ∧ l ≤ h ∧ h ≤ (List.length xs : Int)) then k (st.put d (.v (.sl e) (slc xs l h))) else False
 | .v (.sl e) xs, none, some (.v (.int _) h) => bif decide (0 ≤ h ∧ h ≤ (List.length xs : Int)) then k (st.put d (.v (.sl e) (List.take h.toNat xs))) else False
 | .v (.sl e) xs, some (.v (.int _) l), none => bif decide (0 ≤ l ∧ l ≤ (List.length xs : Int)) then k (st.put d (.v (.sl e) (List.drop l.toNat xs))) else False
 | .v (.sl e) xs, none, none => k (st.put d (.v (.sl e) xs))
 | .own t et e xs, none, some (.v (.int _) h) => bif decide (0 ≤ h ∧ h ≤ (xs.length : Int)) then k (st.put d (.own t et e (xs.take h.toNat))) else False
 | .own t et e xs, none, none => k (st.put d (.own t et e xs))
 | .own t _ e xs, some (.v (.int _) l), some (.v (.int _) h) => bif decide (0 ≤ l ∧ l ≤ h ∧ h ≤ (xs.length : Int)) then k ((st.fz t).put d (.v (.sl e) (slc xs l h))) else False
 | .own t _ e xs, some (.v (.int _) l), none => bif decide (0 ≤ l ∧ l ≤ (xs.length : Int)) then k ((st.fz t).put d (.v (.sl e) (xs.drop l.toNat))) else False
 | .v .str xs, some (.v (.int _) l), some (.v (.int _) h) => bif decide (0 ≤ l ∧ l ≤ h ∧ h ≤ (List.length xs : Int)) then k (st.put d (.v .str (slc xs l h))) else False
 | .v .str xs, none, some (.v (.int _) h) => bif decide (0 ≤ h ∧ h ≤ (List.length xs : Int)) then k (st.put d (.v .str (List.take h.toNat xs))) else False
 | .v .str xs, some (.v (.int _) l), none => bif decide (0 ≤ l ∧ l ≤ (List.length xs : Int)) then k (st.put d (.v .str (List.drop l.toNat xs))) else False
 | _, _, _ => False
def lnk (n : Nat) (d : Option Nat) (st : St) (k : St → Prop) : Prop :=
 k (st.put d (.v (.int .i64) (n : Int)))
def blk (b : Builtin) (ts : List TypeId) (xs : List j4) (d : Option Nat) (st : St) (k : St → Prop) : Prop :=
 match b, xs, ts with
 | .len, [.v (.sl e) xs], [t] => match tb.get t with
  | some ti => match ti.ty.beq (.sl e) with | true => lnk xs.length d st k | false => False
  | none => False
 | .len, [.own _ _ e xs], [t] => match tb.get t with
  | some ti => match ti.ty.beq (.sl e) with | true => lnk xs.length d st k | false => False
  | none => False
 | .len, [.v .str xs], [t] => match tb.get t with
  | some ti => match ti.ty.beq .str with | true => lnk (List.length xs) d st k | false => False
  | none => False
 | .min, [.v (.int k1) a, .v (.int k2) b], _ => match a38 k1 k2 with | true => k (st.put d (.v (.int k1) (mn a b))) | false => False
 | .max, [.v (.int k1) a, .v (.int k2) b], _ => match a38 k1 k2 with | true => k (st.put d (.v (.int k1) (mx a b))) | false => False
 | .append, [.own tok et e xs, y], [t, t'] => apk tb t t' et e xs tok y d st k
 | .copy, [.own tok _ e xs, y], [t, t'] => cpk tb t t' e tok 0 xs y d st k
 | .copy, [.osub tok _ e o xs, y], [t, t'] => cpk tb t t' e tok o xs y d st k
 | _, _, _ => False
def cvk (si ti : TI) (x : j4) (d : Option Nat) (st : St) (k : St → Prop) : Prop :=
 match ti.ty, x with
 | .int k', .v (.int _) n => k (st.put d (.v (.int k') (k'.wrap n)))
 | .str, .v (.sl (.int .u8)) xs => match si.ty.beq (.sl (.int .u8)) with | true => k (st.put d (.v .str xs)) | false => False
 | .str, .own _ _ (.int .u8) xs => match si.ty.beq (.sl (.int .u8)) with | true => k (st.put d (.v .str xs)) | false => False
 | .str, .v .str xs => match si.ty.beq .str with | true => k (st.put d (.v .str xs)) | false => False
 | .sl (.int .u8), .v .str xs => match d with
  | some d => k ((st.rn (nm d 0)).put (some d) (.own (nm d 0) (eM ti.el) (.int .u8) xs))
  | none => False
 | _, _ => False
/-- '[]byte("..")' of a constant: the literal's row, and a conversion to its own type -/
def cvs (si ti : TI) (x : j4) (d : Option Nat) (st : St) (k : St → Prop) : Prop :=
 match x with
 | .own n et (.int .u8) xs => match ti.ty.beq (.sl (.int .u8)) with
  | true => bif decide (0 < List.length xs) then k ((st.kl n).put d (.own n (eM et) (.int .u8) xs)) else False
  | false => False
 | x => cvk si ti x d st k
def opk (o : Oper) (st : St) (k : St → Prop) : Prop :=
 match o.op with
 | .move x => match st.ev x with
  | .nil => match tb.get o.type, o.dst with
   | some ⟨.sl e, et, _, _⟩, some d => k ((st.rn (nm d 6)).put (some d) (.own (nm d 6) et e []))
   | _, _ => False
  | s => k (st.put o.dst s)
 | .assign x => match st.ev x with
  | .nil => match tb.get o.type, o.dst with
   | some ⟨.sl e, et, _, _⟩, some d => k ((st.rn (nm d 6)).put (some d) (.own (nm d 6) et e []))
   | _, _ => False
  | s => k (st.put o.dst s)
 | .pick c a b => match st.ev c with
  | .v .bool t => match t with
   | true => k (st.put o.dst (st.ev a))
   | false => k (st.put o.dst (st.ev b))
  | _ => False
 | .box _ x => match o.dst, a3f (st.ev x) with
  | some d, some c => match c.t.noO with
   | true => k (St.mk (a3s ((st.lay (st.ev x)).rn (nm d 0)).tmps d (.box (nm d 0) [])) (a06 ((st.lay (st.ev x)).rn (nm d 0)).boxes (nm d 0) c))
   | false => False
  | _, _ => False
 | .alloc t => match o.dst, tb.get t with
  | some d, some ⟨.st a, _, [i, et], _⟩ => k (St.mk (a3s ((st.rn (nm d 0)).rn (nm d 4)).tmps d (.box (nm d 0) [])) (a06 ((st.rn (nm d 0)).rn (nm d 4)).boxes (nm d 0) ⟨.st (R4 a i et), a8b a i et⟩))
  | some d, some ti => k (St.mk (a3s (st.rn (nm d 0)).tmps d (.box (nm d 0) [])) (a06 (st.rn (nm d 0)).boxes (nm d 0) ⟨ti.ty, ti.ty.dflt⟩))
  | _, _ => False
 | .load t a => match tb.get t with
  | none => False
  | some ti => match st.ev a with
   | .box b p => match l6 st.boxes b with
    | none => False
    | some c => match path c p with
     | none => False
     | some ⟨.osl et e, xs⟩ => match ti.ty.beq (.sl e), Nat.beq (b % 8) 0 with
      | true, true => k (st.put o.dst (.own (b + 4) et e xs))
      | _, _ => False
     | some c => match ti.ty.beq c.t with
      | true => k (st.put o.dst (.v c.t c.x))
      | false => match l6 (st.fz (b + 4)).boxes b with
       | none => False
       | some c' => match path c' p with
        | none => False
        | some d => match ti.ty.beq d.t with
         | true => k ((st.fz (b + 4)).put o.dst (.v d.t d.x))
         | false => False
   | .elt u x => match ti.ty.beq u with
    | true => k (st.put o.dst (.v u x))
    | false => False
   | .oel _ _ _ _ u x => match ti.ty.beq u with
    | true => k (st.put o.dst (.v u x))
    | false => False
   | _ => False
 | .store t a x => match tb.get t, a3f (st.ev x), st.ev a with
  | some ti, some y, .box b p => match ti.ty.beq y.t with
   | false => False
   | true => match l6 st.boxes b with
    | none => False
    | some c => match a8c c b p (st.ev x) with
     | some c' => k ⟨st.tmps, a06 st.boxes b c'⟩
     | none => match l6 (st.lay (st.ev x)).boxes b with
      | none => False
      | some c => match setPath p c y with
       | some c' => k ⟨(st.lay (st.ev x)).tmps, a06 (st.lay (st.ev x)).boxes b c'⟩
       | none => match l6 ((st.lay (st.ev x)).fz (b + 4)).boxes b with
        | none => False
        | some c => match setPath p c y with
         | some c' => k ⟨((st.lay (st.ev x)).fz (b + 4)).tmps, a06 ((st.lay (st.ev x)).fz (b + 4)).boxes b c'⟩
         | none => False
  | some ti, some y, .oel n i e p u _ => match (match ti.ty.beq y.t with | true => (match u.beq y.t with | true => (match st.ev x with | .own _ _ _ _ => false | .osub _ _ _ _ _ => false | _ => true) | false => false) | false => false) with
   | false => False
   | true => k (st.up n e (stE e i.toNat p y))
  | _, _, _ => False
 | .nilCheck x => match st.ev x with
  | .box b p => k (st.put o.dst (.box b p))
  | _ => False
 | .fieldAddr s x f => match tb.get s, st.ev x with
  | some ti, .box b p => match l6 st.boxes b with
   | none => False
   | some c => match path c p with
    | none => False
    | some c => match ti.ty.beq c.t.era with
     | false => False
     | true => match path c [f] with
      | none => False
      | some _ => k (st.put o.dst (.box b (p ++ [f])))
  | some ti, .elt u y => match ti.ty.beq u with
   | false => False
   | true => match path ⟨u, y⟩ [f] with
    | some c => k (st.put o.dst (.elt c.t c.x))
    | none => False
  | some ti, .oel n i e p u y => match ti.ty.beq u with
   | false => False
   | true => match path ⟨u, y⟩ [f] with
    | some c => k (st.put o.dst (.oel n i e (p ++ [f]) c.t c.x))
    | none => False
  | _, _ => False
 | .field s x f => match tb.get s, st.ev x with
  | some ti, .v u y => match ti.ty.beq u with
   | false => False
   | true => match path ⟨u, y⟩ [f] with
    | some c => k (st.put o.dst (.v c.t c.x))
    | none => False
  | _, _ => False
 | .binOp op t x y _ => a9r tb t op (st.ev x) (st.ev y) o.dst st k
 | .unOp op _ x => match un op (st.ev x) with
  | .no => False
  | s => k (st.put o.dst s)
 | .indexAddr t x i => match tb.get t, st.ev x, st.ev i with
  | some ti, .v (.sl e) xs, .v (.int _) i => match ti.ty.beq (.sl e) with
   | true => bif decide (0 ≤ i ∧ i < (List.length xs : Int)) then k (st.put o.dst (.elt e (rd e.dflt xs i))) else False
   | false => False
  | some ti, .own n _ e xs, .v (.int _) i => match ti.ty.beq (.sl e) with
   | true => bif decide (0 ≤ i ∧ i < (xs.length : Int)) then k (st.put o.dst (.oel n i e [] e (rd e.dflt xs i))) else False
   | false => False
  | _, _, _ => False
 | .index t x i => match tb.get t, st.ev x, st.ev i with
  | some ti, .v .str xs, .v (.int _) i => match ti.ty.beq .str with
   | true => bif decide (0 ≤ i ∧ i < (List.length xs : Int)) then k (st.put o.dst (.v (.int .u8) (rd (0 : Int) xs i))) else False
   | false => False
  | _, _, _ => False
 | .slice t x lo hi none => match tb.get t with
  | none => False
  | some ti => match st.ev x with
   | .own n et e xs => match ti.ty.beq (.sl e) with
    | true => slk (.own n et e xs) (lo.map st.ev) (hi.map st.ev) o.dst st k
    | false => False
   | .v u xs => match ti.ty.beq u with
    | true => slk (.v u xs) (lo.map st.ev) (hi.map st.ev) o.dst st k
    | false => False
   | _ => False
 | .slice t x none (some hi) (some mx) => match tb.get t, st.ev x, st.ev hi, st.ev mx with
  | some ti, .own n et e xs, .v (.int _) h, .v (.int _) m => match ti.ty.beq (.sl e) with
   | true => bif decide (0 ≤ h ∧ h ≤ m ∧ m ≤ (List.length xs : Int)) then k (st.put o.dst (.own n et e (xs.take h.toNat))) else False
   | false => False
  | some ti, .v (.sl e) xs, .v (.int _) h, .v (.int _) m => match ti.ty.beq (.sl e) with
   | true => bif decide (0 ≤ h ∧ h ≤ m ∧ m ≤ (List.length xs : Int)) then k (st.put o.dst (.v (.sl e) (List.take (Int.toNat h) xs))) else False
   | false => False
  | _, _, _, _ => False
 | .buildSlice t n ps => match tb.get t, o.dst with
  | some ⟨.sl e, et, _, _⟩, some d => match a08 e st ps.toList 0 with
   | none => False
   | some xs => match (match Nat.beq (List.length xs) n with | true => Nat.ble (n * e.cells) 16777216 | false => false) with
    | false => False
    | true => k (((layAll st (ps.toList.map (·.2)) st).rn (nm d 0)).put (some d) (.own (nm d 0) et e xs))
  | _, _ => False
 | .makeSlice t l c => match tb.get t, o.dst, st.ev l, st.ev c with
  | some ⟨.sl e, et, _, _⟩, some d, .v (.int .i64) n, .v (.int .i64) m => match a8E tb et with
   | true => bif decide (0 ≤ n ∧ n = m ∧ n ≤ (lim : Int)) then k ((st.rn (nm d 0)).put (some d) (.own (nm d 0) et e (List.replicate (Int.toNat n) e.dflt))) else False
   | false => False
  | _, _, _, _ => False
 | .build t ps => match tb.get t with
  | some ⟨.st a, _, _, _⟩ => match parts st ps.toList with
   | none => False
   | some cs => match a1l a cs a.dflt with
    | none => False
    | some x => k ((layAll st (ps.toList.map (·.2)) st).put o.dst (.v (.st a) x))
  | _ => False
 | .extract x i => match st.ev x with
  | .tup xs => match xs[i]? with
   | some (.v t y) => k (st.put o.dst (.v t y))
   | some (.own n et e y) => k (st.put o.dst (.own n et e y))
   | none => False
  | _ => False
 | .convert s t x => match tb.get s, tb.get t with
  | some si, some ti => match Nat.beq s t with
   | true => cvs si ti (st.ev x) o.dst st k
   | false => cvk si ti (st.ev x) o.dst st k
  | _, _ => False
 | .makeFunc (.func f) first caps => match first.toList, (caps.toList.map st.ev) with
  | [], cs => match (cs.mapM fun | .box k [] => some k | _ => none) with
   | some ks => k (st.put o.dst (.fn f ks))
   | none => False
  | _, _ => False
 | .call c => match c.callee with
  | .builtin b => blk tb b c.argTypes.toList (c.args.toList.map st.ev) o.dst st k
  | .value x => match st.ev x with
   | .fn f ks => a7U tb Γ Kp f ks c o.dst st k
   | _ => False
  | _ => False
 | _ => False
/-- is it what a 'copy' of this statement reads or writes? -/
def a62 (d : Nat) : List Operand → Bool
 | [] => false
 | .tmp t :: r => match Nat.beq t d with | true => true | false => a62 d r
 | _ :: r => a62 d r
def a3h (d : Nat) : List Oper → Bool
 | [] => false
 | o :: r => match o.op with
  | .call c => match c.callee with
   | .builtin .copy => match a62 d c.args.toList with | true => true | false => a3h d r
   | .value _ => match a62 d c.args.toList with | true => true | false => a3h d r
   | _ => a3h d r
  | _ => a3h d r
/-- a part of a slice of one's own, for a 'copy' -/
def slO (t : TypeId) (x lo : Operand) (hi : Option Operand) (o : Oper) (st : St) (k : St → Prop) : Prop :=
 match tb.get t, st.ev x, st.ev lo, hi.map st.ev with
 | some ti, .own n et e xs, .v (.int _) l, none => match ti.ty.beq (.sl e) with
  | true => bif decide (0 ≤ l ∧ l ≤ (List.length xs : Int)) then k (st.put o.dst (.osub n et e l.toNat (xs.drop l.toNat))) else False
  | false => False
 | some ti, .own n et e xs, .v (.int _) l, some (.v (.int _) h) => match ti.ty.beq (.sl e) with
  | true => bif decide (0 ≤ l ∧ l ≤ h ∧ h ≤ (List.length xs : Int)) then k (st.put o.dst (.osub n et e l.toNat (slc xs l h))) else False
  | false => False
 | _, _, _, _ => opk tb Γ Kp o st k
def opx (ops : Array Oper) (o : Oper) (st : St) (k : St → Prop) : Prop :=
 match o.op, o.dst with
 | .slice t x (some lo) hi none, some d => match a3h d ops.toList with
  | true => slO tb Γ Kp t x lo hi o st k
  | false => opk tb Γ Kp o st k
 | _, _ => opk tb Γ Kp o st k
def a4w (ops : Array Oper) (j : Nat) : Option Nat := (ops[j]?).bind (·.dst)
def gd (ops : Array Oper) (o : Oper) (body : St → (St → Prop) → Prop) (st : St) (k : St → Prop) : Prop :=
 match o.guard with
 | none => body st k
 | some (j, want) => match a4w ops j with
  | none => False
  | some g => match C5 st.tmps g with
   | .v .bool b => match b with
    | true => match want with
     | true => body (st.put (some g) (.v .bool true)) k
     | false => k ((st.put (some g) (.v .bool true)).put o.dst .skip)
    | false => match want with
     | true => k ((st.put (some g) (.v .bool false)).put o.dst .skip)
     | false => body (st.put (some g) (.v .bool false)) k
   | .skip => k (st.put o.dst .skip)
   | _ => False
def opg (ops : Array Oper) (o : Oper) (st : St) (k : St → Prop) : Prop := gd ops o (opx tb Γ Kp ops o) st k
def a8y (ops : Array Oper) : List Oper → St → (St → Prop) → Prop
 | [], st, k => k st
 | o :: os, st, k => opg tb Γ Kp ops o st fun st' => st'.frc fun st' => a8y ops os st' k
/-! ### regions that draw their order -/
/-- the names of the variables that a region may write -/
def a6b (st : St) (ops : List Oper) : Nat → Operand → Option Nat
 | 0, _ => none
 | n + 1, .tmp t => match ops.find? (fun o => o.dst == some t) with
  | some o => match o.op with
   | .alloc _ => some (nm t 0)
   | .box _ _ => some (nm t 0)
   | .fieldAddr _ x _ => a6b st ops n x
   | .move x => a6b st ops n x
   | .nilCheck x => a6b st ops n x
   | _ => none
  | none => match C5 st.tmps t with
   | .box k _ => some k
   | _ => none
 | _, _ => none
/-- the variables of the closure that a slot will hold -/
def a9X (st : St) (ops : List Oper) : Nat → Operand → List Nat
 | 0, _ => []
 | n + 1, x => match st.ev x with
  | .fn _ ks => ks
  | _ => match x with
   | .tmp t => match ops.find? (fun o => o.dst == some t) with
    | some o => match o.op with
     | .move y => a9X st ops n y
     | _ => []
    | none => []
   | _ => []
def a3U (st : St) (ops : List Oper) : List Oper → List Nat
 | [] => []
 | o :: r => match o.op with
  | .store _ a _ => match a6b st ops ops.length a with
   | some k => k :: a3U st ops r
   | none => a3U st ops r
  | .call c => (match c.callee with
   | .value x => (c.args.toList.filterMap (a6b st ops ops.length)) ++ a9X st ops (ops.length + 1) x
   | _ => []) ++ a3U st ops r
  | _ => a3U st ops r
/-- it does nothing but yield a value, whatever the others do meanwhile -/
def a6u (wl : List Nat) (st : St) (o : Oper) : Bool :=
 match o.op with
 | .move x => match st.ev x with | .nil => false | _ => true
 | .assign x => match st.ev x with | .nil => false | _ => true
 | .pick _ _ _ => true
 | .nilCheck _ => true
 | .load _ a => match st.ev a with | .box n _ => (match l6 st.boxes n with | some c => (match c.t.noO with | true => !a04 wl n | false => false) | none => false) | .elt _ _ => true | _ => false
 | .fieldAddr _ x _ => match st.ev x with | .box _ _ => true | .elt _ _ => true | _ => false
 | .binOp _ _ _ _ _ => true
 | .unOp _ _ _ => true
 | .indexAddr _ x _ => match st.ev x with | .v _ _ => true | _ => false
 | .index _ _ _ => true
 | .slice _ x _ _ none => match st.ev x with | .v _ _ => true | _ => false
 | .extract _ _ => true
 | .convert _ _ x => match st.ev x with | .v (.int _) _ => true | .v (.sl (.int .u8)) _ => true | _ => false
 | .call c => match c.callee with
  | .builtin .len => true
  | .builtin .min => true
  | .builtin .max => true
  | _ => false
 | _ => false
def a8N : List Nat → (Nat → Bool) → Bool
 | [], _ => true
 | x :: r, f => match f x with | true => a8N r f | false => false
def a9d (wl : List Nat) (st : St) (o : Oper) : Bool :=
 match o.op with
 | .store _ a _ => match st.ev a with | .box n _ => a04 wl n | _ => true
 | .call c => match c.callee with
  | .value x => match st.ev x with
   | .fn _ ks => a8N (F9 st c.args.toList ++ ks) (a04 wl)
   | _ => true
  | _ => true
 | _ => true
/-- its guard is decided, and it is not wanted -/
def b0t (st : St) (ops : Array Oper) (o : Oper) : Bool :=
 match o.guard with
 | none => false
 | some (j, want) => match a4w ops j with
  | none => false
  | some g => match C5 st.tmps g with
   | .v .bool b => match b with
    | true => !want
    | false => want
   | .skip => true
   | _ => false
def a2c (wl : List Nat) (st : St) (ops : Array Oper) : List Nat → Option Nat
 | [] => none
 | i :: r => match (match ops[i]? with | some o => (match b0t st ops o with | true => true | false => a6u wl st o) | none => false) with
  | true => some i
  | false => a2c wl st ops r
/-- the guards of what may come up next are decided -/
def spl (ops : Array Oper) : List Nat → St → (St → Prop) → Prop
 | [], st, k => k st
 | i :: r, st, k => match (ops[i]?).bind (·.guard) with
  | none => spl ops r st k
  | some (j, _) => match a4w ops j with
   | none => spl ops r st k
   | some g => match C5 st.tmps g with
    | .v .bool b => match b with
     | true => spl ops r (st.put (some g) (.v .bool true)) k
     | false => spl ops r (st.put (some g) (.v .bool false)) k
    | _ => spl ops r st k
def a9o : List Nat → (Nat → Prop) → Prop
 | [], _ => True
 | i :: r, f => f i ∧ a9o r f
def a8x (rs : List Nat) (f : Nat → Prop) : Prop :=
 match rs with
 | [i] => f i
 | rs => a9o rs f
def a7C (wl : List Nat) (ops : Array Oper) : Nat → Array Bool → St → (St → Prop) → Prop
 | 0, listed, st, k => match Region.ready .any ops listed with
  | [] => k st
  | _ => False
 | fuel + 1, listed, st, k => match Region.ready .any ops listed with
  | [] => k st
  | i0 :: rs => spl ops (i0 :: rs) st fun st => match a2c wl st ops (i0 :: rs) with
   | some i => match Region.free .any ops listed i, ops[i]? with
    | true, some o => gd ops o (fun st k => match a6u wl st o with | true => opk tb Γ Kp o st k | false => False) st fun st' => st'.frc fun st' => a7C wl ops fuel (listed.setIfInBounds i true) st' k
    | _, _ => False
   | none => a8x (i0 :: rs) fun i => match ops[i]? with
    | some o => gd ops o (fun st k => match a9d wl st o with | true => opx tb Γ Kp ops o st k | false => False) st fun st' => st'.frc fun st' => a7C wl ops fuel (listed.setIfInBounds i true) st' k
    | none => False
inductive Ex | nrm | ret | exit (n : Nat) | pan (n : Int)
def st0 : St := ⟨[], []⟩
/-! ### pieces of code with a meaning of their own (loops, joins) -/
abbrev Pce := St → (Ex → St → Prop) → Prop
abbrev a2N := List (List Nat × Pce)
def a3L : List Nat → List Nat → Bool
 | [], [] => true
 | a :: p, b :: q => match Nat.beq a b with | true => a3L p q | false => false
 | _, _ => false
def a2N.get : a2N → List Nat → Option Pce
 | [], _ => none
 | (q, X) :: r, p => match a3L q p with | true => some X | false => a2N.get r p
/-- the piece number i of a piece of code -/
def a3e : Code → Nat → Code
 | .seq a _, 0 => a
 | .seq _ b, 1 => b
 | .cond _ a _, 0 => a
 | .cond _ _ b, 1 => b
 | .block _ c, 0 => c
 | .loop c, 0 => c
 | c, _ => c
/-- the piece at a place (the last step first) -/
def at' (c : Code) : List Nat → Code
 | [] => c
 | i :: p => a3e (at' c p) i
def ex (Lb : a2N) : Code → List Nat → St → (Ex → St → Prop) → Prop
 | .skip, _, st, k => k .nrm st
 | .region _ ops draw, _, st, k => match draw with
  | false => a8y tb Γ (fun n st => k (.pan n) st) ops ops.toList st (k .nrm)
  | true => match Region.noSelect ops with
   | true => a7C tb Γ (fun n _ => k (.pan n) st0) (a3U st ops.toList ops.toList) ops ops.size (Array.replicate ops.size false) st (k .nrm)
   | false => False
 | .seq a b, p, st, k => ex Lb a (0 :: p) st fun e st' => match e with
  | .nrm => match Lb.get (1 :: p) with
   | some X => X st' k
   | none => ex Lb b (1 :: p) st' k
  | .ret => k .ret st'
  | .exit i => k (.exit i) st'
  | .pan n => k (.pan n) st'
 | .cond c a b, p, st, k => match st.ev c with
  | .v .bool t => match t with
   | true => ex Lb a (0 :: p) st k
   | false => ex Lb b (1 :: p) st k
  | _ => False
 | .block id c, p, st, k => ex Lb c (0 :: p) st fun e st' => match e with
  | .exit i => match Nat.beq i id with
   | true => k .nrm st'
   | false => k (.exit i) st'
  | .nrm => k .nrm st'
  | .ret => k .ret st'
  | .pan n => k (.pan n) st'
 | .loop _, p, st, k => match Lb.get p with
  | some X => X st k
  | none => False
 | .exit id, _, st, k => k (.exit id) st
 | .ret, _, st, k => k .ret st
 | _, _, _, _ => False
end
/-! ### states as they are at a place: which slots hold what -/
inductive LS
 | v (i : Nat) (t : Ty)
 | o (i k et : Nat) (e : Ty)
 | b (i k : Nat) (p : List Nat)
 | c (k : Nat) (t : Ty)
 | f (i f : Nat) (ks : List Nat)
def E1 : List LS → Type
 | [] => Unit
 | .v _ t :: r => t.den × E1 r
 | .o _ _ _ e :: r => List e.den × E1 r
 | .c _ t :: r => t.den × E1 r
 | .b _ _ _ :: r => E1 r
 | .f _ _ _ :: r => E1 r
/-- what plain data are of themselves: ints in their kinds' ranges, lengths that a machine can hold -/
def wf : (t : Ty) → t.den → Prop
 | .int k, n => inR k n
 | .bool, _ => True
 | .str, s => List.length s ≤ 9223372036854775807 ∧ ∀ b ∈ (s : List Int), 0 ≤ b ∧ b ≤ 255
 | .unit, _ => True
 | .pair a b, x => wf a x.1 ∧ wf b x.2
 | .st a, x => wf a x
 | .sl e, xs => List.length xs ≤ 9223372036854775807 ∧ ∀ x ∈ (xs : List e.den), wf e x
 | .osl _ _, _ => True
 | .hole _, _ => True
 | .arr _ _, _ => True
def wfD : (ds : List LS) → E1 ds → Prop
 | [], _ => True
 | .v _ t :: r, v => wf t v.1 ∧ wfD r v.2
 | .o _ _ _ e :: r, v => wf (.sl e) v.1 ∧ wfD r v.2
 | .c _ t :: r, v => wf t v.1 ∧ wfD r v.2
 | .b _ _ _ :: r, v => wfD r v
 | .f _ _ _ :: r, v => wfD r v
def mkT : (ds : List LS) → E1 ds → List j4 → List j4
 | [], _, l => l
 | .v i t :: r, v, l => a3s (mkT r v.2 l) i (.v t v.1)
 | .o i k et e :: r, v, l => a3s (mkT r v.2 l) i (.own k et e v.1)
 | .b i k p :: r, v, l => a3s (mkT r v l) i (.box k p)
 | .c _ _ :: r, v, l => mkT r v.2 l
 | .f i f ks :: r, v, l => a3s (mkT r v l) i (.fn f ks)
def mkB : (ds : List LS) → E1 ds → List (Nat × Cell)
 | [], _ => []
 | .v _ _ :: r, v => mkB r v.2
 | .o _ _ _ _ :: r, v => mkB r v.2
 | .b _ _ _ :: r, v => mkB r v
 | .c k t :: r, v => (k, ⟨t, v.1⟩) :: mkB r v.2
 | .f _ _ _ :: r, v => mkB r v
def mkD (N : Nat) (ds : List LS) (v : E1 ds) : St := ⟨mkT ds v (List.replicate N .no), mkB ds v⟩
/-- tokens by their names here, and by their names before -/
def a1R : List (Nat × Nat) → Nat → Nat → Option (List (Nat × Nat))
 | [], k, k' => some [(k, k')]
 | (a, b) :: r, k, k' => match Nat.beq a k, Nat.beq b k' with
  | true, true => some ((a, b) :: r)
  | false, false => match a1R r k k' with
   | some r' => some ((a, b) :: r')
   | none => none
  | _, _ => none
def ckN (k : Nat) : Bool := Nat.beq (k % 8) 5
def frz : List LS → St → St
 | [], st => st
 | .v i _ :: r, st => frz r (st.lay (C5 st.tmps i))
 | _ :: r, st => frz r st
def rdD : (ds : List LS) → List (Nat × Nat) → St → (E1 ds → Prop) → Prop
 | [], _, _, Y => Y ()
 | .v i t :: r, ren, st, Y => match C5 st.tmps i with
  | .v u x => match u.cast? t x with
   | some y => rdD r ren st fun v => Y (y, v)
   | none => False
  | _ => False
 | .o i k et e :: r, ren, st, Y => match C5 st.tmps i with
  | .own k' et' e' x => match (match Nat.beq et et' with | true => (Ty.sl e').cast? (.sl e) x | false => none) with
   | some y => match (match ckN k with | true => (match Nat.beq (k' % 8) 4 with | true => none | false => a1R ren k k') | false => none) with
    | some ren' => rdD r ren' st fun v => Y (y, v)
    | none => False
   | none => False
  | _ => False
 | .b i k p :: r, ren, st, Y => match C5 st.tmps i with
  | .box k' p' => match (match Nat.beq k k' with | true => (match a3L p p' with | true => ckN k | false => true) | false => true) with
   | false => rdD r ren st Y
   | true => False
  | _ => False
 | .c k t :: r, ren, st, Y => match l6 st.boxes k with
  | some c => match (match ckN k with | true => none | false => c.t.cast? t c.x) with
   | some y => rdD r ren st fun v => Y (y, v)
   | none => False
  | none => False
 | .f i f ks :: r, ren, st, Y => match C5 st.tmps i with
  | .fn f' ks' => match (match Nat.beq f f' with | true => (match a3L ks ks' with | true => ks.any ckN | false => true) | false => true) with
   | false => rdD r ren st Y
   | true => False
  | _ => False
def ckD (N : Nat) (ds : List LS) (st : St) (Y : E1 ds → Prop) : Prop :=
 match Nat.beq st.tmps.length N with
 | true => rdD ds [] (frz ds st) Y
 | false => False
structure DX where
 nrm : Option (List LS)
 ret : Option (List LS)
 exs : List (Nat × List LS)
def a9Y : List (Nat × List LS) → Nat → Option (List LS)
 | [], _ => none
 | (a, d) :: r, i => match Nat.beq a i with | true => some d | false => a9Y r i
def DX.get (dx : DX) : Ex → Option (List LS)
 | .nrm => dx.nrm
 | .ret => dx.ret
 | .exit i => a9Y dx.exs i
 | .pan _ => none
def wkn (N : Nat) (dx : DX) (k : Ex → St → Prop) (e : Ex) (st : St) : Prop :=
 match dx.get e with
 | some d => ckD N d st fun v => wfD d v → k e (mkD N d v)
 | none => False
def wk (N : Nat) (dx : DX) (k : Ex → St → Prop) (e : Ex) (st : St) : Prop :=
 match e with
 | .pan n => k (.pan n) st0
 | .nrm => wkn N dx k .nrm st
 | .ret => wkn N dx k .ret st
 | .exit i => wkn N dx k (.exit i) st
def lpK (N : Nat) (ds : List LS) (dx : DX) (k : Ex → St → Prop) (Y : E1 ds → Prop) (e : Ex) (st : St) : Prop :=
 match e with
 | .nrm => ckD N ds st Y
 | .ret => wk N dx k .ret st
 | .exit i => wk N dx k (.exit i) st
 | .pan n => k (.pan n) st0
def lpD (N : Nat) (ds : List LS) (dx : DX) (body : Pce) (k : Ex → St → Prop) : Nat → E1 ds → Prop
 | 0, _ => False
 | n + 1, v => wfD ds v → body (mkD N ds v) (lpK N ds dx k (lpD N ds dx body k n))
end Go.VE
namespace Go.VE
open Go Go.RowKit
/-- one block holds a variable, and nothing else -/
def a4o (I : Nat → Prop) (w : World) (b : Nat) (c : Cell) : Prop :=
 ∃ cs et, w.heap[b]? = some (.cells cs et (0, 0)) ∧ l0 I w c.t c.x cs.toList
/-- no cell of so many is frozen -/
def a3A (fr : Nat × Nat) (n : Nat) : Prop := fr.1 = fr.2 ∨ n ≤ fr.1
theorem a3A.all {fr : Nat × Nat} {n : Nat} (h : a3A fr n) : ∀ j, j < n → ¬ (fr.1 ≤ j ∧ j < fr.2) := fun j hj => by
 rcases h with h | h <;> omega
/-- no cell of so many is frozen; and none at all, but where the element type's number bears the mark -/
def a5t (et : Nat) (fr : Nat × Nat) (n : Nat) : Prop := fr.1 = fr.2 ∨ (4294967296 ≤ et ∧ n ≤ fr.1)
theorem a5t.no {et : Nat} {fr : Nat × Nat} {n : Nat} (h : a5t et fr n) : a3A fr n := h.imp id fun h => h.2
theorem a5t.eM {et : Nat} {fr : Nat × Nat} {n : Nat} (h : a3A fr n) : a5t (eM et) fr n := h.imp id fun h => ⟨Nat.le_add_left _ _, h⟩
/-- a slice of one's own: it lies at the head of a block of its own -/
def F3 (I : Nat → Prop) (w : World) (et : Nat) (e : Ty) (xs : List e.den) (v : Value) (b : Nat) : Prop :=
 ∃ cap cur fr, v = .slice (some ⟨b, 0, none⟩) xs.length cap ∧ xs.length ≤ cap ∧ cap ≤ maxLen ∧ w.heap[b]? = some (.cells cur (eR et) fr) ∧
  a5t et fr cur.size ∧ cap * e.cells ≤ cur.size ∧
  ∀ i (h : i < xs.length), ∃ cs, l0 I w e xs[i] cs ∧ ∀ j u, cs[j]? = some u → cur[i * e.cells + j]? = some u
inductive Own
 | box (b : Nat) (t : Ty)
 | tok (b : Option Nat)
def Own.blk : Own → Option Nat
 | .box b _ => some b
 | .tok b => b
abbrev g0 := Nat → Option Own
/-! ### parts -/
def g9 : Ty → Nat → Option (Nat × Ty)
 | .pair a _, 0 => some (0, a)
 | .pair a b, n + 1 => (g9 b n).map fun r => (a.cells + r.1, r.2)
 | .unit, 0 => none
 | t, 0 => some (0, t)
 | _, _ => none
def j8 : Ty → List Nat → Option (Nat × Ty)
 | t, [] => some (0, t)
 | .st a, n :: p => (g9 a n).bind fun r => (j8 r.2 p).map fun s => (r.1 + s.1, s.2)
 | _, _ :: _ => none
/-- at o in what represents c lies d, and another thing of its type may be laid there -/
def a7O (c : Cell) (o : Nat) (d : Cell) : Prop :=
 ∀ (I : Nat → Prop) (w : World) (cs : List Value), l0 I w c.t c.x cs → ∃ pre mid post, cs = pre ++ mid ++ post ∧ pre.length = o ∧ l0 I w d.t d.x mid
theorem a3g : ∀ {a : Ty} {n : Nat} {x : a.den} {d : Cell}, fld a n x = some d → ∃ o, g9 a n = some (o, d.t) ∧ a7O ⟨a, x⟩ o d := by
 intro a
 induction a with
 | pair a b _ ihb =>
  intro n x d h
  cases n with
  | zero =>
   simp only [fld, Option.some.injEq] at h
   subst h
   exact ⟨0, rfl, fun I w cs ⟨c, e, h, hc, he⟩ => ⟨[], c, e, by simpa using h, rfl, hc⟩⟩
  | succ n =>
   obtain ⟨o, ho, hp⟩ := ihb (n := n) (x := x.2) h
   refine ⟨a.cells + o, by simp [g9, ho], fun I w cs ⟨c, e, h, hc, he⟩ => ?_⟩
   obtain ⟨pre, mid, post, h1, h2, h3⟩ := hp I w e he
   subst h1; subst h
   exact ⟨c ++ pre, mid, post, by simp, by rw [List.length_append, l0.len hc, h2], h3⟩
 | unit => intro n x d h; cases n <;> cases h
 | int k => intro n x d h; cases n with | zero => (simp only [fld, Option.some.injEq] at h; subst h; exact ⟨0, rfl, fun I w cs h => ⟨[], cs, [], by simp, rfl, h⟩⟩) | succ n => cases h
 | bool => intro n x d h; cases n with | zero => (simp only [fld, Option.some.injEq] at h; subst h; exact ⟨0, rfl, fun I w cs h => ⟨[], cs, [], by simp, rfl, h⟩⟩) | succ n => cases h
 | str => intro n x d h; cases n with | zero => (simp only [fld, Option.some.injEq] at h; subst h; exact ⟨0, rfl, fun I w cs h => ⟨[], cs, [], by simp, rfl, h⟩⟩) | succ n => cases h
 | st a _ => intro n x d h; cases n with | zero => (simp only [fld, Option.some.injEq] at h; subst h; exact ⟨0, rfl, fun I w cs h => ⟨[], cs, [], by simp, rfl, h⟩⟩) | succ n => cases h
 | sl a _ => intro n x d h; cases n with | zero => (simp only [fld, Option.some.injEq] at h; subst h; exact ⟨0, rfl, fun I w cs h => ⟨[], cs, [], by simp, rfl, h⟩⟩) | succ n => cases h
 | osl _ a _ => intro n x d h; cases n with | zero => (simp only [fld, Option.some.injEq] at h; subst h; exact ⟨0, rfl, fun I w cs h => ⟨[], cs, [], by simp, rfl, h⟩⟩) | succ n => cases h
 | hole a _ => intro n x d h; cases n with | zero => (simp only [fld, Option.some.injEq] at h; subst h; exact ⟨0, rfl, fun I w cs h => ⟨[], cs, [], by simp, rfl, h⟩⟩) | succ n => cases h
 | arr m9 a _ => intro n x d h; cases n with | zero => (simp only [fld, Option.some.injEq] at h; subst h; exact ⟨0, rfl, fun I w cs h => ⟨[], cs, [], by simp, rfl, h⟩⟩) | succ n => cases h
theorem U8 : ∀ {p : List Nat} {c d : Cell}, path c p = some d → ∃ o, j8 c.t p = some (o, d.t) ∧ a7O c o d
 | [], c, d, h => by
  simp only [path, Option.some.injEq] at h; subst h
  exact ⟨0, by cases c.t <;> rfl, fun I w cs h => ⟨[], cs, [], by simp, rfl, h⟩⟩
 | n :: p, c, d, h => by
  obtain ⟨t, x⟩ := c
  cases t with
  | st a =>
   simp only [path] at h
   split at h
   ·rename_i f hf
    obtain ⟨o, ho, hp⟩ := a3g hf
    obtain ⟨o', ho', hp'⟩ := U8 h
    refine ⟨o + o', by simp [j8, ho, ho'], fun I w cs hr => ?_⟩
    obtain ⟨pre, mid, post, rfl, rfl, h3⟩ := hp I w cs hr
    obtain ⟨pre', mid', post', rfl, rfl, h3'⟩ := hp' I w mid h3
    exact ⟨pre ++ pre', mid', post' ++ post, by simp, by simp, h3'⟩
   ·cases h
  | _ => simp [path] at h
/-- c' is c with s laid at o -/
def a7P (c : Cell) (o : Nat) (s c' : Cell) : Prop :=
 c'.t = c.t ∧ ∀ (I : Nat → Prop) (w : World) (cs : List Value), l0 I w c.t c.x cs → ∃ pre mid post, cs = pre ++ mid ++ post ∧ pre.length = o ∧ mid.length = s.t.cells ∧
  ∀ (I' : Nat → Prop) (w' : World) (mid' : List Value), p5 I I' w w' → l0 I' w' s.t s.x mid' → l0 I' w' c'.t c'.x (pre ++ mid' ++ post)
theorem O7 {a : Ty} {x y : a.den} {s : Cell} (h : s.t.cast? a s.x = some y) : ∃ o, (0, s.t) = (o, s.t) ∧ s.t = a ∧ a7P ⟨a, x⟩ o s ⟨a, y⟩ := by
 obtain ⟨t, z⟩ := s
 obtain ⟨e, hy⟩ := Ty.cast?_eq h
 dsimp only at e hy h
 subst e; subst hy
 exact ⟨0, rfl, rfl, rfl, fun I w cs hr => ⟨[], cs, [], by simp, rfl, hr.len, fun I' w' mid' _ hm => by simpa using hm⟩⟩
theorem a6c : ∀ {a : Ty} {n : Nat} {x z : a.den} {s : Cell}, setf a n x s = some z → ∃ o, g9 a n = some (o, s.t) ∧ a7P ⟨a, x⟩ o s ⟨a, z⟩ := by
 intro a
 induction a with
 | pair a b _ ihb =>
  intro n x z s h
  cases n with
  | zero =>
   simp only [setf] at h
   split at h
   ·rename_i y hy
    simp only [Option.some.injEq] at h; subst h
    obtain ⟨t, u⟩ := s
    obtain ⟨e, he⟩ := Ty.cast?_eq hy
    dsimp only at e he hy
    subst e; subst he
    exact ⟨0, rfl, rfl, fun I w cs ⟨c, d, h, hc, hd⟩ => ⟨[], c, d, by simpa using h, rfl, hc.len, fun I' w' mid' hk hm => ⟨mid', d, by simp, hm, hd.keep hk⟩⟩⟩
   ·cases h
  | succ n =>
   simp only [setf] at h
   split at h
   ·rename_i y hy
    simp only [Option.some.injEq] at h; subst h
    obtain ⟨o, ho, _, hs⟩ := ihb hy
    refine ⟨a.cells + o, by simp [g9, ho], rfl, fun I w cs ⟨c, d, h, hc, hd⟩ => ?_⟩
    obtain ⟨pre, mid, post, h1, h2, h3, h4⟩ := hs I w d hd
    subst h1; subst h
    refine ⟨c ++ pre, mid, post, by simp, by rw [List.length_append, hc.len, h2], h3, fun I' w' mid' hk hm => ⟨c, pre ++ mid' ++ post, by simp, hc.keep hk, h4 I' w' mid' hk hm⟩⟩
   ·cases h
 | unit => intro n x z s h; cases n <;> cases h
 | int k =>
  intro n x z s h
  cases n with
  | zero => obtain ⟨o, h1, h2, h3⟩ := O7 (x := x) (a := .int k) h; injection h1 with h1 _; exact ⟨o, by rw [← h1, h2]; rfl, h3⟩
  | succ n => cases h
 | bool =>
  intro n x z s h
  cases n with
  | zero => obtain ⟨o, h1, h2, h3⟩ := O7 (x := x) (a := .bool) h; injection h1 with h1 _; exact ⟨o, by rw [← h1, h2]; rfl, h3⟩
  | succ n => cases h
 | str =>
  intro n x z s h
  cases n with
  | zero => obtain ⟨o, h1, h2, h3⟩ := O7 (x := x) (a := .str) h; injection h1 with h1 _; exact ⟨o, by rw [← h1, h2]; rfl, h3⟩
  | succ n => cases h
 | st a _ =>
  intro n x z s h
  cases n with
  | zero => obtain ⟨o, h1, h2, h3⟩ := O7 (x := x) (a := .st a) h; injection h1 with h1 _; exact ⟨o, by rw [← h1, h2]; rfl, h3⟩
  | succ n => cases h
 | sl a _ =>
  intro n x z s h
  cases n with
  | zero => obtain ⟨o, h1, h2, h3⟩ := O7 (x := x) (a := .sl a) h; injection h1 with h1 _; exact ⟨o, by rw [← h1, h2]; rfl, h3⟩
  | succ n => cases h
 | osl m a _ =>
  intro n x z s h
  cases n with
  | zero => obtain ⟨o, h1, h2, h3⟩ := O7 (x := x) (a := .osl m a) h; injection h1 with h1 _; exact ⟨o, by rw [← h1, h2]; rfl, h3⟩
  | succ n => cases h
 | hole a _ =>
  intro n x z s h
  cases n with
  | zero => obtain ⟨o, h1, h2, h3⟩ := O7 (x := x) (a := .hole a) h; injection h1 with h1 _; exact ⟨o, by rw [← h1, h2]; rfl, h3⟩
  | succ n => cases h
 | arr m9 a _ =>
  intro n x z s h
  cases n with
  | zero => obtain ⟨o, h1, h2, h3⟩ := O7 (x := x) (a := .arr m9 a) h; injection h1 with h1 _; exact ⟨o, by rw [← h1, h2]; rfl, h3⟩
  | succ n => cases h
theorem a0Z : ∀ {p : List Nat} {c s c' : Cell}, setPath p c s = some c' → ∃ o, j8 c.t p = some (o, s.t) ∧ a7P c o s c'
 | [], c, s, c', h => by
  simp only [setPath] at h
  split at h
  ·rename_i y hy
   simp only [Option.some.injEq] at h; subst h
   obtain ⟨o, h1, h2, h3⟩ := O7 (x := c.x) hy
   injection h1 with h1 _
   exact ⟨o, by rw [← h1, h2]; cases c.t <;> rfl, h3⟩
  ·cases h
 | n :: p, c, s, c', h => by
  obtain ⟨t, x⟩ := c
  cases t with
  | st a =>
   simp only [setPath] at h
   split at h
   ·rename_i d hd
    split at h
    ·rename_i d' hd'
     split at h
     ·rename_i z hz
      simp only [Option.some.injEq] at h; subst h
      obtain ⟨o, ho, hp⟩ := a3g hd
      obtain ⟨o', ho', ht', hs'⟩ := a0Z hd'
      obtain ⟨o2, ho2, _, hs2⟩ := a6c hz
      have e : o2 = o := by rw [ho] at ho2; injection ho2 with ho2; injection ho2 with e _; exact e.symm
      subst e
      refine ⟨o2 + o', by simp [j8, ho, ho'], rfl, fun I w cs hr => ?_⟩
      obtain ⟨pre, mid, post, h1, h2, h3⟩ := hp I w cs hr
      obtain ⟨pre2, mid2, post2, g1, g2, g3, g4⟩ := hs2 I w cs hr
      have el : mid.length = mid2.length := by rw [g3, h3.len, ht']
      have e1 : pre = pre2 := by
       have := congrArg (List.take o2) (h1.symm.trans g1)
       simpa [h2, g2] using this
      subst e1
      have e2 : mid = mid2 ∧ post = post2 := by
       have h5 := h1.symm.trans g1
       rw [List.append_assoc, List.append_assoc] at h5
       exact List.append_inj (List.append_cancel_left h5) el
      obtain ⟨rfl, rfl⟩ := e2
      obtain ⟨pre', mid', post', k1, k2, k3, k4⟩ := hs' I w mid h3
      subst k1
      refine ⟨pre ++ pre', mid', post' ++ post, by rw [g1]; simp, by rw [List.length_append, g2, k2], k3, fun I' w' m hk hm => ?_⟩
      have e3 : pre ++ pre' ++ m ++ (post' ++ post) = pre ++ (pre' ++ m ++ post') ++ post := by simp
      rw [e3]
      exact g4 I' w' (pre' ++ m ++ post') hk (k4 I' w' m hk hm)
     ·cases h
    ·cases h
   ·cases h
  | _ => simp [setPath] at h
theorem Ty.beq_refl : ∀ t : Ty, t.beq t = true := by
 intro t
 induction t with
 | int k => exact a3I k
 | bool => rfl
 | str => rfl
 | unit => rfl
 | pair a b iha ihb => simp [Ty.beq, iha, ihb]
 | st a ih => simpa [Ty.beq] using ih
 | sl e ih => simpa [Ty.beq] using ih
 | osl _ e ih => simpa [Ty.beq] using ih
 | hole e ih => simpa [Ty.beq] using ih
 | arr m9 e ih => simp [Ty.beq, ih]
theorem Ty.castB_self {t : Ty} {x : t.den} : ∀ (b : Bool) (hb : t.beq t = b), b = true → Ty.castB t t x b hb = some x
 | true, _, _ => by simp [Ty.castB]
 | false, _, h => by cases h
theorem Ty.cast?_self (t : Ty) (x : t.den) : t.cast? t x = some x := Ty.castB_self _ rfl (Ty.beq_refl t)
theorem a78 : ∀ {a : Ty} {n o : Nat} {u : Ty}, g9 a n = some (o, u) → ∀ x : a.den, ∃ d, fld a n x = some ⟨u, d⟩ := by
 intro a
 induction a with
 | pair a b _ ihb =>
  intro n o u h x
  cases n with
  | zero => simp only [g9, Option.some.injEq, Prod.mk.injEq] at h; obtain ⟨_, rfl⟩ := h; exact ⟨x.1, rfl⟩
  | succ n =>
   simp only [g9, Option.map_eq_some_iff] at h
   obtain ⟨⟨o', u'⟩, h, e⟩ := h
   injection e with _ e; dsimp only at e; subst e
   exact ihb h x.2
 | unit => intro n o u h; cases n <;> cases h
 | int k => intro n o u h x; cases n with | zero => (simp only [g9, Option.some.injEq, Prod.mk.injEq] at h; obtain ⟨_, rfl⟩ := h; exact ⟨x, rfl⟩) | succ n => cases h
 | bool => intro n o u h x; cases n with | zero => (simp only [g9, Option.some.injEq, Prod.mk.injEq] at h; obtain ⟨_, rfl⟩ := h; exact ⟨x, rfl⟩) | succ n => cases h
 | str => intro n o u h x; cases n with | zero => (simp only [g9, Option.some.injEq, Prod.mk.injEq] at h; obtain ⟨_, rfl⟩ := h; exact ⟨x, rfl⟩) | succ n => cases h
 | st a _ => intro n o u h x; cases n with | zero => (simp only [g9, Option.some.injEq, Prod.mk.injEq] at h; obtain ⟨_, rfl⟩ := h; exact ⟨x, rfl⟩) | succ n => cases h
 | sl a _ => intro n o u h x; cases n with | zero => (simp only [g9, Option.some.injEq, Prod.mk.injEq] at h; obtain ⟨_, rfl⟩ := h; exact ⟨x, rfl⟩) | succ n => cases h
 | osl _ a _ => intro n o u h x; cases n with | zero => (simp only [g9, Option.some.injEq, Prod.mk.injEq] at h; obtain ⟨_, rfl⟩ := h; exact ⟨x, rfl⟩) | succ n => cases h
 | hole a _ => intro n o u h x; cases n with | zero => (simp only [g9, Option.some.injEq, Prod.mk.injEq] at h; obtain ⟨_, rfl⟩ := h; exact ⟨x, rfl⟩) | succ n => cases h
 | arr m9 a _ => intro n o u h x; cases n with | zero => (simp only [g9, Option.some.injEq, Prod.mk.injEq] at h; obtain ⟨_, rfl⟩ := h; exact ⟨x, rfl⟩) | succ n => cases h
theorem a7F : ∀ {a : Ty} {n o : Nat} {u : Ty}, g9 a n = some (o, u) → ∀ (x : a.den) (y : u.den), ∃ z, setf a n x ⟨u, y⟩ = some z := by
 intro a
 induction a with
 | pair a b _ ihb =>
  intro n o u h x y
  cases n with
  | zero => simp only [g9, Option.some.injEq, Prod.mk.injEq] at h; obtain ⟨_, rfl⟩ := h; exact ⟨(y, x.2), by simp [setf, Ty.cast?_self]⟩
  | succ n =>
   simp only [g9, Option.map_eq_some_iff] at h
   obtain ⟨⟨o', u'⟩, h, e⟩ := h
   injection e with _ e; dsimp only at e; subst e
   obtain ⟨z, hz⟩ := ihb h x.2 y
   exact ⟨(x.1, z), by simp [setf, hz]⟩
 | unit => intro n o u h; cases n <;> cases h
 | int k => intro n o u h x y; cases n with | zero => (simp only [g9, Option.some.injEq, Prod.mk.injEq] at h; obtain ⟨_, rfl⟩ := h; exact ⟨y, Ty.cast?_self _ y⟩) | succ n => cases h
 | bool => intro n o u h x y; cases n with | zero => (simp only [g9, Option.some.injEq, Prod.mk.injEq] at h; obtain ⟨_, rfl⟩ := h; exact ⟨y, Ty.cast?_self _ y⟩) | succ n => cases h
 | str => intro n o u h x y; cases n with | zero => (simp only [g9, Option.some.injEq, Prod.mk.injEq] at h; obtain ⟨_, rfl⟩ := h; exact ⟨y, Ty.cast?_self _ y⟩) | succ n => cases h
 | st a _ => intro n o u h x y; cases n with | zero => (simp only [g9, Option.some.injEq, Prod.mk.injEq] at h; obtain ⟨_, rfl⟩ := h; exact ⟨y, Ty.cast?_self _ y⟩) | succ n => cases h
 | sl a _ => intro n o u h x y; cases n with | zero => (simp only [g9, Option.some.injEq, Prod.mk.injEq] at h; obtain ⟨_, rfl⟩ := h; exact ⟨y, Ty.cast?_self _ y⟩) | succ n => cases h
 | osl _ a _ => intro n o u h x y; cases n with | zero => (simp only [g9, Option.some.injEq, Prod.mk.injEq] at h; obtain ⟨_, rfl⟩ := h; exact ⟨y, Ty.cast?_self _ y⟩) | succ n => cases h
 | hole a _ => intro n o u h x y; cases n with | zero => (simp only [g9, Option.some.injEq, Prod.mk.injEq] at h; obtain ⟨_, rfl⟩ := h; exact ⟨y, Ty.cast?_self _ y⟩) | succ n => cases h
 | arr m9 a _ => intro n o u h x y; cases n with | zero => (simp only [g9, Option.some.injEq, Prod.mk.injEq] at h; obtain ⟨_, rfl⟩ := h; exact ⟨y, Ty.cast?_self _ y⟩) | succ n => cases h
theorem a3u : ∀ {p : List Nat} {t u : Ty} {o : Nat}, j8 t p = some (o, u) → ∀ (x : t.den) (y : u.den), ∃ z, setPath p ⟨t, x⟩ ⟨u, y⟩ = some ⟨t, z⟩
 | [], t, u, o, h, x, y => by
  have : t = u := by cases t <;> (simp only [j8, Option.some.injEq, Prod.mk.injEq] at h; exact h.2)
  subst this
  exact ⟨y, by simp [setPath, Ty.cast?_self]⟩
 | n :: p, t, u, o, h, x, y => by
  cases t with
  | st a =>
   simp only [j8, Option.bind_eq_some_iff, Option.map_eq_some_iff] at h
   obtain ⟨⟨o1, u1⟩, h1, ⟨o2, u2⟩, h2, e⟩ := h
   injection e with _ e; dsimp only at e h2; subst e
   obtain ⟨d, hd⟩ := a78 h1 x
   obtain ⟨d', hd'⟩ := a3u h2 d y
   obtain ⟨z, hz⟩ := a7F h1 x d'
   exact ⟨z, by simp [setPath, hd, hd', hz]⟩
  | _ => simp [j8] at h
theorem a7r : ∀ {a : Ty} {n o : Nat} {u : Ty}, g9 a n = some (o, u) → o + u.cells ≤ a.cells := by
 intro a
 induction a with
 | pair a b _ ihb =>
  intro n o u h
  cases n with
  | zero => simp only [g9, Option.some.injEq, Prod.mk.injEq] at h; obtain ⟨rfl, rfl⟩ := h; simp only [Ty.cells]; omega
  | succ n =>
   simp only [g9, Option.map_eq_some_iff] at h
   obtain ⟨⟨o', u'⟩, h, e⟩ := h
   injection e with e1 e2; dsimp only at e1 e2; subst e1; subst e2
   have := ihb h
   simp only [Ty.cells]; omega
 | unit => intro n o u h; cases n <;> cases h
 | int k => intro n o u h; cases n with | zero => (simp only [g9, Option.some.injEq, Prod.mk.injEq] at h; obtain ⟨rfl, rfl⟩ := h; omega) | succ n => cases h
 | bool => intro n o u h; cases n with | zero => (simp only [g9, Option.some.injEq, Prod.mk.injEq] at h; obtain ⟨rfl, rfl⟩ := h; omega) | succ n => cases h
 | str => intro n o u h; cases n with | zero => (simp only [g9, Option.some.injEq, Prod.mk.injEq] at h; obtain ⟨rfl, rfl⟩ := h; omega) | succ n => cases h
 | st a _ => intro n o u h; cases n with | zero => (simp only [g9, Option.some.injEq, Prod.mk.injEq] at h; obtain ⟨rfl, rfl⟩ := h; omega) | succ n => cases h
 | sl a _ => intro n o u h; cases n with | zero => (simp only [g9, Option.some.injEq, Prod.mk.injEq] at h; obtain ⟨rfl, rfl⟩ := h; omega) | succ n => cases h
 | osl _ a _ => intro n o u h; cases n with | zero => (simp only [g9, Option.some.injEq, Prod.mk.injEq] at h; obtain ⟨rfl, rfl⟩ := h; omega) | succ n => cases h
 | hole a _ => intro n o u h; cases n with | zero => (simp only [g9, Option.some.injEq, Prod.mk.injEq] at h; obtain ⟨rfl, rfl⟩ := h; omega) | succ n => cases h
 | arr m9 a _ => intro n o u h; cases n with | zero => (simp only [g9, Option.some.injEq, Prod.mk.injEq] at h; obtain ⟨rfl, rfl⟩ := h; omega) | succ n => cases h
theorem a2T : ∀ {p : List Nat} {t u : Ty} {o : Nat}, j8 t p = some (o, u) → o + u.cells ≤ t.cells
 | [], t, u, o, h => by
  have : o = 0 ∧ t = u := by cases t <;> (simp only [j8, Option.some.injEq, Prod.mk.injEq] at h; exact ⟨h.1.symm, h.2⟩)
  obtain ⟨rfl, rfl⟩ := this
  omega
 | n :: p, t, u, o, h => by
  cases t with
  | st a =>
   simp only [j8, Option.bind_eq_some_iff, Option.map_eq_some_iff] at h
   obtain ⟨⟨o1, u1⟩, h1, ⟨o2, u2⟩, h2, e⟩ := h
   injection e with e1 e2; dsimp only at e1 e2 h2; subst e1; subst e2
   have := a7r h1
   have := a2T h2
   simp only [Ty.cells]; omega
  | _ => simp [j8] at h
theorem a4V {α : Type} {l vs : List α} {s : Nat} (hf : s + vs.length ≤ l.length) (i : Nat) :
  (l.take s ++ vs ++ l.drop (s + vs.length))[i]? = if s ≤ i ∧ i < s + vs.length then vs[i - s]? else l[i]? := by
 have hs : (l.take s).length = s := by rw [List.length_take]; omega
 by_cases h1 : i < s
 ·rw [List.append_assoc, List.getElem?_append_left (by omega), List.getElem?_take, if_pos h1, if_neg (by omega)]
 ·by_cases h2 : i < s + vs.length
  ·rw [List.append_assoc, List.getElem?_append_right (by omega), hs, List.getElem?_append_left (by omega), if_pos (by omega)]
  ·rw [List.getElem?_append_right (by rw [List.length_append]; omega), List.getElem?_drop, List.length_append, hs, if_neg (by omega)]
   congr 1; omega
/-- what a store into a part of an element does -/
theorem a6P {e u : Ty} {i o : Nat} {p : List Nat} {y : u.den} {xs : List e.den} (hp : j8 e p = some (o, u)) (hi : i < xs.length) :
  ∃ z, setPath p ⟨e, xs[i]⟩ ⟨u, y⟩ = some ⟨e, z⟩ ∧ stE e i p ⟨u, y⟩ xs = xs.set i z := by
 obtain ⟨z, hz⟩ := a3u hp xs[i] y
 refine ⟨z, hz, ?_⟩
 cases p with
 | nil =>
  have : e = u := by cases e <;> (simp only [j8, Option.some.injEq, Prod.mk.injEq] at hp; exact hp.2)
  subst this
  simp only [setPath, Ty.cast?_self, Option.some.injEq, Cell.mk.injEq, heq_eq_eq, true_and] at hz
  simp [stE, Ty.cast?_self, hz]
 | cons n p => simp [stE, List.getElem?_eq_getElem hi, hz, Ty.cast?_self]
theorem a7e {e u : Ty} {i : Nat} {p : List Nat} {y : u.den} {xs : List e.den} (hi : ¬ i < xs.length) : stE e i p ⟨u, y⟩ xs = xs := by
 cases p with
 | nil =>
  simp only [stE]
  split
  ·rw [List.set_eq_of_length_le (by omega)]
  ·rfl
 | cons n p => simp [stE, List.getElem?_eq_none (show xs.length ≤ i by omega)]
/-- a view of a slice of one's own, behind a store -/
theorem a7z {I : Nat → Prop} {w w' : World} {b et i off : Nat} {e u : Ty} {p : List Nat} {xs : List e.den} {v : Value} {y : u.den} {ycs : List Value} {cur cur' : Array Value} {et0 : Nat} {fr : Nat × Nat}
  (hp : j8 e p = some (off, u)) (hh : w.heap[b]? = some (.cells cur et0 fr)) (hw' : w'.heap[b]? = some (.cells cur' et0 fr))
  (hc : cur'.toList = cur.toList.take (i * e.cells + off) ++ ycs ++ cur.toList.drop (i * e.cells + off + ycs.length)) (hfit : i * e.cells + off + ycs.length ≤ cur.size) (hk : p5 I I w w') (hy : l0 I w u y ycs)
  (h : F3 I w et e xs v b) : F3 I w' et e (stE e i p ⟨u, y⟩ xs) v b := by
 obtain ⟨cap, cur1, fr1, rfl, hl, hm, hh1, hfr, hz, hr⟩ := h
 rw [hh] at hh1; injection hh1 with hh1; injection hh1 with e1 e2 e3; subst e1; subst e2; subst e3
 have hle := a2T hp
 have hyl := hy.len
 have hf : i * e.cells + off + ycs.length ≤ cur.toList.length := by rw [Array.length_toList]; exact hfit
 have hsz : cur'.size = cur.size := by
  rw [← Array.length_toList, hc, List.length_append, List.length_append, List.length_take, List.length_drop, ← Array.length_toList (xs := cur)]; omega
 have hget : ∀ j, cur'[j]? = if i * e.cells + off ≤ j ∧ j < i * e.cells + off + ycs.length then ycs[j - (i * e.cells + off)]? else cur[j]? := by
  intro j
  rw [← Array.getElem?_toList, hc, a4V hf]
  simp
 have hlen : (stE e i p ⟨u, y⟩ xs).length = xs.length := by
  by_cases hi : i < xs.length
  ·obtain ⟨z, _, hz⟩ := a6P (y := y) hp hi
   rw [hz, List.length_set]
  ·rw [a7e hi]
 refine ⟨cap, cur', fr, by rw [hlen], by rw [hlen]; exact hl, hm, hw', by rw [hsz]; exact hfr, by rw [hsz]; exact hz, fun q hq => ?_⟩
 have hq' : q < xs.length := by rw [← hlen]; exact hq
 obtain ⟨cs, hrc, hj⟩ := hr q hq'
 have hcl := hrc.len
 by_cases hqi : q = i
 ·subst hqi
  obtain ⟨z, hz1, hz2⟩ := a6P (y := y) hp hq'
  obtain ⟨o', ho', hct, hset⟩ := a0Z hz1
  rw [hp] at ho'; injection ho' with ho'; injection ho' with ho' _; subst ho'
  obtain ⟨pre, mid, post, g1, g2, g3, g4⟩ := hset I w cs hrc
  refine ⟨pre ++ ycs ++ post, ?_, fun j v hv => ?_⟩
  ·have := g4 I w' ycs hk (hy.keep hk)
   have e : (stE e q p ⟨u, y⟩ xs)[q]'hq = z := by simp [hz2]
   rw [e]; exact this
  ·rw [hget]
   have g3 : mid.length = u.cells := g3
   by_cases h1 : j < off
   ·rw [if_neg (by omega)]
    refine hj j v ?_
    rw [g1, List.append_assoc, List.getElem?_append_left (by omega)]
    rw [List.append_assoc, List.getElem?_append_left (by omega)] at hv; exact hv
   ·by_cases h2 : j < off + ycs.length
    ·rw [if_pos (by omega)]
     rw [List.append_assoc, List.getElem?_append_right (by omega), List.getElem?_append_left (by omega)] at hv
     rw [← hv]; congr 1; omega
    ·rw [if_neg (by omega)]
     refine hj j v ?_
     rw [List.getElem?_append_right (by rw [List.length_append]; omega), List.length_append] at hv
     rw [g1, List.getElem?_append_right (by rw [List.length_append]; omega), List.length_append, ← hv]
     congr 1; omega
 ·refine ⟨cs, ?_, fun j v hv => ?_⟩
  ·have e : (stE e i p ⟨u, y⟩ xs)[q]'hq = xs[q] := by
    by_cases hi : i < xs.length
    ·obtain ⟨z, _, hz⟩ := a6P (y := y) hp hi
     simp only [hz]
     rw [List.getElem_set_ne (by omega)]
    ·simp only [a7e hi]
   rw [e]; exact hrc.keep hk
  ·have hjl : j < e.cells := by
    rcases Nat.lt_or_ge j e.cells with h | h
    ·exact h
    ·rw [List.getElem?_eq_none (by omega)] at hv; cases hv
   rw [hget, if_neg]
   ·exact hj j v hv
   ·rintro ⟨h1, h2⟩
    rcases Nat.lt_or_ge q i with h | h
    ·have : (q + 1) * e.cells ≤ i * e.cells := Nat.mul_le_mul_right _ h
     rw [Nat.succ_mul] at this; omega
    ·have : (i + 1) * e.cells ≤ q * e.cells := Nat.mul_le_mul_right _ (by omega)
     rw [Nat.succ_mul] at this; omega
/-! ### slices of their own in variables -/
theorem F7 : ∀ t : Ty, t.era.cells = t.cells := by
 intro t
 induction t with
 | pair a b iha ihb => simp [Ty.era, Ty.cells, iha, ihb]
 | st a ih => simpa [Ty.era, Ty.cells] using ih
 | _ => rfl
theorem a09 : ∀ t : Ty, (S3 t).era = t.era := by
 intro t
 induction t with
 | pair a b iha ihb => simp [S3, Ty.era, iha, ihb]
 | st a ih => simpa [S3, Ty.era] using ih
 | _ => rfl
theorem a4z : ∀ t : Ty, (V8 t).era = t.era := by
 intro t
 induction t with
 | pair a b iha ihb => simp [V8, Ty.era, iha, ihb]
 | st a ih => simpa [V8, Ty.era] using ih
 | _ => rfl
theorem a1f {a b : Ty} (h : (Ty.pair a b).noO = true) : a.noO = true ∧ b.noO = true := by
 simp only [Ty.noO] at h
 split at h
 ·rename_i h1; exact ⟨h1, h⟩
 ·cases h
theorem V5 : ∀ {t : Ty}, t.noO = true → t.era = t := by
 intro t
 induction t with
 | pair a b iha ihb => intro h; obtain ⟨h1, h2⟩ := a1f h; simp [Ty.era, iha h1, ihb h2]
 | st a ih => intro h; simpa [Ty.era] using ih h
 | osl n e _ => intro h; cases h
 | hole e _ => intro h; cases h
 | _ => intro _; rfl
theorem b0H {a : Ty} : (Ty.st a).era = .st a.era := rfl
theorem a9t (t : Ty) : (S3 t).cells = t.cells := by rw [← F7, a09, F7]
theorem a9s (t : Ty) : (V8 t).cells = t.cells := by rw [← F7, a4z, F7]
def a7b (c d : Cell) : Cell := ⟨.pair c.t d.t, (c.x, d.x)⟩
def stC (c : Cell) : Cell := ⟨.st c.t, c.x⟩
/-- nothing of its own in it: freeing it turns nothing -/
theorem a8a : ∀ {t : Ty} (x : t.den), t.noO = true → (⟨V8 t, a1C t x⟩ : Cell) = ⟨t, x⟩ := by
 intro t
 induction t with
 | pair a b iha ihb =>
  intro x h
  obtain ⟨h1, h2⟩ := a1f h
  have e1 := iha x.1 h1
  have e2 := ihb x.2 h2
  show a7b ⟨V8 a, a1C a x.1⟩ ⟨V8 b, a1C b x.2⟩ = a7b ⟨a, x.1⟩ ⟨b, x.2⟩
  rw [e1, e2]
 | st a ih =>
  intro x h
  have e1 := ih x h
  show stC ⟨V8 a, a1C a x⟩ = stC ⟨a, x⟩
  rw [e1]
 | osl n e _ => intro x h; cases h
 | hole e _ => intro x h; cases h
 | _ => intro x _; rfl
theorem a8g : ∀ {t : Ty} (x : t.den), t.noO = true → (⟨S3 t, a0U t x⟩ : Cell) = ⟨t, x⟩ := by
 intro t
 induction t with
 | pair a b iha ihb =>
  intro x h
  obtain ⟨h1, h2⟩ := a1f h
  have e1 := iha x.1 h1
  have e2 := ihb x.2 h2
  show a7b ⟨S3 a, a0U a x.1⟩ ⟨S3 b, a0U b x.2⟩ = a7b ⟨a, x.1⟩ ⟨b, x.2⟩
  rw [e1, e2]
 | st a ih =>
  intro x h
  have e1 := ih x h
  show stC ⟨S3 a, a0U a x⟩ = stC ⟨a, x⟩
  rw [e1]
 | osl n e _ => intro x h; cases h
 | hole e _ => intro x h; cases h
 | _ => intro x _; rfl
theorem N2 (t : Ty) : j8 t [] = some (0, t) := by cases t <;> rfl
theorem a1n : ∀ {t : Ty} {n o : Nat} {u : Ty}, g9 t n = some (o, u) → g9 t.era n = some (o, u.era) := by
 intro t
 induction t with
 | pair a b _ ihb =>
  intro n o u h
  cases n with
  | zero => simp only [g9, Option.some.injEq, Prod.mk.injEq] at h; obtain ⟨rfl, rfl⟩ := h; rfl
  | succ n =>
   simp only [g9, Option.map_eq_some_iff] at h
   obtain ⟨⟨o', u'⟩, h, e⟩ := h
   injection e with e1 e2; dsimp only at e1 e2; subst e1; subst e2
   simp [Ty.era, g9, ihb h, F7]
 | unit => intro n o u h; cases n <;> cases h
 | _ => intro n o u h; cases n with | zero => (simp only [g9, Option.some.injEq, Prod.mk.injEq] at h; obtain ⟨rfl, rfl⟩ := h; rfl) | succ n => cases h
theorem B7 : ∀ {p : List Nat} {t u : Ty} {o : Nat}, j8 t p = some (o, u) → j8 t.era p = some (o, u.era)
 | [], t, u, o, h => by
  rw [N2] at h ⊢
  simp only [Option.some.injEq, Prod.mk.injEq] at h
  obtain ⟨rfl, rfl⟩ := h; rfl
 | n :: p, t, u, o, h => by
  cases t with
  | st a =>
   simp only [j8, Option.bind_eq_some_iff, Option.map_eq_some_iff] at h
   obtain ⟨⟨o1, u1⟩, h1, ⟨o2, u2⟩, h2, e⟩ := h
   injection e with e1 e2; dsimp only at e1 e2 h2; subst e1; subst e2
   simp [Ty.era, j8, a1n h1, B7 h2]
  | _ => simp [j8] at h
/-- of each slice of its own, with the place where it lies -/
def OLv (V : Nat → Nat → (e : Ty) → List e.den → Prop) : Nat → (t : Ty) → t.den → Prop
 | o, .pair a b, x => OLv V o a x.1 ∧ OLv V (o + a.cells) b x.2
 | o, .st a, x => OLv V o a x
 | o, .osl et e, xs => V o et e xs
 | _, _, _ => True
theorem OLv.mono {V V' : Nat → Nat → (e : Ty) → List e.den → Prop} : ∀ {t : Ty} {o : Nat} {x : t.den}, (∀ q et e xs, o ≤ q → q < o + t.cells → V q et e xs → V' q et e xs) → OLv V o t x → OLv V' o t x := by
 intro t
 induction t with
 | pair a b iha ihb =>
  intro o x h hv
  refine ⟨iha (fun q et e xs h1 h2 => h q et e xs h1 (by simp only [Ty.cells]; omega)) hv.1, ihb (fun q et e xs h1 h2 => h q et e xs (by omega) (by simp only [Ty.cells]; omega)) hv.2⟩
 | st a ih => intro o x h hv; exact ih (x := x) h hv
 | osl n e _ => intro o x h hv; exact h _ _ _ _ (Nat.le_refl _) (by simp [Ty.cells]) hv
 | _ => intro o x _ _; trivial
theorem OLv.none {V : Nat → Nat → (e : Ty) → List e.den → Prop} : ∀ {t : Ty} {o : Nat} {x : t.den}, t.noO = true → OLv V o t x := by
 intro t
 induction t with
 | pair a b iha ihb => intro o x h; obtain ⟨h1, h2⟩ := a1f h; exact ⟨iha h1, ihb h2⟩
 | st a ih => intro o x h; exact ih (x := x) h
 | osl n e _ => intro o x h; cases h
 | _ => intro o x _; trivial
theorem OLv.hole {V : Nat → Nat → (e : Ty) → List e.den → Prop} : ∀ {t : Ty} {o : Nat} {x : t.den}, OLv V o (S3 t) (a0U t x) := by
 intro t
 induction t with
 | pair a b iha ihb => intro o x; exact ⟨iha, ihb⟩
 | st a ih => intro o x; exact ih (x := x)
 | _ => intro o x; trivial
theorem OLv.free {V : Nat → Nat → (e : Ty) → List e.den → Prop} : ∀ {t : Ty} {o : Nat} {x : t.den}, OLv V o (V8 t) (a1C t x) := by
 intro t
 induction t with
 | pair a b iha ihb => intro o x; exact ⟨iha, ihb⟩
 | st a ih => intro o x; exact ih (x := x)
 | _ => intro o x; trivial
theorem l0.hole {I : Nat → Prop} {w : World} : ∀ {t : Ty} {x : t.den} {cs : List Value}, l0 I w t x cs → l0 I w (S3 t) (a0U t x) cs := by
 intro t
 induction t with
 | pair a b iha ihb => intro x cs h; obtain ⟨c, d, e, hc, hd⟩ := h; exact ⟨c, d, e, iha hc, ihb hd⟩
 | st a ih => intro x cs h; exact ih (x := x) h
 | _ => intro x cs h; exact h
theorem l0.free {I I' : Nat → Prop} {w w' : World} (hk : p5 I I' w w') {V : Nat → Nat → (e : Ty) → List e.den → Prop} {all : List Value}
  (hV : ∀ o et e xs v, V o et e xs → all[o]? = some v → l0 I' w' (.sl e) xs [v]) : ∀ {t : Ty} {x : t.den} {pre cs post : List Value}, all = pre ++ cs ++ post → OLv V pre.length t x → l0 I w t x cs → l0 I' w' (V8 t) (a1C t x) cs := by
 intro t
 induction t with
 | pair a b iha ihb =>
  intro x pre cs post ha ho h
  obtain ⟨c, d, rfl, hc, hd⟩ := h
  refine ⟨c, d, rfl, iha (pre := pre) (post := d ++ post) (by rw [ha]; simp) ho.1 hc, ihb (pre := pre ++ c) (post := post) (by rw [ha]; simp) ?_ hd⟩
  rw [List.length_append, hc.len]; exact ho.2
 | st a ih => intro x pre cs post ha ho h; exact ih (x := x) ha ho h
 | osl n e _ =>
  intro x pre cs post ha ho h
  obtain ⟨A, k, m, rfl⟩ := h
  exact hV _ _ _ _ _ ho (by rw [ha]; simp)
 | _ => intro x pre cs post ha ho h; exact l0.keep hk h
theorem OLv.setf {V V' : Nat → Nat → (e : Ty) → List e.den → Prop} {s : Cell} (hs : s.t.noO = true) : ∀ {a : Ty} {n o off : Nat} {x z : a.den}, setf a n x s = some z → g9 a n = some (off, s.t) →
  (∀ q et e xs, ¬ (o + off ≤ q ∧ q < o + off + s.t.cells) → V q et e xs → V' q et e xs) → OLv V o a x → OLv V' o a z := by
 have leaf : ∀ {a : Ty} {o : Nat} {z : a.den}, s.t = a → OLv V' o a z := fun e => OLv.none (by rw [← e]; exact hs)
 intro a
 induction a with
 | pair a b _ ihb =>
  intro n o off x z h hf hV hv
  cases n with
  | zero =>
   simp only [g9, Option.some.injEq, Prod.mk.injEq] at hf
   obtain ⟨rfl, ha⟩ := hf
   simp only [VE.setf] at h
   split at h
   ·rename_i y hy
    simp only [Option.some.injEq] at h; subst h
    refine ⟨leaf ha.symm, hv.2.mono fun q et e xs h1 h2 hq => hV q et e xs (fun h3 => ?_) hq⟩
    rw [← ha] at h3; omega
   ·cases h
  | succ n =>
   simp only [g9, Option.map_eq_some_iff] at hf
   obtain ⟨⟨o', u'⟩, hf, e⟩ := hf
   injection e with e1 e2; dsimp only at e1 e2; subst e1; subst e2
   simp only [VE.setf] at h
   split at h
   ·rename_i y hy
    simp only [Option.some.injEq] at h; subst h
    refine ⟨hv.1.mono fun q et e xs h1 h2 hq => hV q et e xs (fun h3 => by omega) hq, ihb hy hf (fun q et e xs h1 hq => hV q et e xs (fun h3 => h1 ⟨by omega, by omega⟩) hq) hv.2⟩
   ·cases h
 | unit => intro n o off x z h hf; cases n <;> cases hf
 | _ =>
  intro n o off x z h hf hV hv
  cases n with
  | zero =>
   simp only [g9, Option.some.injEq, Prod.mk.injEq] at hf
   exact leaf hf.2.symm
  | succ n => cases hf
theorem OLv.fld {V : Nat → Nat → (e : Ty) → List e.den → Prop} : ∀ {a : Ty} {n o off : Nat} {x : a.den} {d : Cell}, fld a n x = some d → g9 a n = some (off, d.t) → OLv V o a x → OLv V (o + off) d.t d.x := by
 intro a
 induction a with
 | pair a b _ ihb =>
  intro n o off x d h hf hv
  cases n with
  | zero =>
   simp only [VE.fld, Option.some.injEq] at h; subst h
   simp only [g9, Option.some.injEq, Prod.mk.injEq] at hf
   obtain ⟨rfl, _⟩ := hf
   exact hv.1
  | succ n =>
   simp only [g9, Option.map_eq_some_iff] at hf
   obtain ⟨⟨o', u'⟩, hf, e⟩ := hf
   injection e with e1 e2; dsimp only at e1 e2; subst e1; subst e2
   have := ihb (o := o + a.cells) h hf hv.2
   rwa [Nat.add_assoc] at this
 | unit => intro n o off x d h; cases n <;> cases h
 | _ =>
  intro n o off x d h hf hv
  cases n with
  | zero =>
   simp only [VE.fld, Option.some.injEq] at h; subst h
   simp only [g9, Option.some.injEq, Prod.mk.injEq] at hf
   obtain ⟨rfl, _⟩ := hf
   exact hv
  | succ n => cases h
/-- where the part lies, if what lies there may be of another type -/
theorem OLv.setf' {V V' : Nat → Nat → (e : Ty) → List e.den → Prop} : ∀ {a : Ty} {n o off : Nat} {x z : a.den} {s : Cell}, VE.setf a n x s = some z → g9 a n = some (off, s.t) →
  OLv V' (o + off) s.t s.x → (∀ q et e xs, ¬ (o + off ≤ q ∧ q < o + off + s.t.cells) → V q et e xs → V' q et e xs) → OLv V o a x → OLv V' o a z := by
 intro a
 induction a with
 | pair a b _ ihb =>
  intro n o off x z s h hf hs hV hv
  cases n with
  | zero =>
   simp only [g9, Option.some.injEq, Prod.mk.injEq] at hf
   obtain ⟨rfl, ha⟩ := hf
   simp only [VE.setf] at h
   split at h
   ·rename_i y hy
    simp only [Option.some.injEq] at h; subst h
    obtain ⟨t, u⟩ := s
    obtain ⟨e, hye⟩ := Ty.cast?_eq hy
    dsimp only at e hye ha hs
    subst e; subst hye
    refine ⟨hs, hv.2.mono fun q et e xs h1 h2 hq => hV q et e xs (fun h3 => ?_) hq⟩
    dsimp only at h3; omega
   ·cases h
  | succ n =>
   simp only [g9, Option.map_eq_some_iff] at hf
   obtain ⟨⟨o', u'⟩, hf, e⟩ := hf
   injection e with e1 e2; dsimp only at e1 e2; subst e1; subst e2
   simp only [VE.setf] at h
   split at h
   ·rename_i y hy
    simp only [Option.some.injEq] at h; subst h
    refine ⟨hv.1.mono fun q et e xs h1 h2 hq => hV q et e xs (fun h3 => by omega) hq, ihb hy hf (by rw [Nat.add_assoc]; exact hs) (fun q et e xs h1 hq => hV q et e xs (fun h3 => h1 ⟨by omega, by omega⟩) hq) hv.2⟩
   ·cases h
 | unit => intro n o off x z s h hf; cases n <;> cases hf
 | _ =>
  intro n o off x z s h hf hs hV hv
  cases n with
  | zero =>
   simp only [g9, Option.some.injEq, Prod.mk.injEq] at hf
   obtain ⟨rfl, ha⟩ := hf
   obtain ⟨t, u⟩ := s
   obtain ⟨e, hye⟩ := Ty.cast?_eq (show t.cast? _ u = some z from h)
   dsimp only at e hye ha hs
   subst e; subst hye
   exact hs
  | succ n => cases hf
theorem OLv.setPath {V V' : Nat → Nat → (e : Ty) → List e.den → Prop} : ∀ {p : List Nat} {c s c' : Cell} {o off : Nat}, VE.setPath p c s = some c' → s.t.noO = true → j8 c.t p = some (off, s.t) →
  (∀ q et e xs, ¬ (o + off ≤ q ∧ q < o + off + s.t.cells) → V q et e xs → V' q et e xs) → OLv V o c.t c.x → OLv V' o c'.t c'.x
 | [], c, s, c', o, off, h, hs, hp, hV, hv => by
  simp only [VE.setPath] at h
  split at h
  ·rename_i y hy
   simp only [Option.some.injEq] at h; subst h
   obtain ⟨e, _⟩ := Ty.cast?_eq hy
   exact OLv.none (by show c.t.noO = true; rw [← e]; exact hs)
  ·cases h
 | n :: p, c, s, c', o, off, h, hs, hp, hV, hv => by
  obtain ⟨t, x⟩ := c
  cases t with
  | st a =>
   simp only [VE.setPath] at h
   split at h
   ·rename_i d hd
    split at h
    ·rename_i d' hd'
     split at h
     ·rename_i z hz
      simp only [Option.some.injEq] at h; subst h
      simp only [j8, Option.bind_eq_some_iff, Option.map_eq_some_iff] at hp
      obtain ⟨⟨o1, u1⟩, h1, ⟨o2, u2⟩, h2, e⟩ := hp
      injection e with e1 e2; dsimp only at e1 e2 h2; subst e1; subst e2
      obtain ⟨o3, h3, _⟩ := a3g hd
      rw [h1] at h3; injection h3 with h3; injection h3 with e1 e2; subst e1; subst e2
      obtain ⟨_, _, hset⟩ := a0Z hd'
      have hty := hset.1
      have hsub := OLv.setPath (V := V) (V' := V') (o := o + o1) hd' hs h2 (fun q et e xs h4 hq => hV q et e xs (fun h5 => h4 ⟨by omega, by omega⟩) hq) (OLv.fld hd h1 hv)
      have hle := a2T h2
      have hcc : d'.t.cells = d.t.cells := by rw [hty]
      show OLv V' o a z
      exact OLv.setf' (V := V) (a := a) (o := o) (off := o1) hz (by rw [hty]; exact h1) hsub (fun q et e xs h4 hq => hV q et e xs (fun h5 => h4 ⟨by omega, by rw [hcc]; omega⟩) hq) hv
     ·cases h
    ·cases h
   ·cases h
  | _ => simp [VE.setPath] at h
theorem OLv.path {V : Nat → Nat → (e : Ty) → List e.den → Prop} : ∀ {p : List Nat} {c d : Cell} {o off : Nat}, VE.path c p = some d → j8 c.t p = some (off, d.t) → OLv V o c.t c.x → OLv V (o + off) d.t d.x
 | [], c, d, o, off, h, hp, hv => by
  simp only [VE.path, Option.some.injEq] at h; subst h
  rw [N2] at hp
  simp only [Option.some.injEq, Prod.mk.injEq] at hp
  obtain ⟨rfl, _⟩ := hp
  exact hv
 | n :: p, c, d, o, off, h, hp, hv => by
  obtain ⟨t, x⟩ := c
  cases t with
  | st a =>
   simp only [VE.path] at h
   split at h
   ·rename_i f hf
    simp only [j8, Option.bind_eq_some_iff, Option.map_eq_some_iff] at hp
    obtain ⟨⟨o1, u1⟩, h1, ⟨o2, u2⟩, h2, e⟩ := hp
    injection e with e1 e2; dsimp only at e1 e2 h2; subst e1
    obtain ⟨o3, h3, _⟩ := a3g hf
    rw [h1] at h3; injection h3 with h3; injection h3 with e3 e4; subst e3; subst e4
    have := OLv.path (o := o + o1) h (by rw [h2, e2]) (OLv.fld hf h1 hv)
    rwa [Nat.add_assoc] at this
   ·cases h
  | _ => simp [VE.path] at h
theorem OLv.zero {V : Nat → Nat → (e : Ty) → List e.den → Prop} {all : List Value} (hV : ∀ o et e, all[o]? = some (.slice Option.none 0 0) → V o et e []) : ∀ {t : Ty} {pre post : List Value}, all = pre ++ G6 t ++ post → OLv V pre.length t t.dflt := by
 intro t
 induction t with
 | pair a b iha ihb =>
  intro pre post h
  refine ⟨iha (post := G6 b ++ post) (by rw [h]; simp [G6]), ?_⟩
  have := ihb (pre := pre ++ G6 a) (post := post) (by rw [h]; simp [G6])
  rwa [List.length_append, (l0.zero (fun _ => True) default a).len] at this
 | st a ih => intro pre post h; exact ih (pre := pre) (post := post) h
 | osl n e _ => intro pre post h; exact hV _ _ _ (by rw [h]; simp [G6])
 | _ => intro pre post _; trivial
theorem a8d : ∀ {a : Ty} (i et : Nat), a.noO = true → (R4 a i et).era = a := by
 intro a
 induction a with
 | pair a b _ ihb =>
  intro i et h
  obtain ⟨h1, h2⟩ := a1f h
  cases i with
  | zero =>
   cases a with
   | sl e => simp [R4, Ty.era, V5 h2]
   | _ => exact V5 h
  | succ n =>
   have e : R4 (.pair a b) (n + 1) et = .pair a (R4 b n et) := by cases a <;> rfl
   rw [e]
   simp [Ty.era, V5 h1, ihb n et h2]
 | sl e _ => intro i et h; cases i <;> rfl
 | osl n e _ => intro i et h; cases h
 | hole e _ => intro i et h; cases h
 | _ => intro i et h; exact V5 h
theorem a7s : ∀ {a : Ty} (i et : Nat), G6 (R4 a i et) = G6 a := by
 intro a
 induction a with
 | pair a b _ ihb =>
  intro i et
  cases i with
  | zero => cases a <;> rfl
  | succ n => have := ihb n et; cases a <;> simp [R4, G6, this]
 | sl e _ => intro i et; cases i <;> rfl
 | _ => intro i et; cases i <;> rfl
theorem a80 : ∀ {a : Ty} {n : Nat} {x : a.den} {d : Cell}, fld a n x = some d → a.noO = true → d.t.noO = true := by
 intro a
 induction a with
 | pair a b _ ihb =>
  intro n x d h hn
  obtain ⟨h1, h2⟩ := a1f hn
  cases n with
  | zero => simp only [fld, Option.some.injEq] at h; subst h; exact h1
  | succ n => exact ihb (n := n) (x := x.2) h h2
 | unit => intro n x d h; cases n <;> cases h
 | _ => intro n x d h hn; cases n with | zero => (simp only [fld, Option.some.injEq] at h; subst h; exact hn) | succ n => cases h
theorem a57 : ∀ {p : List Nat} {c d : Cell}, path c p = some d → c.t.noO = true → d.t.noO = true
 | [], c, d, h, hn => by simp only [path, Option.some.injEq] at h; subst h; exact hn
 | n :: p, c, d, h, hn => by
  obtain ⟨t, x⟩ := c
  cases t with
  | st a =>
   simp only [path] at h
   split at h
   ·rename_i f hf
    exact a57 h (a80 hf hn)
   ·cases h
  | _ => simp [path] at h
theorem a7E : ∀ {a : Ty} {i : Nat} {x : a.den} {s s' : Cell}, a4R a i x s = some s' → s'.t.era = a.era ∧ ∃ off u, g9 a i = some (off, u) ∧ u.era = s.t.era ∧
  (∀ (I : Nat → Prop) (w : World) (cs : List Value), l0 I w a x cs → ∃ pre mid post, cs = pre ++ mid ++ post ∧ pre.length = off ∧ mid.length = s.t.cells ∧
   ∀ (I' : Nat → Prop) (w' : World) (mid' : List Value), p5 I I' w w' → l0 I' w' s.t s.x mid' → l0 I' w' s'.t s'.x (pre ++ mid' ++ post)) ∧
  ∀ (V : Nat → Nat → (e : Ty) → List e.den → Prop) (o : Nat), OLv V o a x → OLv V (o + off) s.t s.x → OLv V o s'.t s'.x := by
 have leaf : ∀ {a : Ty} {x : a.den} {s : Cell}, s.t.era.beq a.era = true → s.t.era = a.era ∧ ∃ off u, some (0, a) = some (off, u) ∧ u.era = s.t.era ∧
   (∀ (I : Nat → Prop) (w : World) (cs : List Value), l0 I w a x cs → ∃ pre mid post, cs = pre ++ mid ++ post ∧ pre.length = off ∧ mid.length = s.t.cells ∧
    ∀ (I' : Nat → Prop) (w' : World) (mid' : List Value), p5 I I' w w' → l0 I' w' s.t s.x mid' → l0 I' w' s.t s.x (pre ++ mid' ++ post)) ∧
   ∀ (V : Nat → Nat → (e : Ty) → List e.den → Prop) (o : Nat), OLv V o a x → OLv V (o + off) s.t s.x → OLv V o s.t s.x := by
  intro a x s h
  have he := Ty.beq_eq h
  refine ⟨he, 0, a, rfl, he.symm, fun I w cs hr => ⟨[], cs, [], by simp, rfl, ?_, fun I' w' mid' _ hm => by simpa using hm⟩, fun V o _ hs => hs⟩
  rw [hr.len, ← F7 a, ← he, F7]
 intro a
 induction a with
 | pair a b _ ihb =>
  intro i x s s' h
  cases i with
  | zero =>
   simp only [a4R] at h
   split at h
   ·rename_i hb
    simp only [Option.some.injEq] at h; subst h
    have he := Ty.beq_eq hb
    refine ⟨by simp [Ty.era, he], 0, a, rfl, he.symm, fun I w cs ⟨c, d, h, hc, hd⟩ => ⟨[], c, d, by simpa using h, rfl, ?_, fun I' w' mid' hk hm => ⟨mid', d, by simp, hm, hd.keep hk⟩⟩, fun V o hv hs => ⟨hs, ?_⟩⟩
    ·rw [hc.len, ← F7 a, ← he, F7]
    ·have e1 : s.t.cells = a.cells := by rw [← F7 s.t, he, F7]
     show OLv V (o + s.t.cells) b x.2
     rw [e1]; exact hv.2
   ·cases h
  | succ n =>
   simp only [a4R] at h
   split at h
   ·rename_i c hc
    simp only [Option.some.injEq] at h; subst h
    obtain ⟨h1, off, u, h2, h3, h4, h5⟩ := ihb hc
    refine ⟨by simp [Ty.era, h1], a.cells + off, u, by simp [g9, h2], h3, fun I w cs ⟨c1, d, h, hc1, hd⟩ => ?_, fun V o hv hs => ⟨hv.1, h5 V (o + a.cells) hv.2 (by rw [Nat.add_assoc]; exact hs)⟩⟩
    obtain ⟨pre, mid, post, g1, g2, g3, g4⟩ := h4 I w d hd
    refine ⟨c1 ++ pre, mid, post, by rw [h, g1]; simp, by rw [List.length_append, hc1.len, g2], g3, fun I' w' mid' hk hm => ⟨c1, pre ++ mid' ++ post, by simp, hc1.keep hk, g4 I' w' mid' hk hm⟩⟩
   ·cases h
 | unit => intro i x s s' h; cases i <;> cases h
 | _ =>
  intro i x s s' h
  cases i with
  | zero =>
   simp only [a4R] at h
   split at h
   ·rename_i hb
    simp only [Option.some.injEq] at h; subst h
    exact leaf hb
   ·cases h
  | succ n => cases h
/-! ### slots -/
def R5 (G : g0) (I : Nat → Prop) (w : World) (k et : Nat) (e : Ty) (xs : List e.den) (v : Value) : Prop :=
 ∃ bo, G k = some (.tok bo) ∧ ((bo = none ∧ v = .slice none 0 0 ∧ xs = []) ∨ ∃ b, bo = some b ∧ F3 I w et e xs v b)
def a4q (G : g0) (I : Nat → Prop) (w : World) : Val → Value → Prop
 | .v t x, v => g6 I w t x v
 | .own k et e xs, v => R5 G I w k et e xs v
/-- a part of a slice of one's own, from the element o on -/
def a9n (I : Nat → Prop) (w : World) (et : Nat) (e : Ty) (o : Nat) (xs : List e.den) (v : Value) (b : Nat) : Prop :=
 ∃ a0 cap cur fr, v = .slice (some ⟨b, a0, none⟩) xs.length cap ∧ (cap ≠ 0 → a0 = o * e.cells) ∧ xs.length ≤ cap ∧ cap ≤ maxLen ∧ w.heap[b]? = some (.cells cur (eR et) fr) ∧
  a5t et fr cur.size ∧ (o + cap) * e.cells ≤ cur.size ∧
  ∀ i (h : i < xs.length), ∃ cs, l0 I w e xs[i] cs ∧ ∀ j u, cs[j]? = some u → cur[(o + i) * e.cells + j]? = some u
def a7Q (G : g0) (I : Nat → Prop) (w : World) (k et : Nat) (e : Ty) (o : Nat) (xs : List e.den) (v : Value) : Prop :=
 ∃ bo, G k = some (.tok bo) ∧ ((bo = none ∧ v = .slice none 0 0 ∧ xs = []) ∨ ∃ b, bo = some b ∧ a9n I w et e o xs v b)
/-- a block that may be written -/
def Wr (w : World) (b : Nat) : Prop := ∃ cur et fr, w.heap[b]? = some (.cells cur et fr) ∧ a3A fr cur.size
/-- in the block b, at off, lies x -/
def a1N (I : Nat → Prop) (w : World) (b off : Nat) (t : Ty) (x : t.den) : Prop :=
 ∃ cs, l0 I w t x cs ∧ ∀ j u, cs[j]? = some u → w.cell? ⟨b, off + j, none⟩ = some u
def B9 (G : g0) (I : Nat → Prop) (w : World) : j4 → Value → Prop
 | .no, _ => True
 | .nil, v => v = .slice none 0 0
 | .skip, v => v = undef
 | .v t x, v => g6 I w t x v
 | .own k et e xs, v => R5 G I w k et e xs v
 | .box k p, v => ∃ b t off u, G k = some (.box b t) ∧ j8 t p = some (off, u) ∧ v = Value.pointer (some ⟨b, off, none⟩)
 | .elt t x, v => ∃ b off, v = .pointer (some ⟨b, off, none⟩) ∧ I b ∧ a1N I w b off t x
 | .oel k i e p t x, v => ∃ b off, v = .pointer (some ⟨b, i.toNat * e.cells + off, none⟩) ∧ G k = some (.tok (some b)) ∧ j8 e p = some (off, t) ∧ Wr w b ∧ a1N I w b (i.toNat * e.cells + off) t x
 | .osub k et e o xs, v => a7Q G I w k et e o xs v
 | .tup xs, v => ∃ vs : Array Value, v = .tuple vs ∧ vs.size = xs.length ∧ ∀ (i : Nat) (x : Val) (u : Value), xs[i]? = some x → vs[i]? = some u → a4q G I w x u
 | .fn f ks, v => ∃ vs : List Value, v = .func (.func f) #[] vs.toArray ∧ vs.length = ks.length ∧
   ∀ (i k : Nat) (u : Value), ks[i]? = some k → vs[i]? = some u → ∃ b t, G k = some (.box b t) ∧ u = Value.pointer (some ⟨b, 0, none⟩)
/-- the memory that a slot leans on turned not -/
structure a5d (G G' : g0) (I I' : Nat → Prop) (w w' : World) (s : Nat → Bool) : Prop where
 keeps : p5 I I' w w'
 names : ∀ k o, s k = true → G k = some o → G' k = some o ∧ ∀ b, o = .tok (some b) → w'.heap[b]? = w.heap[b]?
theorem F3.keep {I I' : Nat → Prop} {w w' : World} (hk : p5 I I' w w') {et : Nat} {e : Ty} {xs : List e.den} {v : Value} {b : Nat} (hb : w'.heap[b]? = w.heap[b]?)
  (h : F3 I w et e xs v b) : F3 I' w' et e xs v b := by
 obtain ⟨cap, cur, fr, h1, h2, h3, h4, h5, h6, h7⟩ := h
 refine ⟨cap, cur, fr, h1, h2, h3, by rw [hb]; exact h4, h5, h6, fun i hi => ?_⟩
 obtain ⟨cs, hc, hj⟩ := h7 i hi
 exact ⟨cs, hc.keep hk, hj⟩
theorem R5.move {G G' : g0} {I I' : Nat → Prop} {w w' : World} {k et : Nat} {e : Ty} {xs : List e.den} {v : Value} {s : Nat → Bool} (hs : s k = true)
  (hm : a5d G G' I I' w w' s) (h : R5 G I w k et e xs v) : R5 G' I' w' k et e xs v := by
 obtain ⟨bo, hG, h⟩ := h
 obtain ⟨hG', hb⟩ := hm.names k _ hs hG
 refine ⟨bo, hG', ?_⟩
 rcases h with h | ⟨b, rfl, h⟩
 ·exact .inl h
 ·exact .inr ⟨b, rfl, h.keep hm.keeps (hb b rfl)⟩
theorem a1N.keep {I I' : Nat → Prop} {w w' : World} (hk : p5 I I' w w') {b off : Nat} {t : Ty} {x : t.den} (hb : w'.heap[b]? = w.heap[b]?) (h : a1N I w b off t x) : a1N I' w' b off t x := by
 obtain ⟨cs, hc, hj⟩ := h
 exact ⟨cs, hc.keep hk, fun j u hu => by rw [a07 hb]; exact hj j u hu⟩
theorem a63 {k : Nat} : ∀ {xs : List Val} {i : Nat} {x : Val}, xs[i]? = some x → x.has k = true → a8S k xs = true
 | [], i, x, h, _ => by cases i <;> cases h
 | y :: ys, i, x, h, hx => by
  unfold a8S
  split
  ·rfl
  ·rename_i hy
   cases i with
   | zero => simp at h; subst h; rw [hx] at hy; cases hy
   | succ i => exact a63 (xs := ys) (i := i) (by simpa using h) hx
theorem a69 {n : Nat} : ∀ {ks : List Nat} {i : Nat}, ks[i]? = some n → a04 ks n = true
 | [], i, h => by cases i <;> cases h
 | k :: ks, i, h => by
  unfold a04
  split
  ·rfl
  ·rename_i hk
   cases i with
   | zero => simp at h; subst h; simp at hk
   | succ i => exact a69 (ks := ks) (i := i) (by simpa using h)
theorem a4q.move {G G' : g0} {I I' : Nat → Prop} {w w' : World} {x : Val} {v : Value} {s : Nat → Bool} (hs : ∀ k, x.has k = true → s k = true)
  (hm : a5d G G' I I' w w' s) (h : a4q G I w x v) : a4q G' I' w' x v := by
 cases x with
 | v t x => exact g6.keep hm.keeps h
 | own k et e xs => exact R5.move (hs k (by simp [Val.has])) hm h
theorem B9.move {G G' : g0} {I I' : Nat → Prop} {w w' : World} {x : j4} {v : Value} {s : Nat → Bool} (hs : ∀ k, x.has k = true → s k = true)
  (hm : a5d G G' I I' w w' s) (h : B9 G I w x v) : B9 G' I' w' x v := by
 cases x with
 | no => trivial
 | nil => exact h
 | skip => exact h
 | v t x => exact g6.keep hm.keeps h
 | own k et e xs => exact R5.move (hs k (by simp [j4.has])) hm h
 | box k p =>
  obtain ⟨b, t, off, u, hG, hp, hv⟩ := h
  exact ⟨b, t, off, u, (hm.names k _ (hs k (by simp [j4.has])) hG).1, hp, hv⟩
 | elt t x =>
  obtain ⟨b, off, hv, hI, hl⟩ := h
  exact ⟨b, off, hv, hm.keeps.sub b hI, hl.keep hm.keeps (hm.keeps.heap b hI)⟩
 | oel k i e p t x =>
  obtain ⟨b, off, hv, hG, hp, ⟨cur, et, fr, hh, hfr⟩, hl⟩ := h
  obtain ⟨hG', hb⟩ := hm.names k _ (hs k (by simp [j4.has])) hG
  exact ⟨b, off, hv, hG', hp, ⟨cur, et, fr, by rw [hb b rfl]; exact hh, hfr⟩, hl.keep hm.keeps (hb b rfl)⟩
 | osub k et e o xs =>
  obtain ⟨bo, hG, h⟩ := h
  obtain ⟨hG', hb⟩ := hm.names k _ (hs k (by simp [j4.has])) hG
  refine ⟨bo, hG', ?_⟩
  rcases h with h | ⟨b, rfl, a0, cap, cur, fr, h1, h0, h2, h3, h4, h5, h6, h7⟩
  ·exact .inl h
  ·refine .inr ⟨b, rfl, a0, cap, cur, fr, h1, h0, h2, h3, by rw [hb b rfl]; exact h4, h5, h6, fun i hi => ?_⟩
   obtain ⟨cs, hc, hj⟩ := h7 i hi
   exact ⟨cs, hc.keep hm.keeps, hj⟩
 | tup xs =>
  obtain ⟨vs, hv, hz, h⟩ := h
  exact ⟨vs, hv, hz, fun i x u hx hu => (h i x u hx hu).move (fun k hk => hs k (a63 hx hk)) hm⟩
 | fn f ks =>
  obtain ⟨vs, hv, hz, h⟩ := h
  refine ⟨vs, hv, hz, fun i k u hk hu => ?_⟩
  obtain ⟨b, t, hG, he⟩ := h i k u hk hu
  exact ⟨b, t, (hm.names k _ (hs k (a69 hk)) hG).1, he⟩
end Go.VE
namespace Go.VE
variable [M9]
open Go Go.RowKit
/-- the block stays a row of so many cells that may be written -/
def Shp (w w' : World) (b : Nat) : Prop :=
 ∀ cs et fr, w.heap[b]? = some (.cells cs et fr) → M9.trk et = true → a3A fr cs.size → ∃ cs' fr', w'.heap[b]? = some (.cells cs' et fr') ∧ cs'.size = cs.size ∧ a3A fr' cs'.size
theorem Shp.of {w w' : World} {b : Nat} (h : w'.heap[b]? = w.heap[b]?) : Shp w w' b := fun cs et fr h1 _ h2 => ⟨cs, fr, by rw [h]; exact h1, rfl, h2⟩
theorem Shp.trans {w w1 w2 : World} {b : Nat} (h : Shp w w1 b) (g : Shp w1 w2 b) : Shp w w2 b := fun cs et fr h1 ht h2 => by
 obtain ⟨cs1, fr1, h3, h4, h5⟩ := h cs et fr h1 ht h2
 obtain ⟨cs2, fr2, h6, h7, h8⟩ := g cs1 et fr1 h3 ht h5
 exact ⟨cs2, fr2, h6, h7.trans h4, h8⟩
theorem b0E {w w' : World} {b : Nat} (ho : ∀ k, k ≠ b → k < w.heap.size → w'.heap[k]? = w.heap[k]?) (ht : ∀ cs e fr, w.heap[b]? = some (.cells cs e fr) → M9.trk e = false) : ∀ k, Shp w w' k := fun k cs e fr h1 h2 h3 => by
 by_cases hk : k = b
 ·subst hk; rw [ht _ _ _ h1] at h2; cases h2
 ·exact ⟨cs, fr, by rw [ho k hk (Array.getElem?_eq_some_iff.1 h1).1]; exact h1, rfl, h3⟩
structure Z4 (w0 w : World) (F : Nat → Prop) : Prop where
 os : w.os = w0.os
 tape : w.tape = w0.tape
 output : w.output = w0.output
 size : w0.heap.size ≤ w.heap.size
 block : ∀ k, k < w0.heap.size → ¬ F k → w.heap[k]? = w0.heap[k]?
 shape : ∀ b, Shp w0 w b
theorem Z4.refl (w : World) (F : Nat → Prop) : Z4 w w F := ⟨rfl, rfl, rfl, Nat.le_refl _, fun _ _ _ => rfl, fun _ => Shp.of rfl⟩
/-- blocks are turned only where they are the caller's to turn -/
theorem a5D {w w' : World} {b : Nat} (hb : ∀ j, j ≠ b → w'.heap[j]? = w.heap[j]?) (hs : Shp w w' b) : ∀ j, Shp w w' j := fun j => by
 by_cases e : j = b
 ·rw [e]; exact hs
 ·exact Shp.of (hb j e)
theorem a5E {w w' : World} (hb : ∀ b, b < w.heap.size → w'.heap[b]? = w.heap[b]?) : ∀ b, Shp w w' b := fun b cs et fr h1 _ h2 =>
 ⟨cs, fr, by rw [hb b (Array.getElem?_eq_some_iff.1 h1).1]; exact h1, rfl, h2⟩
/-- blocks that were not there, or that were handed over -/
def Fr (w0 : World) (F : Nat → Prop) (Fn : Nat → Option Nat) (b : Nat) : Prop := w0.heap.size ≤ b ∨ (F b ∧ ∀ k, Fn k ≠ some b)
theorem Fr.of {w0 : World} {F : Nat → Prop} {Fn : Nat → Option Nat} {b : Nat} (h : w0.heap.size ≤ b) : Fr w0 F Fn b := .inl h
theorem Fr.f {w0 : World} {F : Nat → Prop} {Fn : Nat → Option Nat} {b : Nat} (h : Fr w0 F Fn b) (hb : b < w0.heap.size) : F b := by
 rcases h with h | h
 ·exact absurd hb (by omega)
 ·exact h.1
/-- what the variable k's own slice is, at o in its block -/
def HV (G : g0) (I : Nat → Prop) (w : World) (k b o et : Nat) (e : Ty) (xs : List e.den) : Prop := ∃ v, w.cell? ⟨b, o, none⟩ = some v ∧ R5 G I w (k + 4) et e xs v
/-- a variable of ours, with the slices of its own -/
def a3z (G : g0) (I : Nat → Prop) (w : World) (k b : Nat) (c : Cell) : Prop := a4o I w b c ∧ (k % 8 = 0 → OLv (HV G I w k b) 0 c.t c.x)
theorem a3z.move {G G' : g0} {I I' : Nat → Prop} {w w' : World} {k b : Nat} {c : Cell} (h : a3z G I w k b c) (hb : w'.heap[b]? = w.heap[b]?) (hk : p5 I I' w w')
  (hG : k % 8 = 0 → ∀ bo, G (k + 4) = some (.tok bo) → G' (k + 4) = some (.tok bo) ∧ ∀ b', bo = some b' → w'.heap[b']? = w.heap[b']?) : a3z G' I' w' k b c := by
 obtain ⟨⟨cs, et, hh, hr⟩, ho⟩ := h
 refine ⟨⟨cs, et, by rw [hb]; exact hh, hr.keep hk⟩, fun h8 => (ho h8).mono fun q et e xs _ _ hv => ?_⟩
 obtain ⟨v, hv, hx⟩ := hv
 refine ⟨v, by rw [a07 hb]; exact hv, ?_⟩
 exact R5.move (s := fun n => Nat.beq n (k + 4)) (by simp) ⟨hk, fun j o hj hGj => by
  have e := Nat.eq_of_beq_eq_true hj
  subst e
  obtain ⟨bo, hG2, _⟩ := hx
  rw [hG2] at hGj; injection hGj with e; subst e
  obtain ⟨g1, g2⟩ := hG h8 bo hG2
  exact ⟨g1, fun b' e => g2 b' (by injection e)⟩⟩ hx
theorem a3z.hole {G G' : g0} {I I' : Nat → Prop} {w w' : World} {k b : Nat} {c : Cell} (h : a3z G I w k b c) (hb : w'.heap[b]? = w.heap[b]?) (hk : p5 I I' w w') : a3z G' I' w' k b ⟨S3 c.t, a0U c.t c.x⟩ := by
 obtain ⟨⟨cs, et, hh, hr⟩, _⟩ := h
 exact ⟨⟨cs, et, by rw [hb]; exact hh, (hr.keep hk).hole⟩, fun _ => OLv.hole⟩
theorem a3z.free {G G' : g0} {I I' : Nat → Prop} {w w' : World} {k b : Nat} {c : Cell} (h : a3z G I w k b c) (h8 : k % 8 = 0) (hb : w'.heap[b]? = w.heap[b]?) (hk : p5 I I' w w')
  (hV : ∀ et e xs v, R5 G I w (k + 4) et e xs v → g6 I' w' (.sl e) xs v) : a3z G' I' w' k b ⟨V8 c.t, a1C c.t c.x⟩ := by
 obtain ⟨⟨cs, et, hh, hr⟩, ho⟩ := h
 refine ⟨⟨cs, et, by rw [hb]; exact hh, ?_⟩, fun _ => OLv.free⟩
 refine l0.free hk (V := HV G I w k b) (all := cs.toList) (fun o et e xs v hv hc => ?_) (pre := []) (post := []) (by simp) (ho h8) hr
 obtain ⟨u, hu, hx⟩ := hv
 have : u = v := by
  have e : w.cell? ⟨b, o, none⟩ = cs[o]? := by simp [World.cell?, hh]
  rw [e] at hu
  rw [Array.getElem?_toList] at hc
  rw [hu] at hc; exact Option.some.inj hc
 subst this
 obtain ⟨zs, hz, _, _, h1⟩ := hV _ _ _ _ hx
 rw [h1 rfl] at hz; exact hz
theorem a1p : ∀ (l : List (Nat × Cell)) (k n : Nat) (c : Cell), l6 (a1W k l) n = some c → ∃ c0, l6 l n = some c0 ∧ ((n + 4 = k ∧ n % 8 = 0 ∧ c = ⟨S3 c0.t, a0U c0.t c0.x⟩) ∨ (¬ (n + 4 = k ∧ n % 8 = 0) ∧ c = c0))
 | [], k, n, c, h => by cases h
 | (j, x) :: l, k, n, c, h => by
  simp only [a1W] at h
  by_cases hj : j = n
  ·subst hj
   split at h
   ·rename_i h1 h2
    simp only [l6, Nat.beq_refl, Option.some.injEq] at h
    exact ⟨x, by simp [l6], .inl ⟨Nat.eq_of_beq_eq_true h1, Nat.eq_of_beq_eq_true h2, h.symm⟩⟩
   ·rename_i hno
    simp only [l6, Nat.beq_refl, Option.some.injEq] at h
    refine ⟨x, by simp [l6], .inr ⟨fun ⟨h1, h2⟩ => hno (by rw [h1]; exact Nat.beq_refl _) (by rw [h2]; rfl), h.symm⟩⟩
  ·have hb : Nat.beq j n = false := by rw [Bool.eq_false_iff]; intro e; exact hj (Nat.eq_of_beq_eq_true e)
   have : l6 (a1W k l) n = some c := by
    split at h <;> simpa [l6, hb] using h
   obtain ⟨c0, h1, h2⟩ := a1p l k n c this
   exact ⟨c0, by simp [l6, hb, h1], h2⟩
theorem a2Q : ∀ (l : List (Nat × Cell)) (k n : Nat) (c : Cell), l6 (a3i k l) n = some c → ∃ c0, l6 l n = some c0 ∧ ((n + 4 = k ∧ n % 8 = 0 ∧ c = ⟨V8 c0.t, a1C c0.t c0.x⟩) ∨ (¬ (n + 4 = k ∧ n % 8 = 0) ∧ c = c0))
 | [], k, n, c, h => by cases h
 | (j, x) :: l, k, n, c, h => by
  simp only [a3i] at h
  by_cases hj : j = n
  ·subst hj
   split at h
   ·rename_i h1 h2
    simp only [l6, Nat.beq_refl, Option.some.injEq] at h
    exact ⟨x, by simp [l6], .inl ⟨Nat.eq_of_beq_eq_true h1, Nat.eq_of_beq_eq_true h2, h.symm⟩⟩
   ·rename_i hno
    simp only [l6, Nat.beq_refl, Option.some.injEq] at h
    refine ⟨x, by simp [l6], .inr ⟨fun ⟨h1, h2⟩ => hno (by rw [h1]; exact Nat.beq_refl _) (by rw [h2]; rfl), h.symm⟩⟩
  ·have hb : Nat.beq j n = false := by rw [Bool.eq_false_iff]; intro e; exact hj (Nat.eq_of_beq_eq_true e)
   have : l6 (a3i k l) n = some c := by
    split at h <;> simpa [l6, hb] using h
   obtain ⟨c0, h1, h2⟩ := a2Q l k n c this
   exact ⟨c0, by simp [l6, hb, h1], h2⟩
/-- what holds nothing of its own stays as it is -/
theorem V6 : ∀ {l : List (Nat × Cell)} (k : Nat) {n : Nat} {c : Cell}, l6 l n = some c → c.t.noO = true → l6 (a3i k l) n = some c
 | [], k, n, c, h, _ => by cases h
 | (j, x) :: l, k, n, c, h, hc => by
  by_cases hj : j = n
  ·subst hj
   simp only [l6, Nat.beq_refl, Option.some.injEq] at h
   subst h
   simp only [a3i]
   split
   ·simp only [l6, Nat.beq_refl]; rw [a8a _ hc]
   ·simp [l6]
  ·have hb : Nat.beq j n = false := by rw [Bool.eq_false_iff]; intro e; exact hj (Nat.eq_of_beq_eq_true e)
   have h' : l6 l n = some c := by simpa [l6, hb] using h
   have := V6 k h' hc
   simp only [a3i]
   split <;> simpa [l6, hb] using this
structure Inv (w0 : World) (F : Nat → Prop) (Fn : Nat → Option Nat) (I0 : Nat → Prop) (W : Nat → Prop) (Zc : Nat → Option Obj) (G : g0) (I : Nat → Prop) (st : St) (tm : Array Value) (w : World) : Prop where
 gl : M9.ok I0 w0 ∧ ∀ b, I0 b → b < w0.heap.size ∧ ¬ F b
 sub : ∀ b, I0 b → I b
 sup : ∀ b, I b → I0 b ∨ Fr w0 F Fn b
 lt : ∀ b, I b → b < w.heap.size
 own : ∀ k o b, G k = some o → o.blk = some b → ¬ I b ∧ b < w.heap.size ∧ (Fr w0 F Fn b ∨ Fn k = some b)
 inj : ∀ k k' o o' b, G k = some o → G k' = some o' → o.blk = some b → o'.blk = some b → k = k'
 size : tm.size = st.tmps.length
 slot : ∀ i, B9 G I w (C5 st.tmps i) (tm.getD i undef)
 box : ∀ k c, l6 st.boxes k = some c → ∃ b, G k = some (.box b c.t.era) ∧ a3z G I w k b c
 since : Z4 w0 w F
 hold : ∀ b ob, Zc b = some ob → w.heap[b]? = some ob ∧ ∀ k o, G k = some o → o.blk = some b → (∃ t, o = .box b t) ∧ ¬ W k
 seven : ∀ k bo, G k = some (.tok bo) → k % 8 ≠ 7
 fix : ∀ k b, Fn k = some b → k % 8 = 7 ∧ F b ∧ ∀ o, G k = some o → ∃ t, o = .box b t
/-! ### lists of slots -/
theorem G5 : ∀ (l : List j4) (d : Nat) (s : j4), (a3s l d s).length = l.length
 | [], _, _ => rfl
 | _ :: _, 0, _ => rfl
 | _ :: xs, d + 1, s => by simp [a3s, G5 xs d s]
theorem a0y : ∀ (l : List j4) (d : Nat) (s : j4), d < l.length → C5 (a3s l d s) d = s
 | [], _, _, h => absurd h (Nat.not_lt_zero _)
 | _ :: _, 0, _, _ => rfl
 | _ :: xs, d + 1, s, h => a0y xs d s (by simpa using h)
theorem a1q : ∀ (l : List j4) (d i : Nat) (s : j4), i ≠ d → C5 (a3s l d s) i = C5 l i
 | [], _, _, _, _ => rfl
 | _ :: _, 0, 0, _, h => absurd rfl h
 | _ :: _, 0, _ + 1, _, _ => rfl
 | _ :: _, _ + 1, 0, _, _ => rfl
 | _ :: xs, d + 1, i + 1, s, h => a1q xs d i s (by omega)
theorem a4B : ∀ (l : List j4) (i : Nat), l.length ≤ i → C5 l i = .no
 | [], _, _ => rfl
 | _ :: _, 0, h => absurd h (by simp)
 | _ :: xs, i + 1, h => a4B xs i (by simpa using h)
theorem a1c (f : j4 → j4) (hf : f .no = .no) : ∀ (l : List j4) (i : Nat), C5 (l.map f) i = f (C5 l i)
 | [], _ => by simp [C5, hf]
 | _ :: _, 0 => rfl
 | _ :: xs, i + 1 => a1c f hf xs i
theorem N1 : ∀ (l : List (Nat × Cell)) (k : Nat) (c : Cell), l6 (a06 l k c) k = some c
 | [], k, c => by simp [a06, l6]
 | (j, x) :: l, k, c => by
  unfold a06
  cases h : Nat.beq j k with
  | true => simp [l6, h]
  | false => simp [l6, h, N1 l k c]
theorem S2 : ∀ (l : List (Nat × Cell)) (k n : Nat) (c : Cell), n ≠ k → l6 (a06 l k c) n = l6 l n
 | [], k, n, c, h => by
  have : Nat.beq k n = false := by rw [Bool.eq_false_iff]; intro e; exact h (Nat.eq_of_beq_eq_true e).symm
  simp [a06, l6, this]
 | (j, x) :: l, k, n, c, h => by
  unfold a06
  cases hj : Nat.beq j k with
  | true =>
   have e := Nat.eq_of_beq_eq_true hj
   subst e
   have : Nat.beq j n = false := by rw [Bool.eq_false_iff]; intro e; exact h (Nat.eq_of_beq_eq_true e).symm
   simp [l6, this]
  | false =>
   simp only [l6]
   cases hn : Nat.beq j n with
   | true => rfl
   | false => exact S2 l k n c h
theorem a3H : ∀ (l : List (Nat × Cell)) (k n : Nat) (c : Cell), l6 (a6x l k) n = some c → n ≠ k ∧ l6 l n = some c
 | [], k, n, c, h => by cases h
 | (j, x) :: l, k, n, c, h => by
  unfold a6x at h
  cases hj : Nat.beq j k with
  | true =>
   rw [hj] at h
   obtain ⟨h1, h2⟩ := a3H l k n c h
   have e := Nat.eq_of_beq_eq_true hj
   subst e
   have : Nat.beq j n = false := by rw [Bool.eq_false_iff]; intro e; exact h1 (Nat.eq_of_beq_eq_true e).symm
   exact ⟨h1, by simp [l6, this, h2]⟩
  | false =>
   rw [hj] at h
   simp only [l6] at h ⊢
   cases hn : Nat.beq j n with
   | true =>
    rw [hn] at h
    refine ⟨?_, h⟩
    have e := Nat.eq_of_beq_eq_true hn
    subst e
    intro e; subst e; simp at hj
   | false =>
    rw [hn] at h
    exact a3H l k n c h
/-! ### moves of the invariant -/
section
variable {w0 : World} {F : Nat → Prop} {Fn : Nat → Option Nat} {I0 : Nat → Prop} {W : Nat → Prop} {Zc : Nat → Option Obj} {G : g0} {I : Nat → Prop} {st : St} {tm : Array Value} {w : World}
theorem Inv.ev (h : Inv w0 F Fn I0 W Zc G I st tm w) (x : Operand) (ds : List Deferred) : B9 G I w (st.ev x) ((Act.mk tm ds).eval x) := by
 cases x with
 | tmp t => exact h.slot t
 | const v =>
  show B9 G I w (st.ev (.const v)) v
  cases v with
  | int k n =>
   simp only [St.ev]
   split
   ·rename_i hd; exact g6.of_one rfl ⟨by simpa using hd, rfl⟩
   ·trivial
  | bool b => exact g6.of_one (t := .bool) (x := b) rfl rfl
  | string s =>
   simp only [St.ev]
   split
   ·rename_i hd; exact g6.of_one (t := .str) rfl ⟨s, rfl, rfl, Nat.le_trans (Nat.le_of_ble_eq_true hd) (by unfold lim maxLen; omega)⟩
   ·trivial
  | slice a l c =>
   unfold St.ev
   split <;> first | trivial | skip
   all_goals (rename_i heq; cases heq)
   rfl
  | _ => trivial
 | global g => trivial
 | func f => exact ⟨[], rfl, rfl, fun i k u hk _ => by simp at hk⟩
theorem Inv.put (h : Inv w0 F Fn I0 W Zc G I st tm w) (d : Option Nat) {s : j4} {v : Value} (hs : B9 G I w s v) :
  Inv w0 F Fn I0 W Zc G I (st.put d s) (match d with | some d => tm.setIfInBounds d v | none => tm) w := by
 cases d with
 | none => exact h
 | some d =>
  refine { h with size := ?_, slot := ?_, box := ?_ }
  ·simp [St.put, G5, h.size]
  ·intro i
   simp only [St.put]
   by_cases hi : i = d
   ·subst hi
    by_cases hl : i < st.tmps.length
    ·rw [a0y _ _ _ hl]
     have : i < tm.size := by rw [h.size]; exact hl
     simpa [Array.getD, this] using hs
    ·rw [a4B _ _ (by rw [G5]; omega)]; trivial
   ·rw [a1q _ _ _ _ hi]
    have e : (tm.setIfInBounds d v).getD i undef = tm.getD i undef := by
     simp only [Array.getD_eq_getD_getElem?, Array.getElem?_setIfInBounds]
     rw [if_neg (Ne.symm hi)]
    rw [e]; exact h.slot i
  ·exact h.box
/-- blocks are made, draws are drawn; nothing that counts is written -/
theorem Inv.grow (h : Inv w0 F Fn I0 W Zc G I st tm w) {w' : World} (hz : w.heap.size ≤ w'.heap.size) (hb : ∀ b, b < w.heap.size → w'.heap[b]? = w.heap[b]?)
  (ho : w'.os = w.os) (ht : w'.tape = w.tape) (hp : w'.output = w.output) : Inv w0 F Fn I0 W Zc G I st tm w' := by
 have hk : p5 I I w w' := ⟨fun _ h => h, fun b hI => hb b (h.lt b hI)⟩
 refine { gl := h.gl, sub := h.sub, sup := h.sup, lt := fun b hI => Nat.lt_of_lt_of_le (h.lt b hI) hz, own := ?_, inj := h.inj, size := h.size, slot := ?_, box := ?_, since := ?_, hold := ?_, seven := h.seven, fix := h.fix }
 ·intro k o b hG hbk
  obtain ⟨h1, h2, h3⟩ := h.own k o b hG hbk
  exact ⟨h1, Nat.lt_of_lt_of_le h2 hz, h3⟩
 ·intro i
  exact (h.slot i).move (s := fun _ => true) (fun _ _ => rfl) ⟨hk, fun k o _ hG => ⟨hG, fun b hbk => hb b (h.own k o b hG (by rw [hbk]; rfl)).2.1⟩⟩
 ·intro k c hc
  obtain ⟨b, hG, hB⟩ := h.box k c hc
  exact ⟨b, hG, hB.move (hb b (h.own k _ b hG rfl).2.1) hk fun _ bo hG2 => ⟨hG2, fun b' e => hb b' (h.own _ _ b' hG2 (by rw [e]; rfl)).2.1⟩⟩
 ·exact ⟨ho.trans h.since.os, ht.trans h.since.tape, hp.trans h.since.output, Nat.le_trans h.since.size hz, fun k hk hF => (hb k (Nat.lt_of_lt_of_le hk h.since.size)).trans (h.since.block k hk hF), fun b => (h.since.shape b).trans (a5E hb b)⟩
 ·intro b ob hz2
  obtain ⟨h1, h2⟩ := h.hold b ob hz2
  exact ⟨by rw [hb b (Array.getElem?_eq_some_iff.1 h1).1]; exact h1, h2⟩
theorem Inv.drew (h : Inv w0 F Fn I0 W Zc G I st tm w) (n : Nat) : Inv w0 F Fn I0 W Zc G I st tm { w with drawn := n } :=
 h.grow (Nat.le_refl _) (fun _ _ => rfl) rfl rfl rfl
/-! #### a name is forgotten -/
def g0.del (G : g0) (k : Nat) : g0 := fun n => if n = k then none else G n
theorem g0.del_of {G : g0} {k n : Nat} {o : Own} (h : G.del k n = some o) : n ≠ k ∧ G n = some o := by
 unfold g0.del at h
 split at h
 ·cases h
 ·rename_i hn; exact ⟨hn, h⟩
theorem a3C {a b : Nat} (h : Nat.beq a b = false) : a ≠ b := by intro e; subst e; simp at h
theorem j4.kl_rel {k : Nat} {s : j4} {v : Value} (h : B9 G I w s v) : B9 (G.del k) I w (s.kl k) v := by
 unfold j4.kl
 split
 ·trivial
 ·rename_i hn
  refine h.move (s := s.has) (fun _ h => h) ⟨p5.refl _ _, fun j o hj hG => ⟨?_, fun _ _ => rfl⟩⟩
  unfold g0.del
  rw [if_neg (by intro e; subst e; rw [hn] at hj; cases hj)]
  exact hG
theorem Inv.kl (h : Inv w0 F Fn I0 W Zc G I st tm w) (k : Nat) : Inv w0 F Fn I0 W Zc (G.del k) I (st.kl k) tm w := by
 refine { gl := h.gl, sub := h.sub, sup := h.sup, lt := h.lt, own := ?_, inj := ?_, size := ?_, slot := ?_, box := ?_, since := h.since, hold := fun b ob hz => ⟨(h.hold b ob hz).1, fun k o hk hb => (h.hold b ob hz).2 k o (g0.del_of hk).2 hb⟩, seven := fun k bo hG => h.seven k bo (g0.del_of hG).2, fix := ?_ }
 ·intro n o b hG; exact h.own n o b (g0.del_of hG).2
 ·intro n n' o o' b hG hG'; exact h.inj n n' o o' b (g0.del_of hG).2 (g0.del_of hG').2
 ·simpa [St.kl] using h.size
 ·intro i
  simp only [St.kl]
  rw [a1c _ rfl]
  exact j4.kl_rel (h.slot i)
 ·intro n c hc
  obtain ⟨c0, hc, hcc⟩ := a1p _ _ _ _ hc
  obtain ⟨hn, hc⟩ := a3H _ _ _ _ hc
  obtain ⟨b, hG, hb⟩ := h.box n c0 hc
  rcases hcc with ⟨_, _, rfl⟩ | ⟨hne, rfl⟩
  ·exact ⟨b, by unfold g0.del; rw [if_neg hn, a09]; exact hG, hb.hole rfl (p5.refl _ _)⟩
  ·refine ⟨b, by unfold g0.del; rw [if_neg hn]; exact hG, hb.move rfl (p5.refl _ _) fun h8 bo hG2 => ⟨?_, fun _ _ => rfl⟩⟩
   unfold g0.del
   rw [if_neg (fun e => hne ⟨e, h8⟩)]
   exact hG2
 ·intro n b hn
  obtain ⟨h1, h2, h3⟩ := h.fix n b hn
  exact ⟨h1, h2, fun o ho => h3 o (g0.del_of ho).2⟩
/-! #### a token becomes plain data -/
def a6n (I : Nat → Prop) (G : g0) (k : Nat) : Nat → Prop := fun b => I b ∨ G k = some (.tok (some b))
theorem F3.rep {I I' : Nat → Prop} {w : World} {et : Nat} {e : Ty} {xs : List e.den} {v : Value} {b : Nat} (hs : ∀ b, I b → I' b) (hb : I' b) (h : F3 I w et e xs v b) :
  g6 I' w (.sl e) xs v := by
 obtain ⟨cap, cur, fr, rfl, hl, hm, hh, hf, hz, hr⟩ := h
 refine g6.of_one rfl ⟨_, cap, rfl, hl, hm, fun i hi => ?_⟩
 obtain ⟨cs, hc, hj⟩ := hr i hi
 refine ⟨b, 0, rfl, hb, cs, hc.keep ⟨hs, fun _ _ => rfl⟩, hc.len, fun j u hu => ?_⟩
 rw [Nat.zero_add]
 simp [World.cell?, hh, hj j u hu]
theorem R5.rep {k et : Nat} {e : Ty} {xs : List e.den} {v : Value} (h : R5 G I w k et e xs v) : g6 (a6n I G k) w (.sl e) xs v := by
 obtain ⟨bo, hG, ⟨rfl, rfl, rfl⟩ | ⟨b, rfl, h⟩⟩ := h
 ·exact g6.of_one rfl ⟨none, 0, rfl, Nat.le_refl 0, Nat.zero_le _, fun i hi => absurd hi (Nat.not_lt_zero i)⟩
 ·exact h.rep (fun _ h => .inl h) (.inr hG)
theorem a7Q.rep {k et o : Nat} {e : Ty} {xs : List e.den} {v : Value} (h : a7Q G I w k et e o xs v) : g6 (a6n I G k) w (.sl e) xs v := by
 obtain ⟨bo, hG, ⟨rfl, rfl, rfl⟩ | ⟨b, rfl, a0, cap, cur, fr, rfl, ha0, hl, hm, hh, hf, hz, hr⟩⟩ := h
 ·exact g6.of_one rfl ⟨none, 0, rfl, Nat.le_refl 0, Nat.zero_le _, fun i hi => absurd hi (Nat.not_lt_zero i)⟩
 ·refine g6.of_one rfl ⟨_, cap, rfl, hl, hm, fun i hi => ?_⟩
  obtain ⟨cs, hc, hj⟩ := hr i hi
  obtain rfl := ha0 (by omega)
  refine ⟨b, o * e.cells, rfl, .inr hG, cs, hc.keep ⟨fun _ h => .inl h, fun _ _ => rfl⟩, hc.len, fun j u hu => ?_⟩
  have := hj j u hu
  rw [Nat.add_mul] at this
  simp [World.cell?, hh, this]
theorem a4F {k : Nat} {s : Nat → Bool} (hs : s k = false) : a5d G (G.del k) I (a6n I G k) w w s :=
 ⟨⟨fun _ h => .inl h, fun _ _ => rfl⟩, fun j o hj hG => ⟨by unfold g0.del; rw [if_neg (by intro e; subst e; rw [hs] at hj; cases hj)]; exact hG, fun _ _ => rfl⟩⟩
theorem Val.fz_rel {k : Nat} {x : Val} {v : Value} (h : a4q G I w x v) : a4q (G.del k) (a6n I G k) w (x.fz k) v := by
 cases x with
 | v t x => exact g6.keep ⟨fun _ h => .inl h, fun _ _ => rfl⟩ h
 | own j et e xs =>
  simp only [Val.fz]
  split
  ·rename_i hj; have e := Nat.eq_of_beq_eq_true hj; subst e; exact R5.rep h
  ·rename_i hj
   exact a4q.move (x := .own j et e xs) (s := fun n => Nat.beq j n) (fun n hn => by simpa [Val.has] using hn) (a4F (by simpa using hj)) h
/-- a name that stands in a slot which fz leaves alone is held through a lesser world of names: boxes keep theirs -/
theorem j4.fz_rel {k : Nat} {s : j4} {v : Value} (hk : ∀ b t, G k ≠ some (.box b t)) (h : B9 G I w s v) : B9 (G.del k) (a6n I G k) w (s.fz k) v := by
 cases s with
 | no => trivial
 | nil => exact h
 | skip => exact h
 | v t x => exact g6.keep ⟨fun _ h => .inl h, fun _ _ => rfl⟩ h
 | own j et e xs =>
  have h2 := Val.fz_rel (k := k) (x := .own j et e xs) (v := v) h
  simp only [j4.fz, Val.fz] at h2 ⊢
  split
  ·rename_i hj; simp only [hj] at h2; exact h2
  ·rename_i hj; simp only [hj] at h2; exact h2
 | box j p =>
  obtain ⟨b, t, off, u, hG, hp, hv⟩ := h
  refine ⟨b, t, off, u, ?_, hp, hv⟩
  unfold g0.del
  rw [if_neg (by intro e; subst e; exact hk _ _ hG)]
  exact hG
 | elt t x =>
  obtain ⟨b, off, hv, hI, hl⟩ := h
  exact ⟨b, off, hv, .inl hI, hl.keep ⟨fun _ h => .inl h, fun _ _ => rfl⟩ rfl⟩
 | oel j i e p t x =>
  have h0 := h
  obtain ⟨b, off, hv, hG, hp, _, hl⟩ := h
  simp only [j4.fz]
  split
  ·rename_i hj; have e := Nat.eq_of_beq_eq_true hj; subst e
   exact ⟨b, _, hv, .inr hG, hl.keep ⟨fun _ h => .inl h, fun _ _ => rfl⟩ rfl⟩
  ·rename_i hj
   exact B9.move (x := .oel j i e p t x) (s := fun n => Nat.beq j n) (fun n hn => by simpa [j4.has] using hn) (a4F (by simpa using hj)) h0
 | osub j et e o xs =>
  have h0 := h
  simp only [j4.fz]
  split
  ·rename_i hj; have e := Nat.eq_of_beq_eq_true hj; subst e
   exact a7Q.rep h
  ·rename_i hj
   exact B9.move (x := .osub j et e o xs) (s := fun n => Nat.beq j n) (fun n hn => by simpa [j4.has] using hn) (a4F (by simpa using hj)) h0
 | tup xs =>
  obtain ⟨vs, hv, hz, h⟩ := h
  refine ⟨vs, hv, by simpa using hz, fun i x u hx hu => ?_⟩
  rw [List.getElem?_map] at hx
  cases hxi : xs[i]? with
  | none => rw [hxi] at hx; cases hx
  | some y => rw [hxi] at hx; simp at hx; subst hx; exact Val.fz_rel (h i y u hxi hu)
 | fn f ks =>
  obtain ⟨vs, hv, hz, h⟩ := h
  refine ⟨vs, hv, hz, fun i j u hj hu => ?_⟩
  obtain ⟨b, t, hG, he⟩ := h i j u hj hu
  refine ⟨b, t, ?_, he⟩
  unfold g0.del
  rw [if_neg (by intro e; subst e; exact hk _ _ hG)]
  exact hG
theorem Inv.tok_free (h : Inv w0 F Fn I0 W Zc G I st tm w) {k b : Nat} (hG : G k = some (.tok (some b))) : Zc b = none := by
 cases hz : Zc b with
 | none => rfl
 | some ob =>
  obtain ⟨⟨t, ht⟩, _⟩ := (h.hold b ob hz).2 k _ hG rfl
  cases ht
theorem Inv.tok_new (h : Inv w0 F Fn I0 W Zc G I st tm w) {k b : Nat} (hG : G k = some (.tok (some b))) : Fr w0 F Fn b := by
 rcases (h.own k _ b hG rfl).2.2 with h1 | h1
 ·exact h1
 ·obtain ⟨_, _, h2⟩ := h.fix k b h1
  obtain ⟨t, ht⟩ := h2 _ hG
  cases ht
theorem Inv.fz_tok (h : Inv w0 F Fn I0 W Zc G I st tm w) (k : Nat) (hk : ∀ b t, G k ≠ some (.box b t)) :
  Inv w0 F Fn I0 W Zc (G.del k) (a6n I G k) (st.fz k) tm w := by
 have hkeep : p5 I (a6n I G k) w w := ⟨fun _ h => .inl h, fun _ _ => rfl⟩
 refine { gl := h.gl, sub := fun b hb => .inl (h.sub b hb), sup := ?_, lt := ?_, own := ?_, inj := ?_, size := ?_, slot := ?_, box := ?_, since := h.since, hold := fun b ob hz => ⟨(h.hold b ob hz).1, fun k o hk hb => (h.hold b ob hz).2 k o (g0.del_of hk).2 hb⟩, seven := fun k bo hG => h.seven k bo (g0.del_of hG).2, fix := ?_ }
 ·rintro b (hb | hb)
  ·exact h.sup b hb
  ·exact .inr (h.tok_new hb)
 ·rintro b (hb | hb)
  ·exact h.lt b hb
  ·exact (h.own k _ b hb rfl).2.1
 ·intro n o b hG hb
  obtain ⟨hn, hG⟩ := g0.del_of hG
  obtain ⟨h1, h2, h3⟩ := h.own n o b hG hb
  refine ⟨?_, h2, h3⟩
  rintro (hI | hI)
  ·exact h1 hI
  ·exact hn (h.inj n k o _ b hG hI hb rfl)
 ·intro n n' o o' b hG hG'; exact h.inj n n' o o' b (g0.del_of hG).2 (g0.del_of hG').2
 ·simpa [St.fz] using h.size
 ·intro i
  simp only [St.fz]
  rw [a1c _ rfl]
  exact j4.fz_rel hk (h.slot i)
 ·intro n c hc
  obtain ⟨c0, hc, hcc⟩ := a2Q _ _ _ _ hc
  obtain ⟨b, hG, hb⟩ := h.box n c0 hc
  have hGd : G.del k n = some (.box b c0.t.era) := by
   unfold g0.del
   rw [if_neg (by intro e; subst e; exact hk _ _ hG)]
   exact hG
  rcases hcc with ⟨h1, h8, rfl⟩ | ⟨hne, rfl⟩
  ·subst h1
   exact ⟨b, by rw [a4z]; exact hGd, hb.free h8 rfl hkeep fun et e xs v hx => R5.rep hx⟩
  ·refine ⟨b, hGd, hb.move rfl hkeep fun h8 bo hG2 => ⟨?_, fun _ _ => rfl⟩⟩
   unfold g0.del
   rw [if_neg (fun e => hne ⟨e, h8⟩)]
   exact hG2
 ·intro n b hn
  obtain ⟨h1, h2, h3⟩ := h.fix n b hn
  exact ⟨h1, h2, fun o ho => h3 o (g0.del_of ho).2⟩
theorem j4.fz_none {k : Nat} {s : j4} {v : Value} (hk : ∀ bo, G k ≠ some (.tok bo)) (h : B9 G I w s v) : B9 G I w (s.fz k) v := by
 cases s with
 | own j et e xs =>
  simp only [j4.fz]
  split
  ·rename_i hj; have e := Nat.eq_of_beq_eq_true hj; subst e
   obtain ⟨bo, hG, _⟩ := h; exact absurd hG (hk bo)
  ·exact h
 | oel j i e p t x =>
  simp only [j4.fz]
  split
  ·rename_i hj; have e := Nat.eq_of_beq_eq_true hj; subst e
   obtain ⟨b, off, _, hG, _⟩ := h; exact absurd hG (hk _)
  ·exact h
 | osub j et e o xs =>
  simp only [j4.fz]
  split
  ·rename_i hj; have e := Nat.eq_of_beq_eq_true hj; subst e
   obtain ⟨bo, hG, _⟩ := h; exact absurd hG (hk _)
  ·exact h
 | tup xs =>
  obtain ⟨vs, hv, hz, h⟩ := h
  refine ⟨vs, hv, by simpa using hz, fun i x u hx hu => ?_⟩
  rw [List.getElem?_map] at hx
  cases hxi : xs[i]? with
  | none => rw [hxi] at hx; cases hx
  | some y =>
   rw [hxi] at hx; simp at hx; subst hx
   have hy := h i y u hxi hu
   cases y with
   | v t x => exact hy
   | own j et e xs =>
    simp only [Val.fz]
    split
    ·rename_i hj; have e := Nat.eq_of_beq_eq_true hj; subst e
     obtain ⟨bo, hG, _⟩ := hy; exact absurd hG (hk bo)
    ·exact hy
 | no => trivial
 | nil => exact h
 | skip => exact h
 | v t x => exact h
 | box j p => exact h
 | elt t x => exact h
 | fn f ks => exact h
theorem Inv.fz_none (h : Inv w0 F Fn I0 W Zc G I st tm w) (k : Nat) (hk : ∀ bo, G k ≠ some (.tok bo)) : Inv w0 F Fn I0 W Zc G I (st.fz k) tm w := by
 refine { h with size := by simpa [St.fz] using h.size, slot := ?_, box := ?_ }
 ·intro i
  simp only [St.fz]
  rw [a1c _ rfl]
  exact j4.fz_none hk (h.slot i)
 ·intro n c hc
  obtain ⟨c0, hc, hcc⟩ := a2Q _ _ _ _ hc
  obtain ⟨b, hG, hb⟩ := h.box n c0 hc
  rcases hcc with ⟨h1, h8, rfl⟩ | ⟨hne, rfl⟩
  ·subst h1
   exact ⟨b, by rw [a4z]; exact hG, hb.free h8 rfl (p5.refl _ _) fun et e xs v ⟨bo, hG2, _⟩ => absurd hG2 (hk bo)⟩
  ·exact ⟨b, hG, hb⟩
/-- 'later': more blocks are plain, the boxes are where they were -/
structure G4 (G G' : g0) (I I' : Nat → Prop) : Prop where
 sub : ∀ b, I b → I' b
 box : ∀ k b t, G k = some (.box b t) → G' k = some (.box b t)
theorem G4.refl (G : g0) (I : Nat → Prop) : G4 G G I I := ⟨fun _ h => h, fun _ _ _ h => h⟩
theorem G4.trans {G G' G'' : g0} {I I' I'' : Nat → Prop} (h : G4 G G' I I') (g : G4 G' G'' I' I'') : G4 G G'' I I'' :=
 ⟨fun b hb => g.sub b (h.sub b hb), fun k b t hk => g.box k b t (h.box k b t hk)⟩
theorem Inv.fz (h : Inv w0 F Fn I0 W Zc G I st tm w) (k : Nat) : ∃ G' I', Inv w0 F Fn I0 W Zc G' I' (st.fz k) tm w ∧ G4 G G' I I' ∧ (∀ j, j ≠ k → G' j = G j) ∧
  (∀ b, G k = some (.tok (some b)) → I' b) := by
 by_cases hk : ∃ bo, G k = some (.tok bo)
 ·obtain ⟨bo, hk⟩ := hk
  have hn : ∀ b t, G k ≠ some (.box b t) := fun b t e => by rw [hk] at e; cases e
  refine ⟨_, _, h.fz_tok k hn, ⟨fun b hb => .inl hb, fun j b t hj => ?_⟩, fun j hj => by unfold g0.del; rw [if_neg hj], fun b hb => .inr hb⟩
  unfold g0.del
  rw [if_neg (by intro e; subst e; exact hn _ _ hj)]
  exact hj
 ·exact ⟨G, I, h.fz_none k (fun bo e => hk ⟨bo, e⟩), G4.refl _ _, fun _ _ => rfl, fun b hb => absurd ⟨_, hb⟩ hk⟩
theorem Inv.rn (h : Inv w0 F Fn I0 W Zc G I st tm w) (k : Nat) : ∃ G' I', Inv w0 F Fn I0 W Zc G' I' (st.rn k) tm w ∧ (∀ b, I b → I' b) ∧ G' k = none ∧ ∀ j, j ≠ k → G' j = G j := by
 obtain ⟨G1, I1, h1, hl, hj, _⟩ := h.fz k
 refine ⟨_, _, h1.kl k, hl.sub, by simp [g0.del], fun j hj' => ?_⟩
 unfold g0.del
 rw [if_neg hj', hj j hj']
theorem Inv.lay (h : Inv w0 F Fn I0 W Zc G I st tm w) {s : j4} {v : Value} (hs : B9 G I w s v) : ∃ G' I', Inv w0 F Fn I0 W Zc G' I' (st.lay s) tm w ∧ G4 G G' I I' ∧
  ∀ c, a3f s = some c → g6 I' w c.t c.x v := by
 cases s with
 | own k et e xs =>
  obtain ⟨bo, hG, hr⟩ := hs
  obtain ⟨G', I', h', hl, hj, hI⟩ := h.fz k
  refine ⟨G', I', h', hl, fun c hc => ?_⟩
  simp only [a3f, Option.some.injEq] at hc; subst hc
  rcases hr with ⟨rfl, rfl, rfl⟩ | ⟨b, rfl, hr⟩
  ·exact g6.of_one rfl ⟨none, 0, rfl, Nat.le_refl 0, Nat.zero_le _, fun i hi => absurd hi (Nat.not_lt_zero i)⟩
  ·exact hr.rep hl.sub (hI b hG)
 | v t x =>
  refine ⟨G, I, h, G4.refl _ _, fun c hc => ?_⟩
  simp only [a3f, Option.some.injEq] at hc; subst hc
  exact hs
 | osub k et e o xs =>
  obtain ⟨G', I', h', hl, _⟩ := h.fz k
  exact ⟨G', I', h', hl, fun c hc => by cases hc⟩
 | _ => exact ⟨G, I, h, G4.refl _ _, fun c hc => by cases hc⟩
/-! #### a name begins -/
def g0.add (G : g0) (k : Nat) (o : Own) : g0 := fun n => if n = k then some o else G n
theorem Inv.add (h : Inv w0 F Fn I0 W Zc G I st tm w) {k : Nat} {o : Own} (hk : G k = none) (h7 : k % 8 ≠ 7)
  (ho : ∀ b, o.blk = some b → ¬ I b ∧ b < w.heap.size ∧ Fr w0 F Fn b ∧ ∀ j o', G j = some o' → o'.blk ≠ some b) (hz : ∀ b, o.blk = some b → Zc b = none) : Inv w0 F Fn I0 W Zc (G.add k o) I st tm w := by
 have hG : ∀ j o', G j = some o' → G.add k o j = some o' := fun j o' hj => by
  unfold g0.add; rw [if_neg (by intro e; subst e; rw [hk] at hj; cases hj)]; exact hj
 refine { h with own := ?_, inj := ?_, slot := ?_, box := ?_, fix := ?_, seven := ?_, hold := ?_ }
 ·intro j o' b hj hb
  unfold g0.add at hj
  split at hj
  ·injection hj with e; subst e
   obtain ⟨h1, h2, h3, _⟩ := ho b hb
   exact ⟨h1, h2, .inl h3⟩
  ·exact h.own j o' b hj hb
 ·intro j j' o1 o2 b hj hj' hb hb'
  unfold g0.add at hj hj'
  split at hj <;> split at hj'
  ·rename_i e1 e2; rw [e1, e2]
  ·injection hj with e; subst e
   exact absurd hb' ((ho b hb).2.2.2 j' o2 hj')
  ·injection hj' with e; subst e
   exact absurd hb ((ho b hb').2.2.2 j o1 hj)
  ·exact h.inj j j' o1 o2 b hj hj' hb hb'
 ·intro i
  exact (h.slot i).move (s := fun _ => true) (fun _ _ => rfl) ⟨p5.refl _ _, fun j o' _ hj => ⟨hG j o' hj, fun _ _ => rfl⟩⟩
 ·intro j c hc
  obtain ⟨b, hj, hb⟩ := h.box j c hc
  exact ⟨b, hG j _ hj, hb.move rfl (p5.refl _ _) fun _ bo hG2 => ⟨hG _ _ hG2, fun _ _ => rfl⟩⟩
 ·intro b ob hb
  refine ⟨(h.hold b ob hb).1, fun j o' hj ho' => ?_⟩
  unfold g0.add at hj
  split at hj
  ·injection hj with e; subst e; rw [hz b ho'] at hb; cases hb
  ·exact (h.hold b ob hb).2 j o' hj ho'
 ·intro j bo hj
  unfold g0.add at hj
  split at hj
  ·rename_i e; rw [e]; exact h7
  ·exact h.seven j bo hj
 ·intro j b hj
  obtain ⟨h1, h2, h3⟩ := h.fix j b hj
  refine ⟨h1, h2, fun o' ho' => ?_⟩
  unfold g0.add at ho'
  rw [if_neg (by intro e; subst e; exact h7 h1)] at ho'
  exact h3 o' ho'
theorem Inv.alloc (h : Inv w0 F Fn I0 W Zc G I st tm w) (o : Obj) : Inv w0 F Fn I0 W Zc G I st tm (w.alloc o) :=
 h.grow (by simp) (fun b hb => heap_alloc_old w o b hb) rfl rfl rfl
/-- what is laid in a new block -/
theorem Inv.addNew (h : Inv w0 F Fn I0 W Zc G I st tm w) {k : Nat} {o : Own} (hk : G k = none) (h7 : k % 8 ≠ 7) (ob : Obj) (hb : o.blk = some w.heap.size) :
  Inv w0 F Fn I0 W Zc (G.add k o) I st tm (w.alloc ob) := by
 have hz : Zc w.heap.size = none := by
  cases hz : Zc w.heap.size with
  | none => rfl
  | some ob => have := (h.hold _ ob hz).1; simp at this
 refine (h.alloc ob).add hk h7 (fun b hb' => ?_) (fun b hb' => by rw [hb] at hb'; injection hb' with e; subst e; exact hz)
 rw [hb] at hb'; injection hb' with e; subst e
 exact ⟨fun hI => absurd (h.lt _ hI) (Nat.lt_irrefl _), by simp, .of h.since.size, fun j o' hj e => absurd (h.own j o' _ hj e).2.1 (Nat.lt_irrefl _)⟩
theorem Inv.setBox (h : Inv w0 F Fn I0 W Zc G I st tm w) {k b : Nat} {c : Cell} (hG : G k = some (.box b c.t.era)) (hb : a3z G I w k b c) : Inv w0 F Fn I0 W Zc G I ⟨st.tmps, a06 st.boxes k c⟩ tm w := by
 refine { h with box := ?_ }
 intro j c' hc
 by_cases hj : j = k
 ·subst hj
  rw [N1] at hc
  injection hc with e; subst e
  exact ⟨b, hG, hb⟩
 ·rw [S2 _ _ _ _ hj] at hc
  exact h.box j c' hc
/-- a row of as many cells -/
theorem a3v {w w' : World} {b : Nat} {cur cur' : Array Value} {et : Nat} {fr : Nat × Nat} (h : w.heap[b]? = some (.cells cur et fr)) (h' : w'.heap[b]? = some (.cells cur' et fr)) (hz : cur'.size = cur.size) : Shp w w' b := fun cs e f h1 _ h2 => by
 rw [h] at h1; injection h1 with h1; injection h1 with e1 e2 e3; subst e1; subst e2; subst e3
 exact ⟨cur', fr, h', hz, by rw [hz]; exact h2⟩
/-- a box is written -/
theorem Inv.write (h : Inv w0 F Fn I0 W Zc G I st tm w) {k b : Nat} {c : Cell} {w' : World} (hsh : Shp w w' b) (hWk : W k) (hG : G k = some (.box b c.t.era)) (hz : w'.heap.size = w.heap.size) (hb : ∀ j, j ≠ b → w'.heap[j]? = w.heap[j]?)
  (ho : w'.os = w.os) (ht : w'.tape = w.tape) (hp : w'.output = w.output) (hc : a3z G I w' k b c) : Inv w0 F Fn I0 W Zc G I ⟨st.tmps, a06 st.boxes k c⟩ tm w' := by
 have hbI := h.own k _ b hG rfl
 have hk : p5 I I w w' := ⟨fun _ h => h, fun j hj => hb j (by intro e; subst e; exact hbI.1 hj)⟩
 refine { gl := h.gl, sub := h.sub, sup := h.sup, lt := fun b hI => by rw [hz]; exact h.lt b hI, own := ?_, inj := h.inj, size := h.size, slot := ?_, box := ?_, since := ?_, hold := ?_, seven := h.seven, fix := h.fix }
 ·intro k o b hG hbk
  obtain ⟨h1, h2, h3⟩ := h.own k o b hG hbk
  exact ⟨h1, by rw [hz]; exact h2, h3⟩
 ·intro i
  exact (h.slot i).move (s := fun _ => true) (fun _ _ => rfl) ⟨hk, fun j o _ hj => ⟨hj, fun b' e => hb b' (by
   intro e'; subst e'; subst e
   have := h.inj j k _ _ b' hj hG rfl rfl
   subst this; rw [hG] at hj; cases hj)⟩⟩
 ·intro j c' hc'
  by_cases hj : j = k
  ·subst hj
   rw [N1] at hc'
   injection hc' with e; subst e
   exact ⟨b, hG, hc⟩
  ·rw [S2 _ _ _ _ hj] at hc'
   obtain ⟨b', hG', hB⟩ := h.box j c' hc'
   refine ⟨b', hG', hB.move (hb b' (by intro e; subst e; exact hj (h.inj j k _ _ b' hG' hG rfl rfl))) hk fun _ bo hG2 => ⟨hG2, fun b2 e => hb b2 ?_⟩⟩
   intro e'; subst e'; subst e
   have := h.inj _ k _ _ b2 hG2 hG rfl rfl
   rw [this, hG] at hG2; cases hG2
 ·refine ⟨ho.trans h.since.os, ht.trans h.since.tape, hp.trans h.since.output, by rw [hz]; exact h.since.size, fun j hj hF => ?_, fun j => (h.since.shape j).trans (a5D hb hsh j)⟩
  rw [hb j ?_]
  ·exact h.since.block j hj hF
  ·intro e; subst e
   rcases hbI.2.2 with h1 | h1
   ·exact hF (h1.f hj)
   ·exact hF (h.fix k j h1).2.1
 ·intro j ob hj
  obtain ⟨h1, h2⟩ := h.hold j ob hj
  refine ⟨?_, h2⟩
  rw [hb j (fun e => by subst e; exact (h2 k _ hG rfl).2 hWk)]
  exact h1
/-- variables that hold nothing of their own are as they were -/
def a4p (st s1 : St) : Prop := ∀ n c, l6 st.boxes n = some c → c.t.noO = true → l6 s1.boxes n = some c
theorem St.lay_noO {st : St} (s : j4) {n : Nat} {c : Cell} (h : l6 st.boxes n = some c) (hc : c.t.noO = true) : l6 (st.lay s).boxes n = some c := by
 cases s <;> first | exact h | exact V6 _ h hc
/-- a block that nobody leans on is written -/
theorem Inv.touch (h : Inv w0 F Fn I0 W Zc G I st tm w) {b : Nat} {w' : World} (hsh : Shp w w' b) (hI : ¬ I b) (hG : ∀ k o, G k = some o → o.blk ≠ some b) (hn : Fr w0 F Fn b) (hZ : Zc b = none) (hz : w'.heap.size = w.heap.size)
  (hb : ∀ j, j ≠ b → w'.heap[j]? = w.heap[j]?) (ho : w'.os = w.os) (ht : w'.tape = w.tape) (hp : w'.output = w.output) : Inv w0 F Fn I0 W Zc G I st tm w' := by
 have hk : p5 I I w w' := ⟨fun _ h => h, fun j hj => hb j (by intro e; subst e; exact hI hj)⟩
 have hown : ∀ k o b', G k = some o → o.blk = some b' → w'.heap[b']? = w.heap[b']? := fun k o b' h1 h2 => hb b' (by intro e; subst e; exact hG k o h1 h2)
 refine { gl := h.gl, sub := h.sub, sup := h.sup, lt := fun b hI => by rw [hz]; exact h.lt b hI, own := ?_, inj := h.inj, size := h.size, slot := ?_, box := ?_, since := ?_, hold := ?_, seven := h.seven, fix := h.fix }
 ·intro k o b hG hbk
  obtain ⟨h1, h2, h3⟩ := h.own k o b hG hbk
  exact ⟨h1, by rw [hz]; exact h2, h3⟩
 ·intro i
  exact (h.slot i).move (s := fun _ => true) (fun _ _ => rfl) ⟨hk, fun j o _ hj => ⟨hj, fun b' e => hown j o b' hj (by rw [e]; rfl)⟩⟩
 ·intro j c hc
  obtain ⟨b', hG', hB⟩ := h.box j c hc
  exact ⟨b', hG', hB.move (hown j _ b' hG' rfl) hk fun _ bo hG2 => ⟨hG2, fun b2 e => hown _ _ b2 hG2 (by rw [e]; rfl)⟩⟩
 ·refine ⟨ho.trans h.since.os, ht.trans h.since.tape, hp.trans h.since.output, by rw [hz]; exact h.since.size, fun j hj hF => ?_, fun j => (h.since.shape j).trans (a5D hb hsh j)⟩
  rw [hb j (fun e => by subst e; exact hF (hn.f hj))]
  exact h.since.block j hj hF
 ·intro j ob hj
  obtain ⟨h1, h2⟩ := h.hold j ob hj
  exact ⟨by rw [hb j (fun e => by subst e; rw [hZ] at hj; cases hj)]; exact h1, h2⟩
theorem j4.up_rel {w' : World} {k b : Nat} {e : Ty} {f : List e.den → List e.den} {s : j4} {v : Value} (hG : G k = some (.tok (some b))) (hm : ∀ s : Nat → Bool, s k = false → a5d G G I I w w' s)
  (hv : ∀ (et : Nat) (xs : List e.den) v, F3 I w et e xs v b → F3 I w' et e (f xs) v b) (h : B9 G I w s v) : B9 G I w' (s.up k e f) v := by
 have other : ∀ s : j4, B9 G I w s v → B9 G I w' (match s.has k with | true => .no | false => s) v := by
  intro s h
  split
  ·trivial
  ·rename_i hn
   exact h.move (s := s.has) (fun _ h => h) (hm _ hn)
 cases s with
 | own j et e' xs =>
  simp only [j4.up]
  split
  ·rename_i hj; have ej := Nat.eq_of_beq_eq_true hj; subst ej
   split
   ·rename_i y hy
    obtain ⟨he, hy⟩ := Ty.cast?_eq hy
    injection he with he; subst he; subst hy
    obtain ⟨bo, hG', h⟩ := h
    rw [hG] at hG'; injection hG' with e1; injection e1 with e1; subst e1
    rcases h with ⟨h, _⟩ | ⟨b', hb', h⟩
    ·cases h
    ·injection hb' with hb'; subst hb'
     exact ⟨some b, hG, .inr ⟨b, rfl, hv _ _ _ h⟩⟩
   ·trivial
  ·rename_i hj
   exact B9.move (x := .own j et e' xs) (s := fun n => Nat.beq j n) (fun n hn => by simpa [j4.has] using hn) (hm _ hj) h
 | no => trivial
 | nil => exact other .nil h
 | skip => exact other .skip h
 | v t x => exact other (.v t x) h
 | box j p => exact other (.box j p) h
 | elt t x => exact other (.elt t x) h
 | oel j i e p t x => exact other (.oel j i e p t x) h
 | osub j et e o x => exact other (.osub j et e o x) h
 | tup xs => exact other (.tup xs) h
 | fn f ks => exact other (.fn f ks) h
/-- a slice of one's own is written -/
theorem Inv.up (h : Inv w0 F Fn I0 W Zc G I st tm w) {k b : Nat} {e : Ty} {f : List e.den → List e.den} {w' : World} (hsh : Shp w w' b) (hG : G k = some (.tok (some b))) (hz : w'.heap.size = w.heap.size)
  (hb : ∀ j, j ≠ b → w'.heap[j]? = w.heap[j]?) (ho : w'.os = w.os) (ht : w'.tape = w.tape) (hp : w'.output = w.output)
  (hv : ∀ (et : Nat) (xs : List e.den) v, F3 I w et e xs v b → F3 I w' et e (f xs) v b) : Inv w0 F Fn I0 W Zc G I (st.up k e f) tm w' := by
 have hbI := h.own k _ b hG rfl
 have hZ := h.tok_free hG
 have hn := h.tok_new hG
 have hk : p5 I I w w' := ⟨fun _ h => h, fun j hj => hb j (by intro e; subst e; exact hbI.1 hj)⟩
 have hother : ∀ j o b', j ≠ k → G j = some o → o.blk = some b' → w'.heap[b']? = w.heap[b']? := fun j o b' hjk h1 h2 => hb b' (by intro e; subst e; exact hjk (h.inj j k _ _ b' h1 hG h2 rfl))
 have hm : ∀ s : Nat → Bool, s k = false → a5d G G I I w w' s := fun s hs => ⟨hk, fun j o hj hGj => ⟨hGj, fun b' e => hother j o b' (by intro e'; subst e'; rw [hs] at hj; cases hj) hGj (by rw [e]; rfl)⟩⟩
 refine { gl := h.gl, sub := h.sub, sup := h.sup, lt := fun b hI => by rw [hz]; exact h.lt b hI, own := ?_, inj := h.inj, size := by simpa [St.up] using h.size, slot := ?_, box := ?_, since := ?_, hold := ?_, seven := h.seven, fix := h.fix }
 ·intro k o b hG hbk
  obtain ⟨h1, h2, h3⟩ := h.own k o b hG hbk
  exact ⟨h1, by rw [hz]; exact h2, h3⟩
 ·intro i
  simp only [St.up]
  rw [a1c _ rfl]
  exact j4.up_rel hG hm hv (h.slot i)
 ·intro j c hc
  obtain ⟨c0, hc, hcc⟩ := a1p _ _ _ _ hc
  obtain ⟨b', hG', hB⟩ := h.box j c0 hc
  have hsm := hother j _ b' (by intro e; subst e; rw [hG] at hG'; cases hG') hG' rfl
  rcases hcc with ⟨_, _, rfl⟩ | ⟨hne, rfl⟩
  ·exact ⟨b', by rw [a09]; exact hG', hB.hole hsm hk⟩
  ·exact ⟨b', hG', hB.move hsm hk fun h8 bo hG2 => ⟨hG2, fun b2 e => hother (j + 4) _ b2 (fun e' => hne ⟨e', h8⟩) hG2 (by rw [e]; rfl)⟩⟩
 ·refine ⟨ho.trans h.since.os, ht.trans h.since.tape, hp.trans h.since.output, by rw [hz]; exact h.since.size, fun j hj hF => ?_, fun j => (h.since.shape j).trans (a5D hb hsh j)⟩
  rw [hb j (fun e => by subst e; exact hF (hn.f hj))]
  exact h.since.block j hj hF
 ·intro j ob hj
  obtain ⟨h1, h2⟩ := h.hold j ob hj
  exact ⟨by rw [hb j (fun e => by subst e; rw [hZ] at hj; cases hj)]; exact h1, h2⟩
theorem Inv.upId (h : Inv w0 F Fn I0 W Zc G I st tm w) {k : Nat} {e : Ty} {f : List e.den → List e.den} (hf : ∀ zs, f zs = zs) : Inv w0 F Fn I0 W Zc G I (st.up k e f) tm w := by
 have hbox : ∀ n c, l6 (a1W k st.boxes) n = some c → ∃ b, G n = some (.box b c.t.era) ∧ a3z G I w n b c := by
  intro n c hc
  obtain ⟨c0, hc, hcc⟩ := a1p _ _ _ _ hc
  obtain ⟨b, hG, hb⟩ := h.box n c0 hc
  rcases hcc with ⟨_, _, rfl⟩ | ⟨hne, rfl⟩
  ·exact ⟨b, by rw [a09]; exact hG, hb.hole rfl (p5.refl _ _)⟩
  ·exact ⟨b, hG, hb⟩
 refine { h with size := by simpa [St.up] using h.size, slot := ?_, box := hbox }
 intro i
 simp only [St.up]
 rw [a1c _ rfl]
 have hs := h.slot i
 have other : ∀ s : j4, B9 G I w s (tm.getD i undef) → B9 G I w (match s.has k with | true => .no | false => s) (tm.getD i undef) := by
  intro s h
  split
  ·trivial
  ·exact h
 cases hsl : C5 st.tmps i with
 | own j et e' xs =>
  rw [hsl] at hs
  simp only [j4.up]
  split
  ·split
   ·rename_i y hy
    obtain ⟨he, hy⟩ := Ty.cast?_eq hy
    injection he with he; subst he; subst hy
    rw [hf]; exact hs
   ·trivial
  ·exact hs
 | no => trivial
 | nil => rw [hsl] at hs; exact other .nil hs
 | skip => rw [hsl] at hs; exact other .skip hs
 | v t x => rw [hsl] at hs; exact other (.v t x) hs
 | box j p => rw [hsl] at hs; exact other (.box j p) hs
 | elt t x => rw [hsl] at hs; exact other (.elt t x) hs
 | oel j i e p t x => rw [hsl] at hs; exact other (.oel j i e p t x) hs
 | osub j et e o x => rw [hsl] at hs; exact other (.osub j et e o x) hs
 | tup xs => rw [hsl] at hs; exact other (.tup xs) hs
 | fn f ks => rw [hsl] at hs; exact other (.fn f ks) hs
end
end Go.VE
