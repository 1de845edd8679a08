/- OperFits: whatever the input, up to the bulk that the statement names, the law answers true, and what was handed in reads as it did. Its conditions: the bound of the given statement and the tables that its card ties, no other. -/
import Derived.Test.YtmnhjhamgacdnaaDoorOF15
import Derived.MapKept
set_option linter.unusedVariables false
set_option linter.unusedSectionVars false
set_option linter.unusedSimpArgs false
namespace Go.VE
open Go Go.Proofs Go.RowKit Go.Lib Go.MapKept

structure MapAt (w0 w : World) (es : Array MapEntry) : Prop where
  at_ : w.heap[w0.heap.size]? = some (.map es es.size)
  size : w.heap.size = w0.heap.size + 1
  old : ∀ b, b < w0.heap.size → w.heap[b]? = w0.heap[b]?
  os : w.os = w0.os
  tape : w.tape = w0.tape
  output : w.output = w0.output

theorem MapAt.made (w : World) : MapAt w (w.alloc (.map #[] 0)) #[] :=
  { at_ := by show (w.heap.push _)[w.heap.size]? = _; simp, size := by simp, old := fun b hb => (by show (w.heap.push _)[b]? = _; rw [Array.getElem?_push, if_neg (by omega)]), os := rfl, tape := rfl, output := rfl }

theorem MapAt.upd {P : Program} {t k e : TypeId} {w0 w : World} {es : Array MapEntry} (M : MapAt w0 w es) (hu : P.underlying t = some (.map k e)) (hk : P.underlying k = some .string) {s : ByteArray} {v : Value}
    (hf : Instr.findNow .string (.string s) es.toList 0 = some none) :
    ∃ w', (Instr.mapUpdate t (.map (some w0.heap.size)) (.string s) v).run P w = .ok () w' ∧ MapAt w0 w' (es.push { key := .string s, val := v, born := es.size }) := by
  refine ⟨{ w with heap := w.heap.setIfInBounds w0.heap.size (.map (es.push { key := .string s, val := v, born := es.size }) (es.size + 1)) }, ?_, ?_⟩
  · have h1 := run_checkKey (P := P) (w := w) (kt := k) (k := .string s) hk (by trivial) false 9999
    have h2 := run_findKey (P := P) (w := w) hk hf
    have h3 := MapKept.run_setObj_map (P := P) (.map (es.push { key := .string s, val := v, born := es.size }) (es.size + 1)) M.at_
    have h4 := MapKept.run_getObj_map (P := P) M.at_
    simp only [Instr.mapUpdate, Sem.run_bind, run_underlying hu, h4, Result.andThen_ok, h1, h2, h3]
  · have hs := M.size
    refine { at_ := ?_, size := by simpa using M.size, old := fun b hb => ?_, os := M.os, tape := M.tape, output := M.output }
    · simp [hs]
    · rw [← M.old b hb]
      exact Array.getElem?_setIfInBounds_ne (by omega)

/-! ### operations one behind the other -/
section
variable {P : Program} {ops : Array Oper} {Q : Exit → Act → World → Prop} {ix : List Nat} {j : Nat} {a : Act} {w w' : World} {v : Value}

theorem op_val {o : Oper} (hj : ops[j]? = some o) (hg : o.guard = none) (hr : (execOp a.eval o).run P w = .ok (.value v) w') (hn : wpOps P ops Q ix (a.put o.dst v) w') : wpOps P ops Q (j :: ix) a w := by
  simp only [wpOps, hj]
  rw [if_pos (by simp [Region.wanted, hg])]
  exact .inl (wp_val hr hn)

theorem op_skip {o : Oper} (hj : ops[j]? = some o) (hg : o.guard = none) (hr : (execOp a.eval o).run P w = .ok .skip w') (hn : wpOps P ops Q ix (a.put o.dst undef) w') : wpOps P ops Q (j :: ix) a w := by
  simp only [wpOps, hj]
  rw [if_pos (by simp [Region.wanted, hg])]
  refine .inl ?_
  unfold Oper.wp
  rw [hr]
  exact hn

theorem op_enter {o : Oper} {f : FuncId} {args : Array Value} (hj : ops[j]? = some o) (hg : o.guard = none) (hr : (execOp a.eval o).run P w = .ok (.enter f args) w)
    (h : Calls P f args w fun e w' => ∃ v, e = .returned v ∧ wpOps P ops Q ix (a.put o.dst v) w') : wpOps P ops Q (j :: ix) a w := by
  simp only [wpOps, hj]
  rw [if_pos (by simp [Region.wanted, hg])]
  refine .inl ?_
  unfold Oper.wp
  rw [hr]
  refine h.mono ?_
  rintro e w' ⟨v, rfl, hb⟩
  exact hb
end

def ent (k : ByteArray) (f i : Nat) : MapEntry := { key := .string k, val := .func (.func f) #[] #[], born := i }

def opsOf : Code → Array Oper
  | .region _ ops _ => ops
  | _ => #[]

section
variable {P : Program} {ops : Array Oper} {Q : Exit → Act → World → Prop} {ix : List Nat} {j : Nat} {a : Act} {w w' : World} {v : Value} {dst : Option Tmp}
theorem op_val' (op : Op) (hj : (ops[j]?).map (fun o => (o.op, o.dst, o.guard)) = some (op, dst, none)) (hr : ∀ o : Oper, o.op = op → o.dst = dst → (execOp a.eval o).run P w = .ok (.value v) w') (hn : wpOps P ops Q ix (a.put dst v) w') : wpOps P ops Q (j :: ix) a w := by
  cases ho : ops[j]? with
  | none => rw [ho] at hj; cases hj
  | some o =>
    rw [ho] at hj
    simp only [Option.map_some, Option.some.injEq, Prod.mk.injEq] at hj
    obtain ⟨h1, h2, h3⟩ := hj
    exact op_val ho h3 (hr o h1 h2) (by rw [h2]; exact hn)
theorem op_skip' (op : Op) (hj : (ops[j]?).map (fun o => (o.op, o.dst, o.guard)) = some (op, none, none)) (hr : ∀ o : Oper, o.op = op → o.dst = none → (execOp a.eval o).run P w = .ok .skip w') (hn : wpOps P ops Q ix a w') : wpOps P ops Q (j :: ix) a w := by
  cases ho : ops[j]? with
  | none => rw [ho] at hj; cases hj
  | some o =>
    rw [ho] at hj
    simp only [Option.map_some, Option.some.injEq, Prod.mk.injEq] at hj
    obtain ⟨h1, h2, h3⟩ := hj
    exact op_skip ho h3 (hr o h1 h2) (by rw [h2]; exact hn)
theorem op_enter' (op : Op) {f : FuncId} {args : Array Value} (hj : (ops[j]?).map (fun o => (o.op, o.dst, o.guard)) = some (op, dst, none)) (hr : ∀ o : Oper, o.op = op → o.dst = dst → (execOp a.eval o).run P w = .ok (.enter f args) w)
    (h : Calls P f args w fun e w' => ∃ v, e = .returned v ∧ wpOps P ops Q ix (a.put dst v) w') : wpOps P ops Q (j :: ix) a w := by
  cases ho : ops[j]? with
  | none => rw [ho] at hj; cases hj
  | some o =>
    rw [ho] at hj
    simp only [Option.map_some, Option.some.injEq, Prod.mk.injEq] at hj
    obtain ⟨h1, h2, h3⟩ := hj
    exact op_enter ho h3 (hr o h1 h2) (by rw [h2]; exact h)
theorem op_ins {t k e : TypeId} {w0 : World} {es : Array MapEntry} (T : Tmp) (M : MapAt w0 w es) (hu : P.underlying t = some (.map k e)) (hk : P.underlying k = some .string) (hT : a.eval (.tmp T) = .map (some w0.heap.size)) (s : ByteArray) (f : FuncId)
    (hj : (ops[j]?).map (fun o => (o.op, o.dst, o.guard)) = some (.insert t (.tmp T) (.const (.string s)) (.func f), none, none))
    (hf : Instr.findNow .string (.string s) es.toList 0 = some none) (hn : ∀ w', MapAt w0 w' (es.push (ent s f es.size)) → wpOps P ops Q ix a w') : wpOps P ops Q (j :: ix) a w := by
  obtain ⟨w', hr, M'⟩ := M.upd (v := .func (.func f) #[] #[]) hu hk hf
  refine op_skip' _ hj (fun o ho hd => ?_) (hn w' M')
  unfold execOp
  rw [ho]
  dsimp only
  rw [hT]
  show (Sem.run P (do Instr.mapUpdate t (.map (some w0.heap.size)) (.string s) (.func (.func f) #[] #[]); pure _) w) = _
  rw [Sem.run_bind, hr]
  rfl
end

def tabE : Array MapEntry := #[ent ⟨#[100]⟩ 103 0, ent ⟨#[99]⟩ 104 1, ent ⟨#[121]⟩ 105 2, ent ⟨#[62]⟩ 106 3, ent ⟨#[60]⟩ 107 4, ent ⟨#[103, 126]⟩ 108 5, ent ⟨#[103, 117]⟩ 110 6, ent ⟨#[103, 85]⟩ 111 7]

theorem tab_mt : Tryd.prog.underlying 108 = some (.map 9 106) := by kernel_rfl
theorem tab_kt : Tryd.prog.underlying 9 = some .string := by kernel_rfl
theorem operators_body : Tryd.f69.body = some (.seq (.region 0 (opsOf (at' (bodyOf Tryd.f69) [0])) false) (.seq (.region 1 (opsOf (at' (bodyOf Tryd.f69) [0, 1])) false) .ret)) := by kernel_rfl
theorem operators_run (w : World) : Calls Tryd.prog 69 #[] w fun e w' => e = .returned (.map (some w.heap.size)) ∧ MapAt w w' tabE := by
  refine calls_of_wp (fn := Tryd.f69) (by kernel_rfl) operators_body ?_
  refine wp_seq (wp_region ?_)
  rw [show List.range (opsOf (at' (bodyOf Tryd.f69) [0])).size = [0] by kernel_rfl]
  refine op_val' (.assign (.const (.map none))) (dst := some 0) (by kernel_rfl) (fun o ho hd => by unfold execOp; rw [ho]; rfl) ?_
  show Code.wp _ _ _ _ _
  refine wp_seq (wp_region ?_)
  rw [show List.range (opsOf (at' (bodyOf Tryd.f69) [0, 1])).size = [0, 1, 2, 3, 4, 5, 6, 7, 8, 9, 10] by kernel_rfl]
  refine op_val' (.makeMap 108 none) (dst := some 1) (by kernel_rfl) (fun o ho hd => by unfold execOp; rw [ho]; rfl) ?_
  have hT : ∀ (x y z : Value) (ds : List Deferred) (m : Value), (((Act.mk #[x, y, z] ds).put (some 1) m).eval (.tmp 1)) = m := fun _ _ _ _ _ => rfl
  refine op_ins 1 (MapAt.made w) tab_mt tab_kt rfl ⟨#[100]⟩ 103 (by kernel_rfl) (by kernel_rfl) fun w M => ?_
  refine op_ins 1 M tab_mt tab_kt rfl ⟨#[99]⟩ 104 (by kernel_rfl) (by kernel_rfl) fun w M => ?_
  refine op_ins 1 M tab_mt tab_kt rfl ⟨#[121]⟩ 105 (by kernel_rfl) (by kernel_rfl) fun w M => ?_
  refine op_ins 1 M tab_mt tab_kt rfl ⟨#[62]⟩ 106 (by kernel_rfl) (by kernel_rfl) fun w M => ?_
  refine op_ins 1 M tab_mt tab_kt rfl ⟨#[60]⟩ 107 (by kernel_rfl) (by kernel_rfl) fun w M => ?_
  refine op_ins 1 M tab_mt tab_kt rfl ⟨#[103, 126]⟩ 108 (by kernel_rfl) (by kernel_rfl) fun w M => ?_
  refine op_ins 1 M tab_mt tab_kt rfl ⟨#[103, 117]⟩ 110 (by kernel_rfl) (by kernel_rfl) fun w M => ?_
  refine op_ins 1 M tab_mt tab_kt rfl ⟨#[103, 85]⟩ 111 (by kernel_rfl) (by kernel_rfl) fun w M => ?_
  refine op_val' (.move (.tmp 1)) (dst := some 2) (by kernel_rfl) (fun o ho hd => by unfold execOp; rw [ho]; rfl) ?_
  refine op_val' (.assign (.tmp 2)) (dst := some 0) (by kernel_rfl) (fun o ho hd => by unfold execOp; rw [ho]; rfl) ?_
  refine wp_ret ?_
  refine ⟨rfl, _, ?_, rfl, M⟩
  rw [results_eq, show Tryd.f69.results = #[.tmp 0] by kernel_rfl]
  simp [resSem, Act.put]
  rfl

/-! ### what is found in it -/
theorem lookup_run {P : Program} {t k e : TypeId} (hu : P.underlying t = some (.map k e)) (hk : P.underlying k = some .string) {es : Array MapEntry} {c r i : Nat} {w : World} (hb : w.heap[r]? = some (.map es c)) {s : ByteArray} {v : Value}
    (hf : Instr.findNow .string (.string s) es.toList 0 = some (some (i, v))) : (Instr.lookup t (.map (some r)) (.string s) true).run P w = .ok (.tuple #[v, .bool true]) w := by
  have h1 := run_checkKey (P := P) (w := w) (kt := k) (k := .string s) hk (by trivial) es.isEmpty 9999
  have h2 := run_findKey (P := P) (w := w) hk hf
  have h4 := MapKept.run_getObj_map (P := P) hb
  simp [Instr.lookup, run_underlying hu, h4, h1, h2, Result.andThen]

theorem lookup_none {P : Program} {t k e : TypeId} (hu : P.underlying t = some (.map k e)) (hk : P.underlying k = some .string) {es : Array MapEntry} {c r : Nat} {w : World} (hb : w.heap[r]? = some (.map es c)) {s : ByteArray} {z : Value}
    (hz : (zeroValue e).run P w = .ok z w) (hf : Instr.findNow .string (.string s) es.toList 0 = some none) : (Instr.lookup t (.map (some r)) (.string s) true).run P w = .ok (.tuple #[z, .bool false]) w := by
  have h1 := run_checkKey (P := P) (w := w) (kt := k) (k := .string s) hk (by trivial) es.isEmpty 9999
  have h2 := run_findKey (P := P) (w := w) hk hf
  have h4 := MapKept.run_getObj_map (P := P) hb
  simp [Instr.lookup, run_underlying hu, h4, h1, h2, hz, Result.andThen]

def goK : List (List Int × Nat) → List Int → (Option Nat → Prop) → Prop
  | [], _, k => k none
  | (a, f) :: r, x, k => bif decide (x = a) then k (some f) else goK r x k

theorem goK_mem : ∀ {ks : List (List Int × Nat)} {x : List Int} {k : Option Nat → Prop}, goK ks x k → (∃ f, (x, f) ∈ ks ∧ k (some f)) ∨ ((∀ p ∈ ks, p.1 ≠ x) ∧ k none)
  | [], _, _, h => .inr ⟨fun p hp => (List.not_mem_nil hp).elim, h⟩
  | (a, f) :: r, x, k, h => by
    unfold goK at h
    by_cases c : x = a
    · rw [decide_eq_true c] at h
      exact .inl ⟨f, by rw [c]; exact List.mem_cons_self, h⟩
    · rw [decide_eq_false c] at h
      rcases goK_mem h with ⟨f', h1, h2⟩ | ⟨h1, h2⟩
      · exact .inl ⟨f', List.mem_cons_of_mem _ h1, h2⟩
      · refine .inr ⟨fun p hp => ?_, h2⟩
        rcases List.mem_cons.1 hp with e | e
        · rw [e]; exact fun e2 => c e2.symm
        · exact h1 p e

def tabKeys : List (List Int × Nat) := [([100], 103), ([99], 104), ([121], 105), ([62], 106), ([60], 107), ([103, 126], 108), ([103, 117], 110), ([103, 85], 111)]

theorem bytes_eq {s t : ByteArray} (h : bytesOf s = bytesOf t) : s = t := by
  have := bytesOf_inj h
  cases s; cases t
  simp only [ByteArray.mk.injEq]
  exact Array.ext' this

theorem tabE_find {x : List Int} {f : Nat} (h : (x, f) ∈ tabKeys) {s : ByteArray} (hs : bytesOf s = x) : ∃ i, Instr.findNow .string (.string s) tabE.toList 0 = some (some (i, .func (.func f) #[] #[])) := by
  have key : ∀ (t : ByteArray) (i : Nat), bytesOf t = x → Instr.findNow .string (.string t) tabE.toList 0 = some (some (i, .func (.func f) #[] #[])) → ∃ i, Instr.findNow .string (.string s) tabE.toList 0 = some (some (i, .func (.func f) #[] #[])) := fun t i ht hi => by
    rw [bytes_eq (hs.trans ht.symm)]; exact ⟨i, hi⟩
  simp only [tabKeys, List.mem_cons, Prod.mk.injEq, List.not_mem_nil, or_false] at h
  rcases h with ⟨rfl, rfl⟩ | ⟨rfl, rfl⟩ | ⟨rfl, rfl⟩ | ⟨rfl, rfl⟩ | ⟨rfl, rfl⟩ | ⟨rfl, rfl⟩ | ⟨rfl, rfl⟩ | ⟨rfl, rfl⟩
  · exact key ⟨#[100]⟩ 0 (by decide) (by kernel_rfl)
  · exact key ⟨#[99]⟩ 1 (by decide) (by kernel_rfl)
  · exact key ⟨#[121]⟩ 2 (by decide) (by kernel_rfl)
  · exact key ⟨#[62]⟩ 3 (by decide) (by kernel_rfl)
  · exact key ⟨#[60]⟩ 4 (by decide) (by kernel_rfl)
  · exact key ⟨#[103, 126]⟩ 5 (by decide) (by kernel_rfl)
  · exact key ⟨#[103, 117]⟩ 6 (by decide) (by kernel_rfl)
  · exact key ⟨#[103, 85]⟩ 7 (by decide) (by kernel_rfl)

theorem findNow_none (s : ByteArray) : ∀ (es : List MapEntry) (i : Nat), (∀ e ∈ es, ∃ t : ByteArray, e.key = .string t ∧ s ≠ t) → Instr.findNow .string (.string s) es i = some none
  | [], _, _ => rfl
  | e :: es, i, h => by
    obtain ⟨t, ht, hne⟩ := h e List.mem_cons_self
    unfold Instr.findNow
    rw [ht]
    have hb : (s == t) = false := by
      obtain ⟨a⟩ := s
      obtain ⟨b⟩ := t
      have : a ≠ b := fun e => hne (by rw [e])
      show (a == b) = false
      exact beq_false_of_ne this
    simp only [Instr.sameNow, hb]
    exact findNow_none s es (i + 1) fun e' he' => h e' (List.mem_cons_of_mem _ he')

theorem tabE_none {x : List Int} (h : ∀ p ∈ tabKeys, p.1 ≠ x) {s : ByteArray} (hs : bytesOf s = x) : Instr.findNow .string (.string s) tabE.toList 0 = some none := by
  refine findNow_none s _ 0 fun e he => ?_
  have ne : ∀ (t : ByteArray) (f : Nat), (bytesOf t, f) ∈ tabKeys → s ≠ t := fun t f ht e => h _ ht (by rw [← hs, e])
  simp only [tabE, List.mem_cons, List.not_mem_nil, or_false] at he
  rcases he with rfl | rfl | rfl | rfl | rfl | rfl | rfl | rfl
  · exact ⟨_, rfl, ne _ 103 (by simp [tabKeys, show bytesOf ⟨#[100]⟩ = [100] by decide])⟩
  · exact ⟨_, rfl, ne _ 104 (by simp [tabKeys, show bytesOf ⟨#[99]⟩ = [99] by decide])⟩
  · exact ⟨_, rfl, ne _ 105 (by simp [tabKeys, show bytesOf ⟨#[121]⟩ = [121] by decide])⟩
  · exact ⟨_, rfl, ne _ 106 (by simp [tabKeys, show bytesOf ⟨#[62]⟩ = [62] by decide])⟩
  · exact ⟨_, rfl, ne _ 107 (by simp [tabKeys, show bytesOf ⟨#[60]⟩ = [60] by decide])⟩
  · exact ⟨_, rfl, ne _ 108 (by simp [tabKeys, show bytesOf ⟨#[103, 126]⟩ = [103, 126] by decide])⟩
  · exact ⟨_, rfl, ne _ 110 (by simp [tabKeys, show bytesOf ⟨#[103, 117]⟩ = [103, 117] by decide])⟩
  · exact ⟨_, rfl, ne _ 111 (by simp [tabKeys, show bytesOf ⟨#[103, 85]⟩ = [103, 85] by decide])⟩

theorem zero_of {P : Program} {t : TypeId} {z : Value} (h : (P.info? t).map (fun i => i.zero) = some (some z)) (w : World) : (zeroValue t).run P w = .ok z w := by
  cases hi : P.info? t with
  | none => rw [hi] at h; cases h
  | some i =>
    rw [hi] at h
    injection h with h
    simp [zeroValue, typeInfo, hi, h]

theorem tab_zero (w : World) : (zeroValue 106).run Tryd.prog w = .ok .nilFunc w := zero_of (by kernel_rfl) w

def tabV : Option Nat → Value
  | some f => .func (.func f) #[] #[]
  | none => .nilFunc

def tabS : Option Nat → Slot
  | some f => .fn f []
  | none => .no
def tabB : Option Nat → Bool
  | some _ => true
  | none => false

theorem tabS_rel {G : Names} {I : Nat → Prop} {w : World} : ∀ f : Option Nat, SRel G I w (tabS f) (tabV f)
  | some _ => ⟨[], rfl, rfl, fun i k u hk => by simp at hk⟩
  | none => trivial

def tabSt (st : St) (x : List Int) (f : Option Nat) : St :=
  (((((((st.put (some 18) .no).put (some 19) (.v .str x)).put (some 20) .no).put (some 17) .no).put (some 21) .no).put (some 22) .no).put (some 12) (tabS f)).put (some 13) (.v .bool (tabB f))

def tabX (R : Pce) : Pce := fun st k => match st.ev (.tmp 2), Nat.beq st.tmps.length 77 with
  | .v .str x, true => goK tabKeys x fun f => R (tabSt st x f) k
  | _, _ => False

theorem Do_at : at' (bodyOf Tryd.f28) [1] = .seq (.region 1 (opsOf (at' (bodyOf Tryd.f28) [0, 1])) false) (at' (bodyOf Tryd.f28) [1, 1]) := by kernel_rfl

theorem wpOps_then {P : Program} {ops : Array Oper} {c : Code} {Q : Exit → Act → World → Prop} {a : Act} {w : World} (h : c.wp P Q a w) : wpOps P ops (Exit.then (c.wp P Q) Q) [] a w := h

set_option maxRecDepth 20000 in
theorem tabX_ok {R : Pce} (hR : SemOk Tryd.prog (at' (bodyOf Tryd.f28) [1, 1]) R) : SemOk Tryd.prog (at' (bodyOf Tryd.f28) [1]) (tabX R) := by
  intro w0 F Fn I0 W ds G I st tm w Q k hW hI hx hk
  unfold tabX at hx
  split at hx
  · rename_i x hev hlen
    have hlen := Nat.eq_of_beq_eq_true hlen
    have hsz : tm.size = 77 := hI.size.trans hlen
    have h2 := hI.ev (.tmp 2) ds
    rw [hev] at h2
    obtain ⟨s, hs, hsx, hsl⟩ := RepV.str_eq h2
    obtain ⟨f, hR', hfind⟩ : ∃ f, R (tabSt st x f) k ∧ ∀ (w' : World) (r c : Nat), w'.heap[r]? = some (.map tabE c) → (Instr.lookup 108 (.map (some r)) (.string s) true).run Tryd.prog w' = .ok (.tuple #[tabV f, .bool (tabB f)]) w' := by
      rcases goK_mem hx with ⟨f, hf, hR'⟩ | ⟨hf, hR'⟩
      · obtain ⟨i, hfind⟩ := tabE_find hf hsx
        exact ⟨some f, hR', fun w' r c hb => lookup_run tab_mt tab_kt hb hfind⟩
      · exact ⟨none, hR', fun w' r c hb => lookup_none tab_mt tab_kt hb (tab_zero w') (tabE_none hf hsx)⟩
    have hs2 : tm[2]? = some (.string s) := by
      have : tm.getD 2 undef = .string s := hs
      rw [Array.getD_eq_getD_getElem?] at this
      rw [Array.getElem?_eq_getElem (by omega)] at this ⊢
      exact congrArg some this
    rw [Do_at]
    refine wp_seq (wp_region ?_)
    rw [show List.range (opsOf (at' (bodyOf Tryd.f28) [0, 1])).size = [0, 1, 2, 3, 4, 5, 6, 7] by kernel_rfl]
    refine op_enter' (.call ⟨.value (.func 69), #[], #[]⟩) (f := 69) (args := #[]) (dst := some 18) (by kernel_rfl) (fun o ho hd => ?_) ((operators_run w).mono ?_)
    · have := enters_of (P := Tryd.prog) (f := 69) (fn := Tryd.f69) (by kernel_rfl) (by kernel_rfl) #[] w
      unfold execOp
      rw [ho]
      simp [Sem.run_bind, resolve, Act.eval, Deferred.ofValue, invoke, this]
    rintro e w' ⟨rfl, M⟩
    refine ⟨_, rfl, ?_⟩
    have hI1 := hI.grow (w' := w') (by rw [M.size]; omega) M.old M.os M.tape M.output
    refine op_val' (.move (.tmp 2)) (w' := w') (v := .string s) (dst := some 19) (by kernel_rfl) (fun o ho hd => ?_) ?_
    · unfold execOp; rw [ho]; simp [Act.eval, Act.put, hs2]
    refine op_val' (.lookup 108 (.tmp 18) (.tmp 19) true) (w' := w') (v := .tuple #[tabV f, .bool (tabB f)]) (dst := some 20) (by kernel_rfl) (fun o ho hd => ?_) ?_
    · have hl := hfind _ _ _ M.at_
      unfold execOp
      rw [ho]
      simp [Act.eval, Act.put, hsz, hl]
    refine op_val' (.move (.tmp 20)) (w' := w') (v := .tuple #[tabV f, .bool (tabB f)]) (dst := some 17) (by kernel_rfl) (fun o ho hd => ?_) ?_
    · unfold execOp; rw [ho]; simp [Act.eval, Act.put, hsz]
    refine op_val' (.extract (.tmp 17) 0) (w' := w') (v := tabV f) (dst := some 21) (by kernel_rfl) (fun o ho hd => ?_) ?_
    · unfold execOp; rw [ho]; simp [Act.eval, Act.put, hsz, Instr.extract]
    refine op_val' (.extract (.tmp 17) 1) (w' := w') (v := .bool (tabB f)) (dst := some 22) (by kernel_rfl) (fun o ho hd => ?_) ?_
    · unfold execOp; rw [ho]; simp [Act.eval, Act.put, hsz, Instr.extract]
    refine op_val' (.assign (.tmp 21)) (w' := w') (v := tabV f) (dst := some 12) (by kernel_rfl) (fun o ho hd => ?_) ?_
    · unfold execOp; rw [ho]; simp [Act.eval, Act.put, hsz]
    refine op_val' (.assign (.tmp 22)) (w' := w') (v := .bool (tabB f)) (dst := some 13) (by kernel_rfl) (fun o ho hd => ?_) ?_
    · unfold execOp; rw [ho]; simp [Act.eval, Act.put, hsz]
    refine wpOps_then ?_
    have hI2 := (hI1.put (some 18) (s := .no) (v := .map (some w.heap.size)) trivial).put (some 19) (s := .v .str x) (v := .string s) (by rw [← hsx]; exact RepV.str_mk hsl)
    have hI3 := ((hI2.put (some 20) (s := .no) (v := .tuple #[tabV f, .bool (tabB f)]) trivial).put (some 17) (s := .no) (v := .tuple #[tabV f, .bool (tabB f)]) trivial).put (some 21) (s := .no) (v := tabV f) trivial
    have hI4 := ((hI3.put (some 22) (s := .no) (v := .bool (tabB f)) trivial).put (some 12) (s := tabS f) (v := tabV f) (tabS_rel f)).put (some 13) (s := .v .bool (tabB f)) (v := .bool (tabB f)) RepV.bool_mk
    simp only [Act.put]
    exact hR Q k hW hI4 hR' hk
  · cases hx
end Go.VE
namespace Go.VE
open Go Go.Proofs
/-! ### quoin/oper.Do -/
def oper_Do_G : List (Nat × App) := [(59, oper_outside_S), (70, oper_spanned_S), (103, oj_deleted_S), (104, oj_changed_S), (105, oj_yanked_S), (106, oj_indented_S), (107, oj_outdented_S), (108, oo_1_S), (110, oo_2_S), (111, oo_3_S)]
theorem oper_Do_Gok : GOk Tryd.prog (getG oper_Do_G) := GOk.cons oper_outside_ok (GOk.cons oper_spanned_ok (GOk.cons oj_deleted_ok (GOk.cons oj_changed_ok (GOk.cons oj_yanked_ok (GOk.cons oj_indented_ok (GOk.cons oj_outdented_ok (GOk.cons oo_1_ok (GOk.cons oo_2_ok (GOk.cons oo_3_ok (GOk.nil))))))))))
theorem oper_Do_st : storesC (bodyOf Tryd.f28) = true := by kernel_rfl
def oper_Do_XT : Pce := tabX (ex tb (getG oper_Do_G) [] (at' (bodyOf Tryd.f28) [1, 1]) [1, 1])
set_option maxRecDepth 20000 in
theorem oper_Do_xT : SemOk Tryd.prog (at' (bodyOf Tryd.f28) [1]) oper_Do_XT := tabX_ok (ex_sound tb_M tb_ok oper_Do_Gok (LabsOk.nil) (at' (bodyOf Tryd.f28) [1, 1]) [1, 1] rfl (storesC_at oper_Do_st [1, 1]))
def oper_Do_BT : Labs := ([1], oper_Do_XT) :: []
theorem oper_Do_bT : LabsOk Tryd.prog (bodyOf Tryd.f28) oper_Do_BT := LabsOk.cons oper_Do_xT (LabsOk.nil)
def oper_Do_raw (t0 : List Int) (at1 : Int) (op2 : List Int) (rv3 : (Int × Int × Bool × Bool)) (count4 : Int) (K : Res → List Cell → Prop) : Prop :=
 bif (decide (op2 = ([100] : List Int))) then
 ∀ (r1 : Bool), r1 = oper_outside_F t0 at1 count4 (1 : Int) → (
 wfR (.one (.v (.bool) r1)) → (
 bif r1 then
 K (.tup [.v EfT (([] : List ((Int × List Int × List Int))), (0 : Int), (false, false, ([] : List Int)), (0 : Int), false), .v (.int .i64) (2 : Int)]) []
 else
 oper_spanned_P t0 at1 rv3 ∧ (
 ∀ (r2 : Int × Int × Bool), r2 = oper_spanned_F t0 at1 rv3 → (
 wfR (.tup [.v (.int .i64) r2.1, .v (.int .i64) r2.2.1, .v (.bool) r2.2.2]) → (
 bif (!r2.2.2) then
 K (.tup [.v EfT (([] : List ((Int × List Int × List Int))), (0 : Int), (false, false, ([] : List Int)), (0 : Int), false), .v (.int .i64) (2 : Int)]) []
 else
 bif (decide (rv3.1 = rv3.2.1)) then
 bif (!rv3.2.2.1) then
 bif (!decide (op2 = ([99] : List Int))) then
 K (.tup [.v EfT (([] : List ((Int × List Int × List Int))), (0 : Int), (false, false, ([] : List Int)), (0 : Int), false), .v (.int .i64) (190 : Int)]) []
 else
 bif rv3.2.2.1 then
 bif (decide (op2 = ([100] : List Int))) then
 K (.tup [.v EfT (([] : List ((Int × List Int × List Int))), (0 : Int), (false, false, ([] : List Int)), (0 : Int), false), .v (.int .i64) (190 : Int)]) []
 else
 oj_deleted_P (t0, at1, rv3, r2.1, r2.2.1, count4) ∧ (
 ∀ (r3 : EfD × Int), r3 = oj_deleted_F (t0, at1, rv3, r2.1, r2.2.1, count4) → (
 wfR (.tup [.v EfT r3.1, .v (.int .i64) r3.2]) → (
 K (.tup [.v EfT r3.1, .v (.int .i64) r3.2]) [])))
 else
 oj_deleted_P (t0, at1, rv3, r2.1, r2.2.1, count4) ∧ (
 ∀ (r4 : EfD × Int), r4 = oj_deleted_F (t0, at1, rv3, r2.1, r2.2.1, count4) → (
 wfR (.tup [.v EfT r4.1, .v (.int .i64) r4.2]) → (
 K (.tup [.v EfT r4.1, .v (.int .i64) r4.2]) [])))
 else
 bif rv3.2.2.1 then
 bif (decide (op2 = ([100] : List Int))) then
 K (.tup [.v EfT (([] : List ((Int × List Int × List Int))), (0 : Int), (false, false, ([] : List Int)), (0 : Int), false), .v (.int .i64) (190 : Int)]) []
 else
 oj_deleted_P (t0, at1, rv3, r2.1, r2.2.1, count4) ∧ (
 ∀ (r5 : EfD × Int), r5 = oj_deleted_F (t0, at1, rv3, r2.1, r2.2.1, count4) → (
 wfR (.tup [.v EfT r5.1, .v (.int .i64) r5.2]) → (
 K (.tup [.v EfT r5.1, .v (.int .i64) r5.2]) [])))
 else
 oj_deleted_P (t0, at1, rv3, r2.1, r2.2.1, count4) ∧ (
 ∀ (r6 : EfD × Int), r6 = oj_deleted_F (t0, at1, rv3, r2.1, r2.2.1, count4) → (
 wfR (.tup [.v EfT r6.1, .v (.int .i64) r6.2]) → (
 K (.tup [.v EfT r6.1, .v (.int .i64) r6.2]) [])))
 else
 oj_deleted_P (t0, at1, rv3, r2.1, r2.2.1, count4) ∧ (
 ∀ (r7 : EfD × Int), r7 = oj_deleted_F (t0, at1, rv3, r2.1, r2.2.1, count4) → (
 wfR (.tup [.v EfT r7.1, .v (.int .i64) r7.2]) → (
 K (.tup [.v EfT r7.1, .v (.int .i64) r7.2]) []))))))))
 else
 bif (decide (op2 = ([99] : List Int))) then
 ∀ (r8 : Bool), r8 = oper_outside_F t0 at1 count4 (1 : Int) → (
 wfR (.one (.v (.bool) r8)) → (
 bif r8 then
 K (.tup [.v EfT (([] : List ((Int × List Int × List Int))), (0 : Int), (false, false, ([] : List Int)), (0 : Int), false), .v (.int .i64) (2 : Int)]) []
 else
 oper_spanned_P t0 at1 rv3 ∧ (
 ∀ (r9 : Int × Int × Bool), r9 = oper_spanned_F t0 at1 rv3 → (
 wfR (.tup [.v (.int .i64) r9.1, .v (.int .i64) r9.2.1, .v (.bool) r9.2.2]) → (
 bif (!r9.2.2) then
 K (.tup [.v EfT (([] : List ((Int × List Int × List Int))), (0 : Int), (false, false, ([] : List Int)), (0 : Int), false), .v (.int .i64) (2 : Int)]) []
 else
 bif (decide (rv3.1 = rv3.2.1)) then
 bif (!rv3.2.2.1) then
 bif (!decide (op2 = ([99] : List Int))) then
 K (.tup [.v EfT (([] : List ((Int × List Int × List Int))), (0 : Int), (false, false, ([] : List Int)), (0 : Int), false), .v (.int .i64) (190 : Int)]) []
 else
 bif rv3.2.2.1 then
 bif (decide (op2 = ([100] : List Int))) then
 K (.tup [.v EfT (([] : List ((Int × List Int × List Int))), (0 : Int), (false, false, ([] : List Int)), (0 : Int), false), .v (.int .i64) (190 : Int)]) []
 else
 oj_changed_P (t0, at1, rv3, r9.1, r9.2.1, count4) ∧ (
 ∀ (r10 : EfD × Int), r10 = oj_changed_F (t0, at1, rv3, r9.1, r9.2.1, count4) → (
 wfR (.tup [.v EfT r10.1, .v (.int .i64) r10.2]) → (
 K (.tup [.v EfT r10.1, .v (.int .i64) r10.2]) [])))
 else
 oj_changed_P (t0, at1, rv3, r9.1, r9.2.1, count4) ∧ (
 ∀ (r11 : EfD × Int), r11 = oj_changed_F (t0, at1, rv3, r9.1, r9.2.1, count4) → (
 wfR (.tup [.v EfT r11.1, .v (.int .i64) r11.2]) → (
 K (.tup [.v EfT r11.1, .v (.int .i64) r11.2]) [])))
 else
 bif rv3.2.2.1 then
 bif (decide (op2 = ([100] : List Int))) then
 K (.tup [.v EfT (([] : List ((Int × List Int × List Int))), (0 : Int), (false, false, ([] : List Int)), (0 : Int), false), .v (.int .i64) (190 : Int)]) []
 else
 oj_changed_P (t0, at1, rv3, r9.1, r9.2.1, count4) ∧ (
 ∀ (r12 : EfD × Int), r12 = oj_changed_F (t0, at1, rv3, r9.1, r9.2.1, count4) → (
 wfR (.tup [.v EfT r12.1, .v (.int .i64) r12.2]) → (
 K (.tup [.v EfT r12.1, .v (.int .i64) r12.2]) [])))
 else
 oj_changed_P (t0, at1, rv3, r9.1, r9.2.1, count4) ∧ (
 ∀ (r13 : EfD × Int), r13 = oj_changed_F (t0, at1, rv3, r9.1, r9.2.1, count4) → (
 wfR (.tup [.v EfT r13.1, .v (.int .i64) r13.2]) → (
 K (.tup [.v EfT r13.1, .v (.int .i64) r13.2]) [])))
 else
 oj_changed_P (t0, at1, rv3, r9.1, r9.2.1, count4) ∧ (
 ∀ (r14 : EfD × Int), r14 = oj_changed_F (t0, at1, rv3, r9.1, r9.2.1, count4) → (
 wfR (.tup [.v EfT r14.1, .v (.int .i64) r14.2]) → (
 K (.tup [.v EfT r14.1, .v (.int .i64) r14.2]) []))))))))
 else
 bif (decide (op2 = ([121] : List Int))) then
 ∀ (r15 : Bool), r15 = oper_outside_F t0 at1 count4 (1 : Int) → (
 wfR (.one (.v (.bool) r15)) → (
 bif r15 then
 K (.tup [.v EfT (([] : List ((Int × List Int × List Int))), (0 : Int), (false, false, ([] : List Int)), (0 : Int), false), .v (.int .i64) (2 : Int)]) []
 else
 oper_spanned_P t0 at1 rv3 ∧ (
 ∀ (r16 : Int × Int × Bool), r16 = oper_spanned_F t0 at1 rv3 → (
 wfR (.tup [.v (.int .i64) r16.1, .v (.int .i64) r16.2.1, .v (.bool) r16.2.2]) → (
 bif (!r16.2.2) then
 K (.tup [.v EfT (([] : List ((Int × List Int × List Int))), (0 : Int), (false, false, ([] : List Int)), (0 : Int), false), .v (.int .i64) (2 : Int)]) []
 else
 bif (decide (rv3.1 = rv3.2.1)) then
 bif (!rv3.2.2.1) then
 bif (!decide (op2 = ([99] : List Int))) then
 K (.tup [.v EfT (([] : List ((Int × List Int × List Int))), (0 : Int), (false, false, ([] : List Int)), (0 : Int), false), .v (.int .i64) (190 : Int)]) []
 else
 bif rv3.2.2.1 then
 bif (decide (op2 = ([100] : List Int))) then
 K (.tup [.v EfT (([] : List ((Int × List Int × List Int))), (0 : Int), (false, false, ([] : List Int)), (0 : Int), false), .v (.int .i64) (190 : Int)]) []
 else
 oj_yanked_P (t0, at1, rv3, r16.1, r16.2.1, count4) ∧ (
 ∀ (r17 : EfD × Int), r17 = oj_yanked_F (t0, at1, rv3, r16.1, r16.2.1, count4) → (
 wfR (.tup [.v EfT r17.1, .v (.int .i64) r17.2]) → (
 K (.tup [.v EfT r17.1, .v (.int .i64) r17.2]) [])))
 else
 oj_yanked_P (t0, at1, rv3, r16.1, r16.2.1, count4) ∧ (
 ∀ (r18 : EfD × Int), r18 = oj_yanked_F (t0, at1, rv3, r16.1, r16.2.1, count4) → (
 wfR (.tup [.v EfT r18.1, .v (.int .i64) r18.2]) → (
 K (.tup [.v EfT r18.1, .v (.int .i64) r18.2]) [])))
 else
 bif rv3.2.2.1 then
 bif (decide (op2 = ([100] : List Int))) then
 K (.tup [.v EfT (([] : List ((Int × List Int × List Int))), (0 : Int), (false, false, ([] : List Int)), (0 : Int), false), .v (.int .i64) (190 : Int)]) []
 else
 oj_yanked_P (t0, at1, rv3, r16.1, r16.2.1, count4) ∧ (
 ∀ (r19 : EfD × Int), r19 = oj_yanked_F (t0, at1, rv3, r16.1, r16.2.1, count4) → (
 wfR (.tup [.v EfT r19.1, .v (.int .i64) r19.2]) → (
 K (.tup [.v EfT r19.1, .v (.int .i64) r19.2]) [])))
 else
 oj_yanked_P (t0, at1, rv3, r16.1, r16.2.1, count4) ∧ (
 ∀ (r20 : EfD × Int), r20 = oj_yanked_F (t0, at1, rv3, r16.1, r16.2.1, count4) → (
 wfR (.tup [.v EfT r20.1, .v (.int .i64) r20.2]) → (
 K (.tup [.v EfT r20.1, .v (.int .i64) r20.2]) [])))
 else
 oj_yanked_P (t0, at1, rv3, r16.1, r16.2.1, count4) ∧ (
 ∀ (r21 : EfD × Int), r21 = oj_yanked_F (t0, at1, rv3, r16.1, r16.2.1, count4) → (
 wfR (.tup [.v EfT r21.1, .v (.int .i64) r21.2]) → (
 K (.tup [.v EfT r21.1, .v (.int .i64) r21.2]) []))))))))
 else
 bif (decide (op2 = ([62] : List Int))) then
 ∀ (r22 : Bool), r22 = oper_outside_F t0 at1 count4 (1 : Int) → (
 wfR (.one (.v (.bool) r22)) → (
 bif r22 then
 K (.tup [.v EfT (([] : List ((Int × List Int × List Int))), (0 : Int), (false, false, ([] : List Int)), (0 : Int), false), .v (.int .i64) (2 : Int)]) []
 else
 oper_spanned_P t0 at1 rv3 ∧ (
 ∀ (r23 : Int × Int × Bool), r23 = oper_spanned_F t0 at1 rv3 → (
 wfR (.tup [.v (.int .i64) r23.1, .v (.int .i64) r23.2.1, .v (.bool) r23.2.2]) → (
 bif (!r23.2.2) then
 K (.tup [.v EfT (([] : List ((Int × List Int × List Int))), (0 : Int), (false, false, ([] : List Int)), (0 : Int), false), .v (.int .i64) (2 : Int)]) []
 else
 bif (decide (rv3.1 = rv3.2.1)) then
 bif (!rv3.2.2.1) then
 bif (!decide (op2 = ([99] : List Int))) then
 K (.tup [.v EfT (([] : List ((Int × List Int × List Int))), (0 : Int), (false, false, ([] : List Int)), (0 : Int), false), .v (.int .i64) (190 : Int)]) []
 else
 bif rv3.2.2.1 then
 bif (decide (op2 = ([100] : List Int))) then
 K (.tup [.v EfT (([] : List ((Int × List Int × List Int))), (0 : Int), (false, false, ([] : List Int)), (0 : Int), false), .v (.int .i64) (190 : Int)]) []
 else
 oj_indented_P (t0, at1, rv3, r23.1, r23.2.1, count4) ∧ (
 ∀ (r24 : EfD × Int), r24 = oj_indented_F (t0, at1, rv3, r23.1, r23.2.1, count4) → (
 wfR (.tup [.v EfT r24.1, .v (.int .i64) r24.2]) → (
 K (.tup [.v EfT r24.1, .v (.int .i64) r24.2]) [])))
 else
 oj_indented_P (t0, at1, rv3, r23.1, r23.2.1, count4) ∧ (
 ∀ (r25 : EfD × Int), r25 = oj_indented_F (t0, at1, rv3, r23.1, r23.2.1, count4) → (
 wfR (.tup [.v EfT r25.1, .v (.int .i64) r25.2]) → (
 K (.tup [.v EfT r25.1, .v (.int .i64) r25.2]) [])))
 else
 bif rv3.2.2.1 then
 bif (decide (op2 = ([100] : List Int))) then
 K (.tup [.v EfT (([] : List ((Int × List Int × List Int))), (0 : Int), (false, false, ([] : List Int)), (0 : Int), false), .v (.int .i64) (190 : Int)]) []
 else
 oj_indented_P (t0, at1, rv3, r23.1, r23.2.1, count4) ∧ (
 ∀ (r26 : EfD × Int), r26 = oj_indented_F (t0, at1, rv3, r23.1, r23.2.1, count4) → (
 wfR (.tup [.v EfT r26.1, .v (.int .i64) r26.2]) → (
 K (.tup [.v EfT r26.1, .v (.int .i64) r26.2]) [])))
 else
 oj_indented_P (t0, at1, rv3, r23.1, r23.2.1, count4) ∧ (
 ∀ (r27 : EfD × Int), r27 = oj_indented_F (t0, at1, rv3, r23.1, r23.2.1, count4) → (
 wfR (.tup [.v EfT r27.1, .v (.int .i64) r27.2]) → (
 K (.tup [.v EfT r27.1, .v (.int .i64) r27.2]) [])))
 else
 oj_indented_P (t0, at1, rv3, r23.1, r23.2.1, count4) ∧ (
 ∀ (r28 : EfD × Int), r28 = oj_indented_F (t0, at1, rv3, r23.1, r23.2.1, count4) → (
 wfR (.tup [.v EfT r28.1, .v (.int .i64) r28.2]) → (
 K (.tup [.v EfT r28.1, .v (.int .i64) r28.2]) []))))))))
 else
 bif (decide (op2 = ([60] : List Int))) then
 ∀ (r29 : Bool), r29 = oper_outside_F t0 at1 count4 (1 : Int) → (
 wfR (.one (.v (.bool) r29)) → (
 bif r29 then
 K (.tup [.v EfT (([] : List ((Int × List Int × List Int))), (0 : Int), (false, false, ([] : List Int)), (0 : Int), false), .v (.int .i64) (2 : Int)]) []
 else
 oper_spanned_P t0 at1 rv3 ∧ (
 ∀ (r30 : Int × Int × Bool), r30 = oper_spanned_F t0 at1 rv3 → (
 wfR (.tup [.v (.int .i64) r30.1, .v (.int .i64) r30.2.1, .v (.bool) r30.2.2]) → (
 bif (!r30.2.2) then
 K (.tup [.v EfT (([] : List ((Int × List Int × List Int))), (0 : Int), (false, false, ([] : List Int)), (0 : Int), false), .v (.int .i64) (2 : Int)]) []
 else
 bif (decide (rv3.1 = rv3.2.1)) then
 bif (!rv3.2.2.1) then
 bif (!decide (op2 = ([99] : List Int))) then
 K (.tup [.v EfT (([] : List ((Int × List Int × List Int))), (0 : Int), (false, false, ([] : List Int)), (0 : Int), false), .v (.int .i64) (190 : Int)]) []
 else
 bif rv3.2.2.1 then
 bif (decide (op2 = ([100] : List Int))) then
 K (.tup [.v EfT (([] : List ((Int × List Int × List Int))), (0 : Int), (false, false, ([] : List Int)), (0 : Int), false), .v (.int .i64) (190 : Int)]) []
 else
 oj_outdented_P (t0, at1, rv3, r30.1, r30.2.1, count4) ∧ (
 ∀ (r31 : EfD × Int), r31 = oj_outdented_F (t0, at1, rv3, r30.1, r30.2.1, count4) → (
 wfR (.tup [.v EfT r31.1, .v (.int .i64) r31.2]) → (
 K (.tup [.v EfT r31.1, .v (.int .i64) r31.2]) [])))
 else
 oj_outdented_P (t0, at1, rv3, r30.1, r30.2.1, count4) ∧ (
 ∀ (r32 : EfD × Int), r32 = oj_outdented_F (t0, at1, rv3, r30.1, r30.2.1, count4) → (
 wfR (.tup [.v EfT r32.1, .v (.int .i64) r32.2]) → (
 K (.tup [.v EfT r32.1, .v (.int .i64) r32.2]) [])))
 else
 bif rv3.2.2.1 then
 bif (decide (op2 = ([100] : List Int))) then
 K (.tup [.v EfT (([] : List ((Int × List Int × List Int))), (0 : Int), (false, false, ([] : List Int)), (0 : Int), false), .v (.int .i64) (190 : Int)]) []
 else
 oj_outdented_P (t0, at1, rv3, r30.1, r30.2.1, count4) ∧ (
 ∀ (r33 : EfD × Int), r33 = oj_outdented_F (t0, at1, rv3, r30.1, r30.2.1, count4) → (
 wfR (.tup [.v EfT r33.1, .v (.int .i64) r33.2]) → (
 K (.tup [.v EfT r33.1, .v (.int .i64) r33.2]) [])))
 else
 oj_outdented_P (t0, at1, rv3, r30.1, r30.2.1, count4) ∧ (
 ∀ (r34 : EfD × Int), r34 = oj_outdented_F (t0, at1, rv3, r30.1, r30.2.1, count4) → (
 wfR (.tup [.v EfT r34.1, .v (.int .i64) r34.2]) → (
 K (.tup [.v EfT r34.1, .v (.int .i64) r34.2]) [])))
 else
 oj_outdented_P (t0, at1, rv3, r30.1, r30.2.1, count4) ∧ (
 ∀ (r35 : EfD × Int), r35 = oj_outdented_F (t0, at1, rv3, r30.1, r30.2.1, count4) → (
 wfR (.tup [.v EfT r35.1, .v (.int .i64) r35.2]) → (
 K (.tup [.v EfT r35.1, .v (.int .i64) r35.2]) []))))))))
 else
 bif (decide (op2 = ([103, 126] : List Int))) then
 ∀ (r36 : Bool), r36 = oper_outside_F t0 at1 count4 (1 : Int) → (
 wfR (.one (.v (.bool) r36)) → (
 bif r36 then
 K (.tup [.v EfT (([] : List ((Int × List Int × List Int))), (0 : Int), (false, false, ([] : List Int)), (0 : Int), false), .v (.int .i64) (2 : Int)]) []
 else
 oper_spanned_P t0 at1 rv3 ∧ (
 ∀ (r37 : Int × Int × Bool), r37 = oper_spanned_F t0 at1 rv3 → (
 wfR (.tup [.v (.int .i64) r37.1, .v (.int .i64) r37.2.1, .v (.bool) r37.2.2]) → (
 bif (!r37.2.2) then
 K (.tup [.v EfT (([] : List ((Int × List Int × List Int))), (0 : Int), (false, false, ([] : List Int)), (0 : Int), false), .v (.int .i64) (2 : Int)]) []
 else
 bif (decide (rv3.1 = rv3.2.1)) then
 bif (!rv3.2.2.1) then
 bif (!decide (op2 = ([99] : List Int))) then
 K (.tup [.v EfT (([] : List ((Int × List Int × List Int))), (0 : Int), (false, false, ([] : List Int)), (0 : Int), false), .v (.int .i64) (190 : Int)]) []
 else
 bif rv3.2.2.1 then
 bif (decide (op2 = ([100] : List Int))) then
 K (.tup [.v EfT (([] : List ((Int × List Int × List Int))), (0 : Int), (false, false, ([] : List Int)), (0 : Int), false), .v (.int .i64) (190 : Int)]) []
 else
 oo_1_P (t0, at1, rv3, r37.1, r37.2.1, count4) ∧ (
 ∀ (r38 : EfD × Int), r38 = oo_1_F (t0, at1, rv3, r37.1, r37.2.1, count4) → (
 wfR (.tup [.v EfT r38.1, .v (.int .i64) r38.2]) → (
 K (.tup [.v EfT r38.1, .v (.int .i64) r38.2]) [])))
 else
 oo_1_P (t0, at1, rv3, r37.1, r37.2.1, count4) ∧ (
 ∀ (r39 : EfD × Int), r39 = oo_1_F (t0, at1, rv3, r37.1, r37.2.1, count4) → (
 wfR (.tup [.v EfT r39.1, .v (.int .i64) r39.2]) → (
 K (.tup [.v EfT r39.1, .v (.int .i64) r39.2]) [])))
 else
 bif rv3.2.2.1 then
 bif (decide (op2 = ([100] : List Int))) then
 K (.tup [.v EfT (([] : List ((Int × List Int × List Int))), (0 : Int), (false, false, ([] : List Int)), (0 : Int), false), .v (.int .i64) (190 : Int)]) []
 else
 oo_1_P (t0, at1, rv3, r37.1, r37.2.1, count4) ∧ (
 ∀ (r40 : EfD × Int), r40 = oo_1_F (t0, at1, rv3, r37.1, r37.2.1, count4) → (
 wfR (.tup [.v EfT r40.1, .v (.int .i64) r40.2]) → (
 K (.tup [.v EfT r40.1, .v (.int .i64) r40.2]) [])))
 else
 oo_1_P (t0, at1, rv3, r37.1, r37.2.1, count4) ∧ (
 ∀ (r41 : EfD × Int), r41 = oo_1_F (t0, at1, rv3, r37.1, r37.2.1, count4) → (
 wfR (.tup [.v EfT r41.1, .v (.int .i64) r41.2]) → (
 K (.tup [.v EfT r41.1, .v (.int .i64) r41.2]) [])))
 else
 oo_1_P (t0, at1, rv3, r37.1, r37.2.1, count4) ∧ (
 ∀ (r42 : EfD × Int), r42 = oo_1_F (t0, at1, rv3, r37.1, r37.2.1, count4) → (
 wfR (.tup [.v EfT r42.1, .v (.int .i64) r42.2]) → (
 K (.tup [.v EfT r42.1, .v (.int .i64) r42.2]) []))))))))
 else
 bif (decide (op2 = ([103, 117] : List Int))) then
 ∀ (r43 : Bool), r43 = oper_outside_F t0 at1 count4 (1 : Int) → (
 wfR (.one (.v (.bool) r43)) → (
 bif r43 then
 K (.tup [.v EfT (([] : List ((Int × List Int × List Int))), (0 : Int), (false, false, ([] : List Int)), (0 : Int), false), .v (.int .i64) (2 : Int)]) []
 else
 oper_spanned_P t0 at1 rv3 ∧ (
 ∀ (r44 : Int × Int × Bool), r44 = oper_spanned_F t0 at1 rv3 → (
 wfR (.tup [.v (.int .i64) r44.1, .v (.int .i64) r44.2.1, .v (.bool) r44.2.2]) → (
 bif (!r44.2.2) then
 K (.tup [.v EfT (([] : List ((Int × List Int × List Int))), (0 : Int), (false, false, ([] : List Int)), (0 : Int), false), .v (.int .i64) (2 : Int)]) []
 else
 bif (decide (rv3.1 = rv3.2.1)) then
 bif (!rv3.2.2.1) then
 bif (!decide (op2 = ([99] : List Int))) then
 K (.tup [.v EfT (([] : List ((Int × List Int × List Int))), (0 : Int), (false, false, ([] : List Int)), (0 : Int), false), .v (.int .i64) (190 : Int)]) []
 else
 bif rv3.2.2.1 then
 bif (decide (op2 = ([100] : List Int))) then
 K (.tup [.v EfT (([] : List ((Int × List Int × List Int))), (0 : Int), (false, false, ([] : List Int)), (0 : Int), false), .v (.int .i64) (190 : Int)]) []
 else
 oo_2_P (t0, at1, rv3, r44.1, r44.2.1, count4) ∧ (
 ∀ (r45 : EfD × Int), r45 = oo_2_F (t0, at1, rv3, r44.1, r44.2.1, count4) → (
 wfR (.tup [.v EfT r45.1, .v (.int .i64) r45.2]) → (
 K (.tup [.v EfT r45.1, .v (.int .i64) r45.2]) [])))
 else
 oo_2_P (t0, at1, rv3, r44.1, r44.2.1, count4) ∧ (
 ∀ (r46 : EfD × Int), r46 = oo_2_F (t0, at1, rv3, r44.1, r44.2.1, count4) → (
 wfR (.tup [.v EfT r46.1, .v (.int .i64) r46.2]) → (
 K (.tup [.v EfT r46.1, .v (.int .i64) r46.2]) [])))
 else
 bif rv3.2.2.1 then
 bif (decide (op2 = ([100] : List Int))) then
 K (.tup [.v EfT (([] : List ((Int × List Int × List Int))), (0 : Int), (false, false, ([] : List Int)), (0 : Int), false), .v (.int .i64) (190 : Int)]) []
 else
 oo_2_P (t0, at1, rv3, r44.1, r44.2.1, count4) ∧ (
 ∀ (r47 : EfD × Int), r47 = oo_2_F (t0, at1, rv3, r44.1, r44.2.1, count4) → (
 wfR (.tup [.v EfT r47.1, .v (.int .i64) r47.2]) → (
 K (.tup [.v EfT r47.1, .v (.int .i64) r47.2]) [])))
 else
 oo_2_P (t0, at1, rv3, r44.1, r44.2.1, count4) ∧ (
 ∀ (r48 : EfD × Int), r48 = oo_2_F (t0, at1, rv3, r44.1, r44.2.1, count4) → (
 wfR (.tup [.v EfT r48.1, .v (.int .i64) r48.2]) → (
 K (.tup [.v EfT r48.1, .v (.int .i64) r48.2]) [])))
 else
 oo_2_P (t0, at1, rv3, r44.1, r44.2.1, count4) ∧ (
 ∀ (r49 : EfD × Int), r49 = oo_2_F (t0, at1, rv3, r44.1, r44.2.1, count4) → (
 wfR (.tup [.v EfT r49.1, .v (.int .i64) r49.2]) → (
 K (.tup [.v EfT r49.1, .v (.int .i64) r49.2]) []))))))))
 else
 bif (decide (op2 = ([103, 85] : List Int))) then
 ∀ (r50 : Bool), r50 = oper_outside_F t0 at1 count4 (1 : Int) → (
 wfR (.one (.v (.bool) r50)) → (
 bif r50 then
 K (.tup [.v EfT (([] : List ((Int × List Int × List Int))), (0 : Int), (false, false, ([] : List Int)), (0 : Int), false), .v (.int .i64) (2 : Int)]) []
 else
 oper_spanned_P t0 at1 rv3 ∧ (
 ∀ (r51 : Int × Int × Bool), r51 = oper_spanned_F t0 at1 rv3 → (
 wfR (.tup [.v (.int .i64) r51.1, .v (.int .i64) r51.2.1, .v (.bool) r51.2.2]) → (
 bif (!r51.2.2) then
 K (.tup [.v EfT (([] : List ((Int × List Int × List Int))), (0 : Int), (false, false, ([] : List Int)), (0 : Int), false), .v (.int .i64) (2 : Int)]) []
 else
 bif (decide (rv3.1 = rv3.2.1)) then
 bif (!rv3.2.2.1) then
 bif (!decide (op2 = ([99] : List Int))) then
 K (.tup [.v EfT (([] : List ((Int × List Int × List Int))), (0 : Int), (false, false, ([] : List Int)), (0 : Int), false), .v (.int .i64) (190 : Int)]) []
 else
 bif rv3.2.2.1 then
 bif (decide (op2 = ([100] : List Int))) then
 K (.tup [.v EfT (([] : List ((Int × List Int × List Int))), (0 : Int), (false, false, ([] : List Int)), (0 : Int), false), .v (.int .i64) (190 : Int)]) []
 else
 oo_3_P (t0, at1, rv3, r51.1, r51.2.1, count4) ∧ (
 ∀ (r52 : EfD × Int), r52 = oo_3_F (t0, at1, rv3, r51.1, r51.2.1, count4) → (
 wfR (.tup [.v EfT r52.1, .v (.int .i64) r52.2]) → (
 K (.tup [.v EfT r52.1, .v (.int .i64) r52.2]) [])))
 else
 oo_3_P (t0, at1, rv3, r51.1, r51.2.1, count4) ∧ (
 ∀ (r53 : EfD × Int), r53 = oo_3_F (t0, at1, rv3, r51.1, r51.2.1, count4) → (
 wfR (.tup [.v EfT r53.1, .v (.int .i64) r53.2]) → (
 K (.tup [.v EfT r53.1, .v (.int .i64) r53.2]) [])))
 else
 bif rv3.2.2.1 then
 bif (decide (op2 = ([100] : List Int))) then
 K (.tup [.v EfT (([] : List ((Int × List Int × List Int))), (0 : Int), (false, false, ([] : List Int)), (0 : Int), false), .v (.int .i64) (190 : Int)]) []
 else
 oo_3_P (t0, at1, rv3, r51.1, r51.2.1, count4) ∧ (
 ∀ (r54 : EfD × Int), r54 = oo_3_F (t0, at1, rv3, r51.1, r51.2.1, count4) → (
 wfR (.tup [.v EfT r54.1, .v (.int .i64) r54.2]) → (
 K (.tup [.v EfT r54.1, .v (.int .i64) r54.2]) [])))
 else
 oo_3_P (t0, at1, rv3, r51.1, r51.2.1, count4) ∧ (
 ∀ (r55 : EfD × Int), r55 = oo_3_F (t0, at1, rv3, r51.1, r51.2.1, count4) → (
 wfR (.tup [.v EfT r55.1, .v (.int .i64) r55.2]) → (
 K (.tup [.v EfT r55.1, .v (.int .i64) r55.2]) [])))
 else
 oo_3_P (t0, at1, rv3, r51.1, r51.2.1, count4) ∧ (
 ∀ (r56 : EfD × Int), r56 = oo_3_F (t0, at1, rv3, r51.1, r51.2.1, count4) → (
 wfR (.tup [.v EfT r56.1, .v (.int .i64) r56.2]) → (
 K (.tup [.v EfT r56.1, .v (.int .i64) r56.2]) []))))))))
 else
 ∀ (r57 : Bool), r57 = oper_outside_F t0 at1 count4 (1 : Int) → (
 wfR (.one (.v (.bool) r57)) → (
 bif r57 then
 K (.tup [.v EfT (([] : List ((Int × List Int × List Int))), (0 : Int), (false, false, ([] : List Int)), (0 : Int), false), .v (.int .i64) (2 : Int)]) []
 else
 K (.tup [.v EfT (([] : List ((Int × List Int × List Int))), (0 : Int), (false, false, ([] : List Int)), (0 : Int), false), .v (.int .i64) (2 : Int)]) []))
def oper_Do_A : List AS := [.v (.sl (.int .u8)), .v (.int .i64), .v (.str), .v (.st (.pair (.int .i64) (.pair (.int .i64) (.pair (.bool) (.bool))))), .v (.int .i64)]
theorem oper_Do_walk (t0 : List Int) (at1 : Int) (op2 : List Int) (rv3 : (Int × Int × Bool × Bool)) (count4 : Int) (K : Res → List Cell → Prop) : runF tb (getG oper_Do_G) oper_Do_BT Tryd.f28 [true, true] (mkA oper_Do_A (t0, at1, op2, rv3, count4, ())) K = oper_Do_raw t0 at1 op2 rv3 count4 K := by kernel_rfl
--! import OM
--! cut 9999
--! pre 1
--! tab 100:103 99:104 121:105 62:106 60:107 103,126:108 103,117:110 103,85:111
--! tabelse 1
abbrev Eff := List (Int × List Int × List Int) × Int × (Bool × Bool × List Int) × Int × Bool
abbrev Job := List Int × Int × (Int × Int × Bool × Bool) × Int × Int × Int
def doBr (JP : Job → Prop) (JF : Job → Eff × Int) (t0 : List Int) (at1 : Int) (op2 : List Int) (rv3 : (Int × Int × Bool × Bool)) (count4 : Int) (K : Res → List Cell → Prop) : Prop :=
  ∀ (r1 : Bool), r1 = oper_outside_F t0 at1 count4 (1 : Int) → (
  wfR (.one (.v (.bool) r1)) → (
  bif r1 then
    K (.tup [.v EfT (([] : List ((Int × List Int × List Int))), (0 : Int), (false, false, ([] : List Int)), (0 : Int), false), .v (.int .i64) (2 : Int)]) []
  else
    oper_spanned_P t0 at1 rv3 ∧ (
    ∀ (r2 : Int × Int × Bool), r2 = oper_spanned_F t0 at1 rv3 → (
    wfR (.tup [.v (.int .i64) r2.1, .v (.int .i64) r2.2.1, .v (.bool) r2.2.2]) → (
    bif (!r2.2.2) then
      K (.tup [.v EfT (([] : List ((Int × List Int × List Int))), (0 : Int), (false, false, ([] : List Int)), (0 : Int), false), .v (.int .i64) (2 : Int)]) []
    else
    bif (decide (rv3.1 = rv3.2.1)) then
      bif (!rv3.2.2.1) then
        bif (!decide (op2 = ([99] : List Int))) then
          K (.tup [.v EfT (([] : List ((Int × List Int × List Int))), (0 : Int), (false, false, ([] : List Int)), (0 : Int), false), .v (.int .i64) (190 : Int)]) []
        else
        bif rv3.2.2.1 then
          bif (decide (op2 = ([100] : List Int))) then
            K (.tup [.v EfT (([] : List ((Int × List Int × List Int))), (0 : Int), (false, false, ([] : List Int)), (0 : Int), false), .v (.int .i64) (190 : Int)]) []
          else
            JP (t0, at1, rv3, r2.1, r2.2.1, count4) ∧ (
            ∀ (r3 : EfD × Int), r3 = JF (t0, at1, rv3, r2.1, r2.2.1, count4) → (
            wfR (.tup [.v EfT r3.1, .v (.int .i64) r3.2]) → (
            K (.tup [.v EfT r3.1, .v (.int .i64) r3.2]) [])))
        else
          JP (t0, at1, rv3, r2.1, r2.2.1, count4) ∧ (
          ∀ (r4 : EfD × Int), r4 = JF (t0, at1, rv3, r2.1, r2.2.1, count4) → (
          wfR (.tup [.v EfT r4.1, .v (.int .i64) r4.2]) → (
          K (.tup [.v EfT r4.1, .v (.int .i64) r4.2]) [])))
      else
      bif rv3.2.2.1 then
        bif (decide (op2 = ([100] : List Int))) then
          K (.tup [.v EfT (([] : List ((Int × List Int × List Int))), (0 : Int), (false, false, ([] : List Int)), (0 : Int), false), .v (.int .i64) (190 : Int)]) []
        else
          JP (t0, at1, rv3, r2.1, r2.2.1, count4) ∧ (
          ∀ (r5 : EfD × Int), r5 = JF (t0, at1, rv3, r2.1, r2.2.1, count4) → (
          wfR (.tup [.v EfT r5.1, .v (.int .i64) r5.2]) → (
          K (.tup [.v EfT r5.1, .v (.int .i64) r5.2]) [])))
      else
        JP (t0, at1, rv3, r2.1, r2.2.1, count4) ∧ (
        ∀ (r6 : EfD × Int), r6 = JF (t0, at1, rv3, r2.1, r2.2.1, count4) → (
        wfR (.tup [.v EfT r6.1, .v (.int .i64) r6.2]) → (
        K (.tup [.v EfT r6.1, .v (.int .i64) r6.2]) [])))
    else
      JP (t0, at1, rv3, r2.1, r2.2.1, count4) ∧ (
      ∀ (r7 : EfD × Int), r7 = JF (t0, at1, rv3, r2.1, r2.2.1, count4) → (
      wfR (.tup [.v EfT r7.1, .v (.int .i64) r7.2]) → (
      K (.tup [.v EfT r7.1, .v (.int .i64) r7.2]) []))))))))
def doF (JF : Job → Eff × Int) (t : List Int) (at_ : Int) (op : List Int) (r : Int × Int × Bool × Bool) (count : Int) : Eff × Int :=
  if oper_outside_F t at_ count 1 = true then (([], 0, (false, false, []), 0, false), 2)
  else if (oper_spanned_F t at_ r).2.2 = false then (([], 0, (false, false, []), 0, false), 2)
  else if r.1 = r.2.1 ∧ (r.2.2.1 = false ∧ op ≠ [99] ∨ r.2.2.1 = true ∧ op = [100]) then (([], 0, (false, false, []), 0, false), 190)
  else JF (t, at_, r, (oper_spanned_F t at_ r).1, (oper_spanned_F t at_ r).2.1, count)
theorem doBr_of (JP : Job → Prop) (JF : Job → Eff × Int) (t : List Int) (at_ : Int) (op : List Int) (r : Int × Int × Bool × Bool) (count : Int) (K : Res → List Cell → Prop)
    (hp : oper_outside_F t at_ count 1 = false → oper_spanned_P t at_ r ∧ ((oper_spanned_F t at_ r).2.2 = true → JP (t, at_, r, (oper_spanned_F t at_ r).1, (oper_spanned_F t at_ r).2.1, count)))
    (h : ∀ r' : Eff × Int, r' = doF JF t at_ op r count → K (.tup [.v EfT r'.1, .v (.int .i64) r'.2]) []) : doBr JP JF t at_ op r count K := by
  unfold doBr
  intro r1 h1 _
  refine brb (fun c => h (_, _) (by unfold doF; rw [if_pos (h1.symm.trans c)])) (fun c => ?_)
  have c := h1.symm.trans c
  obtain ⟨hp1, hp2⟩ := hp c
  refine ⟨hp1, fun r2 h2 _ => ?_⟩
  have hc : ¬ oper_outside_F t at_ count 1 = true := by rw [c]; simp
  subst h2
  refine brb (fun c2 => h (_, _) (by unfold doF; rw [if_neg hc, if_pos (by simpa using c2)])) (fun c2 => ?_)
  have c2 : (oper_spanned_F t at_ r).2.2 = true := by simpa using c2
  have hc2 : ¬ (oper_spanned_F t at_ r).2.2 = false := by rw [c2]; simp
  have hj := hp2 c2
  have fin : ¬ (r.1 = r.2.1 ∧ (r.2.2.1 = false ∧ op ≠ [99] ∨ r.2.2.1 = true ∧ op = [100])) → ∀ (r3 : Eff × Int), r3 = JF (t, at_, r, (oper_spanned_F t at_ r).1, (oper_spanned_F t at_ r).2.1, count) → K (.tup [.v EfT r3.1, .v (.int .i64) r3.2]) [] := fun hn r3 h3 => h r3 (by unfold doF; rw [if_neg hc, if_neg hc2, if_neg hn, h3])
  have bad : (r.1 = r.2.1 ∧ (r.2.2.1 = false ∧ op ≠ [99] ∨ r.2.2.1 = true ∧ op = [100])) → K (.tup [.v EfT (([], 0, (false, false, []), 0, false) : Eff), .v (.int .i64) (190 : Int)]) [] := fun hn => h (_, _) (by unfold doF; rw [if_neg hc, if_neg hc2, if_pos hn])
  refine brn (fun d1 => ?_) (fun d1 => ⟨hj, fun r3 h3 _ => fin (fun hn => d1 hn.1) r3 h3⟩)
  refine brb (fun d2 => ?_) (fun d2 => ?_)
  · have d2 : r.2.2.1 = false := by simpa using d2
    refine brx (fun d3 => bad ⟨d1, .inl ⟨d2, d3⟩⟩) (fun d3 => ?_)
    refine brb (fun d4 => by rw [d2] at d4; cases d4) (fun _ => ⟨hj, fun r3 h3 _ => fin (fun hn => ?_) r3 h3⟩)
    rcases hn.2 with hh | hh
    · exact hh.2 d3
    · rw [d2] at hh; cases hh.1
  · have d2 : r.2.2.1 = true := by simpa using d2
    refine brb (fun _ => brn (fun d3 => bad ⟨d1, .inr ⟨d2, d3⟩⟩) (fun d3 => ⟨hj, fun r3 h3 _ => fin (fun hn => ?_) r3 h3⟩)) (fun d4 => by rw [d2] at d4; cases d4)
    rcases hn.2 with hh | hh
    · rw [d2] at hh; cases hh.1
    · exact d3 hh.2
def knownOps : List (List Int) := [[100], [99], [121], [62], [60], [103, 126], [103, 117], [103, 85]]
def opP (op : List Int) : Job → Prop :=
  if op = [100] then oj_deleted_P else if op = [99] then oj_changed_P else if op = [121] then oj_yanked_P else if op = [62] then oj_indented_P else if op = [60] then oj_outdented_P
  else if op = [103, 126] then oo_1_P else if op = [103, 117] then oo_2_P else oo_3_P
def opF (op : List Int) : Job → Eff × Int :=
  if op = [100] then oj_deleted_F else if op = [99] then oj_changed_F else if op = [121] then oj_yanked_F else if op = [62] then oj_indented_F else if op = [60] then oj_outdented_F
  else if op = [103, 126] then oo_1_F else if op = [103, 117] then oo_2_F else oo_3_F
def oper_Do_P (t : List Int) (at_ : Int) (op : List Int) (r : Int × Int × Bool × Bool) (count : Int) : Prop :=
 op ∈ knownOps → oper_outside_F t at_ count 1 = false → oper_spanned_P t at_ r ∧ ((oper_spanned_F t at_ r).2.2 = true → opP op (t, at_, r, (oper_spanned_F t at_ r).1, (oper_spanned_F t at_ r).2.1, count))
def oper_Do_F (t : List Int) (at_ : Int) (op : List Int) (r : Int × Int × Bool × Bool) (count : Int) : Eff × Int := if op ∈ knownOps then doF (opF op) t at_ op r count else (([], 0, (false, false, []), 0, false), 2)
theorem oper_Do_sp (t : List Int) (at_ : Int) (op : List Int) (r : Int × Int × Bool × Bool) (count : Int) (K : Res → List Cell → Prop) (_ : wfA oper_Do_A (t, at_, op, r, count, ())) (hp : oper_Do_P t at_ op r count)
    (h : ∀ r' : Eff × Int, r' = oper_Do_F t at_ op r count → K (.tup [.v EfT r'.1, .v (.int .i64) r'.2]) []) : oper_Do_raw t at_ op r count K := by
  have key : ∀ JP JF, op ∈ knownOps → opP op = JP → opF op = JF → doBr JP JF t at_ op r count K := fun JP JF hk e1 e2 => by
    subst e1; subst e2
    exact doBr_of _ _ t at_ op r count K (hp hk) (fun r' hr' => h r' (by unfold oper_Do_F; rw [if_pos hk]; exact hr'))
  unfold oper_Do_raw
  refine brn (fun c => key oj_deleted_P oj_deleted_F (by rw [c]; decide) (by rw [c]; rfl) (by rw [c]; rfl)) (fun c1 => ?_)
  refine brn (fun c => key oj_changed_P oj_changed_F (by rw [c]; decide) (by rw [c]; rfl) (by rw [c]; rfl)) (fun c2 => ?_)
  refine brn (fun c => key oj_yanked_P oj_yanked_F (by rw [c]; decide) (by rw [c]; rfl) (by rw [c]; rfl)) (fun c3 => ?_)
  refine brn (fun c => key oj_indented_P oj_indented_F (by rw [c]; decide) (by rw [c]; rfl) (by rw [c]; rfl)) (fun c4 => ?_)
  refine brn (fun c => key oj_outdented_P oj_outdented_F (by rw [c]; decide) (by rw [c]; rfl) (by rw [c]; rfl)) (fun c5 => ?_)
  refine brn (fun c => key oo_1_P oo_1_F (by rw [c]; decide) (by rw [c]; rfl) (by rw [c]; rfl)) (fun c6 => ?_)
  refine brn (fun c => key oo_2_P oo_2_F (by rw [c]; decide) (by rw [c]; rfl) (by rw [c]; rfl)) (fun c7 => ?_)
  refine brn (fun c => key oo_3_P oo_3_F (by rw [c]; decide) (by rw [c]; rfl) (by rw [c]; rfl)) (fun c8 => ?_)
  have no : ¬ op ∈ knownOps := by
    simp only [knownOps, List.mem_cons, List.not_mem_nil, or_false, not_or]
    exact ⟨c1, c2, c3, c4, c5, c6, c7, c8⟩
  have e := h _ (by unfold oper_Do_F; rw [if_neg no])
  intro r1 _ _
  exact brb (fun _ => e) (fun _ => e)

def oper_Do_C (v : valsA oper_Do_A) (K : Res → List Cell → Prop) : Prop := oper_Do_P v.1 v.2.1 v.2.2.1 v.2.2.2.1 v.2.2.2.2.1 ∧ ∀ r : EfD × Int, r = oper_Do_F v.1 v.2.1 v.2.2.1 v.2.2.2.1 v.2.2.2.2.1 → K (.tup [.v EfT r.1, .v (.int .i64) r.2]) []
def oper_Do_S : App := specW oper_Do_A oper_Do_C
theorem oper_Do_wv (K : Res → List Cell → Prop) : ∀ v : valsA oper_Do_A, runF tb (getG oper_Do_G) oper_Do_BT Tryd.f28 [true, true] (mkA oper_Do_A v) K = oper_Do_raw v.1 v.2.1 v.2.2.1 v.2.2.2.1 v.2.2.2.2.1 K
  | (t0, at1, op2, rv3, count4, ()) => oper_Do_walk t0 at1 op2 rv3 count4 K
set_option maxRecDepth 20000 in
theorem oper_Do_ok : AppOk Tryd.prog 28 oper_Do_S :=
  AppOk.specW (spec_ok ((runF_ok tb_M tb_ok oper_Do_Gok (oper_Do_bT) (f := 28) (fn := Tryd.f28) (by kernel_rfl) (by kernel_rfl) oper_Do_st [true, true])) fun v K hw h => (oper_Do_wv K v).mpr (oper_Do_sp v.1 v.2.1 v.2.2.1 v.2.2.2.1 v.2.2.2.2.1 K hw h.1 h.2))

end Go.VE
namespace Go.VE
open Go Go.Proofs
/-! ### bytes.HasSuffix -/
def bytes_HasSuffix_G : List (Nat × App) := [(95, bytes_Equal_S)]
theorem bytes_HasSuffix_Gok : GOk Tryd.prog (getG bytes_HasSuffix_G) := GOk.cons bytes_Equal_ok (GOk.nil)
def bytes_HasSuffix_raw (s0 : List Int) (suffix1 : List Int) (K : Res → List Cell → Prop) : Prop :=
 bif (decide ((List.length suffix1 : Int) ≤ (List.length s0 : Int))) then
 bif decide (0 ≤ (IntKind.wrap .i64 ((List.length s0 : Int) - (List.length suffix1 : Int))) ∧ (IntKind.wrap .i64 ((List.length s0 : Int) - (List.length suffix1 : Int))) ≤ (List.length s0 : Int)) then
 ∀ (r1 : Bool), r1 = bytes_Equal_F (List.drop (Int.toNat (IntKind.wrap .i64 ((List.length s0 : Int) - (List.length suffix1 : Int)))) s0) suffix1 → (
 wfR (.one (.v (.bool) r1)) → (
 K (.one (.v (.bool) r1)) []))
 else False
 else
 K (.one (.v (.bool) false)) []
def bytes_HasSuffix_A : List AS := [.v (.sl (.int .u8)), .v (.sl (.int .u8))]
theorem bytes_HasSuffix_walk (s0 : List Int) (suffix1 : List Int) (K : Res → List Cell → Prop) : runF tb (getG bytes_HasSuffix_G) [] Tryd.f61 [true] (mkA bytes_HasSuffix_A (s0, suffix1, ())) K = bytes_HasSuffix_raw s0 suffix1 K := by kernel_rfl

def bytes_HasSuffix_P (s0 : List Int) (suffix1 : List Int) : Prop :=
 bif (decide ((List.length suffix1 : Int) ≤ (List.length s0 : Int))) then
 (0 ≤ (IntKind.wrap .i64 ((List.length s0 : Int) - (List.length suffix1 : Int))) ∧ (IntKind.wrap .i64 ((List.length s0 : Int) - (List.length suffix1 : Int))) ≤ (List.length s0 : Int))
 else
 True
def bytes_HasSuffix_F (s0 : List Int) (suffix1 : List Int) : Bool :=
 bif (decide ((List.length suffix1 : Int) ≤ (List.length s0 : Int))) then
 let r1 : Bool := bytes_Equal_F (List.drop (Int.toNat (IntKind.wrap .i64 ((List.length s0 : Int) - (List.length suffix1 : Int)))) s0) suffix1
 r1
 else
 false
set_option maxRecDepth 20000 in
theorem bytes_HasSuffix_sp (s0 : List Int) (suffix1 : List Int) (K : Res → List Cell → Prop) (_ : wfA bytes_HasSuffix_A (s0, suffix1, ())) (hp : bytes_HasSuffix_P s0 suffix1) (h : ∀ r : Bool, r = bytes_HasSuffix_F s0 suffix1 → K (.one (.v (.bool) r)) []) : bytes_HasSuffix_raw s0 suffix1 K := by
  unfold bytes_HasSuffix_raw
  unfold bytes_HasSuffix_P at hp
  refine brb (fun c_1 => ?_) (fun c_1 => ?_)
  ·
    replace hp := cT c_1 hp
    refine asrt hp ?_
    intro r1 hr1
    subst r1
    intro _
    exact h _ ((ctrue c_1) : bytes_HasSuffix_F s0 suffix1 = _).symm
  ·
    clear hp
    exact h _ ((cfalse c_1) : bytes_HasSuffix_F s0 suffix1 = _).symm
def bytes_HasSuffix_C (v : valsA bytes_HasSuffix_A) (K : Res → List Cell → Prop) : Prop := bytes_HasSuffix_P v.1 v.2.1 ∧ ∀ r : Bool, r = bytes_HasSuffix_F v.1 v.2.1 → K (.one (.v (.bool) r)) []
def bytes_HasSuffix_S : App := specW bytes_HasSuffix_A bytes_HasSuffix_C
theorem bytes_HasSuffix_wv (K : Res → List Cell → Prop) : ∀ v : valsA bytes_HasSuffix_A, runF tb (getG bytes_HasSuffix_G) [] Tryd.f61 [true] (mkA bytes_HasSuffix_A v) K = bytes_HasSuffix_raw v.1 v.2.1 K
  | (s0, suffix1, ()) => bytes_HasSuffix_walk s0 suffix1 K
set_option maxRecDepth 20000 in
theorem bytes_HasSuffix_ok : AppOk Tryd.prog 61 bytes_HasSuffix_S :=
  AppOk.specW (spec_ok ((runF_ok tb_M tb_ok bytes_HasSuffix_Gok (LabsOk.nil) (f := 61) (fn := Tryd.f61) (by kernel_rfl) (by kernel_rfl) (by kernel_rfl) [true])) fun v K hw h => (bytes_HasSuffix_wv K v).mpr (bytes_HasSuffix_sp v.1 v.2.1 K hw h.1 h.2))

end Go.VE
namespace Go.VE
open Go Go.Proofs
/-! ### quoin/oper.within -/
def oper_within_G : List (Nat × App) := []
theorem oper_within_Gok : GOk Tryd.prog (getG oper_within_G) := GOk.nil
def oper_within_raw (t0 : List Int) (at1 : Int) (K : Res → List Cell → Prop) : Prop :=
 bif (decide (at1 < (List.length t0 : Int))) then
 bif decide (0 ≤ at1 ∧ at1 < (List.length t0 : Int)) then
 K (.one (.v (.bool) (!decide ((rd (0 : Int) t0 at1) = (10 : Int))))) []
 else False
 else
 K (.one (.v (.bool) false)) []
def oper_within_A : List AS := [.v (.sl (.int .u8)), .v (.int .i64)]
theorem oper_within_walk (t0 : List Int) (at1 : Int) (K : Res → List Cell → Prop) : runF tb (getG oper_within_G) [] Tryd.f63 [true] (mkA oper_within_A (t0, at1, ())) K = oper_within_raw t0 at1 K := by kernel_rfl

def oper_within_P (t0 : List Int) (at1 : Int) : Prop :=
 bif (decide (at1 < (List.length t0 : Int))) then
 (0 ≤ at1 ∧ at1 < (List.length t0 : Int))
 else
 True
def oper_within_F (t0 : List Int) (at1 : Int) : Bool :=
 bif (decide (at1 < (List.length t0 : Int))) then
 (!decide ((rd (0 : Int) t0 at1) = (10 : Int)))
 else
 false
set_option maxRecDepth 20000 in
theorem oper_within_sp (t0 : List Int) (at1 : Int) (K : Res → List Cell → Prop) (_ : wfA oper_within_A (t0, at1, ())) (hp : oper_within_P t0 at1) (h : ∀ r : Bool, r = oper_within_F t0 at1 → K (.one (.v (.bool) r)) []) : oper_within_raw t0 at1 K := by
  unfold oper_within_raw
  unfold oper_within_P at hp
  refine brb (fun c_1 => ?_) (fun c_1 => ?_)
  ·
    replace hp := cT c_1 hp
    refine asrt hp ?_
    exact h _ ((ctrue c_1) : oper_within_F t0 at1 = _).symm
  ·
    clear hp
    exact h _ ((cfalse c_1) : oper_within_F t0 at1 = _).symm
def oper_within_C (v : valsA oper_within_A) (K : Res → List Cell → Prop) : Prop := oper_within_P v.1 v.2.1 ∧ ∀ r : Bool, r = oper_within_F v.1 v.2.1 → K (.one (.v (.bool) r)) []
def oper_within_S : App := specW oper_within_A oper_within_C
theorem oper_within_wv (K : Res → List Cell → Prop) : ∀ v : valsA oper_within_A, runF tb (getG oper_within_G) [] Tryd.f63 [true] (mkA oper_within_A v) K = oper_within_raw v.1 v.2.1 K
  | (t0, at1, ()) => oper_within_walk t0 at1 K
set_option maxRecDepth 20000 in
theorem oper_within_ok : AppOk Tryd.prog 63 oper_within_S :=
  AppOk.specW (spec_ok ((runF_ok tb_M tb_ok oper_within_Gok (LabsOk.nil) (f := 63) (fn := Tryd.f63) (by kernel_rfl) (by kernel_rfl) (by kernel_rfl) [true])) fun v K hw h => (oper_within_wv K v).mpr (oper_within_sp v.1 v.2.1 K hw h.1 h.2))

end Go.VE
namespace Go.VE
open Go Go.Proofs
/-! ### quoin/oper.Put -/
def oper_Put_G : List (Nat × App) := [(59, oper_outside_S), (60, bytes_Clone_S), (61, bytes_HasSuffix_S), (62, bytes_Repeat_S), (63, oper_within_S), (64, oper_edited_S), (43, bytes_IndexByte_S), (65, lines_Of_S), (31, lines_Start_S), (67, oper_with_S), (66, lines_First_S)]
theorem oper_Put_Gok : GOk Tryd.prog (getG oper_Put_G) := GOk.cons oper_outside_ok (GOk.cons bytes_Clone_ok (GOk.cons bytes_HasSuffix_ok (GOk.cons bytes_Repeat_ok (GOk.cons oper_within_ok (GOk.cons oper_edited_ok (GOk.cons bytes_IndexByte_ok (GOk.cons lines_Of_ok (GOk.cons lines_Start_ok (GOk.cons oper_with_ok (GOk.cons lines_First_ok (GOk.nil)))))))))))
theorem oper_Put_st : storesC (bodyOf Tryd.f21) = true := by kernel_rfl
def oper_Put_d0 : List LS := [.v 0 (.sl (.int .u8)), .v 1 (.int .i64), .b 10 80 [], .o 12 101 5 (.int .u8), .o 13 109 5 (.int .u8), .c 80 EfT]
def oper_Put_d0r : List LS := [.b 10 80 [], .v 11 (.int .i64), .c 80 EfT]
def oper_Put_dx0 : DX := ⟨none, some oper_Put_d0r, []⟩
def oper_Put_J0 (kr : Int → EfD → Prop) (t0 : List Int) (at1 : Int) (p12 : List Int) (all13 : List Int) (x10b : EfD) : Prop :=
 oper_edited_P t0 at1 at1 all13 ∧ (
 ∀ (r6 : List ((Int × List Int × List Int))), r6 = oper_edited_F t0 at1 at1 all13 → (
 wfR (.one (.fr 95 (.st (.pair (.int .i64) (.pair (.sl (.int .u8)) (.sl (.int .u8))))) r6)) → (
 ∀ (r7 : Int), r7 = bytes_IndexByte_F p12 (10 : Int) → (
 wfR (.one (.v (.int .i64) r7)) → (
 bif (decide ((0 : Int) ≤ r7)) then
 kr (0 : Int) (r6, at1, (false, false, ([] : List Int)), (0 : Int), false)
 else
 kr (0 : Int) (r6, (IntKind.wrap .i64 ((IntKind.wrap .i64 (at1 + (List.length all13 : Int))) - (1 : Int))), (false, false, ([] : List Int)), (0 : Int), false))))))
theorem oper_Put_s0 (k : Ex → St → Prop) (t0 : List Int) (at1 : Int) (p12 : List Int) (all13 : List Int) (x10b : EfD) :
    ex tb (getG oper_Put_G) [] (at' (bodyOf Tryd.f21) [1, 1, 0, 1, 0, 1, 1, 1, 1, 1, 1, 1]) [1, 1, 0, 1, 0, 1, 1, 1, 1, 1, 1, 1] (mkD 130 oper_Put_d0 (t0, at1, p12, all13, x10b, ())) (wk 130 oper_Put_dx0 k) =
    oper_Put_J0 (fun x11 x10b => wfD oper_Put_d0r (x11, x10b, ()) → k .ret (mkD 130 oper_Put_d0r (x11, x10b, ()))) t0 at1 p12 all13 x10b := by kernel_rfl
theorem oper_Put_v0 (k : Ex → St → Prop) : ∀ v : vals oper_Put_d0, ex tb (getG oper_Put_G) [] (at' (bodyOf Tryd.f21) [1, 1, 0, 1, 0, 1, 1, 1, 1, 1, 1, 1]) [1, 1, 0, 1, 0, 1, 1, 1, 1, 1, 1, 1] (mkD 130 oper_Put_d0 v) (wk 130 oper_Put_dx0 k) = oper_Put_J0 (fun x11 x10b => wfD oper_Put_d0r (x11, x10b, ()) → k .ret (mkD 130 oper_Put_d0r (x11, x10b, ()))) v.1 v.2.1 v.2.2.1 v.2.2.2.1 v.2.2.2.2.1
  | (t0, at1, p12, all13, x10b, ()) => oper_Put_s0 k t0 at1 p12 all13 x10b
def oper_Put_X0 : Pce := fun st k => ckD 130 oper_Put_d0 st fun v => wfD oper_Put_d0 v → oper_Put_J0 (fun x11 x10b => wfD oper_Put_d0r (x11, x10b, ()) → k .ret (mkD 130 oper_Put_d0r (x11, x10b, ()))) v.1 v.2.1 v.2.2.1 v.2.2.2.1 v.2.2.2.2.1
set_option maxRecDepth 20000 in
theorem oper_Put_x0 : SemOk Tryd.prog (at' (bodyOf Tryd.f21) [1, 1, 0, 1, 0, 1, 1, 1, 1, 1, 1, 1]) oper_Put_X0 :=
  (SemOk.wk (N := 130) (ds := oper_Put_d0) (dx := oper_Put_dx0) (ex_sound tb_M tb_ok oper_Put_Gok (LabsOk.nil) (at' (bodyOf Tryd.f21) [1, 1, 0, 1, 0, 1, 1, 1, 1, 1, 1, 1]) [1, 1, 0, 1, 0, 1, 1, 1, 1, 1, 1, 1] rfl (storesC_at oper_Put_st [1, 1, 0, 1, 0, 1, 1, 1, 1, 1, 1, 1]))).mono fun st k h => ckD_mono h fun v hv hw => Eq.mpr (oper_Put_v0 k v) (hv hw)
def oper_Put_B0 : Labs := ([1, 1, 0, 1, 0, 1, 1, 1, 1, 1, 1, 1], oper_Put_X0) :: []
theorem oper_Put_b0 : LabsOk Tryd.prog (bodyOf Tryd.f21) oper_Put_B0 := LabsOk.cons oper_Put_x0 (LabsOk.nil)
def oper_Put_d1 : List LS := [.v 0 (.sl (.int .u8)), .b 10 80 [], .o 13 109 5 (.int .u8), .v 15 (.int .i64), .v 17 (.int .i64), .c 80 EfT]
def oper_Put_d1r : List LS := [.b 10 80 [], .v 11 (.int .i64), .c 80 EfT]
def oper_Put_dx1 : DX := ⟨none, some oper_Put_d1r, []⟩
def oper_Put_J1 (kr : Int → EfD → Prop) (t0 : List Int) (all13 : List Int) (line15 : Int) (place17 : Int) (x10b : EfD) : Prop :=
 oper_edited_P t0 place17 place17 all13 ∧ (
 ∀ (r10 : List ((Int × List Int × List Int))), r10 = oper_edited_F t0 place17 place17 all13 → (
 wfR (.one (.fr 95 (.st (.pair (.int .i64) (.pair (.sl (.int .u8)) (.sl (.int .u8))))) r10)) → (
 oper_with_P t0 r10 ∧ (
 ∀ (r11 : List Int), r11 = oper_with_F t0 r10 → (
 wfR (.one (.fr 5 (.int .u8) r11)) → (
 ∀ (r12 : Int × Int), r12 = lines_First_F r11 line15 → (
 wfR (.tup [.v (.int .i64) r12.1, .v (.int .i64) r12.2]) → (
 kr (0 : Int) (r10, r12.1, (false, false, ([] : List Int)), (0 : Int), false)))))))))
theorem oper_Put_s1 (k : Ex → St → Prop) (t0 : List Int) (all13 : List Int) (line15 : Int) (place17 : Int) (x10b : EfD) :
    ex tb (getG oper_Put_G) oper_Put_B0 (at' (bodyOf Tryd.f21) [1, 1, 1, 1, 1, 1, 1, 1, 1, 1, 1, 1]) [1, 1, 1, 1, 1, 1, 1, 1, 1, 1, 1, 1] (mkD 130 oper_Put_d1 (t0, all13, line15, place17, x10b, ())) (wk 130 oper_Put_dx1 k) =
    oper_Put_J1 (fun x11 x10b => wfD oper_Put_d1r (x11, x10b, ()) → k .ret (mkD 130 oper_Put_d1r (x11, x10b, ()))) t0 all13 line15 place17 x10b := by kernel_rfl
theorem oper_Put_v1 (k : Ex → St → Prop) : ∀ v : vals oper_Put_d1, ex tb (getG oper_Put_G) oper_Put_B0 (at' (bodyOf Tryd.f21) [1, 1, 1, 1, 1, 1, 1, 1, 1, 1, 1, 1]) [1, 1, 1, 1, 1, 1, 1, 1, 1, 1, 1, 1] (mkD 130 oper_Put_d1 v) (wk 130 oper_Put_dx1 k) = oper_Put_J1 (fun x11 x10b => wfD oper_Put_d1r (x11, x10b, ()) → k .ret (mkD 130 oper_Put_d1r (x11, x10b, ()))) v.1 v.2.1 v.2.2.1 v.2.2.2.1 v.2.2.2.2.1
  | (t0, all13, line15, place17, x10b, ()) => oper_Put_s1 k t0 all13 line15 place17 x10b
def oper_Put_X1 : Pce := fun st k => ckD 130 oper_Put_d1 st fun v => wfD oper_Put_d1 v → oper_Put_J1 (fun x11 x10b => wfD oper_Put_d1r (x11, x10b, ()) → k .ret (mkD 130 oper_Put_d1r (x11, x10b, ()))) v.1 v.2.1 v.2.2.1 v.2.2.2.1 v.2.2.2.2.1
set_option maxRecDepth 20000 in
theorem oper_Put_x1 : SemOk Tryd.prog (at' (bodyOf Tryd.f21) [1, 1, 1, 1, 1, 1, 1, 1, 1, 1, 1, 1]) oper_Put_X1 :=
  (SemOk.wk (N := 130) (ds := oper_Put_d1) (dx := oper_Put_dx1) (ex_sound tb_M tb_ok oper_Put_Gok (oper_Put_b0) (at' (bodyOf Tryd.f21) [1, 1, 1, 1, 1, 1, 1, 1, 1, 1, 1, 1]) [1, 1, 1, 1, 1, 1, 1, 1, 1, 1, 1, 1] rfl (storesC_at oper_Put_st [1, 1, 1, 1, 1, 1, 1, 1, 1, 1, 1, 1]))).mono fun st k h => ckD_mono h fun v hv hw => Eq.mpr (oper_Put_v1 k v) (hv hw)
def oper_Put_B1 : Labs := ([1, 1, 1, 1, 1, 1, 1, 1, 1, 1, 1, 1], oper_Put_X1) :: oper_Put_B0
theorem oper_Put_b1 : LabsOk Tryd.prog (bodyOf Tryd.f21) oper_Put_B1 := LabsOk.cons oper_Put_x1 (oper_Put_b0)
def oper_Put_d2 : List LS := [.v 0 (.sl (.int .u8)), .b 10 80 [], .o 13 109 5 (.int .u8), .v 15 (.int .i64), .c 80 EfT]
def oper_Put_d2r : List LS := [.b 10 80 [], .v 11 (.int .i64), .c 80 EfT]
def oper_Put_dx2 : DX := ⟨none, some oper_Put_d2r, []⟩
def oper_Put_J2 (kr : Int → EfD → Prop) (t0 : List Int) (all13 : List Int) (line15 : Int) (x10b : EfD) : Prop :=
 ∀ (r9 : Int × Int), r9 = lines_Start_F t0 line15 → (
 wfR (.tup [.v (.int .i64) r9.1, .v (.int .i64) r9.2]) → (
 bif (!decide (r9.2 = (0 : Int))) then
 bif decide (0 ≤ (IntKind.wrap .i64 ((List.length all13 : Int) - (1 : Int))) ∧ (IntKind.wrap .i64 ((List.length all13 : Int) - (1 : Int))) ≤ (List.length all13 : Int)) then
 bif decide (List.length ([(10 : Int)] : List Int) + List.length (List.take (Int.toNat (IntKind.wrap .i64 ((List.length all13 : Int) - (1 : Int)))) all13) ≤ lim) then
 (wfD oper_Put_d1 (t0, (([(10 : Int)] : List Int) ++ (List.take (Int.toNat (IntKind.wrap .i64 ((List.length all13 : Int) - (1 : Int)))) all13)), line15, (List.length t0 : Int), x10b, ()) → oper_Put_J1 (fun (x11 : Int) (x10b : EfD) => wfD oper_Put_d1r (x11, x10b, ()) → (
 kr x11 x10b)) t0 (([(10 : Int)] : List Int) ++ (List.take (Int.toNat (IntKind.wrap .i64 ((List.length all13 : Int) - (1 : Int)))) all13)) line15 (List.length t0 : Int) x10b)
 else False
 else False
 else
 (wfD oper_Put_d1 (t0, all13, line15, r9.1, x10b, ()) → oper_Put_J1 (fun (x11 : Int) (x10b : EfD) => wfD oper_Put_d1r (x11, x10b, ()) → (
 kr x11 x10b)) t0 all13 line15 r9.1 x10b)))
theorem oper_Put_s2 (k : Ex → St → Prop) (t0 : List Int) (all13 : List Int) (line15 : Int) (x10b : EfD) :
    ex tb (getG oper_Put_G) oper_Put_B1 (at' (bodyOf Tryd.f21) [1, 1, 1, 1, 1, 1, 1, 1, 1, 1]) [1, 1, 1, 1, 1, 1, 1, 1, 1, 1] (mkD 130 oper_Put_d2 (t0, all13, line15, x10b, ())) (wk 130 oper_Put_dx2 k) =
    oper_Put_J2 (fun x11 x10b => wfD oper_Put_d2r (x11, x10b, ()) → k .ret (mkD 130 oper_Put_d2r (x11, x10b, ()))) t0 all13 line15 x10b := by kernel_rfl
theorem oper_Put_v2 (k : Ex → St → Prop) : ∀ v : vals oper_Put_d2, ex tb (getG oper_Put_G) oper_Put_B1 (at' (bodyOf Tryd.f21) [1, 1, 1, 1, 1, 1, 1, 1, 1, 1]) [1, 1, 1, 1, 1, 1, 1, 1, 1, 1] (mkD 130 oper_Put_d2 v) (wk 130 oper_Put_dx2 k) = oper_Put_J2 (fun x11 x10b => wfD oper_Put_d2r (x11, x10b, ()) → k .ret (mkD 130 oper_Put_d2r (x11, x10b, ()))) v.1 v.2.1 v.2.2.1 v.2.2.2.1
  | (t0, all13, line15, x10b, ()) => oper_Put_s2 k t0 all13 line15 x10b
def oper_Put_X2 : Pce := fun st k => ckD 130 oper_Put_d2 st fun v => wfD oper_Put_d2 v → oper_Put_J2 (fun x11 x10b => wfD oper_Put_d2r (x11, x10b, ()) → k .ret (mkD 130 oper_Put_d2r (x11, x10b, ()))) v.1 v.2.1 v.2.2.1 v.2.2.2.1
set_option maxRecDepth 20000 in
theorem oper_Put_x2 : SemOk Tryd.prog (at' (bodyOf Tryd.f21) [1, 1, 1, 1, 1, 1, 1, 1, 1, 1]) oper_Put_X2 :=
  (SemOk.wk (N := 130) (ds := oper_Put_d2) (dx := oper_Put_dx2) (ex_sound tb_M tb_ok oper_Put_Gok (oper_Put_b1) (at' (bodyOf Tryd.f21) [1, 1, 1, 1, 1, 1, 1, 1, 1, 1]) [1, 1, 1, 1, 1, 1, 1, 1, 1, 1] rfl (storesC_at oper_Put_st [1, 1, 1, 1, 1, 1, 1, 1, 1, 1]))).mono fun st k h => ckD_mono h fun v hv hw => Eq.mpr (oper_Put_v2 k v) (hv hw)
def oper_Put_B2 : Labs := ([1, 1, 1, 1, 1, 1, 1, 1, 1, 1], oper_Put_X2) :: oper_Put_B1
theorem oper_Put_b2 : LabsOk Tryd.prog (bodyOf Tryd.f21) oper_Put_B2 := LabsOk.cons oper_Put_x2 (oper_Put_b1)
def oper_Put_d3 : List LS := [.v 0 (.sl (.int .u8)), .v 1 (.int .i64), .v 2 (.int .i64), .v 4 (.bool), .b 8 64 [], .b 10 80 [], .o 12 101 5 (.int .u8), .c 64 (.st (.pair (.bool) (.pair (.bool) (.sl (.int .u8))))), .c 80 EfT]
def oper_Put_d3r : List LS := [.b 10 80 [], .v 11 (.int .i64), .c 80 EfT]
def oper_Put_dx3 : DX := ⟨none, some oper_Put_d3r, []⟩
def oper_Put_J3 (kr : Int → EfD → Prop) (t0 : List Int) (at1 : Int) (count2 : Int) (ahead4 : Bool) (p12 : List Int) (rv8b : (Bool × Bool × List Int)) (x10b : EfD) : Prop :=
 bif (decide ((65536 : Int) < (IntKind.wrap .i64 ((List.length p12 : Int) * count2)))) then
 kr (1 : Int) (([] : List ((Int × List Int × List Int))), (0 : Int), (false, false, ([] : List Int)), (0 : Int), false)
 else
 bytes_Repeat_P p12 count2 ∧ (
 ∀ (r4 : List Int), r4 = bytes_Repeat_F p12 count2 → (
 wfR (.one (.fr 5 (.int .u8) r4)) → (
 bif (!rv8b.2.1) then
 bif (decide ((List.length r4 : Int) = (0 : Int))) then
 kr (0 : Int) (([] : List ((Int × List Int × List Int))), at1, (false, false, ([] : List Int)), (0 : Int), false)
 else
 bif (!ahead4) then
 oper_within_P t0 at1 ∧ (
 ∀ (r5 : Bool), r5 = oper_within_F t0 at1 → (
 wfR (.one (.v (.bool) r5)) → (
 bif r5 then
 (wfD oper_Put_d0 (t0, (IntKind.wrap .i64 (at1 + (1 : Int))), p12, r4, x10b, ()) → oper_Put_J0 (fun (x11 : Int) (x10b : EfD) => wfD oper_Put_d0r (x11, x10b, ()) → (
 kr x11 x10b)) t0 (IntKind.wrap .i64 (at1 + (1 : Int))) p12 r4 x10b)
 else
 (wfD oper_Put_d0 (t0, at1, p12, r4, x10b, ()) → oper_Put_J0 (fun (x11 : Int) (x10b : EfD) => wfD oper_Put_d0r (x11, x10b, ()) → (
 kr x11 x10b)) t0 at1 p12 r4 x10b))))
 else
 (wfD oper_Put_d0 (t0, at1, p12, r4, x10b, ()) → oper_Put_J0 (fun (x11 : Int) (x10b : EfD) => wfD oper_Put_d0r (x11, x10b, ()) → (
 kr x11 x10b)) t0 at1 p12 r4 x10b)
 else
 lines_Of_P t0 at1 ∧ (
 ∀ (r8 : Int × Int), r8 = lines_Of_F t0 at1 → (
 wfR (.tup [.v (.int .i64) r8.1, .v (.int .i64) r8.2]) → (
 bif (!ahead4) then
 (wfD oper_Put_d2 (t0, r4, (IntKind.wrap .i64 (r8.1 + (1 : Int))), x10b, ()) → oper_Put_J2 (fun (x11 : Int) (x10b : EfD) => wfD oper_Put_d2r (x11, x10b, ()) → (
 kr x11 x10b)) t0 r4 (IntKind.wrap .i64 (r8.1 + (1 : Int))) x10b)
 else
 (wfD oper_Put_d2 (t0, r4, r8.1, x10b, ()) → oper_Put_J2 (fun (x11 : Int) (x10b : EfD) => wfD oper_Put_d2r (x11, x10b, ()) → (
 kr x11 x10b)) t0 r4 r8.1 x10b)))))))
theorem oper_Put_s3 (k : Ex → St → Prop) (t0 : List Int) (at1 : Int) (count2 : Int) (ahead4 : Bool) (p12 : List Int) (rv8b : (Bool × Bool × List Int)) (x10b : EfD) :
    ex tb (getG oper_Put_G) oper_Put_B2 (at' (bodyOf Tryd.f21) [1, 1, 1, 1, 1]) [1, 1, 1, 1, 1] (mkD 130 oper_Put_d3 (t0, at1, count2, ahead4, p12, rv8b, x10b, ())) (wk 130 oper_Put_dx3 k) =
    oper_Put_J3 (fun x11 x10b => wfD oper_Put_d3r (x11, x10b, ()) → k .ret (mkD 130 oper_Put_d3r (x11, x10b, ()))) t0 at1 count2 ahead4 p12 rv8b x10b := by kernel_rfl
theorem oper_Put_v3 (k : Ex → St → Prop) : ∀ v : vals oper_Put_d3, ex tb (getG oper_Put_G) oper_Put_B2 (at' (bodyOf Tryd.f21) [1, 1, 1, 1, 1]) [1, 1, 1, 1, 1] (mkD 130 oper_Put_d3 v) (wk 130 oper_Put_dx3 k) = oper_Put_J3 (fun x11 x10b => wfD oper_Put_d3r (x11, x10b, ()) → k .ret (mkD 130 oper_Put_d3r (x11, x10b, ()))) v.1 v.2.1 v.2.2.1 v.2.2.2.1 v.2.2.2.2.1 v.2.2.2.2.2.1 v.2.2.2.2.2.2.1
  | (t0, at1, count2, ahead4, p12, rv8b, x10b, ()) => oper_Put_s3 k t0 at1 count2 ahead4 p12 rv8b x10b
def oper_Put_X3 : Pce := fun st k => ckD 130 oper_Put_d3 st fun v => wfD oper_Put_d3 v → oper_Put_J3 (fun x11 x10b => wfD oper_Put_d3r (x11, x10b, ()) → k .ret (mkD 130 oper_Put_d3r (x11, x10b, ()))) v.1 v.2.1 v.2.2.1 v.2.2.2.1 v.2.2.2.2.1 v.2.2.2.2.2.1 v.2.2.2.2.2.2.1
set_option maxRecDepth 20000 in
theorem oper_Put_x3 : SemOk Tryd.prog (at' (bodyOf Tryd.f21) [1, 1, 1, 1, 1]) oper_Put_X3 :=
  (SemOk.wk (N := 130) (ds := oper_Put_d3) (dx := oper_Put_dx3) (ex_sound tb_M tb_ok oper_Put_Gok (oper_Put_b2) (at' (bodyOf Tryd.f21) [1, 1, 1, 1, 1]) [1, 1, 1, 1, 1] rfl (storesC_at oper_Put_st [1, 1, 1, 1, 1]))).mono fun st k h => ckD_mono h fun v hv hw => Eq.mpr (oper_Put_v3 k v) (hv hw)
def oper_Put_B3 : Labs := ([1, 1, 1, 1, 1], oper_Put_X3) :: oper_Put_B2
theorem oper_Put_b3 : LabsOk Tryd.prog (bodyOf Tryd.f21) oper_Put_B3 := LabsOk.cons oper_Put_x3 (oper_Put_b2)
def oper_Put_raw (t0 : List Int) (at1 : Int) (count2 : Int) (rv3 : (Bool × Bool × List Int)) (ahead4 : Bool) (K : Res → List Cell → Prop) : Prop :=
 ∀ (r1 : Bool), r1 = oper_outside_F t0 at1 count2 (1 : Int) → (
 wfR (.one (.v (.bool) r1)) → (
 bif r1 then
 K (.tup [.v EfT (([] : List ((Int × List Int × List Int))), (0 : Int), (false, false, ([] : List Int)), (0 : Int), false), .v (.int .i64) (2 : Int)]) []
 else
 bif (!rv3.1) then
 K (.tup [.v EfT (([] : List ((Int × List Int × List Int))), (0 : Int), (false, false, ([] : List Int)), (0 : Int), false), .v (.int .i64) (151 : Int)]) []
 else
 bytes_Clone_P rv3.2.2 ∧ (
 ∀ (r2 : List Int), r2 = bytes_Clone_F rv3.2.2 → (
 wfR (.one (.fr 5 (.int .u8) r2)) → (
 bif rv3.2.1 then
 bytes_HasSuffix_P r2 ([(10 : Int)] : List Int) ∧ (
 ∀ (r3 : Bool), r3 = bytes_HasSuffix_F r2 ([(10 : Int)] : List Int) → (
 wfR (.one (.v (.bool) r3)) → (
 bif (!r3) then
 bif decide (List.length r2 + List.length ([(10 : Int)] : List Int) ≤ lim) then
 (wfD oper_Put_d3 (t0, at1, count2, ahead4, (r2 ++ ([(10 : Int)] : List Int)), rv3, (([] : List ((Int × List Int × List Int))), (0 : Int), (false, false, ([] : List Int)), (0 : Int), false), ()) → oper_Put_J3 (fun (x11 : Int) (x10b : EfD) => wfD oper_Put_d3r (x11, x10b, ()) → (
 K (.tup [.v EfT x10b, .v (.int .i64) x11]) [])) t0 at1 count2 ahead4 (r2 ++ ([(10 : Int)] : List Int)) rv3 (([] : List ((Int × List Int × List Int))), (0 : Int), (false, false, ([] : List Int)), (0 : Int), false))
 else False
 else
 (wfD oper_Put_d3 (t0, at1, count2, ahead4, r2, rv3, (([] : List ((Int × List Int × List Int))), (0 : Int), (false, false, ([] : List Int)), (0 : Int), false), ()) → oper_Put_J3 (fun (x11 : Int) (x10b : EfD) => wfD oper_Put_d3r (x11, x10b, ()) → (
 K (.tup [.v EfT x10b, .v (.int .i64) x11]) [])) t0 at1 count2 ahead4 r2 rv3 (([] : List ((Int × List Int × List Int))), (0 : Int), (false, false, ([] : List Int)), (0 : Int), false)))))
 else
 (wfD oper_Put_d3 (t0, at1, count2, ahead4, r2, rv3, (([] : List ((Int × List Int × List Int))), (0 : Int), (false, false, ([] : List Int)), (0 : Int), false), ()) → oper_Put_J3 (fun (x11 : Int) (x10b : EfD) => wfD oper_Put_d3r (x11, x10b, ()) → (
 K (.tup [.v EfT x10b, .v (.int .i64) x11]) [])) t0 at1 count2 ahead4 r2 rv3 (([] : List ((Int × List Int × List Int))), (0 : Int), (false, false, ([] : List Int)), (0 : Int), false)))))))
def oper_Put_A : List AS := [.v (.sl (.int .u8)), .v (.int .i64), .v (.int .i64), .v (.st (.pair (.bool) (.pair (.bool) (.sl (.int .u8))))), .v (.bool)]
theorem oper_Put_walk (t0 : List Int) (at1 : Int) (count2 : Int) (rv3 : (Bool × Bool × List Int)) (ahead4 : Bool) (K : Res → List Cell → Prop) : runF tb (getG oper_Put_G) oper_Put_B3 Tryd.f21 [true, true] (mkA oper_Put_A (t0, at1, count2, rv3, ahead4, ())) K = oper_Put_raw t0 at1 count2 rv3 ahead4 K := by kernel_rfl

def oper_Put_J0_P (t0 : List Int) (at1 : Int) (p12 : List Int) (all13 : List Int) (x10b : EfD) : Prop :=
 oper_edited_P t0 at1 at1 all13
def oper_Put_J0_F (t0 : List Int) (at1 : Int) (p12 : List Int) (all13 : List Int) (x10b : EfD) : Int × EfD :=
 let r6 : List ((Int × List Int × List Int)) := oper_edited_F t0 at1 at1 all13
 let r7 : Int := bytes_IndexByte_F p12 (10 : Int)
 bif (decide ((0 : Int) ≤ r7)) then
 ((0 : Int), (r6, at1, (false, false, ([] : List Int)), (0 : Int), false))
 else
 ((0 : Int), (r6, (IntKind.wrap .i64 ((IntKind.wrap .i64 (at1 + (List.length all13 : Int))) - (1 : Int))), (false, false, ([] : List Int)), (0 : Int), false))
set_option maxRecDepth 20000 in
theorem oper_Put_J0_sp (kr : Int → EfD → Prop) (t0 : List Int) (at1 : Int) (p12 : List Int) (all13 : List Int) (x10b : EfD) (hp : oper_Put_J0_P t0 at1 p12 all13 x10b) (hr : ∀ q : Int × EfD, q = oper_Put_J0_F t0 at1 p12 all13 x10b → kr q.1 q.2) : oper_Put_J0 kr t0 at1 p12 all13 x10b := by
  unfold oper_Put_J0
  unfold oper_Put_J0_P at hp
  refine ⟨hp, ?_⟩
  intro r6 hr6
  subst r6
  intro _
  intro r7 hr7
  subst r7
  intro _
  refine brb (fun c_1 => ?_) (fun c_1 => ?_)
  ·
    have e := hr _ ((ctrue c_1) : oper_Put_J0_F t0 at1 p12 all13 x10b = _).symm
    exact e
  ·
    have e := hr _ ((cfalse c_1) : oper_Put_J0_F t0 at1 p12 all13 x10b = _).symm
    exact e
def oper_Put_J1_P (t0 : List Int) (all13 : List Int) (line15 : Int) (place17 : Int) (x10b : EfD) : Prop :=
 oper_edited_P t0 place17 place17 all13 ∧ (
 let r10 : List ((Int × List Int × List Int)) := oper_edited_F t0 place17 place17 all13
 oper_with_P t0 r10)
def oper_Put_J1_F (t0 : List Int) (all13 : List Int) (line15 : Int) (place17 : Int) (x10b : EfD) : Int × EfD :=
 let r10 : List ((Int × List Int × List Int)) := oper_edited_F t0 place17 place17 all13
 let r11 : List Int := oper_with_F t0 r10
 let r12 : Int × Int := lines_First_F r11 line15
 ((0 : Int), (r10, r12.1, (false, false, ([] : List Int)), (0 : Int), false))
set_option maxRecDepth 20000 in
theorem oper_Put_J1_sp (kr : Int → EfD → Prop) (t0 : List Int) (all13 : List Int) (line15 : Int) (place17 : Int) (x10b : EfD) (hp : oper_Put_J1_P t0 all13 line15 place17 x10b) (hr : ∀ q : Int × EfD, q = oper_Put_J1_F t0 all13 line15 place17 x10b → kr q.1 q.2) : oper_Put_J1 kr t0 all13 line15 place17 x10b := by
  unfold oper_Put_J1
  unfold oper_Put_J1_P at hp
  refine ⟨hp.1, ?_⟩
  replace hp := hp.2
  intro r10 hr10
  subst r10
  intro _
  refine ⟨hp, ?_⟩
  intro r11 hr11
  subst r11
  intro _
  intro r12 hr12
  subst r12
  intro _
  exact hr _ rfl
def oper_Put_J2_P (t0 : List Int) (all13 : List Int) (line15 : Int) (x10b : EfD) : Prop :=
 let r9 : Int × Int := lines_Start_F t0 line15
 bif (!decide (r9.2 = (0 : Int))) then
 (0 ≤ (IntKind.wrap .i64 ((List.length all13 : Int) - (1 : Int))) ∧ (IntKind.wrap .i64 ((List.length all13 : Int) - (1 : Int))) ≤ (List.length all13 : Int)) ∧ (
 (List.length ([(10 : Int)] : List Int) + List.length (List.take (Int.toNat (IntKind.wrap .i64 ((List.length all13 : Int) - (1 : Int)))) all13) ≤ lim) ∧ (
 oper_Put_J1_P t0 (([(10 : Int)] : List Int) ++ (List.take (Int.toNat (IntKind.wrap .i64 ((List.length all13 : Int) - (1 : Int)))) all13)) line15 (List.length t0 : Int) x10b))
 else
 oper_Put_J1_P t0 all13 line15 r9.1 x10b
def oper_Put_J2_F (t0 : List Int) (all13 : List Int) (line15 : Int) (x10b : EfD) : Int × EfD :=
 let r9 : Int × Int := lines_Start_F t0 line15
 bif (!decide (r9.2 = (0 : Int))) then
 let q1r : Int × EfD := oper_Put_J1_F t0 (([(10 : Int)] : List Int) ++ (List.take (Int.toNat (IntKind.wrap .i64 ((List.length all13 : Int) - (1 : Int)))) all13)) line15 (List.length t0 : Int) x10b
 let x11 : Int := q1r.1
 let x10b : EfD := q1r.2
 (x11, x10b)
 else
 let q1r : Int × EfD := oper_Put_J1_F t0 all13 line15 r9.1 x10b
 let x11 : Int := q1r.1
 let x10b : EfD := q1r.2
 (x11, x10b)
set_option maxRecDepth 20000 in
theorem oper_Put_J2_sp (kr : Int → EfD → Prop) (t0 : List Int) (all13 : List Int) (line15 : Int) (x10b : EfD) (hp : oper_Put_J2_P t0 all13 line15 x10b) (hr : ∀ q : Int × EfD, q = oper_Put_J2_F t0 all13 line15 x10b → kr q.1 q.2) : oper_Put_J2 kr t0 all13 line15 x10b := by
  unfold oper_Put_J2
  unfold oper_Put_J2_P at hp
  intro r9 hr9
  subst r9
  intro _
  refine brb (fun c_2 => ?_) (fun c_2 => ?_)
  ·
    replace hp := cT c_2 hp
    refine asrt hp.1 ?_
    replace hp := hp.2
    refine asrt hp.1 ?_
    replace hp := hp.2
    refine fun _ => oper_Put_J1_sp _ _ _ _ _ _ hp (fun q hq => ?_)
    subst hq
    intro _
    clear hp
    have e := hr _ ((ctrue c_2) : oper_Put_J2_F t0 all13 line15 x10b = _).symm
    exact e
  ·
    replace hp := cF c_2 hp
    refine fun _ => oper_Put_J1_sp _ _ _ _ _ _ hp (fun q hq => ?_)
    subst hq
    intro _
    clear hp
    have e := hr _ ((cfalse c_2) : oper_Put_J2_F t0 all13 line15 x10b = _).symm
    exact e
def oper_Put_J3_P (t0 : List Int) (at1 : Int) (count2 : Int) (ahead4 : Bool) (p12 : List Int) (rv8b : (Bool × Bool × List Int)) (x10b : EfD) : Prop :=
 bif (decide ((65536 : Int) < (IntKind.wrap .i64 ((List.length p12 : Int) * count2)))) then
 True
 else
 bytes_Repeat_P p12 count2 ∧ (
 let r4 : List Int := bytes_Repeat_F p12 count2
 bif (!rv8b.2.1) then
 bif (decide ((List.length r4 : Int) = (0 : Int))) then
 True
 else
 bif (!ahead4) then
 oper_within_P t0 at1 ∧ (
 let r5 : Bool := oper_within_F t0 at1
 bif r5 then
 oper_Put_J0_P t0 (IntKind.wrap .i64 (at1 + (1 : Int))) p12 r4 x10b
 else
 oper_Put_J0_P t0 at1 p12 r4 x10b)
 else
 oper_Put_J0_P t0 at1 p12 r4 x10b
 else
 lines_Of_P t0 at1 ∧ (
 let r8 : Int × Int := lines_Of_F t0 at1
 bif (!ahead4) then
 oper_Put_J2_P t0 r4 (IntKind.wrap .i64 (r8.1 + (1 : Int))) x10b
 else
 oper_Put_J2_P t0 r4 r8.1 x10b))
def oper_Put_J3_F (t0 : List Int) (at1 : Int) (count2 : Int) (ahead4 : Bool) (p12 : List Int) (rv8b : (Bool × Bool × List Int)) (x10b : EfD) : Int × EfD :=
 bif (decide ((65536 : Int) < (IntKind.wrap .i64 ((List.length p12 : Int) * count2)))) then
 ((1 : Int), (([] : List ((Int × List Int × List Int))), (0 : Int), (false, false, ([] : List Int)), (0 : Int), false))
 else
 let r4 : List Int := bytes_Repeat_F p12 count2
 bif (!rv8b.2.1) then
 bif (decide ((List.length r4 : Int) = (0 : Int))) then
 ((0 : Int), (([] : List ((Int × List Int × List Int))), at1, (false, false, ([] : List Int)), (0 : Int), false))
 else
 bif (!ahead4) then
 let r5 : Bool := oper_within_F t0 at1
 bif r5 then
 let q0r : Int × EfD := oper_Put_J0_F t0 (IntKind.wrap .i64 (at1 + (1 : Int))) p12 r4 x10b
 let x11 : Int := q0r.1
 let x10b : EfD := q0r.2
 (x11, x10b)
 else
 let q0r : Int × EfD := oper_Put_J0_F t0 at1 p12 r4 x10b
 let x11 : Int := q0r.1
 let x10b : EfD := q0r.2
 (x11, x10b)
 else
 let q0r : Int × EfD := oper_Put_J0_F t0 at1 p12 r4 x10b
 let x11 : Int := q0r.1
 let x10b : EfD := q0r.2
 (x11, x10b)
 else
 let r8 : Int × Int := lines_Of_F t0 at1
 bif (!ahead4) then
 let q2r : Int × EfD := oper_Put_J2_F t0 r4 (IntKind.wrap .i64 (r8.1 + (1 : Int))) x10b
 let x11 : Int := q2r.1
 let x10b : EfD := q2r.2
 (x11, x10b)
 else
 let q2r : Int × EfD := oper_Put_J2_F t0 r4 r8.1 x10b
 let x11 : Int := q2r.1
 let x10b : EfD := q2r.2
 (x11, x10b)
set_option maxRecDepth 20000 in
theorem oper_Put_J3_sp (kr : Int → EfD → Prop) (t0 : List Int) (at1 : Int) (count2 : Int) (ahead4 : Bool) (p12 : List Int) (rv8b : (Bool × Bool × List Int)) (x10b : EfD) (hp : oper_Put_J3_P t0 at1 count2 ahead4 p12 rv8b x10b) (hr : ∀ q : Int × EfD, q = oper_Put_J3_F t0 at1 count2 ahead4 p12 rv8b x10b → kr q.1 q.2) : oper_Put_J3 kr t0 at1 count2 ahead4 p12 rv8b x10b := by
  unfold oper_Put_J3
  unfold oper_Put_J3_P at hp
  refine brb (fun c_3 => ?_) (fun c_3 => ?_)
  ·
    clear hp
    have e := hr _ ((ctrue c_3) : oper_Put_J3_F t0 at1 count2 ahead4 p12 rv8b x10b = _).symm
    exact e
  ·
    replace hp := cF c_3 hp
    refine ⟨hp.1, ?_⟩
    replace hp := hp.2
    intro r4 hr4
    subst r4
    intro _
    refine brb (fun c_4 => ?_) (fun c_4 => ?_)
    ·
      replace hp := cT c_4 hp
      refine brb (fun c_5 => ?_) (fun c_5 => ?_)
      ·
        clear hp
        have e := hr _ ((Eq.trans (cfalse c_3) (Eq.trans (ctrue c_4) (ctrue c_5))) : oper_Put_J3_F t0 at1 count2 ahead4 p12 rv8b x10b = _).symm
        exact e
      ·
        replace hp := cF c_5 hp
        refine brb (fun c_6 => ?_) (fun c_6 => ?_)
        ·
          replace hp := cT c_6 hp
          refine ⟨hp.1, ?_⟩
          replace hp := hp.2
          intro r5 hr5
          subst r5
          intro _
          refine brb (fun c_7 => ?_) (fun c_7 => ?_)
          ·
            replace hp := cT c_7 hp
            refine fun _ => oper_Put_J0_sp _ _ _ _ _ _ hp (fun q hq => ?_)
            subst hq
            intro _
            clear hp
            have e := hr _ ((Eq.trans (cfalse c_3) (Eq.trans (ctrue c_4) (Eq.trans (cfalse c_5) (Eq.trans (ctrue c_6) (ctrue c_7))))) : oper_Put_J3_F t0 at1 count2 ahead4 p12 rv8b x10b = _).symm
            exact e
          ·
            replace hp := cF c_7 hp
            refine fun _ => oper_Put_J0_sp _ _ _ _ _ _ hp (fun q hq => ?_)
            subst hq
            intro _
            clear hp
            have e := hr _ ((Eq.trans (cfalse c_3) (Eq.trans (ctrue c_4) (Eq.trans (cfalse c_5) (Eq.trans (ctrue c_6) (cfalse c_7))))) : oper_Put_J3_F t0 at1 count2 ahead4 p12 rv8b x10b = _).symm
            exact e
        ·
          replace hp := cF c_6 hp
          refine fun _ => oper_Put_J0_sp _ _ _ _ _ _ hp (fun q hq => ?_)
          subst hq
          intro _
          clear hp
          have e := hr _ ((Eq.trans (cfalse c_3) (Eq.trans (ctrue c_4) (Eq.trans (cfalse c_5) (cfalse c_6)))) : oper_Put_J3_F t0 at1 count2 ahead4 p12 rv8b x10b = _).symm
          exact e
    ·
      replace hp := cF c_4 hp
      refine ⟨hp.1, ?_⟩
      replace hp := hp.2
      intro r8 hr8
      subst r8
      intro _
      refine brb (fun c_8 => ?_) (fun c_8 => ?_)
      ·
        replace hp := cT c_8 hp
        refine fun _ => oper_Put_J2_sp _ _ _ _ _ hp (fun q hq => ?_)
        subst hq
        intro _
        clear hp
        have e := hr _ ((Eq.trans (cfalse c_3) (Eq.trans (cfalse c_4) (ctrue c_8))) : oper_Put_J3_F t0 at1 count2 ahead4 p12 rv8b x10b = _).symm
        exact e
      ·
        replace hp := cF c_8 hp
        refine fun _ => oper_Put_J2_sp _ _ _ _ _ hp (fun q hq => ?_)
        subst hq
        intro _
        clear hp
        have e := hr _ ((Eq.trans (cfalse c_3) (Eq.trans (cfalse c_4) (cfalse c_8))) : oper_Put_J3_F t0 at1 count2 ahead4 p12 rv8b x10b = _).symm
        exact e
def oper_Put_P (t0 : List Int) (at1 : Int) (count2 : Int) (rv3 : (Bool × Bool × List Int)) (ahead4 : Bool) : Prop :=
 let r1 : Bool := oper_outside_F t0 at1 count2 (1 : Int)
 bif r1 then
 True
 else
 bif (!rv3.1) then
 True
 else
 bytes_Clone_P rv3.2.2 ∧ (
 let r2 : List Int := bytes_Clone_F rv3.2.2
 bif rv3.2.1 then
 bytes_HasSuffix_P r2 ([(10 : Int)] : List Int) ∧ (
 let r3 : Bool := bytes_HasSuffix_F r2 ([(10 : Int)] : List Int)
 bif (!r3) then
 (List.length r2 + List.length ([(10 : Int)] : List Int) ≤ lim) ∧ (
 oper_Put_J3_P t0 at1 count2 ahead4 (r2 ++ ([(10 : Int)] : List Int)) rv3 (([] : List ((Int × List Int × List Int))), (0 : Int), (false, false, ([] : List Int)), (0 : Int), false))
 else
 oper_Put_J3_P t0 at1 count2 ahead4 r2 rv3 (([] : List ((Int × List Int × List Int))), (0 : Int), (false, false, ([] : List Int)), (0 : Int), false))
 else
 oper_Put_J3_P t0 at1 count2 ahead4 r2 rv3 (([] : List ((Int × List Int × List Int))), (0 : Int), (false, false, ([] : List Int)), (0 : Int), false))
def oper_Put_F (t0 : List Int) (at1 : Int) (count2 : Int) (rv3 : (Bool × Bool × List Int)) (ahead4 : Bool) : EfD × Int :=
 let r1 : Bool := oper_outside_F t0 at1 count2 (1 : Int)
 bif r1 then
 ((([] : List ((Int × List Int × List Int))), (0 : Int), (false, false, ([] : List Int)), (0 : Int), false), (2 : Int))
 else
 bif (!rv3.1) then
 ((([] : List ((Int × List Int × List Int))), (0 : Int), (false, false, ([] : List Int)), (0 : Int), false), (151 : Int))
 else
 let r2 : List Int := bytes_Clone_F rv3.2.2
 bif rv3.2.1 then
 let r3 : Bool := bytes_HasSuffix_F r2 ([(10 : Int)] : List Int)
 bif (!r3) then
 let q3r : Int × EfD := oper_Put_J3_F t0 at1 count2 ahead4 (r2 ++ ([(10 : Int)] : List Int)) rv3 (([] : List ((Int × List Int × List Int))), (0 : Int), (false, false, ([] : List Int)), (0 : Int), false)
 let x11 : Int := q3r.1
 let x10b : EfD := q3r.2
 (x10b, x11)
 else
 let q3r : Int × EfD := oper_Put_J3_F t0 at1 count2 ahead4 r2 rv3 (([] : List ((Int × List Int × List Int))), (0 : Int), (false, false, ([] : List Int)), (0 : Int), false)
 let x11 : Int := q3r.1
 let x10b : EfD := q3r.2
 (x10b, x11)
 else
 let q3r : Int × EfD := oper_Put_J3_F t0 at1 count2 ahead4 r2 rv3 (([] : List ((Int × List Int × List Int))), (0 : Int), (false, false, ([] : List Int)), (0 : Int), false)
 let x11 : Int := q3r.1
 let x10b : EfD := q3r.2
 (x10b, x11)
set_option maxRecDepth 20000 in
theorem oper_Put_sp (t0 : List Int) (at1 : Int) (count2 : Int) (rv3 : (Bool × Bool × List Int)) (ahead4 : Bool) (K : Res → List Cell → Prop) (_ : wfA oper_Put_A (t0, at1, count2, rv3, ahead4, ())) (hp : oper_Put_P t0 at1 count2 rv3 ahead4) (h : ∀ r : EfD × Int, r = oper_Put_F t0 at1 count2 rv3 ahead4 → K (.tup [.v EfT r.1, .v (.int .i64) r.2]) []) : oper_Put_raw t0 at1 count2 rv3 ahead4 K := by
  unfold oper_Put_raw
  unfold oper_Put_P at hp
  intro r1 hr1
  subst r1
  intro _
  refine brb (fun c_9 => ?_) (fun c_9 => ?_)
  ·
    clear hp
    have e := h _ ((ctrue c_9) : oper_Put_F t0 at1 count2 rv3 ahead4 = _).symm
    exact e
  ·
    replace hp := cF c_9 hp
    refine brb (fun c_10 => ?_) (fun c_10 => ?_)
    ·
      clear hp
      have e := h _ ((Eq.trans (cfalse c_9) (ctrue c_10)) : oper_Put_F t0 at1 count2 rv3 ahead4 = _).symm
      exact e
    ·
      replace hp := cF c_10 hp
      refine ⟨hp.1, ?_⟩
      replace hp := hp.2
      intro r2 hr2
      subst r2
      intro _
      refine brb (fun c_11 => ?_) (fun c_11 => ?_)
      ·
        replace hp := cT c_11 hp
        refine ⟨hp.1, ?_⟩
        replace hp := hp.2
        intro r3 hr3
        subst r3
        intro _
        refine brb (fun c_12 => ?_) (fun c_12 => ?_)
        ·
          replace hp := cT c_12 hp
          refine asrt hp.1 ?_
          replace hp := hp.2
          refine fun _ => oper_Put_J3_sp _ _ _ _ _ _ _ _ hp (fun q hq => ?_)
          subst hq
          intro _
          clear hp
          have e := h _ ((Eq.trans (cfalse c_9) (Eq.trans (cfalse c_10) (Eq.trans (ctrue c_11) (ctrue c_12)))) : oper_Put_F t0 at1 count2 rv3 ahead4 = _).symm
          exact e
        ·
          replace hp := cF c_12 hp
          refine fun _ => oper_Put_J3_sp _ _ _ _ _ _ _ _ hp (fun q hq => ?_)
          subst hq
          intro _
          clear hp
          have e := h _ ((Eq.trans (cfalse c_9) (Eq.trans (cfalse c_10) (Eq.trans (ctrue c_11) (cfalse c_12)))) : oper_Put_F t0 at1 count2 rv3 ahead4 = _).symm
          exact e
      ·
        replace hp := cF c_11 hp
        refine fun _ => oper_Put_J3_sp _ _ _ _ _ _ _ _ hp (fun q hq => ?_)
        subst hq
        intro _
        clear hp
        have e := h _ ((Eq.trans (cfalse c_9) (Eq.trans (cfalse c_10) (cfalse c_11))) : oper_Put_F t0 at1 count2 rv3 ahead4 = _).symm
        exact e
def oper_Put_C (v : valsA oper_Put_A) (K : Res → List Cell → Prop) : Prop := oper_Put_P v.1 v.2.1 v.2.2.1 v.2.2.2.1 v.2.2.2.2.1 ∧ ∀ r : EfD × Int, r = oper_Put_F v.1 v.2.1 v.2.2.1 v.2.2.2.1 v.2.2.2.2.1 → K (.tup [.v EfT r.1, .v (.int .i64) r.2]) []
def oper_Put_S : App := specW oper_Put_A oper_Put_C
theorem oper_Put_wv (K : Res → List Cell → Prop) : ∀ v : valsA oper_Put_A, runF tb (getG oper_Put_G) oper_Put_B3 Tryd.f21 [true, true] (mkA oper_Put_A v) K = oper_Put_raw v.1 v.2.1 v.2.2.1 v.2.2.2.1 v.2.2.2.2.1 K
  | (t0, at1, count2, rv3, ahead4, ()) => oper_Put_walk t0 at1 count2 rv3 ahead4 K
set_option maxRecDepth 20000 in
theorem oper_Put_ok : AppOk Tryd.prog 21 oper_Put_S :=
  AppOk.specW (spec_ok ((runF_ok tb_M tb_ok oper_Put_Gok (oper_Put_b3) (f := 21) (fn := Tryd.f21) (by kernel_rfl) (by kernel_rfl) oper_Put_st [true, true])) fun v K hw h => (oper_Put_wv K v).mpr (oper_Put_sp v.1 v.2.1 v.2.2.1 v.2.2.2.1 v.2.2.2.2.1 K hw h.1 h.2))

end Go.VE
namespace Go.VE
open Go Go.Proofs
/-! ### quoin/quoinlaw19.place -/
def qo_place_G : List (Nat × App) := []
theorem qo_place_Gok : GOk Tryd.prog (getG qo_place_G) := GOk.nil
def qo_place_raw (i0 : Int) (n1 : Int) (K : Res → List Cell → Prop) : Prop :=
 bif (decide (i0 < (0 : Int))) then
 bif decide (n1 ≠ 0) then
 K (.one (.v (.int .i64) (Int.tmod (IntKind.wrap .i64 (0 - (IntKind.wrap .i64 (i0 + (1 : Int))))) n1))) []
 else False
 else
 bif decide (n1 ≠ 0) then
 K (.one (.v (.int .i64) (Int.tmod i0 n1))) []
 else False
def qo_place_A : List AS := [.v (.int .i64), .v (.int .i64)]
theorem qo_place_walk (i0 : Int) (n1 : Int) (K : Res → List Cell → Prop) : runF tb (getG qo_place_G) [] Tryd.f27 [true] (mkA qo_place_A (i0, n1, ())) K = qo_place_raw i0 n1 K := by kernel_rfl

def qo_place_P (i0 : Int) (n1 : Int) : Prop :=
 bif (decide (i0 < (0 : Int))) then
 (n1 ≠ 0)
 else
 (n1 ≠ 0)
def qo_place_F (i0 : Int) (n1 : Int) : Int :=
 bif (decide (i0 < (0 : Int))) then
 (Int.tmod (IntKind.wrap .i64 (0 - (IntKind.wrap .i64 (i0 + (1 : Int))))) n1)
 else
 (Int.tmod i0 n1)
set_option maxRecDepth 20000 in
theorem qo_place_sp (i0 : Int) (n1 : Int) (K : Res → List Cell → Prop) (_ : wfA qo_place_A (i0, n1, ())) (hp : qo_place_P i0 n1) (h : ∀ r : Int, r = qo_place_F i0 n1 → K (.one (.v (.int .i64) r)) []) : qo_place_raw i0 n1 K := by
  unfold qo_place_raw
  unfold qo_place_P at hp
  refine brb (fun c_1 => ?_) (fun c_1 => ?_)
  ·
    replace hp := cT c_1 hp
    refine asrt hp ?_
    exact h _ ((ctrue c_1) : qo_place_F i0 n1 = _).symm
  ·
    replace hp := cF c_1 hp
    refine asrt hp ?_
    exact h _ ((cfalse c_1) : qo_place_F i0 n1 = _).symm
def qo_place_C (v : valsA qo_place_A) (K : Res → List Cell → Prop) : Prop := qo_place_P v.1 v.2.1 ∧ ∀ r : Int, r = qo_place_F v.1 v.2.1 → K (.one (.v (.int .i64) r)) []
def qo_place_S : App := specW qo_place_A qo_place_C
theorem qo_place_wv (K : Res → List Cell → Prop) : ∀ v : valsA qo_place_A, runF tb (getG qo_place_G) [] Tryd.f27 [true] (mkA qo_place_A v) K = qo_place_raw v.1 v.2.1 K
  | (i0, n1, ()) => qo_place_walk i0 n1 K
set_option maxRecDepth 20000 in
theorem qo_place_ok : AppOk Tryd.prog 27 qo_place_S :=
  AppOk.specW (spec_ok ((runF_ok tb_M tb_ok qo_place_Gok (LabsOk.nil) (f := 27) (fn := Tryd.f27) (by kernel_rfl) (by kernel_rfl) (by kernel_rfl) [true])) fun v K hw h => (qo_place_wv K v).mpr (qo_place_sp v.1 v.2.1 K hw h.1 h.2))

end Go.VE
namespace Go.VE
theorem edited_P {t p : List Int} {f g : Int} (h0 : 0 ≤ f) (h1 : f ≤ g) (h2 : g ≤ t.length) (hl : t.length ≤ lim) (hp : p.length ≤ lim) : oper_edited_P t f g p := by
  have hs : (slc t f g).length ≤ lim := by unfold slc; rw [List.length_drop, List.length_take]; omega
  unfold oper_edited_P
  refine ⟨⟨h0, h1, h2⟩, ?_⟩
  dsimp only
  cases bytes_Equal_F (slc t f g) p
  · exact ⟨⟨h0, h1, h2⟩, hs, hp⟩
  · trivial
theorem edited_eq (t : List Int) (f g : Int) (p : List Int) : oper_edited_F t f g p = if slc t f g = p then [] else [(f, slc t f g, p)] := by
  unfold oper_edited_F bytes_Equal_F bytes_Clone_F
  by_cases h : slc t f g = p
  · rw [if_pos h]; dsimp only; rw [decide_eq_true h]; rfl
  · rw [if_neg h]; dsimp only; rw [decide_eq_false h]; rfl
theorem hasP_slc (t : List Int) {f g : Nat} (h1 : f ≤ g) (h2 : g ≤ t.length) (hl : t.length ≤ lim) : bytes_HasPrefix_F (t.drop f) ((t.take g).drop f) = true := by
  unfold bytes_HasPrefix_F
  have e : ((t.take g).drop f).length = g - f := by rw [List.length_drop, List.length_take]; omega
  have e2 : (t.drop f).length = t.length - f := List.length_drop
  dsimp only
  rw [decide_eq_true (by omega), cond_true, e]
  have : List.take (Int.toNat ((g - f : Nat) : Int)) (t.drop f) = (t.take g).drop f := by
    rw [Int.toNat_natCast, List.drop_take]
  rw [this]
  simp [bytes_Equal_F]
theorem apply_one (t p : List Int) {f g : Nat} (h1 : f ≤ g) (h2 : g ≤ t.length) (hl : t.length ≤ lim) : applyL [((f : Int), (t.take g).drop f, p)] t = some (t.take f ++ p ++ t.drop g) := by
  have hp := hasP_slc t h1 h2 hl
  unfold applyL
  rw [if_pos ⟨by omega, by show (f : Int) ≤ _; omega, by simpa using hp⟩]
  unfold applyL slR_F
  have e : ((t.take g).drop f).length = g - f := by rw [List.length_drop, List.length_take]; omega
  dsimp only
  rw [e, Int.toNat_natCast, show ((f : Int) + ((g - f : Nat) : Int)).toNat = g by omega]
theorem slc_nat (t : List Int) (i j : Nat) : slc t (i : Int) (j : Int) = (t.take j).drop i := by
  unfold slc; simp
theorem mid_same (t : List Int) {f g : Nat} (h1 : f ≤ g) : t.take f ++ (t.take g).drop f ++ t.drop g = t := by
  have : t.take f = (t.take g).take f := by rw [List.take_take, Nat.min_eq_left h1]
  rw [this, List.take_append_drop, List.take_append_drop]
theorem apply_edited (t p : List Int) {f g : Nat} (h1 : f ≤ g) (h2 : g ≤ t.length) (hl : t.length ≤ lim) : change_Apply_F t (oper_edited_F t (f : Int) (g : Int) p) = (t.take f ++ p ++ t.drop g, 0) := by
  rw [edited_eq, slc_nat]
  unfold change_Apply_F
  by_cases h : (t.take g).drop f = p
  · rw [if_pos h, applyL, ← h, mid_same t h1]
  · rw [if_neg h, apply_one t p h1 h2 hl]
theorem news_edited (t p : List Int) (f g : Int) : newsL (oper_edited_F t f g p) ≤ p.length := by
  rw [edited_eq]; split <;> simp [newsL]
theorem apply_P (t p : List Int) (f g : Int) (hl : t.length + p.length ≤ lim) : change_Apply_P t (oper_edited_F t f g p) := by
  have := news_edited t p f g
  unfold change_Apply_P; omega
theorem outside_no {t : List Int} {f : Int} (h0 : 0 ≤ f) (h1 : f ≤ t.length) : oper_outside_F t f 1 1 = false := by
  unfold oper_outside_F
  rw [decide_eq_false (by omega), decide_eq_false (by omega)]; rfl
theorem Count_P (t : List Int) : lines_Count_P t := rfl
theorem spanned_any (t : List Int) (at_ : Int) (r : Int × Int × Bool × Bool) : oper_spanned_P t at_ r := by
  have J1 : ∀ a, oper_spanned_J1_P t at_ a r := fun a => ⟨lines_Of_any _ _, lines_Of_any _ _, Count_P _, rfl, rfl, by simp⟩
  unfold oper_spanned_P
  refine ⟨lines_Of_any _ _, ?_⟩
  dsimp only
  cases !decide ((lines_Of_F t r.1).2 = 0)
  · cases decide (r.2.1 < r.1)
    · cases decide ((t.length : Int) < r.2.1)
      · cases !r.2.2.1
        · cases r.2.2.2
          · exact J1 _
          · exact J1 _
        · exact lines_Of_any _ _
      · trivial
    · trivial
  · trivial
theorem has_yes {t : List Int} {f : Int} (h0 : 0 ≤ f) (h1 : f ≤ t.length) : lines_has_F t f = true := by
  unfold lines_has_F
  rw [decide_eq_true h0, decide_eq_true h1]; rfl
theorem Of_eq {t : List Int} {f : Nat} (h1 : f ≤ t.length) : lines_Of_F t (f : Int) = ((cnt (t.take f) : Int), 0) := by
  unfold lines_Of_F
  rw [has_yes (by omega) (by omega)]
  rfl
theorem spanned_plain {t : List Int} {f g : Nat} (at_ : Int) (h1 : f ≤ g) (h2 : g ≤ t.length) (b : Bool) : (oper_spanned_F t at_ ((f : Int), (g : Int), false, b)).2.2 = true := by
  unfold oper_spanned_F
  rw [Of_eq (by omega)]
  dsimp only
  rw [decide_eq_false (by omega : ¬ (g : Int) < f), decide_eq_false (by omega : ¬ (t.length : Int) < g)]
  rfl
end Go.VE
namespace Go.VE
open Go Go.Proofs
/-! ### quoin/change.Size -/
def change_Size_G : List (Nat × App) := []
theorem change_Size_Gok : GOk Tryd.prog (getG change_Size_G) := GOk.nil
theorem change_Size_st : storesC (bodyOf Tryd.f81) = true := by kernel_rfl
def change_Size_d0 : List LS := [.v 3 (.int .i64), .v 6 (.sl (.st (.pair (.int .i64) (.pair (.sl (.int .u8)) (.sl (.int .u8)))))), .v 7 (.int .i64), .v 8 (.int .i64)]
def change_Size_d0x0 : List LS := [.v 3 (.int .i64)]
def change_Size_dx0 : DX := ⟨none, none, [(0, change_Size_d0x0)]⟩
def change_Size_T0 (Y : Int → List ((Int × List Int × List Int)) → Int → Int → Prop) (kx0 : Int → Prop) (n3 : Int) (x6 : List ((Int × List Int × List Int))) (x7 : Int) (x8 : Int) : Prop :=
 bif (decide (x8 < x7)) then
 bif decide (0 ≤ x8 ∧ x8 < (List.length x6 : Int)) then
 Y (IntKind.wrap .i64 (n3 + (IntKind.wrap .i64 ((List.length ((rd ((0 : Int), ([] : List Int), ([] : List Int)) x6 x8).2.2) : Int) - (List.length ((rd ((0 : Int), ([] : List Int), ([] : List Int)) x6 x8).2.1) : Int))))) x6 x7 (IntKind.wrap .i64 (x8 + (1 : Int)))
 else False
 else
 kx0 n3
def change_Size_L0 (kx0 : Int → Prop) : Nat → Int → List ((Int × List Int × List Int)) → Int → Int → Prop
  | 0, _, _, _, _ => False
  | n + 1, n3, x6, x7, x8 => wfD change_Size_d0 (n3, x6, x7, x8, ()) → change_Size_T0 (change_Size_L0 kx0 n) kx0 n3 x6 x7 x8
theorem change_Size_s0 (k : Ex → St → Prop) (Y : vals change_Size_d0 → Prop) (n3 : Int) (x6 : List ((Int × List Int × List Int))) (x7 : Int) (x8 : Int) :
    ex tb (getG change_Size_G) [] (at' (bodyOf Tryd.f81) [0, 0, 1, 0, 1, 1]) [0, 0, 1, 0, 1, 1] (mkD 23 change_Size_d0 (n3, x6, x7, x8, ())) (lpK 23 change_Size_d0 change_Size_dx0 k Y) =
    change_Size_T0 (fun n3 x6 x7 x8 => Y (n3, x6, x7, x8, ())) (fun n3 => wfD change_Size_d0x0 (n3, ()) → k (.exit 0) (mkD 23 change_Size_d0x0 (n3, ()))) n3 x6 x7 x8 := by kernel_rfl
theorem change_Size_e0 (k : Ex → St → Prop) : ∀ (n : Nat) (n3 : Int) (x6 : List ((Int × List Int × List Int))) (x7 : Int) (x8 : Int), lpD 23 change_Size_d0 change_Size_dx0 (ex tb (getG change_Size_G) [] (at' (bodyOf Tryd.f81) [0, 0, 1, 0, 1, 1]) [0, 0, 1, 0, 1, 1]) k n (n3, x6, x7, x8, ()) = change_Size_L0 (fun n3 => wfD change_Size_d0x0 (n3, ()) → k (.exit 0) (mkD 23 change_Size_d0x0 (n3, ()))) n n3 x6 x7 x8
  | 0, _, _, _, _ => rfl
  | n + 1, n3, x6, x7, x8 => congrArg (fun Z : Prop => wfD change_Size_d0 (n3, x6, x7, x8, ()) → Z) ((change_Size_s0 k (lpD 23 change_Size_d0 change_Size_dx0 (ex tb (getG change_Size_G) [] (at' (bodyOf Tryd.f81) [0, 0, 1, 0, 1, 1]) [0, 0, 1, 0, 1, 1]) k n) n3 x6 x7 x8).trans (congrArg (fun Y => change_Size_T0 Y (fun n3 => wfD change_Size_d0x0 (n3, ()) → k (.exit 0) (mkD 23 change_Size_d0x0 (n3, ()))) n3 x6 x7 x8) (funext fun n3 => funext fun x6 => funext fun x7 => funext fun x8 => change_Size_e0 k n n3 x6 x7 x8)))
theorem change_Size_v0 (k : Ex → St → Prop) (n : Nat) : ∀ v : vals change_Size_d0, lpD 23 change_Size_d0 change_Size_dx0 (ex tb (getG change_Size_G) [] (at' (bodyOf Tryd.f81) [0, 0, 1, 0, 1, 1]) [0, 0, 1, 0, 1, 1]) k n v = change_Size_L0 (fun n3 => wfD change_Size_d0x0 (n3, ()) → k (.exit 0) (mkD 23 change_Size_d0x0 (n3, ()))) n v.1 v.2.1 v.2.2.1 v.2.2.2.1
  | (n3, x6, x7, x8, ()) => change_Size_e0 k n n3 x6 x7 x8
def change_Size_X0 : Pce := fun st k => ckD 23 change_Size_d0 st fun v => wfD change_Size_d0 v → ∃ n, change_Size_L0 (fun n3 => wfD change_Size_d0x0 (n3, ()) → k (.exit 0) (mkD 23 change_Size_d0x0 (n3, ()))) n v.1 v.2.1 v.2.2.1 v.2.2.2.1
set_option maxRecDepth 20000 in
theorem change_Size_x0 : SemOk Tryd.prog (at' (bodyOf Tryd.f81) [0, 1, 0, 1, 1]) change_Size_X0 :=
  (SemOk.loop (ex_sound tb_M tb_ok change_Size_Gok (LabsOk.nil) (at' (bodyOf Tryd.f81) [0, 0, 1, 0, 1, 1]) [0, 0, 1, 0, 1, 1] rfl (storesC_at change_Size_st [0, 0, 1, 0, 1, 1])) 23 change_Size_d0 change_Size_dx0).mono fun st k h => ckD_mono h fun v hv hw => (hv hw).elim fun n hn => ⟨n, Eq.mpr (change_Size_v0 k n v) hn⟩
def change_Size_B0 : Labs := ([0, 1, 0, 1, 1], change_Size_X0) :: []
theorem change_Size_b0 : LabsOk Tryd.prog (bodyOf Tryd.f81) change_Size_B0 := LabsOk.cons change_Size_x0 (LabsOk.nil)
def change_Size_raw (edits0 : List ((Int × List Int × List Int))) (K : Res → List Cell → Prop) : Prop :=
 (wfD change_Size_d0 ((0 : Int), edits0, (List.length edits0 : Int), (0 : Int), ()) → ∃ n, change_Size_L0 (fun (n3 : Int) => wfD change_Size_d0x0 (n3, ()) → (
 K (.one (.v (.int .i64) n3)) [])) n (0 : Int) edits0 (List.length edits0 : Int) (0 : Int))
def change_Size_A : List AS := [.v (.sl (.st (.pair (.int .i64) (.pair (.sl (.int .u8)) (.sl (.int .u8))))))]
theorem change_Size_walk (edits0 : List ((Int × List Int × List Int))) (K : Res → List Cell → Prop) : runF tb (getG change_Size_G) change_Size_B0 Tryd.f81 [true] (mkA change_Size_A (edits0, ())) K = change_Size_raw edits0 K := by kernel_rfl
--! pre 1
def massL : List (Int × List Int × List Int) → Nat
  | [] => 0
  | e :: r => e.2.1.length + e.2.2.length + massL r
def sizeL : List (Int × List Int × List Int) → Int
  | [] => 0
  | e :: r => (e.2.2.length : Int) - (e.2.1.length : Int) + sizeL r
def change_Size_P (edits : List (Int × List Int × List Int)) : Prop := massL edits ≤ lim
def change_Size_F (edits : List (Int × List Int × List Int)) : Int := sizeL edits
theorem change_Size_l0 (kx0 : Int → Prop) (edits : List (Int × List Int × List Int)) (hl : edits.length ≤ 9223372036854775807) : ∀ (n i : Nat) (acc : Int), edits.length < n + i → i ≤ edits.length →
    -1099511627776 ≤ acc - (massL (edits.drop i) : Int) → acc + (massL (edits.drop i) : Int) ≤ 1099511627776 → kx0 (acc + sizeL (edits.drop i)) → change_Size_L0 kx0 n acc edits (edits.length : Int) (i : Int)
  | 0, i, acc, h, h2, _, _, _ => by omega
  | n + 1, i, acc, h, h2, m1, m2, hk => by
    intro _
    unfold change_Size_T0
    refine brn (fun hlt => asrt ⟨by omega, hlt⟩ ?_) (fun hge => ?_)
    · have hi : i < edits.length := by omega
      rw [List.drop_eq_getElem_cons hi] at m1 m2 hk
      rw [rd_nat _ _ _ hi]
      simp only [massL, sizeL] at m1 m2 hk
      generalize edits[i] = e at *
      rw [wrap_i64 (n := (List.length e.2.2 : Int) - (List.length e.2.1 : Int)) (by omega) (by omega), wrap_i64 (n := acc + ((List.length e.2.2 : Int) - (List.length e.2.1 : Int))) (by omega) (by omega), wrap_i64 (n := (i : Int) + 1) (by omega) (by omega), show (i : Int) + 1 = ((i + 1 : Nat) : Int) by omega]
      refine change_Size_l0 kx0 edits hl n (i + 1) _ (by omega) (by omega) (by omega) (by omega) ?_
      rw [Int.add_assoc]; exact hk
    · rw [List.drop_eq_nil_of_le (by omega), sizeL, Int.add_zero] at hk
      exact hk
theorem change_Size_sp (edits : List (Int × List Int × List Int)) (K : Res → List Cell → Prop) (hw : wfA change_Size_A (edits, ())) (hp : change_Size_P edits) (h : ∀ r : Int, r = change_Size_F edits → K (.one (.v (.int .i64) r)) []) : change_Size_raw edits K := by
  have hp : massL edits ≤ 1099511627776 := hp
  unfold change_Size_raw
  intro _
  exact ⟨edits.length + 1, change_Size_l0 _ edits hw.1.1 (edits.length + 1) 0 0 (by omega) (Nat.zero_le _) (by rw [List.drop_zero]; omega) (by rw [List.drop_zero]; omega) (fun _ => h _ (by rw [List.drop_zero, Int.zero_add]; rfl))⟩

def change_Size_C (v : valsA change_Size_A) (K : Res → List Cell → Prop) : Prop := change_Size_P v.1 ∧ ∀ r : Int, r = change_Size_F v.1 → K (.one (.v (.int .i64) r)) []
def change_Size_S : App := specW change_Size_A change_Size_C
theorem change_Size_wv (K : Res → List Cell → Prop) : ∀ v : valsA change_Size_A, runF tb (getG change_Size_G) change_Size_B0 Tryd.f81 [true] (mkA change_Size_A v) K = change_Size_raw v.1 K
  | (edits0, ()) => change_Size_walk edits0 K
set_option maxRecDepth 20000 in
theorem change_Size_ok : AppOk Tryd.prog 81 change_Size_S :=
  AppOk.specW (spec_ok ((runF_ok tb_M tb_ok change_Size_Gok (change_Size_b0) (f := 81) (fn := Tryd.f81) (by kernel_rfl) (by kernel_rfl) change_Size_st [true])) fun v K hw h => (change_Size_wv K v).mpr (change_Size_sp v.1 K hw h.1 h.2))

end Go.VE
namespace Go.VE
def zeroE : Eff := ([], 0, (false, false, []), 0, false)
def FitsE (t : List Int) (es : List (Int × List Int × List Int)) (cur : Int) : Prop := (change_Apply_F t es).2 = 0 ∧ 0 ≤ cur ∧ cur ≤ ((change_Apply_F t es).1.length : Int)
def Fine (t : List Int) (r : Eff × Int) : Prop := (r.2 ≠ 0 ∧ r.1 = zeroE) ∨ (r.2 = 0 ∧ FitsE t r.1.1 r.1.2.1 ∧ massL r.1.1 ≤ 1073741824)
theorem applyL_size : ∀ (es : List (Int × List Int × List Int)) (t u : List Int), applyL es t = some u → (u.length : Int) = (t.length : Int) + sizeL es
  | [], t, u, h => by
    unfold applyL at h
    injection h with h
    subst h
    unfold sizeL
    omega
  | e :: r, t, u, h => by
    unfold applyL at h
    split at h
    · rename_i hc
      have ih := applyL_size r _ u h
      have hp := hasP_le hc.2.2
      rw [List.length_drop] at hp
      unfold slR_F at ih
      rw [List.length_append, List.length_append, List.length_take, List.length_drop] at ih
      unfold sizeL
      omega
    · cases h
theorem apply_size {t : List Int} {es : List (Int × List Int × List Int)} (h : (change_Apply_F t es).2 = 0) : ((change_Apply_F t es).1.length : Int) = (t.length : Int) + sizeL es := by
  unfold change_Apply_F at h ⊢
  cases hu : applyL es t with
  | none => rw [hu] at h; cases h
  | some u => exact applyL_size es t u hu
theorem news_le_mass : ∀ es : List (Int × List Int × List Int), newsL es ≤ massL es
  | [] => Nat.le_refl _
  | e :: r => by
    have := news_le_mass r
    unfold newsL massL
    omega
theorem size_le_mass : ∀ es : List (Int × List Int × List Int), -(massL es : Int) ≤ sizeL es ∧ sizeL es ≤ (massL es : Int)
  | [] => by unfold massL sizeL; omega
  | e :: r => by
    have := size_le_mass r
    unfold massL sizeL
    omega
theorem apply_P' {t : List Int} {es : List (Int × List Int × List Int)} (ht : t.length ≤ 1073741824) (h : massL es ≤ 1073741824) : change_Apply_P t es := by
  have := news_le_mass es
  show t.length + newsL es ≤ lim
  unfold lim
  omega
theorem fits_edited (t p : List Int) {f g : Nat} (h1 : f ≤ g) (h2 : g ≤ t.length) (hl : t.length ≤ lim) {cur : Int} (h0 : 0 ≤ cur) (hc : cur ≤ (f : Int) + (p.length : Int) + ((t.length : Int) - (g : Int))) : FitsE t (oper_edited_F t (f : Int) (g : Int) p) cur := by
  unfold FitsE
  rw [apply_edited t p h1 h2 hl]
  refine ⟨rfl, h0, ?_⟩
  show cur ≤ ((t.take f ++ p ++ t.drop g).length : Int)
  rw [List.length_append, List.length_append, List.length_take, List.length_drop]
  omega
theorem fits_none (t : List Int) {cur : Int} (h0 : 0 ≤ cur) (hc : cur ≤ (t.length : Int)) : FitsE t [] cur := ⟨rfl, h0, hc⟩
theorem slc_le' (t : List Int) (f g : Int) : (slc t f g).length ≤ t.length := by
  unfold slc; rw [List.length_drop, List.length_take]; omega
theorem mass_edited (t p : List Int) (f g : Int) : massL (oper_edited_F t f g p) ≤ t.length + p.length := by
  have := slc_le' t f g
  rw [edited_eq]
  split
  · unfold massL; omega
  · simp only [massL]; omega
theorem scanB_range (t : List Int) : ∀ (m i j : Nat), scanB t m i = some j → i ≤ j ∧ j < i + m
  | 0, i, j, h => by cases h
  | m + 1, i, j, h => by
    unfold scanB at h
    split at h
    · have := scanB_range t m (i + 1) j h; omega
    · injection h with h; omega
theorem First_le (t : List Int) (n : Int) (ht : t.length ≤ 9223372036854775807) : 0 ≤ (lines_First_F t n).1 ∧ (lines_First_F t n).1 ≤ (t.length : Int) := by
  have hs := lines_Start_F_le t n
  have hr := tail_range t ht _ hs.1 hs.2
  unfold lines_First_F
  split
  · generalize (lines_Start_F t n).1 = s at *
    generalize lines_tail_F t s = e at *
    split
    · rename_i j hj
      have := scanB_range t _ _ _ hj
      show 0 ≤ (j : Int) ∧ (j : Int) ≤ (t.length : Int)
      omega
    · show 0 ≤ mx s (IntKind.wrap .i64 (e - 1)) ∧ mx s (IntKind.wrap .i64 (e - 1)) ≤ (t.length : Int)
      rw [wrap_i64 (by omega) (by omega)]
      unfold mx
      by_cases c : s < e - 1
      · rw [decide_eq_true c]; show 0 ≤ e - 1 ∧ e - 1 ≤ (t.length : Int); omega
      · rw [decide_eq_false c]; show 0 ≤ s ∧ s ≤ (t.length : Int); omega
  · exact ⟨Int.le_refl _, by show (0 : Int) ≤ (t.length : Int); omega⟩
theorem At_le (t : List Int) (n c : Int) (ht : t.length ≤ 1073741824) (hc : c ≤ 9223372036854775807) : 0 ≤ (lines_At_F t n c).1 ∧ (lines_At_F t n c).1 ≤ (t.length : Int) := by
  have hs := lines_Start_F_le t n
  have hr := tail_range t (by omega) _ hs.1 hs.2
  have z : (0 : Int) ≤ 0 ∧ (0 : Int) ≤ (t.length : Int) := ⟨Int.le_refl _, by omega⟩
  unfold lines_At_F
  dsimp only
  by_cases c1 : (lines_Start_F t n).2 = 0
  · rw [decide_eq_true c1]
    generalize (lines_Start_F t n).1 = s at *
    by_cases c2 : c < -1
    · rw [decide_eq_true c2]; exact z
    · rw [decide_eq_false c2]
      generalize lines_tail_F t s = e at *
      have hm : 0 ≤ mx s (IntKind.wrap .i64 (e - 1)) ∧ mx s (IntKind.wrap .i64 (e - 1)) ≤ (t.length : Int) ∧ s ≤ mx s (IntKind.wrap .i64 (e - 1)) := by
        rw [wrap_i64 (by omega) (by omega)]
        unfold mx
        by_cases c : s < e - 1
        · rw [decide_eq_true c]; show 0 ≤ e - 1 ∧ e - 1 ≤ (t.length : Int) ∧ s ≤ e - 1; omega
        · rw [decide_eq_false c]; show 0 ≤ s ∧ s ≤ (t.length : Int) ∧ s ≤ s; omega
      generalize mx s (IntKind.wrap .i64 (e - 1)) = m at *
      by_cases c3 : c = -1
      · rw [decide_eq_true c3]; exact ⟨hm.1, hm.2.1⟩
      · rw [decide_eq_false c3]
        show 0 ≤ (bif decide (IntKind.wrap .i64 (m - s) < c) then (m, (0 : Int)) else (IntKind.wrap .i64 (s + c), (0 : Int))).1 ∧ (bif decide (IntKind.wrap .i64 (m - s) < c) then (m, (0 : Int)) else (IntKind.wrap .i64 (s + c), (0 : Int))).1 ≤ (t.length : Int)
        rw [wrap_i64 (n := m - s) (by omega) (by omega)]
        by_cases c4 : m - s < c
        · rw [decide_eq_true c4]; exact ⟨hm.1, hm.2.1⟩
        · rw [decide_eq_false c4]
          show 0 ≤ IntKind.wrap .i64 (s + c) ∧ IntKind.wrap .i64 (s + c) ≤ (t.length : Int)
          rw [wrap_i64 (by omega) (by omega)]
          omega
  · rw [decide_eq_false c1]; exact z
theorem stay_le (j : Job) (h1 : 0 ≤ j.2.2.1.1) (h2 : j.2.2.1.1 ≤ (j.1.length : Int)) (ht : j.1.length ≤ 1073741824) (hc : (lines_Column_F j.1 j.2.1).1 ≤ 9223372036854775807) : 0 ≤ oj_stay_F j ∧ oj_stay_F j ≤ (j.1.length : Int) := by
  unfold oj_stay_F
  cases j.2.2.1.2.2.1
  · exact ⟨h1, h2⟩
  · exact At_le _ _ _ ht hc
theorem Column_le (t : List Int) (p : Int) : (lines_Column_F t p).1 ≤ 9223372036854775807 := by
  unfold lines_Column_F
  dsimp only
  cases lines_has_F t p
  · show (0 : Int) ≤ _; decide
  · exact (inR_wrap .i64 _).2
end Go.VE
namespace Go.VE
def unlT : List (List Int) → List Int
  | [] => []
  | l :: r => 10 :: (l ++ unlT r)
def unl : List (List Int) → List Int
  | [] => []
  | l :: r => l ++ unlT r
theorem unlT_append : ∀ A B : List (List Int), unlT (A ++ B) = unlT A ++ unlT B
  | [], B => rfl
  | a :: A, B => by
    show 10 :: (a ++ unlT (A ++ B)) = _
    rw [unlT_append A B]
    simp [unlT]
theorem unlT_unl {L : List (List Int)} (h : L ≠ []) : unlT L = 10 :: unl L := by
  cases L with
  | nil => exact absurd rfl h
  | cons a r => rfl
theorem cnt_unlT : ∀ L : List (List Int), (∀ x ∈ L, (10 : Int) ∉ x) → cnt (unlT L) = L.length
  | [], _ => rfl
  | a :: r, h => by
    have h1 := cnt_zero (h a List.mem_cons_self)
    have h2 := cnt_unlT r (fun x hx => h x (List.mem_cons_of_mem _ hx))
    unfold cnt at h1 h2 ⊢
    unfold unlT
    rw [List.count_cons_self, List.count_append, h1, h2, List.length_cons]
    omega
theorem splN_ok : ∀ (n : Nat) (s : List Int), n = cnt s → unl (splN n s) = s ∧ (∀ x ∈ splN n s, (10 : Int) ∉ x) ∧ (splN n s).length = n + 1
  | 0, s, h => by
    refine ⟨by simp [splN, unl, unlT], fun x hx => ?_, rfl⟩
    simp only [splN, List.mem_singleton] at hx
    subst hx
    exact List.count_eq_zero.1 h.symm
  | n + 1, s, h => by
    have hmem : (10 : Int) ∈ s := List.count_pos_iff.1 (by unfold cnt at h; omega)
    have hi : ¬ idxB s 10 < 0 := by unfold idxB; rw [if_pos hmem]; omega
    obtain ⟨_, he⟩ := idxB_some hi
    obtain ⟨f1, f2⟩ := idxOf_first hmem
    have hk : (idxB s 10).toNat = s.idxOf 10 := by rw [he]; rfl
    generalize s.idxOf 10 = k at *
    obtain ⟨hlt, hget⟩ := List.getElem?_eq_some_iff.1 f1
    have hd : s.drop k = 10 :: s.drop (k + 1) := by rw [List.drop_eq_getElem_cons hlt, hget]
    have hc : cnt (s.drop (k + 1)) = n := by
      have e := cnt_split s k
      rw [hd] at e
      have e1 := cnt_zero f2
      unfold cnt at *
      rw [List.count_cons_self] at e
      omega
    obtain ⟨g1, g2, g3⟩ := splN_ok n (s.drop (k + 1)) hc.symm
    rw [splN, if_neg hi, hk]
    refine ⟨?_, fun x hx => ?_, by rw [List.length_cons, g3]⟩
    · show s.take k ++ unlT (splN n (s.drop (k + 1))) = s
      rw [unlT_unl (by intro e; rw [e] at g3; simp at g3), g1, ← hd, List.take_append_drop]
    · rcases List.mem_cons.1 hx with e | e
      · rw [e]; exact f2
      · exact g2 x e
theorem split_ok (t : List Int) : unl (lines_Split_F t) = t ∧ (∀ x ∈ lines_Split_F t, (10 : Int) ∉ x) ∧ (lines_Split_F t).length = cnt t + 1 := splN_ok (cnt t) t rfl
def headW : List (List Int) → List Int
  | [] => []
  | a :: A => unl (a :: A) ++ [10]
theorem unl_append {A X : List (List Int)} (hX : X ≠ []) : unl (A ++ X) = headW A ++ unl X := by
  cases A with
  | nil => rfl
  | cons a A =>
    show a ++ unlT (A ++ X) = ((a ++ unlT A) ++ [10]) ++ unl X
    rw [unlT_append, unlT_unl hX]
    simp
theorem headW_cnt {A : List (List Int)} (hA : ∀ x ∈ A, (10 : Int) ∉ x) : cnt (headW A) = A.length := by
  cases A with
  | nil => rfl
  | cons a A =>
    show cnt ((a ++ unlT A) ++ [10]) = _
    rw [cnt_append, cnt_append, cnt_zero (hA a List.mem_cons_self), cnt_unlT A (fun x hx => hA x (List.mem_cons_of_mem _ hx)), List.length_cons]
    show 0 + A.length + 1 = _
    omega
theorem headW_begins {A X : List (List Int)} (hX : X ≠ []) (hA : ∀ x ∈ A, (10 : Int) ∉ x) : Begins (unl (A ++ X)) A.length (headW A).length := by
  rw [unl_append hX]
  refine ⟨by rw [List.length_append]; omega, by rw [List.take_left]; exact headW_cnt hA, ?_⟩
  cases A with
  | nil => exact .inl rfl
  | cons a A =>
    right
    show ((unl (a :: A) ++ [10]) ++ unl X)[(unl (a :: A) ++ [10]).length - 1]? = some 10
    rw [List.length_append, List.length_singleton, Nat.add_sub_cancel, List.append_assoc, List.getElem?_append_right (Nat.le_refl _), Nat.sub_self]
    rfl
theorem apply_head (w l rest q : List Int) (n : Nat) (hn : n ≤ l.length) (es : List (Int × List Int × List Int)) : applyL (((w.length : Int), l.take n, q) :: es) (w ++ (l ++ rest)) = applyL es (w ++ (q ++ l.drop n ++ rest)) := by
  have hp : bytes_HasPrefix_F ((w ++ (l ++ rest)).drop (w.length : Int).toNat) (l.take n) = true := by
    rw [Int.toNat_natCast, List.drop_left]
    unfold bytes_HasPrefix_F
    have e1 : (l.take n).length = n := by rw [List.length_take]; omega
    dsimp only
    rw [e1, decide_eq_true (by rw [List.length_append]; omega), cond_true, Int.toNat_natCast, List.take_append_of_le_length hn]
    unfold bytes_Equal_F
    exact decide_eq_true rfl
  rw [applyL, if_pos ⟨by show (0 : Int) ≤ (w.length : Int); omega, by show (w.length : Int) ≤ _; rw [List.length_append]; omega, hp⟩]
  unfold slR_F
  dsimp only
  rw [Int.toNat_natCast, List.take_left, List.length_take, Nat.min_eq_left hn, show ((w.length : Int) + (n : Int)).toNat = w.length + n by omega, ← List.drop_drop, List.drop_left, List.drop_append_of_le_length hn]
  simp only [List.append_assoc]
def hdL (g : List Int → Int × List Int) (l : List Int) : List Int := (g l).2 ++ l.drop (g l).1.toNat
theorem heads_one {g : List Int → Int × List Int} {l : List Int} (hl : 0 ≤ (g l).1 ∧ (g l).1 ≤ (l.length : Int)) {M : List (List Int)} {w rest : List Int} {p grown : Int} (hp : (w.length : Int) = p + grown) :
    ∃ grown', applyL (headsL g (l :: M) p grown) (w ++ (l ++ rest)) = applyL (headsL g M (p + ((l.length : Int) + 1)) grown') (w ++ (hdL g l ++ rest)) ∧ ((w ++ hdL g l).length : Int) + 1 = p + ((l.length : Int) + 1) + grown' := by
  have eh : headsL g (l :: M) p grown = if 0 < (g l).1 ∨ 0 < (g l).2.length then (p + grown, l.take (g l).1.toNat, (g l).2) :: headsL g M (p + ((l.length : Int) + 1)) (grown + (((g l).2.length : Int) - (g l).1)) else headsL g M (p + ((l.length : Int) + 1)) grown := rfl
  rw [eh]
  by_cases c : 0 < (g l).1 ∨ 0 < (g l).2.length
  · rw [if_pos c, ← hp, apply_head w l rest _ _ (by omega)]
    refine ⟨_, rfl, ?_⟩
    unfold hdL
    rw [List.length_append, List.length_append, List.length_drop]
    omega
  · have e : hdL g l = l := by
      have h2 : (g l).2 = [] := List.eq_nil_of_length_eq_zero (by omega)
      unfold hdL
      rw [h2, show (g l).1.toNat = 0 by omega]
      rfl
    rw [if_neg c, e]
    exact ⟨grown, rfl, by rw [List.length_append]; omega⟩
theorem heads_tail (g : List Int → Int × List Int) (B : List (List Int)) : ∀ (M : List (List Int)) (w : List Int) (p grown : Int), (w.length : Int) + 1 = p + grown → (∀ l ∈ M, 0 ≤ (g l).1 ∧ (g l).1 ≤ (l.length : Int)) →
    applyL (headsL g M p grown) (w ++ unlT (M ++ B)) = some (w ++ unlT (M.map (hdL g) ++ B))
  | [], w, p, grown, _, _ => rfl
  | l :: M, w, p, grown, hp, hM => by
    obtain ⟨grown', e1, e2⟩ := heads_one (hM l List.mem_cons_self) (M := M) (w := w ++ [10]) (rest := unlT (M ++ B)) (p := p) (grown := grown) (by rw [List.length_append, List.length_singleton]; omega)
    have ih := heads_tail g B M ((w ++ [10]) ++ hdL g l) _ _ e2 (fun x hx => hM x (List.mem_cons_of_mem _ hx))
    have t1 : w ++ unlT (l :: M ++ B) = (w ++ [10]) ++ (l ++ unlT (M ++ B)) := by
      show w ++ (10 :: (l ++ unlT (M ++ B))) = _
      rw [List.append_assoc]; rfl
    have t2 : w ++ unlT ((l :: M).map (hdL g) ++ B) = ((w ++ [10]) ++ hdL g l) ++ unlT (M.map (hdL g) ++ B) := by
      show w ++ (10 :: (hdL g l ++ unlT (M.map (hdL g) ++ B))) = _
      rw [List.append_assoc, List.append_assoc]; rfl
    rw [t1, e1, t2, ← ih, List.append_assoc (w ++ [10])]
theorem heads_law (g : List Int → Int × List Int) (M B : List (List Int)) (w : List Int) (p : Int) (hp : (w.length : Int) = p) (hM : ∀ l ∈ M, 0 ≤ (g l).1 ∧ (g l).1 ≤ (l.length : Int)) :
    applyL (headsL g M p 0) (w ++ unl (M ++ B)) = some (w ++ unl (M.map (hdL g) ++ B)) := by
  cases M with
  | nil => rfl
  | cons l M =>
    obtain ⟨grown', e1, e2⟩ := heads_one (hM l List.mem_cons_self) (M := M) (w := w) (rest := unlT (M ++ B)) (p := p) (grown := 0) (by omega)
    have ih := heads_tail g B M (w ++ hdL g l) _ _ e2 (fun x hx => hM x (List.mem_cons_of_mem _ hx))
    show applyL (headsL g (l :: M) p 0) (w ++ (l ++ unlT (M ++ B))) = some (w ++ (hdL g l ++ unlT (M.map (hdL g) ++ B)))
    rw [e1, ← List.append_assoc, ih, List.append_assoc]
theorem mass_heads (g : List Int → Int × List Int) : ∀ (M : List (List Int)) (p grown : Int), massL (headsL g M p grown) ≤ massH g M
  | [], _, _ => Nat.le_refl _
  | l :: M, p, grown => by
    unfold headsL massH
    split
    · have := mass_heads g M (p + ((l.length : Int) + 1)) (grown + (((g l).2.length : Int) - (g l).1))
      unfold massL
      dsimp only
      rw [List.length_take]
      omega
    · have := mass_heads g M (p + ((l.length : Int) + 1)) grown
      omega
theorem unlT_length : ∀ L : List (List Int), (unlT L).length = massH (fun _ => (0, [])) L
  | [] => rfl
  | l :: r => by
    have := unlT_length r
    unfold unlT massH
    rw [List.length_cons, List.length_append, this]
    show _ = l.length + 1 + 0 + _
    omega
theorem massH_append (g : List Int → Int × List Int) : ∀ A B : List (List Int), massH g (A ++ B) = massH g A + massH g B
  | [], B => by simp [massH]
  | a :: A, B => by
    show a.length + 1 + (g a).2.length + massH g (A ++ B) = a.length + 1 + (g a).2.length + massH g A + massH g B
    rw [massH_append g A B]
    omega
theorem unl_length {L : List (List Int)} (h : L ≠ []) : (unl L).length + 1 = massH (fun _ => (0, [])) L := by
  rw [← unlT_length, unlT_unl h, List.length_cons]
theorem split_three (t : List Int) {a b : Nat} (hab : a ≤ b) (hb : b ≤ cnt t) : ∃ A M B : List (List Int), lines_Split_F t = A ++ (M ++ B) ∧ A.length = a ∧ M.length = b - a + 1 ∧ slc (lines_Split_F t) (a : Int) ((b : Int) + 1) = M ∧
    t = headW A ++ unl (M ++ B) ∧ Begins t a (headW A).length ∧ massH (fun _ => (0, [])) M ≤ t.length + 1 := by
  obtain ⟨h1, h2, h3⟩ := split_ok t
  generalize lines_Split_F t = L at *
  refine ⟨L.take a, (L.take (b + 1)).drop a, L.drop (b + 1), ?_, by rw [List.length_take]; omega, by rw [List.length_drop, List.length_take]; omega, ?_, ?_, ?_, ?_⟩
  · have e : L.take a = (L.take (b + 1)).take a := by rw [List.take_take, Nat.min_eq_left (by omega)]
    rw [← List.append_assoc, e, List.take_append_drop, List.take_append_drop]
  · unfold slc
    rw [Int.toNat_natCast, show ((b : Int) + 1).toNat = b + 1 by omega]
  all_goals
    have e0 : L = L.take a ++ ((L.take (b + 1)).drop a ++ L.drop (b + 1)) := by
      have e : L.take a = (L.take (b + 1)).take a := by rw [List.take_take, Nat.min_eq_left (by omega)]
      rw [← List.append_assoc, e, List.take_append_drop, List.take_append_drop]
    have hX : (L.take (b + 1)).drop a ++ L.drop (b + 1) ≠ [] := by
      intro e
      have := congrArg List.length e
      rw [List.length_append, List.length_drop, List.length_take, List.length_nil] at this
      omega
  · rw [← unl_append hX, ← e0, h1]
  · have := headW_begins hX (A := L.take a) (fun x hx => h2 x (List.mem_of_mem_take hx))
    rw [← e0, h1, List.length_take, Nat.min_eq_left (by omega)] at this
    exact this
  · have e1 : (unl L).length + 1 = massH (fun _ => (0, [])) L := unl_length (by intro e; rw [e] at h3; simp at h3)
    rw [h1] at e1
    have e2 := congrArg (massH (fun _ => ((0 : Int), ([] : List Int)))) e0
    rw [massH_append, massH_append] at e2
    omega
end Go.VE
namespace Go.VE
theorem slc_le (t : List Int) (f g : Int) : (slc t f g).length ≤ t.length := by
  unfold slc; rw [List.length_drop, List.length_take]; omega
theorem place_P {i : Int} {n : Nat} (hn : n ≤ 20000) : qo_place_P i (IntKind.wrap .i64 ((n : Int) + 1)) := by
  rw [wrap_i64 (by omega) (by omega)]
  unfold qo_place_P
  cases decide (i < 0) <;> show _ ≠ _ <;> omega
theorem place_F {i : Int} {n : Nat} (hn : n ≤ 20000) (h1 : -9223372036854775808 ≤ i) (h2 : i ≤ 9223372036854775807) : ∃ k : Nat, qo_place_F i (IntKind.wrap .i64 ((n : Int) + 1)) = (k : Int) ∧ k ≤ n := by
  have key : ∀ j : Int, 0 ≤ j → ∃ k : Nat, Int.tmod j ((n : Int) + 1) = (k : Int) ∧ k ≤ n := fun j hj => by
    have g1 := Int.tmod_nonneg ((n : Int) + 1) hj
    have g2 := Int.tmod_lt_of_pos j (show (0 : Int) < (n : Int) + 1 by omega)
    exact ⟨(Int.tmod j ((n : Int) + 1)).toNat, by omega, by omega⟩
  rw [wrap_i64 (n := (n : Int) + 1) (by omega) (by omega)]
  unfold qo_place_F
  by_cases c : i < 0
  · rw [decide_eq_true c, cond_true, wrap_i64 (n := i + 1) (by omega) (by omega), wrap_i64 (by omega) (by omega)]
    exact key _ (by omega)
  · rw [decide_eq_false c, cond_false]
    exact key _ (by omega)
end Go.VE
namespace Go.VE
theorem put_J0 {t p all : List Int} {at_ : Int} {x} (h0 : 0 ≤ at_) (h1 : at_ ≤ t.length) (hl : t.length ≤ lim) (ha : all.length ≤ lim) : oper_Put_J0_P t at_ p all x := edited_P h0 (Int.le_refl _) h1 hl ha
theorem put_J1 {t all : List Int} {line place : Int} {x} (h0 : 0 ≤ place) (h1 : place ≤ t.length) (hl : t.length + all.length ≤ lim) : oper_Put_J1_P t all line place x :=
  ⟨edited_P h0 (Int.le_refl _) h1 (by omega) (by omega), apply_P t all place place hl⟩
theorem put_J2 {t all : List Int} {line : Int} {x} (ha : 1 ≤ all.length) (hl : t.length + all.length + 1 ≤ lim) : oper_Put_J2_P t all line x := by
  have hlim : lim = 1099511627776 := rfl
  have hs := lines_Start_F_le t line
  unfold oper_Put_J2_P
  dsimp only
  cases !decide ((lines_Start_F t line).2 = 0)
  · rw [cond_false]; exact put_J1 hs.1 hs.2 (by omega)
  · rw [cond_true, wrap_i64 (by omega) (by omega)]
    have e : (List.take (Int.toNat ((all.length : Int) - 1)) all).length ≤ all.length := by rw [List.length_take]; omega
    refine ⟨by omega, ?_, put_J1 (by omega) (by omega) ?_⟩
    · rw [List.length_singleton]; omega
    · rw [List.length_append, List.length_singleton]; omega
theorem put_J3 {t p : List Int} {at_ count : Int} {ahead : Bool} {r : Bool × Bool × List Int} {x} (h0 : 0 ≤ at_) (h1 : at_ ≤ t.length) (ht : t.length ≤ 4294967296) (hp : p.length < 4294967296) (hc : 1 ≤ count ∧ count ≤ 9999) (hr : r.2.1 = true → 1 ≤ p.length) :
    oper_Put_J3_P t at_ count ahead p r x := by
  have hlim : lim = 1099511627776 := rfl
  have hm : 0 ≤ (p.length : Int) * count := Int.mul_nonneg (by omega) (by omega)
  have hm2 : (p.length : Int) * count ≤ 4294967296 * 9999 := Int.mul_le_mul (by omega) (by omega) (by omega) (by omega)
  unfold oper_Put_J3_P
  rw [wrap_i64 (by omega) (by omega)]
  by_cases c : (65536 : Int) < (p.length : Int) * count
  · rw [decide_eq_true c]; trivial
  · rw [decide_eq_false c, cond_false]
    have hlen : (repB p count.toNat).length = count.toNat * p.length := repB_length p _
    have hcn : ((count.toNat * p.length : Nat) : Int) = (p.length : Int) * count := by
      rw [Int.natCast_mul, Int.toNat_of_nonneg (by omega), Int.mul_comm]
    have hle : (repB p count.toNat).length ≤ 65536 := by omega
    refine ⟨⟨by omega, by omega, hp, by omega⟩, ?_⟩
    dsimp only
    unfold bytes_Repeat_F
    cases hb : r.2.1
    · rw [Bool.not_false, cond_true]
      cases decide (((repB p count.toNat).length : Int) = 0)
      · cases ahead
        · rw [Bool.not_false, cond_false, cond_true]
          refine ⟨?_, ?_⟩
          · unfold oper_within_P
            by_cases c2 : at_ < (t.length : Int)
            · rw [decide_eq_true c2]; exact ⟨h0, c2⟩
            · rw [decide_eq_false c2]; trivial
          · cases hw : oper_within_F t at_
            · rw [cond_false]; exact put_J0 h0 h1 (by omega) (by omega)
            · rw [cond_true]
              have hlt : at_ < (t.length : Int) := by
                unfold oper_within_F at hw
                by_cases c2 : at_ < (t.length : Int)
                · exact c2
                · rw [decide_eq_false c2] at hw; cases hw
              rw [wrap_i64 (by omega) (by omega)]
              exact put_J0 (by omega) (by omega) (by omega) (by omega)
        · show oper_Put_J0_P t at_ p (repB p count.toNat) x
          exact put_J0 h0 h1 (by omega) (by omega)
      · trivial
    · have h3 := hr hb
      have h4 : 1 ≤ (repB p count.toNat).length := by
        rw [hlen]
        exact Nat.mul_pos (by omega) (by omega)
      rw [Bool.not_true, cond_false]
      refine ⟨lines_Of_any _ _, ?_⟩
      cases ahead
      · rw [Bool.not_false, cond_true]; exact put_J2 h4 (by omega)
      · rw [Bool.not_true, cond_false]; exact put_J2 h4 (by omega)
theorem hasSuffix_P (s : List Int) (hs : s.length ≤ lim) : bytes_HasSuffix_P s [10] := by
  have hlim : lim = 1099511627776 := rfl
  unfold bytes_HasSuffix_P
  by_cases c : (List.length ([10] : List Int) : Int) ≤ (s.length : Int)
  · rw [decide_eq_true c]
    rw [List.length_singleton] at *
    show _ ∧ _
    rw [wrap_i64 (by omega) (by omega)]; omega
  · rw [decide_eq_false c]; trivial
theorem hasSuffix_iff (s : List Int) (hs : s.length ≤ lim) : bytes_HasSuffix_F s [10] = true ↔ s.getLast? = some 10 := by
  have hlim : lim = 1099511627776 := rfl
  unfold bytes_HasSuffix_F
  cases s with
  | nil => simp
  | cons a l =>
    rw [decide_eq_true (by simp only [List.length_cons, List.length_nil]; omega), cond_true]
    dsimp only
    rw [List.length_cons, List.length_singleton, wrap_i64 (by rw [List.length_cons] at hs; omega) (by rw [List.length_cons] at hs; omega), show (((l.length + 1 : Nat) : Int) - ((1 : Nat) : Int)).toNat = l.length by omega]
    unfold bytes_Equal_F
    rw [decide_eq_true_eq]
    have : List.drop l.length (a :: l) = [(a :: l).getLast (by simp)] := by
      have e := List.dropLast_concat_getLast (l := a :: l) (by simp)
      conv => lhs; rw [← e]
      rw [List.drop_append_of_le_length (by simp), List.drop_eq_nil_of_le (by simp)]
      rfl
    rw [this, List.getLast?_eq_some_getLast (by simp)]
    simp
theorem put_P {t : List Int} {at_ count : Int} {r : Bool × Bool × List Int} {ahead : Bool} (ht : t.length ≤ 4294967296) (hr : r.2.2.length < 4294967295) : oper_Put_P t at_ count r ahead := by
  have hlim : lim = 1099511627776 := rfl
  unfold oper_Put_P
  dsimp only
  cases ho : oper_outside_F t at_ count 1
  · have hout : 0 ≤ at_ ∧ at_ ≤ t.length ∧ 1 ≤ count ∧ count ≤ 9999 := by
      unfold oper_outside_F at ho
      by_cases c1 : at_ < 0
      · rw [decide_eq_true c1] at ho; cases ho
      · rw [decide_eq_false c1] at ho
        by_cases c2 : (t.length : Int) < at_
        · rw [decide_eq_true c2] at ho; cases ho
        · rw [decide_eq_false c2] at ho
          by_cases c3 : count < 1
          · rw [decide_eq_true c3] at ho; cases ho
          · rw [decide_eq_false c3] at ho
            have c4 : ¬ (9999 : Int) < count := of_decide_eq_false ho
            omega
    rw [cond_false]
    cases !r.1
    · rw [cond_false]
      refine ⟨show _ ≤ lim by omega, ?_⟩
      unfold bytes_Clone_F
      cases hl : r.2.1
      · rw [cond_false]
        exact put_J3 hout.1 hout.2.1 ht (by omega) hout.2.2 (fun e => by rw [hl] at e; cases e)
      · rw [cond_true]
        refine ⟨hasSuffix_P _ (by omega), ?_⟩
        cases hh : bytes_HasSuffix_F r.2.2 [10]
        · rw [Bool.not_false, cond_true]
          refine ⟨by rw [List.length_singleton]; omega, put_J3 hout.1 hout.2.1 ht (by rw [List.length_append, List.length_singleton]; omega) hout.2.2 (fun _ => by rw [List.length_append, List.length_singleton]; omega)⟩
        · rw [Bool.not_true, cond_false]
          refine put_J3 hout.1 hout.2.1 ht (by omega) hout.2.2 (fun _ => ?_)
          have := (hasSuffix_iff r.2.2 (by omega)).1 hh
          cases hq : r.2.2 with
          | nil => rw [hq] at this; cases this
          | cons a l => simp
    · trivial
  · trivial
end Go.VE
namespace Go.VE
theorem take_J0 {text : List Int} {r x} (h : text.length + 1 ≤ lim) : extent_Take_J0_P text r x := by
  have hlim : lim = 1099511627776 := rfl
  unfold extent_Take_J0_P
  refine ⟨show _ ≤ lim by omega, ?_⟩
  unfold slC_F
  dsimp only
  cases r.2.2.2
  · rw [cond_false]
    by_cases c : (text.length : Int) = 0
    · rw [decide_eq_true c]; show _ ≤ lim; rw [List.length_singleton]; exact h
    · rw [decide_eq_false c, cond_false, wrap_i64 (by omega) (by omega)]
      refine ⟨by omega, ?_⟩
      cases !decide (rd (0 : Int) text ((text.length : Int) - 1) = 10)
      · trivial
      · show _ ≤ lim; rw [List.length_singleton]; exact h
  · show _ ≤ lim; rw [List.length_singleton]; exact h
theorem take_P {t : List Int} (r : Int × Int × Bool × Bool) (hl : t.length + 1 ≤ lim) : extent_Take_P t r := by
  have hlim : lim = 1099511627776 := rfl
  unfold extent_Take_P
  by_cases c1 : r.1 < 0
  · rw [decide_eq_true c1]; trivial
  rw [decide_eq_false c1, cond_false]
  by_cases c2 : r.2.1 < r.1
  · rw [decide_eq_true c2]; trivial
  rw [decide_eq_false c2, cond_false]
  by_cases c3 : (t.length : Int) < r.2.1
  · rw [decide_eq_true c3]; trivial
  rw [decide_eq_false c3, cond_false]
  cases r.2.2.1
  · exact ⟨by omega, show _ ≤ lim from Nat.le_trans (slc_le _ _ _) (by omega)⟩
  · rw [Bool.not_true, cond_false]
    refine ⟨by omega, ?_⟩
    cases r.2.2.2
    · rw [cond_false]
      exact take_J0 (by have := slc_le t r.1 r.2.1; omega)
    · rw [cond_true]
      by_cases c4 : r.1 = (t.length : Int)
      · rw [decide_eq_true c4]; trivial
      · rw [decide_eq_false c4, cond_false]
        refine ⟨by omega, ?_⟩
        cases !decide (rd (0 : Int) t r.1 = 10)
        · rw [cond_false, wrap_i64 (by omega) (by omega)]
          refine ⟨⟨by omega, ?_, ?_⟩, take_J0 (by have := slc_le t (r.1 + 1) (mx (r.1 + 1) r.2.1); omega)⟩
          · unfold mx; by_cases c5 : r.1 + 1 < r.2.1
            · rw [decide_eq_true c5, cond_true]; omega
            · rw [decide_eq_false c5, cond_false]; omega
          · unfold mx; by_cases c5 : r.1 + 1 < r.2.1
            · rw [decide_eq_true c5, cond_true]; omega
            · rw [decide_eq_false c5, cond_false]; omega
        · trivial
theorem deleted_P {j : Job} (h0 : 0 ≤ j.2.2.1.1) (h1 : j.2.2.1.1 ≤ j.2.2.1.2.1) (h2 : j.2.2.1.2.1 ≤ (j.1.length : Int)) (hl : j.1.length + 1 ≤ lim) : oj_deleted_P j := by
  unfold oj_deleted_P
  refine ⟨edited_P h0 h1 h2 (by omega) (Nat.zero_le _), take_P _ hl, ?_⟩
  dsimp only
  cases j.2.2.1.2.2.1
  · trivial
  · exact ⟨apply_P _ _ _ _ (by simp; omega), Count_P _⟩
theorem At_any (t : List Int) (l c : Int) : lines_At_P t l c := by
  have hs := lines_Start_F_le t l
  unfold lines_At_P
  dsimp only
  cases !decide ((lines_Start_F t l).2 = 0)
  · cases decide (c < -1)
    · exact hs
    · trivial
  · trivial
theorem Column_any (t : List Int) (p : Int) : lines_Column_P t p := by
  unfold lines_Column_P
  dsimp only
  cases h : lines_has_F t p
  · trivial
  · unfold lines_has_F at h
    by_cases c : (0 : Int) ≤ p
    · rw [decide_eq_true c] at h
      exact ⟨c, of_decide_eq_true h⟩
    · rw [decide_eq_false c] at h; cases h
theorem stay_any (j : Job) : oj_stay_P j := by
  unfold oj_stay_P
  cases j.2.2.1.2.2.1
  · trivial
  · exact ⟨Column_any _ _, At_any _ _ _⟩
theorem spanned_ok {t : List Int} {at_ : Int} {r : Int × Int × Bool × Bool} (h : (oper_spanned_F t at_ r).2.2 = true) : 0 ≤ r.1 ∧ r.1 ≤ r.2.1 ∧ r.2.1 ≤ (t.length : Int) := by
  unfold oper_spanned_F at h
  dsimp only at h
  by_cases c : (lines_Of_F t r.1).2 = 0
  · rw [decide_eq_true c, Bool.not_true, cond_false] at h
    have h0 : 0 ≤ r.1 := by
      unfold lines_Of_F lines_has_F at c
      by_cases c0 : (0 : Int) ≤ r.1
      · exact c0
      · rw [decide_eq_false c0] at c; cases c
    by_cases c1 : r.2.1 < r.1
    · rw [decide_eq_true c1] at h; cases h
    · rw [decide_eq_false c1, cond_false] at h
      by_cases c2 : (t.length : Int) < r.2.1
      · rw [decide_eq_true c2] at h; cases h
      · omega
  · rw [decide_eq_false c] at h; cases h
end Go.VE
namespace Go.VE
theorem cnt_le (t : List Int) : cnt t ≤ t.length := List.count_le_length
theorem count_eq (t : List Int) : lines_Count_F t = IntKind.wrap .i64 ((cnt t : Int) + 1) := rfl

/-! ### lines, whole -/
theorem whole_mid {t : List Int} {a b pa pe : Nat} (ht : t.length ≤ 65536) (ha : Begins t a pa) (hb : Begins t (b + 1) pe) (hab : a ≤ b) : extent_Whole_F t (a : Int) (b : Int) = (((pa : Int), (pe : Int), true, false), 0) := by
  have hc := hb.cnt_le
  have hcl := cnt_le t
  obtain ⟨pb, hpb⟩ := begins_ex (t := t) (n := b) (by omega)
  unfold extent_Whole_F
  rw [start_at ha, start_at hpb, wrap_i64 (by omega) (by omega), show (b : Int) + 1 = ((b + 1 : Nat) : Int) by omega, start_at hb]
  dsimp only
  rw [decide_eq_false (by omega : ¬ (b : Int) < a)]
  rfl
theorem whole_end {t : List Int} {a pa : Nat} (ht : t.length ≤ 65536) (ha : Begins t a pa) : extent_Whole_F t (a : Int) (cnt t : Int) = if 0 < a then ((((pa - 1 : Nat) : Int), (t.length : Int), true, true), 0) else ((0, (t.length : Int), true, false), 0) := by
  have hc := ha.cnt_le
  have hcl := cnt_le t
  have hp := ha.1
  obtain ⟨pb, hpb⟩ := begins_ex (t := t) (n := cnt t) (Nat.le_refl _)
  unfold extent_Whole_F
  rw [start_at ha, start_at hpb, wrap_i64 (by omega) (by omega), show (cnt t : Int) + 1 = ((cnt t + 1 : Nat) : Int) by omega, start_out (by omega)]
  dsimp only
  rw [decide_eq_false (by omega : ¬ (cnt t : Int) < a), wrap_i64 (by omega) (by omega)]
  by_cases h : 0 < a
  · have := (ha.pos h).1
    rw [if_pos h, decide_eq_true (by omega : (0 : Int) < (a : Int)), show ((pa - 1 : Nat) : Int) = (pa : Int) - 1 by omega]
    rfl
  · rw [if_neg h, decide_eq_false (by omega : ¬ (0 : Int) < (a : Int))]
    rfl
theorem start_nonneg {t : List Int} {n : Int} (h : (lines_Start_F t n).2 = 0) : 0 ≤ n := by
  unfold lines_Start_F at h
  by_cases c : n < 0
  · rw [if_pos c] at h; cases h
  · omega
theorem whole_nonneg {t : List Int} {a b : Int} (h : (extent_Whole_F t a b).2 = 0) : 0 ≤ b := by
  unfold extent_Whole_F at h
  dsimp only at h
  cases c1 : !decide ((lines_Start_F t a).2 = 0)
  · rw [c1, cond_false] at h
    cases c2 : !decide ((lines_Start_F t b).2 = 0)
    · exact start_nonneg (by simpa using c2)
    · rw [c2] at h; cases h
  · rw [c1] at h; cases h
theorem eqT_range (r : Int × Int × Bool × Bool) : eqT (.pair (.int .i64) (.pair (.int .i64) (.pair (.bool) (.bool)))) r r = true := by
  obtain ⟨a, b, c, d⟩ := r
  simp [eqT]
theorem step_keeps {t : List Int} {a here : Int} {r : Int × Int × Bool × Bool} {f : Int} (b : Int) (h : 0 ≤ f) : 0 ≤ spanStep t a here r f b := by
  unfold spanStep
  split
  · rename_i hc; exact whole_nonneg hc.1
  · exact h
theorem step_finds {t : List Int} {a here : Int} {r : Int × Int × Bool × Bool} (f : Int) {b : Int} (hb : 0 ≤ b) (h : extent_Whole_F t a b = (r, 0)) : 0 ≤ spanStep t a here r f b := by
  unfold spanStep
  rw [h]
  by_cases c : 0 ≤ f ∧ here ≤ f
  · rw [if_neg (fun hh => hh.2.2 c)]; exact c.1
  · rw [if_pos ⟨rfl, eqT_range r, c⟩]; exact hb
theorem spanned_J1 {t : List Int} (ht : t.length ≤ 65536) {at_ a : Int} {r : Int × Int × Bool × Bool} {b : Nat} (h : extent_Whole_F t a (b : Int) = (r, 0)) (hb : (b : Int) = (lines_Of_F t r.2.1).1 - 1 ∨ b = cnt t)
    (hr : (lines_Of_F t r.2.1).1 ≤ 100000 ∧ 0 ≤ (lines_Of_F t r.2.1).1) : (oper_spanned_J1_F t at_ a r).2.2 = true := by
  have hcl := cnt_le t
  unfold oper_spanned_J1_F oper_spanned_L0_F
  dsimp only
  rw [count_eq, wrap_i64 (n := (cnt t : Int) + 1) (by omega) (by omega), wrap_i64 (n := (cnt t : Int) + 1 - 1) (by omega) (by omega), wrap_i64 (by omega) (by omega), show (cnt t : Int) + 1 - 1 = (cnt t : Int) by omega]
  rw [decide_eq_true_eq]
  simp only [List.foldl_cons, List.foldl_nil]
  rcases hb with hb | hb
  · rw [← hb]
    exact step_keeps _ (step_finds _ (by omega) h)
  · subst hb
    exact step_finds _ (by omega) h
theorem spanned_lines {t : List Int} (ht : t.length ≤ 65536) {at_ : Int} {f g : Nat} {lead : Bool} {b : Nat} (h1 : f ≤ g) (h2 : g ≤ t.length)
    (h : extent_Whole_F t (((cnt (t.take f) + (if lead then 1 else 0) : Nat)) : Int) (b : Int) = (((f : Int), (g : Int), true, lead), 0)) (hb : b + 1 = cnt (t.take g) ∨ b = cnt t) : (oper_spanned_F t at_ ((f : Int), (g : Int), true, lead)).2.2 = true := by
  have hof : lines_Of_F t (g : Int) = ((cnt (t.take g) : Int), 0) := Of_eq h2
  have hcg := cnt_take_all t g
  have hcf := cnt_take_all t f
  have hcl := cnt_le t
  have J : ∀ a : Int, a = (((cnt (t.take f) + (if lead then 1 else 0) : Nat)) : Int) → (oper_spanned_J1_F t at_ a ((f : Int), (g : Int), true, lead)).2.2 = true := fun a ha => by
    subst ha
    refine spanned_J1 ht h ?_ ?_
    · rw [hof]; rcases hb with hb | hb
      · exact .inl (by show (b : Int) = (cnt (t.take g) : Int) - 1; omega)
      · exact .inr hb
    · rw [hof]; show (cnt (t.take g) : Int) ≤ 100000 ∧ (0 : Int) ≤ (cnt (t.take g) : Int); omega
  unfold oper_spanned_F
  rw [Of_eq (show f ≤ t.length by omega)]
  dsimp only
  rw [decide_eq_false (by omega : ¬ (g : Int) < f), decide_eq_false (by omega : ¬ (t.length : Int) < g)]
  cases lead
  · show (oper_spanned_J1_F t at_ (cnt (t.take f) : Int) _).2.2 = true
    exact J _ (by rw [if_neg (by simp), Nat.add_zero])
  · show (oper_spanned_J1_F t at_ (IntKind.wrap .i64 ((cnt (t.take f) : Int) + 1)) _).2.2 = true
    exact J _ (by rw [wrap_i64 (by omega) (by omega)]; simp)

/-! ### what is taken out -/
theorem take_plain {t : List Int} {f g : Nat} (lead : Bool) (h1 : f ≤ g) (h2 : g ≤ t.length) : extent_Take_F t ((f : Int), (g : Int), false, lead) = ((true, false, (t.take g).drop f), 0) := by
  unfold extent_Take_F
  dsimp only
  rw [decide_eq_false (by omega : ¬ (f : Int) < 0), decide_eq_false (by omega : ¬ (g : Int) < f), decide_eq_false (by omega : ¬ (t.length : Int) < g), slc_nat]
  rfl
theorem take_J0_ten {text : List Int} {r x} (hl : r.2.2.2 = false) (hs : text.length ≤ lim) (h : text.getLast? = some 10) : extent_Take_J0_F text r x = (0, (true, true, text)) := by
  have hlim : lim = 1099511627776 := rfl
  cases text with
  | nil => cases h
  | cons y l =>
    rw [List.length_cons] at hs
    unfold extent_Take_J0_F slC_F
    dsimp only
    have e : rd (0 : Int) (y :: l) (IntKind.wrap .i64 (((y :: l).length : Int) - 1)) = 10 := by
      rw [List.length_cons, wrap_i64 (by omega) (by omega), show (((l.length + 1 : Nat) : Int) - 1) = ((l.length : Nat) : Int) by omega, rd_nat _ _ _ (by simp)]
      rw [List.getLast?_eq_getElem?] at h
      simpa using h
    rw [hl, e, decide_eq_false (by rw [List.length_cons]; omega)]
    rfl
theorem take_mid {t : List Int} {f g : Nat} (h1 : f < g) (h2 : g ≤ t.length) (hl : t.length ≤ lim) (h : t[g - 1]? = some 10) : extent_Take_F t ((f : Int), (g : Int), true, false) = ((true, true, (t.take g).drop f), 0) := by
  have hlen : ((t.take g).drop f).length = g - f := by rw [List.length_drop, List.length_take]; omega
  unfold extent_Take_F
  dsimp only
  rw [decide_eq_false (by omega : ¬ (f : Int) < 0), decide_eq_false (by omega : ¬ (g : Int) < f), decide_eq_false (by omega : ¬ (t.length : Int) < g), slc_nat]
  have e := take_J0_ten (text := (t.take g).drop f) (r := ((f : Int), (g : Int), true, false)) (x := (false, false, [])) rfl (by omega) (by
    rw [List.getLast?_eq_getElem?, hlen, List.getElem?_drop, List.getElem?_take_of_lt (by omega), show f + (g - f - 1) = g - 1 by omega]; exact h)
  refine (show _ = ((extent_Take_J0_F ((t.take g).drop f) ((f : Int), (g : Int), true, false) (false, false, [])).2, (extent_Take_J0_F ((t.take g).drop f) ((f : Int), (g : Int), true, false) (false, false, [])).1) from rfl).trans ?_
  rw [e]
theorem take_lead {t : List Int} {f : Nat} (ht : t.length ≤ 65536) (h1 : f < t.length) (h : t[f]? = some 10) : extent_Take_F t ((f : Int), (t.length : Int), true, true) = ((true, true, t.drop (f + 1) ++ [10]), 0) := by
  have e : rd (0 : Int) t (f : Int) = 10 := by
    rw [rd_nat _ _ _ h1]
    rw [List.getElem?_eq_getElem h1] at h
    exact Option.some.inj h
  have em : mx ((f : Int) + 1) (t.length : Int) = (t.length : Int) := by
    unfold mx
    by_cases c : (f : Int) + 1 < t.length
    · rw [decide_eq_true c]; rfl
    · rw [decide_eq_false c, cond_false]; omega
  unfold extent_Take_F
  dsimp only
  rw [decide_eq_false (by omega : ¬ (f : Int) < 0), decide_eq_false (by omega : ¬ (t.length : Int) < f), decide_eq_false (by omega : ¬ (t.length : Int) < t.length), decide_eq_false (by omega : ¬ (f : Int) = t.length), e, wrap_i64 (by omega) (by omega), em,
    show (f : Int) + 1 = ((f + 1 : Nat) : Int) by omega, slc_nat t (f + 1) t.length, List.take_length]
  rfl
end Go.VE
namespace Go.VE
theorem outside_iff {t : List Int} {p c low : Int} (h : oper_outside_F t p c low = false) : 0 ≤ p ∧ p ≤ (t.length : Int) ∧ low ≤ c ∧ c ≤ 9999 := by
  unfold oper_outside_F at h
  by_cases c1 : p < 0
  · rw [decide_eq_true c1] at h; cases h
  · rw [decide_eq_false c1, cond_false] at h
    by_cases c2 : (t.length : Int) < p
    · rw [decide_eq_true c2] at h; cases h
    · rw [decide_eq_false c2, cond_false] at h
      by_cases c3 : c < low
      · rw [decide_eq_true c3] at h; cases h
      · rw [decide_eq_false c3, cond_false] at h
        have := of_decide_eq_false h
        omega
theorem start_ok {t : List Int} {n : Int} (h : (lines_Start_F t n).2 = 0) : 0 ≤ n ∧ n ≤ (cnt t : Int) := by
  have h0 := start_nonneg h
  obtain ⟨k, rfl⟩ := Int.eq_ofNat_of_zero_le h0
  by_cases c : k ≤ cnt t
  · omega
  · rw [start_out (by omega)] at h; cases h
theorem whole_ab {t : List Int} {a b : Int} (h : (extent_Whole_F t a b).2 = 0) : 0 ≤ a ∧ a ≤ b ∧ b ≤ (cnt t : Int) := by
  unfold extent_Whole_F at h
  dsimp only at h
  by_cases c1 : (lines_Start_F t a).2 = 0
  · rw [decide_eq_true c1, Bool.not_true, cond_false] at h
    by_cases c2 : (lines_Start_F t b).2 = 0
    · rw [decide_eq_true c2, Bool.not_true, cond_false] at h
      by_cases c3 : b < a
      · rw [decide_eq_true c3] at h; cases h
      · have := start_ok c1
        have := start_ok c2
        omega
    · rw [decide_eq_false c2] at h; cases h
  · rw [decide_eq_false c1] at h; cases h
theorem step_ab {t : List Int} {a here : Int} {r : Int × Int × Bool × Bool} {f : Int} (b : Int) (hf : 0 ≤ f → 0 ≤ a ∧ a ≤ f ∧ f ≤ (cnt t : Int)) (h : 0 ≤ spanStep t a here r f b) : 0 ≤ a ∧ a ≤ spanStep t a here r f b ∧ spanStep t a here r f b ≤ (cnt t : Int) := by
  unfold spanStep at h ⊢
  split
  · rename_i hc
    exact whole_ab hc.1
  · rename_i hc
    rw [if_neg hc] at h
    exact hf h
theorem J1_ab {t : List Int} {at_ a : Int} {r : Int × Int × Bool × Bool} (h : (oper_spanned_J1_F t at_ a r).2.2 = true) : (oper_spanned_J1_F t at_ a r).1 = a ∧ 0 ≤ a ∧ a ≤ (oper_spanned_J1_F t at_ a r).2.1 ∧ (oper_spanned_J1_F t at_ a r).2.1 ≤ (cnt t : Int) := by
  unfold oper_spanned_J1_F oper_spanned_L0_F at h ⊢
  dsimp only at h ⊢
  simp only [List.foldl_cons, List.foldl_nil] at h ⊢
  exact ⟨trivial, step_ab _ (fun h2 => step_ab _ (fun h3 => absurd h3 (by decide)) h2) (of_decide_eq_true h)⟩
theorem spanned_ab {t : List Int} (ht : t.length ≤ 1048576) {at_ : Int} {r : Int × Int × Bool × Bool} (h : (oper_spanned_F t at_ r).2.2 = true) :
    0 ≤ (oper_spanned_F t at_ r).1 ∧ (oper_spanned_F t at_ r).1 ≤ (oper_spanned_F t at_ r).2.1 ∧ (oper_spanned_F t at_ r).2.1 ≤ (cnt t : Int) := by
  obtain ⟨h0, h1, h2⟩ := spanned_ok h
  obtain ⟨f, hf⟩ := Int.eq_ofNat_of_zero_le h0
  unfold oper_spanned_F at h ⊢
  dsimp only at h ⊢
  have hof : lines_Of_F t r.1 = ((cnt (t.take f) : Int), 0) := by rw [hf]; exact Of_eq (by omega)
  rw [hof] at h ⊢
  rw [decide_eq_false (by omega : ¬ r.2.1 < r.1), decide_eq_false (by omega : ¬ (t.length : Int) < r.2.1)] at h ⊢
  revert h
  cases r.2.2.1
  · intro _
    have hm : ∃ m : Nat, mx r.1 (IntKind.wrap .i64 (r.2.1 - 1)) = (m : Int) ∧ f ≤ m ∧ m ≤ t.length := by
      rw [wrap_i64 (by omega) (by omega)]
      unfold mx
      by_cases c : r.1 < r.2.1 - 1
      · rw [decide_eq_true c]; exact ⟨(r.2.1 - 1).toNat, by show r.2.1 - 1 = _; omega, by omega, by omega⟩
      · rw [decide_eq_false c]; exact ⟨f, hf, Nat.le_refl _, by omega⟩
    obtain ⟨m, e, h3, h4⟩ := hm
    show (0 : Int) ≤ (cnt (t.take f) : Int) ∧ (cnt (t.take f) : Int) ≤ (lines_Of_F t (mx r.1 (IntKind.wrap .i64 (r.2.1 - 1)))).1 ∧ (lines_Of_F t (mx r.1 (IntKind.wrap .i64 (r.2.1 - 1)))).1 ≤ (cnt t : Int)
    rw [e, Of_eq h4]
    have := cnt_take_le t h3
    have := cnt_take_all t m
    show (0 : Int) ≤ (cnt (t.take f) : Int) ∧ (cnt (t.take f) : Int) ≤ (cnt (t.take m) : Int) ∧ (cnt (t.take m) : Int) ≤ (cnt t : Int)
    omega
  · cases r.2.2.2
    · intro h
      have J := J1_ab (t := t) (at_ := at_) (a := (cnt (t.take f) : Int)) (r := r) h
      show 0 ≤ (oper_spanned_J1_F t at_ (cnt (t.take f) : Int) r).1 ∧ (oper_spanned_J1_F t at_ (cnt (t.take f) : Int) r).1 ≤ (oper_spanned_J1_F t at_ (cnt (t.take f) : Int) r).2.1 ∧ (oper_spanned_J1_F t at_ (cnt (t.take f) : Int) r).2.1 ≤ (cnt t : Int)
      rw [J.1]
      exact J.2
    · intro h
      have J := J1_ab (t := t) (at_ := at_) (a := IntKind.wrap .i64 ((cnt (t.take f) : Int) + 1)) (r := r) h
      show 0 ≤ (oper_spanned_J1_F t at_ (IntKind.wrap .i64 ((cnt (t.take f) : Int) + 1)) r).1 ∧ (oper_spanned_J1_F t at_ (IntKind.wrap .i64 ((cnt (t.take f) : Int) + 1)) r).1 ≤ (oper_spanned_J1_F t at_ (IntKind.wrap .i64 ((cnt (t.take f) : Int) + 1)) r).2.1 ∧ (oper_spanned_J1_F t at_ (IntKind.wrap .i64 ((cnt (t.take f) : Int) + 1)) r).2.1 ≤ (cnt t : Int)
      rw [J.1]
      exact J.2
structure JobOk (j : Job) : Prop where
  len : j.1.length ≤ 65536
  r0 : 0 ≤ j.2.2.1.1
  r1 : j.2.2.1.1 ≤ j.2.2.1.2.1
  r2 : j.2.2.1.2.1 ≤ (j.1.length : Int)
  a0 : 0 ≤ j.2.2.2.1
  ab : j.2.2.2.1 ≤ j.2.2.2.2.1
  b1 : j.2.2.2.2.1 ≤ (cnt j.1 : Int)
  c1 : 1 ≤ j.2.2.2.2.2
  c2 : j.2.2.2.2.2 ≤ 9999
theorem fits_first {t : List Int} {es : List (Int × List Int × List Int)} {u : List Int} (n : Int) (h : change_Apply_F t es = (u, 0)) (hu : u.length ≤ 9223372036854775807) : FitsE t es (lines_First_F (oper_with_F t es) n).1 := by
  have e : oper_with_F t es = u := by unfold oper_with_F; rw [h]
  have := First_le u n hu
  unfold FitsE
  rw [h, e]
  exact ⟨rfl, this.1, this.2⟩
theorem apply_edited_i (t p : List Int) {f g : Int} (h0 : 0 ≤ f) (h1 : f ≤ g) (h2 : g ≤ (t.length : Int)) (hl : t.length ≤ lim) : ∃ u, change_Apply_F t (oper_edited_F t f g p) = (u, 0) ∧ (u.length : Int) = (t.length : Int) - (g - f) + (p.length : Int) := by
  obtain ⟨f, rfl⟩ := Int.eq_ofNat_of_zero_le h0
  obtain ⟨g, rfl⟩ := Int.eq_ofNat_of_zero_le (by omega : 0 ≤ g)
  refine ⟨_, apply_edited t p (by omega) (by omega) hl, ?_⟩
  rw [List.length_append, List.length_append, List.length_take, List.length_drop]
  omega
theorem fits_edited_i (t p : List Int) {f g cur : Int} (h0 : 0 ≤ f) (h1 : f ≤ g) (h2 : g ≤ (t.length : Int)) (hl : t.length ≤ lim) (c0 : 0 ≤ cur) (c1 : cur ≤ (t.length : Int) - (g - f) + (p.length : Int)) : FitsE t (oper_edited_F t f g p) cur := by
  obtain ⟨u, e1, e2⟩ := apply_edited_i t p h0 h1 h2 hl
  unfold FitsE
  rw [e1]
  exact ⟨rfl, c0, by show cur ≤ (u.length : Int); omega⟩
theorem deleted_fine {j : Job} (h : JobOk j) : oj_deleted_P j ∧ Fine j.1 (oj_deleted_F j) := by
  have hl := h.len
  have h0 := h.r0
  have h1 := h.r1
  have h2 := h.r2
  have hlim : lim = 1099511627776 := rfl
  refine ⟨deleted_P h0 h1 h2 (by omega), .inr ?_⟩
  have hm := mass_edited j.1 [] j.2.2.1.1 j.2.2.1.2.1
  rw [List.length_nil] at hm
  obtain ⟨u, e1, e2⟩ := apply_edited_i j.1 [] h0 h1 h2 (by omega)
  rw [List.length_nil] at e2
  unfold oj_deleted_F
  dsimp only
  cases j.2.2.1.2.2.1
  · exact ⟨rfl, fits_edited_i (cur := j.2.2.1.1) j.1 [] h0 h1 h2 (by omega) h0 (by rw [List.length_nil]; omega), Nat.le_trans hm (by omega)⟩
  · exact ⟨rfl, fits_first _ e1 (by omega), Nat.le_trans hm (by omega)⟩
theorem taken_P' {j : Job} (h : JobOk j) : oj_taken_P j := take_P _ (by have := h.len; unfold lim; omega)
theorem tail_range' (t : List Int) (n : Int) (ht : t.length ≤ 65536) : (lines_Start_F t n).1 ≤ lines_tail_F t (lines_Start_F t n).1 ∧ lines_tail_F t (lines_Start_F t n).1 ≤ (t.length : Int) :=
  tail_range t (by omega) _ (lines_Start_F_le t n).1 (lines_Start_F_le t n).2
theorem End_any (t : List Int) (n : Int) : lines_End_P t n := by
  unfold lines_End_P
  dsimp only
  cases !decide ((lines_Start_F t n).2 = 0)
  · exact lines_Start_F_le t n
  · trivial
theorem End_eq {t : List Int} {n : Int} (h : (lines_Start_F t n).2 = 0) : lines_End_F t n = (lines_tail_F t (lines_Start_F t n).1, 0) := by
  unfold lines_End_F
  dsimp only
  rw [decide_eq_true h]
  rfl
theorem start_yes {t : List Int} {n : Int} (h0 : 0 ≤ n) (h1 : n ≤ (cnt t : Int)) : ∃ k p : Nat, n = (k : Int) ∧ Begins t k p ∧ lines_Start_F t n = ((p : Int), 0) := by
  obtain ⟨k, rfl⟩ := Int.eq_ofNat_of_zero_le h0
  obtain ⟨p, hp⟩ := begins_ex (t := t) (n := k) (by omega)
  exact ⟨k, p, rfl, hp, start_at hp⟩
theorem changed_J0 {j : Job} (h : JobOk j) (x2 : Eff) (rg : Bool × Bool × List Int) (ho : Int) : oj_changed_J0_P j x2 ([], j.2.2.1.1, rg, ho, true) ∧ Fine j.1 ((oj_changed_J0_F j x2 ([], j.2.2.1.1, rg, ho, true)).2, (oj_changed_J0_F j x2 ([], j.2.2.1.1, rg, ho, true)).1) := by
  have hl := h.len
  have h0 := h.r0
  have h1 := h.r1
  have h2 := h.r2
  have hlim : lim = 1099511627776 := rfl
  unfold oj_changed_J0_P oj_changed_J0_F
  dsimp only
  cases j.2.2.1.2.2.1
  · have hm := mass_edited j.1 [] j.2.2.1.1 j.2.2.1.2.1
    rw [List.length_nil] at hm
    exact ⟨edited_P h0 h1 h2 (by omega) (Nat.zero_le _), .inr ⟨rfl, fits_edited_i (cur := j.2.2.1.1) j.1 [] h0 h1 h2 (by omega) h0 (by rw [List.length_nil]; omega), Nat.le_trans hm (by omega)⟩⟩
  · have ha := h.ab
    obtain ⟨a, pa, ea, ba, sa⟩ := start_yes h.a0 (Int.le_trans ha h.b1)
    obtain ⟨b, pb, eb, bb, sb⟩ := start_yes (Int.le_trans h.a0 ha) h.b1
    have hle : pa ≤ pb := ba.le bb (by omega)
    have ht := tail_range' j.1 j.2.2.2.2.1 hl
    have he := End_eq (t := j.1) (n := j.2.2.2.2.1) (by rw [sb])
    rw [sb] at ht he
    rw [sa, he]
    dsimp only at ht ⊢
    have hm := mass_edited j.1 [] (pa : Int) (lines_tail_F j.1 (pb : Int))
    rw [List.length_nil] at hm
    exact ⟨⟨End_any _ _, edited_P (by omega) (by omega) ht.2 (by omega) (Nat.zero_le _)⟩, .inr ⟨rfl, fits_edited_i (cur := (pa : Int)) j.1 [] (by omega) (by omega) ht.2 (by omega) (by omega) (by rw [List.length_nil]; omega), Nat.le_trans hm (by omega)⟩⟩
theorem changed_fine {j : Job} (h : JobOk j) : oj_changed_P j ∧ Fine j.1 (oj_changed_F j) := by
  have hT := taken_P' h
  unfold oj_changed_P oj_changed_F
  dsimp only
  cases decide (j.2.2.1.1 < j.2.2.1.2.1)
  · cases j.2.2.1.2.2.1
    · exact changed_J0 h _ _ _
    · have := changed_J0 h ([], 0, (false, false, []), 0, false) (oj_taken_F j).1 (oj_taken_F j).2
      exact ⟨⟨hT, this.1⟩, this.2⟩
  · have := changed_J0 h ([], 0, (false, false, []), 0, false) (oj_taken_F j).1 (oj_taken_F j).2
    exact ⟨⟨hT, this.1⟩, this.2⟩
theorem stay_le' {j : Job} (h : JobOk j) : 0 ≤ oj_stay_F j ∧ oj_stay_F j ≤ (j.1.length : Int) := by
  have hl := h.len
  have h1 := h.r1
  have h2 := h.r2
  exact stay_le j h.r0 (by omega) (by omega) (Column_le _ _)
theorem yanked_fine {j : Job} (h : JobOk j) : oj_yanked_P j ∧ Fine j.1 (oj_yanked_F j) := by
  have := stay_le' h
  exact ⟨⟨taken_P' h, stay_any _⟩, .inr ⟨rfl, fits_none j.1 this.1 this.2, by show massL [] ≤ _; decide⟩⟩
theorem turned_fine {j : Job} (h : JobOk j) (f : Int → Int) : (oper_edited_P j.1 j.2.2.1.1 j.2.2.1.2.1 ((slc j.1 j.2.2.1.1 j.2.2.1.2.1).map f)) ∧
    Fine j.1 ((oper_edited_F j.1 j.2.2.1.1 j.2.2.1.2.1 ((slc j.1 j.2.2.1.1 j.2.2.1.2.1).map f), oj_stay_F j, (false, false, []), 0, false), 0) := by
  have hl := h.len
  have h0 := h.r0
  have h1 := h.r1
  have h2 := h.r2
  have hs := stay_le' h
  have hlim : lim = 1099511627776 := rfl
  have hp : ((slc j.1 j.2.2.1.1 j.2.2.1.2.1).map f).length = (slc j.1 j.2.2.1.1 j.2.2.1.2.1).length := List.length_map ..
  have hq : ((slc j.1 j.2.2.1.1 j.2.2.1.2.1).length : Int) = j.2.2.1.2.1 - j.2.2.1.1 := by
    unfold slc; rw [List.length_drop, List.length_take]; omega
  have hm := mass_edited j.1 ((slc j.1 j.2.2.1.1 j.2.2.1.2.1).map f) j.2.2.1.1 j.2.2.1.2.1
  exact ⟨edited_P h0 h1 h2 (by omega) (by omega), .inr ⟨rfl, fits_edited_i (cur := oj_stay_F j) j.1 _ h0 h1 h2 (by omega) hs.1 (by omega), Nat.le_trans hm (by omega)⟩⟩
theorem heads_core (g : List Int → Int × List Int) (t : List Int) {a b : Int} (h0 : 0 ≤ a) (hab : a ≤ b) (hb : b ≤ (cnt t : Int)) (hg : ∀ l, 0 ≤ (g l).1 ∧ (g l).1 ≤ (l.length : Int)) (ht : t.length ≤ 65536) (hm : massH g (slc (lines_Split_F t) a (b + 1)) ≤ 1073741824) :
    HeadsP g t a b ∧ oper_with_P t (headsL g (slc (lines_Split_F t) a (b + 1)) (lines_Start_F t a).1 0) ∧ (∃ u, change_Apply_F t (headsL g (slc (lines_Split_F t) a (b + 1)) (lines_Start_F t a).1 0) = (u, 0)) ∧
      massL (headsL g (slc (lines_Split_F t) a (b + 1)) (lines_Start_F t a).1 0) ≤ 1073741824 := by
  obtain ⟨A, rfl⟩ := Int.eq_ofNat_of_zero_le h0
  obtain ⟨B, rfl⟩ := Int.eq_ofNat_of_zero_le (by omega : 0 ≤ b)
  have hlim : lim = 1099511627776 := rfl
  obtain ⟨X, M, Y, s1, s2, s3, s4, s5, s6, s7⟩ := split_three t (a := A) (b := B) (by omega) (by omega)
  have hlen := (split_ok t).2.2
  rw [s4] at hm ⊢
  have hst := start_at s6
  rw [hst]
  dsimp only
  have hmm := mass_heads g M ((headW X).length : Int) 0
  have hlaw := heads_law g M Y (headW X) _ rfl (fun l _ => hg l)
  rw [← s5] at hlaw
  refine ⟨⟨by omega, by omega, by omega, by omega, ?_, ?_⟩, apply_P' (by omega) (by omega), ?_, by omega⟩
  · rw [s4]; exact fun l _ => hg l
  · rw [s4]; omega
  · refine ⟨headW X ++ unl (M.map (hdL g) ++ Y), ?_⟩
    unfold change_Apply_F
    rw [hlaw]
theorem massH_zero (g : List Int → Int × List Int) (hg : ∀ l, (g l).2 = []) : ∀ M : List (List Int), massH g M = massH (fun _ => (0, [])) M
  | [] => rfl
  | l :: M => by
    unfold massH
    rw [massH_zero g hg M, hg l]
theorem massH_full (g : List Int → Int × List Int) (c : Int) (hg : ∀ l : List Int, ((g l).2.length : Int) = if 0 < l.length then c else 0) : ∀ M : List (List Int), (massH g M : Int) = (massH (fun _ => (0, [])) M : Int) + fullC c M
  | [] => rfl
  | l :: M => by
    have ih := massH_full g c hg M
    have h1 := hg l
    unfold massH fullC
    by_cases c : 0 < l.length
    · rw [if_pos c] at h1 ⊢
      show ((l.length + 1 + (g l).2.length + massH g M : Nat) : Int) = ((l.length + 1 + 0 + massH (fun _ => (0, [])) M : Nat) : Int) + _
      omega
    · rw [if_neg c] at h1 ⊢
      show ((l.length + 1 + (g l).2.length + massH g M : Nat) : Int) = ((l.length + 1 + 0 + massH (fun _ => (0, [])) M : Nat) : Int) + _
      omega
theorem out_g (c : List Int × Int × (Int × Int × Bool × Bool) × Int × Int × Int) (l : List Int) : hdO_g c l = ((outN c.2.2.2.2.2.toNat l : Int), []) := rfl
theorem in_g (c : List Int) (l : List Int) : hdI_g c l = (0, if 0 < l.length then c else []) := by
  unfold hdI_g oj_indented_1_F
  cases l with
  | nil => rfl
  | cons a r =>
    rw [if_pos (by rw [List.length_cons]; omega), decide_eq_false (by rw [List.length_cons]; omega)]
    rfl
theorem outdented_fine {j : Job} (h : JobOk j) : oj_outdented_P j ∧ Fine j.1 (oj_outdented_F j) := by
  have hl := h.len
  have hb := h.b1
  have ha := h.ab
  have h0 := h.a0
  obtain ⟨k1, k2, ⟨u, k3⟩, k4⟩ := heads_core (hdO_g j) j.1 h.a0 h.ab h.b1 (fun l => by rw [out_g]; have := outN_le j.2.2.2.2.2.toNat l; show (0 : Int) ≤ (_ : Nat) ∧ ((_ : Nat) : Int) ≤ _; omega) hl (by
    obtain ⟨X, M, Y, s1, s2, s3, s4, s5, s6, s7⟩ := split_three j.1 (a := j.2.2.2.1.toNat) (b := j.2.2.2.2.1.toNat) (by omega) (by omega)
    rw [Int.toNat_of_nonneg h0, Int.toNat_of_nonneg (by omega)] at s4
    rw [s4, massH_zero _ (fun l => by rw [out_g])]
    omega)
  have hsz := apply_size (t := j.1) (by rw [k3])
  have hms := size_le_mass (headsL (hdO_g j) (slc (lines_Split_F j.1) j.2.2.2.1 (j.2.2.2.2.1 + 1)) (lines_Start_F j.1 j.2.2.2.1).1 0)
  rw [k3] at hsz
  exact ⟨⟨k1, k2⟩, .inr ⟨rfl, fits_first _ k3 (by dsimp only at hsz; omega), k4⟩⟩
theorem rep_nine (n : Nat) : repB [9] n = List.replicate n 9 := by
  induction n with
  | zero => rfl
  | succ n ih => simp [repB, ih, List.replicate_succ]
theorem indented_fine {j : Job} (h : JobOk j) : oj_indented_P j ∧ Fine j.1 (oj_indented_F j) := by
  have hl := h.len
  have hb := h.b1
  have ha := h.ab
  have h0 := h.a0
  have hc1 := h.c1
  have hc2 := h.c2
  have hlim : lim = 1099511627776 := rfl
  have hlen := (split_ok j.1).2.2
  obtain ⟨X, M, Y, s1, s2, s3, s4, s5, s6, s7⟩ := split_three j.1 (a := j.2.2.2.1.toNat) (b := j.2.2.2.2.1.toNat) (by omega) (by omega)
  rw [Int.toNat_of_nonneg h0, Int.toNat_of_nonneg (by omega)] at s4
  have hrep : (bytes_Repeat_F [9] j.2.2.2.2.2).length = j.2.2.2.2.2.toNat := by
    unfold bytes_Repeat_F; rw [rep_nine, List.length_replicate]
  have core : fullC j.2.2.2.2.2 M ≤ 65536 → _ := fun hf => heads_core (hdI_g (bytes_Repeat_F [9] j.2.2.2.2.2)) j.1 h.a0 h.ab h.b1 (fun l => by rw [in_g]; exact ⟨Int.le_refl _, by show (0 : Int) ≤ (l.length : Int); omega⟩) hl (by
    have := massH_full (hdI_g (bytes_Repeat_F [9] j.2.2.2.2.2)) j.2.2.2.2.2 (fun l => by
      rw [in_g]
      by_cases c : 0 < l.length
      · rw [if_pos c, if_pos c, hrep]; omega
      · rw [if_neg c, if_neg c]; rfl) M
    rw [s4]
    omega)
  refine ⟨⟨by omega, h0, by omega, by omega, by omega, hc2, fun hf => ?_⟩, ?_⟩
  · rw [s4] at hf
    obtain ⟨k1, k2, _, _⟩ := core hf
    exact ⟨k1, k2⟩
  · unfold oj_indented_F
    split
    · exact .inl ⟨by decide, rfl⟩
    · rename_i hf
      rw [s4] at hf
      obtain ⟨_, _, ⟨u, k3⟩, k4⟩ := core (by omega)
      have hsz := apply_size (t := j.1) (by rw [k3])
      have hms := size_le_mass (headsL (hdI_g (bytes_Repeat_F [9] j.2.2.2.2.2)) (slc (lines_Split_F j.1) j.2.2.2.1 (j.2.2.2.2.1 + 1)) (lines_Start_F j.1 j.2.2.2.1).1 0)
      rw [k3] at hsz
      exact .inr ⟨rfl, fits_first _ k3 (by dsimp only at hsz; omega), k4⟩
theorem do_fine {t : List Int} {at_ count : Int} {op : List Int} {r : Int × Int × Bool × Bool} (ht : t.length ≤ 65536) : oper_Do_P t at_ op r count ∧ Fine t (oper_Do_F t at_ op r count) := by
  have hz : Fine t ((([], 0, (false, false, []), 0, false), 2) : Eff × Int) := .inl ⟨by decide, rfl⟩
  have job : oper_outside_F t at_ count 1 = false → (oper_spanned_F t at_ r).2.2 = true → JobOk (t, at_, r, (oper_spanned_F t at_ r).1, (oper_spanned_F t at_ r).2.1, count) := fun ho hs => by
    obtain ⟨o1, o2, o3, o4⟩ := outside_iff ho
    obtain ⟨s1, s2, s3⟩ := spanned_ok hs
    obtain ⟨a1, a2, a3⟩ := spanned_ab (by omega) hs
    exact ⟨ht, s1, s2, s3, a1, a2, a3, o3, o4⟩
  have each : op ∈ knownOps → ∀ j : Job, JobOk j → opP op j ∧ Fine j.1 (opF op j) := fun hk j hj => by
    simp only [knownOps, List.mem_cons, List.not_mem_nil, or_false] at hk
    rcases hk with e | e | e | e | e | e | e | e <;> subst e
    · exact deleted_fine hj
    · exact changed_fine hj
    · exact yanked_fine hj
    · exact indented_fine hj
    · exact outdented_fine hj
    · have := turned_fine hj class_Toggle_F
      exact ⟨⟨⟨hj.r0, hj.r1, hj.r2⟩, by have := hj.len; omega, this.1, stay_any _⟩, this.2⟩
    · have := turned_fine hj class_Lower_F
      exact ⟨⟨⟨hj.r0, hj.r1, hj.r2⟩, by have := hj.len; omega, this.1, stay_any _⟩, this.2⟩
    · have := turned_fine hj class_Upper_F
      exact ⟨⟨⟨hj.r0, hj.r1, hj.r2⟩, by have := hj.len; omega, this.1, stay_any _⟩, this.2⟩
  refine ⟨fun hk ho => ⟨spanned_any _ _ _, fun hs => (each hk _ (job ho hs)).1⟩, ?_⟩
  unfold oper_Do_F
  by_cases hk : op ∈ knownOps
  · rw [if_pos hk]
    unfold doF
    by_cases ho : oper_outside_F t at_ count 1 = true
    · rw [if_pos ho]; exact hz
    · rw [if_neg ho]
      by_cases hs : (oper_spanned_F t at_ r).2.2 = false
      · rw [if_pos hs]; exact hz
      · rw [if_neg hs]
        split
        · exact .inl ⟨by decide, rfl⟩
        · exact (each hk _ (job (by simpa using ho) (by simpa using hs))).2
  · rw [if_neg hk]; exact hz
end Go.VE
namespace Go.VE
open Go Go.Proofs
/-! ### quoin/quoinlaw19.same -/
def qo_same_G : List (Nat × App) := []
theorem qo_same_Gok : GOk Tryd.prog (getG qo_same_G) := GOk.nil
theorem qo_same_st : storesC (bodyOf Tryd.f22) = true := by kernel_rfl
def qo_same_d0 : List LS := [.b 3 24 [], .v 66 (.sl (.st (.pair (.int .i64) (.pair (.sl (.int .u8)) (.sl (.int .u8)))))), .v 67 (.int .i64), .v 68 (.int .i64), .c 24 EfT]
def qo_same_d0r : List LS := [.v 4 (.bool)]
def qo_same_d0x0 : List LS := []
def qo_same_dx0 : DX := ⟨none, some qo_same_d0r, [(0, qo_same_d0x0)]⟩
def qo_same_T0 (Y : List ((Int × List Int × List Int)) → Int → Int → EfD → Prop) (kr : Bool → Prop) (kx0 : Prop) (x66 : List ((Int × List Int × List Int))) (x67 : Int) (x68 : Int) (b3b : EfD) : Prop :=
 bif (decide (x68 < x67)) then
 bif decide (0 ≤ x68 ∧ x68 < (List.length x66 : Int)) then
 bif decide (0 ≤ x68 ∧ x68 < (List.length b3b.1 : Int)) then
 bif (!decide ((rd ((0 : Int), ([] : List Int), ([] : List Int)) x66 x68).1 = (rd ((0 : Int), ([] : List Int), ([] : List Int)) b3b.1 x68).1)) then
 kr false
 else
 bif (!decide ((rd ((0 : Int), ([] : List Int), ([] : List Int)) x66 x68).2.1 = (rd ((0 : Int), ([] : List Int), ([] : List Int)) b3b.1 x68).2.1)) then
 kr false
 else
 bif (!decide ((rd ((0 : Int), ([] : List Int), ([] : List Int)) x66 x68).2.2 = (rd ((0 : Int), ([] : List Int), ([] : List Int)) b3b.1 x68).2.2)) then
 kr false
 else
 Y x66 x67 (IntKind.wrap .i64 (x68 + (1 : Int))) b3b
 else False
 else False
 else
 kx0
def qo_same_L0 (kr : Bool → Prop) (kx0 : Prop) : Nat → List ((Int × List Int × List Int)) → Int → Int → EfD → Prop
  | 0, _, _, _, _ => False
  | n + 1, x66, x67, x68, b3b => wfD qo_same_d0 (x66, x67, x68, b3b, ()) → qo_same_T0 (qo_same_L0 kr kx0 n) kr kx0 x66 x67 x68 b3b
theorem qo_same_s0 (k : Ex → St → Prop) (Y : vals qo_same_d0 → Prop) (x66 : List ((Int × List Int × List Int))) (x67 : Int) (x68 : Int) (b3b : EfD) :
    ex tb (getG qo_same_G) [] (at' (bodyOf Tryd.f22) [0, 0, 1, 0, 1, 1]) [0, 0, 1, 0, 1, 1] (mkD 102 qo_same_d0 (x66, x67, x68, b3b, ())) (lpK 102 qo_same_d0 qo_same_dx0 k Y) =
    qo_same_T0 (fun x66 x67 x68 b3b => Y (x66, x67, x68, b3b, ())) (fun x4 => wfD qo_same_d0r (x4, ()) → k .ret (mkD 102 qo_same_d0r (x4, ()))) (wfD qo_same_d0x0 () → k (.exit 0) (mkD 102 qo_same_d0x0 ())) x66 x67 x68 b3b := by kernel_rfl
theorem qo_same_e0 (k : Ex → St → Prop) : ∀ (n : Nat) (x66 : List ((Int × List Int × List Int))) (x67 : Int) (x68 : Int) (b3b : EfD), lpD 102 qo_same_d0 qo_same_dx0 (ex tb (getG qo_same_G) [] (at' (bodyOf Tryd.f22) [0, 0, 1, 0, 1, 1]) [0, 0, 1, 0, 1, 1]) k n (x66, x67, x68, b3b, ()) = qo_same_L0 (fun x4 => wfD qo_same_d0r (x4, ()) → k .ret (mkD 102 qo_same_d0r (x4, ()))) (wfD qo_same_d0x0 () → k (.exit 0) (mkD 102 qo_same_d0x0 ())) n x66 x67 x68 b3b
  | 0, _, _, _, _ => rfl
  | n + 1, x66, x67, x68, b3b => congrArg (fun Z : Prop => wfD qo_same_d0 (x66, x67, x68, b3b, ()) → Z) ((qo_same_s0 k (lpD 102 qo_same_d0 qo_same_dx0 (ex tb (getG qo_same_G) [] (at' (bodyOf Tryd.f22) [0, 0, 1, 0, 1, 1]) [0, 0, 1, 0, 1, 1]) k n) x66 x67 x68 b3b).trans (congrArg (fun Y => qo_same_T0 Y (fun x4 => wfD qo_same_d0r (x4, ()) → k .ret (mkD 102 qo_same_d0r (x4, ()))) (wfD qo_same_d0x0 () → k (.exit 0) (mkD 102 qo_same_d0x0 ())) x66 x67 x68 b3b) (funext fun x66 => funext fun x67 => funext fun x68 => funext fun b3b => qo_same_e0 k n x66 x67 x68 b3b)))
theorem qo_same_v0 (k : Ex → St → Prop) (n : Nat) : ∀ v : vals qo_same_d0, lpD 102 qo_same_d0 qo_same_dx0 (ex tb (getG qo_same_G) [] (at' (bodyOf Tryd.f22) [0, 0, 1, 0, 1, 1]) [0, 0, 1, 0, 1, 1]) k n v = qo_same_L0 (fun x4 => wfD qo_same_d0r (x4, ()) → k .ret (mkD 102 qo_same_d0r (x4, ()))) (wfD qo_same_d0x0 () → k (.exit 0) (mkD 102 qo_same_d0x0 ())) n v.1 v.2.1 v.2.2.1 v.2.2.2.1
  | (x66, x67, x68, b3b, ()) => qo_same_e0 k n x66 x67 x68 b3b
def qo_same_X0 : Pce := fun st k => ckD 102 qo_same_d0 st fun v => wfD qo_same_d0 v → ∃ n, qo_same_L0 (fun x4 => wfD qo_same_d0r (x4, ()) → k .ret (mkD 102 qo_same_d0r (x4, ()))) (wfD qo_same_d0x0 () → k (.exit 0) (mkD 102 qo_same_d0x0 ())) n v.1 v.2.1 v.2.2.1 v.2.2.2.1
set_option maxRecDepth 20000 in
theorem qo_same_x0 : SemOk Tryd.prog (at' (bodyOf Tryd.f22) [0, 1, 0, 1, 1]) qo_same_X0 :=
  (SemOk.loop (ex_sound tb_M tb_ok qo_same_Gok (LabsOk.nil) (at' (bodyOf Tryd.f22) [0, 0, 1, 0, 1, 1]) [0, 0, 1, 0, 1, 1] rfl (storesC_at qo_same_st [0, 0, 1, 0, 1, 1])) 102 qo_same_d0 qo_same_dx0).mono fun st k h => ckD_mono h fun v hv hw => (hv hw).elim fun n hn => ⟨n, Eq.mpr (qo_same_v0 k n v) hn⟩
def qo_same_B0 : Labs := ([0, 1, 0, 1, 1], qo_same_X0) :: []
theorem qo_same_b0 : LabsOk Tryd.prog (bodyOf Tryd.f22) qo_same_B0 := LabsOk.cons qo_same_x0 (LabsOk.nil)
def qo_same_raw (a0 : EfD) (b1 : EfD) (K : Res → List Cell → Prop) : Prop :=
 bif (!decide (a0.2.1 = b1.2.1)) then
 K (.one (.v (.bool) false)) []
 else
 bif (!decide (a0.2.2.2.1 = b1.2.2.2.1)) then
 K (.one (.v (.bool) false)) []
 else
 bif (a0.2.2.2.2 != b1.2.2.2.2) then
 K (.one (.v (.bool) false)) []
 else
 bif (a0.2.2.1.1 != b1.2.2.1.1) then
 K (.one (.v (.bool) false)) []
 else
 bif (a0.2.2.1.2.1 != b1.2.2.1.2.1) then
 K (.one (.v (.bool) false)) []
 else
 bif (!decide (a0.2.2.1.2.2 = b1.2.2.1.2.2)) then
 K (.one (.v (.bool) false)) []
 else
 bif (!decide ((List.length a0.1 : Int) = (List.length b1.1 : Int))) then
 K (.one (.v (.bool) false)) []
 else
 (wfD qo_same_d0 (a0.1, (List.length a0.1 : Int), (0 : Int), b1, ()) → ∃ n, qo_same_L0 (fun (x4 : Bool) => wfD qo_same_d0r (x4, ()) → (
 K (.one (.v (.bool) x4)) [])) (wfD qo_same_d0x0 () → (
 K (.one (.v (.bool) true)) [])) n a0.1 (List.length a0.1 : Int) (0 : Int) b1)
def qo_same_A : List AS := [.v EfT, .v EfT]
theorem qo_same_walk (a0 : EfD) (b1 : EfD) (K : Res → List Cell → Prop) : runF tb (getG qo_same_G) qo_same_B0 Tryd.f22 [true] (mkA qo_same_A (a0, b1, ())) K = qo_same_raw a0 b1 K := by kernel_rfl
--! pre 0
def qo_same_F (a b : List (Int × List Int × List Int) × Int × (Bool × Bool × List Int) × Int × Bool) : Bool := decide (a = b)
theorem qo_same_l0 (kr : Bool → Prop) (kx0 : Prop) (a b : List (Int × List Int × List Int)) (z : Int × (Bool × Bool × List Int) × Int × Bool) (hl : a.length = b.length) (ha : a.length ≤ 9223372036854775807) : ∀ (d m i : Nat), i + d = a.length → d < m →
    ((∃ j, j < a.length ∧ a[j]? ≠ b[j]?) → kr false) → ((∀ j, i ≤ j → j < a.length → a[j]? = b[j]?) → kx0) → qo_same_L0 kr kx0 m a (a.length : Int) (i : Int) (b, z)
  | _, 0, _, _, h, _, _ => absurd h (Nat.not_lt_zero _)
  | 0, m + 1, i, hi, _, _, h2 => by
    intro _
    unfold qo_same_T0
    exact brn (fun h => absurd h (by omega)) (fun _ => h2 fun j h1 h2 => absurd h2 (by omega))
  | d + 1, m + 1, i, hi, hm, h1, h2 => by
    intro _
    unfold qo_same_T0
    have hia : i < a.length := by omega
    have hib : i < b.length := by omega
    have ne : a[i] ≠ b[i] → kr false := fun hne => h1 ⟨i, hia, by rw [List.getElem?_eq_getElem hia, List.getElem?_eq_getElem hib]; intro e; injection e with e; exact hne e⟩
    refine brn (fun _ => asrt ⟨by omega, by omega⟩ (asrt ⟨by omega, by show (i : Int) < (b.length : Int); omega⟩ ?_)) (fun h => absurd (by omega) h)
    rw [rd_nat _ _ _ hia, rd_nat _ _ _ hib]
    refine brx (fun c1 => ne fun e => c1 (by rw [e])) (fun c1 => brx (fun c2 => ne fun e => c2 (by rw [e])) (fun c2 => brx (fun c3 => ne fun e => c3 (by rw [e])) (fun c3 => ?_)))
    rw [wrap_i64 (by omega) (by omega), show (i : Int) + 1 = ((i + 1 : Nat) : Int) by omega]
    refine qo_same_l0 kr kx0 a b z hl ha d m (i + 1) (by omega) (by omega) h1 fun h => h2 fun j hj1 hj2 => ?_
    by_cases hji : j = i
    · subst hji
      rw [List.getElem?_eq_getElem hia, List.getElem?_eq_getElem hib, Prod.ext c1 (Prod.ext c2 c3)]
    · exact h j (by omega) hj2
theorem qo_same_sp (a b : List (Int × List Int × List Int) × Int × (Bool × Bool × List Int) × Int × Bool) (K : Res → List Cell → Prop) (hw : wfA qo_same_A (a, b, ())) (h : ∀ r : Bool, r = qo_same_F a b → K (.one (.v (.bool) r)) []) : qo_same_raw a b K := by
  have ha : a.1.length ≤ 9223372036854775807 := hw.1.1.1
  have no : a ≠ b → K (.one (.v (.bool) false)) [] := fun hne => h _ (by unfold qo_same_F; rw [decide_eq_false hne])
  obtain ⟨a1, a2, ⟨a3, a4, a5⟩, a6, a7⟩ := a
  obtain ⟨b1, b2, ⟨b3, b4, b5⟩, b6, b7⟩ := b
  unfold qo_same_raw
  dsimp only at *
  refine brx (fun c => no fun e => ?_) (fun c1 => brx (fun c => no fun e => ?_) (fun c2 => brb (fun c => no fun e => ?_) (fun c3 => brb (fun c => no fun e => ?_) (fun c4 => brb (fun c => no fun e => ?_) (fun c5 => brx (fun c => no fun e => ?_) (fun c6 => brx (fun c => no fun e => ?_) (fun c7 _ => ?_)))))))
  · injection e with _ e; injection e with e _; exact c e
  · injection e with _ e; injection e with _ e; injection e with _ e; injection e with e _; exact c e
  · injection e with _ e; injection e with _ e; injection e with _ e; injection e with _ e; rw [e] at c; simp at c
  · injection e with _ e; injection e with _ e; injection e with e _; injection e with e _; rw [e] at c; simp at c
  · injection e with _ e; injection e with _ e; injection e with e _; injection e with _ e; injection e with e _; rw [e] at c; simp at c
  · injection e with _ e; injection e with _ e; injection e with e _; injection e with _ e; injection e with _ e; exact c e
  · injection e with e _; exact c (by rw [e])
  · have hl : a1.length = b1.length := by omega
    have d3 : a7 = b7 := by simpa using c3
    have d4 : a3 = b3 := by simpa using c4
    have d5 : a4 = b4 := by simpa using c5
    subst c1 c2 d3 d4 d5 c6
    refine ⟨a1.length + 1, qo_same_l0 _ _ a1 b1 _ hl ha a1.length _ 0 (by omega) (by omega) (fun ⟨j, hj, hne⟩ _ => no fun e => hne (by injection e with e _; rw [e])) (fun he _ => h _ ?_)⟩
    have : a1 = b1 := List.ext_getElem? fun j => by
      by_cases hj : j < a1.length
      · exact he j (Nat.zero_le _) hj
      · rw [List.getElem?_eq_none (by omega), List.getElem?_eq_none (by omega)]
    subst this
    unfold qo_same_F
    simp

def qo_same_C (v : valsA qo_same_A) (K : Res → List Cell → Prop) : Prop := ∀ r : Bool, r = qo_same_F v.1 v.2.1 → K (.one (.v (.bool) r)) []
def qo_same_S : App := specW qo_same_A qo_same_C
theorem qo_same_wv (K : Res → List Cell → Prop) : ∀ v : valsA qo_same_A, runF tb (getG qo_same_G) qo_same_B0 Tryd.f22 [true] (mkA qo_same_A v) K = qo_same_raw v.1 v.2.1 K
  | (a0, b1, ()) => qo_same_walk a0 b1 K
set_option maxRecDepth 20000 in
theorem qo_same_ok : AppOk Tryd.prog 22 qo_same_S :=
  AppOk.specW (spec_ok ((runF_ok tb_M tb_ok qo_same_Gok (qo_same_b0) (f := 22) (fn := Tryd.f22) (by kernel_rfl) (by kernel_rfl) qo_same_st [true])) fun v K hw h => (qo_same_wv K v).mpr (qo_same_sp v.1 v.2.1 K hw h))

end Go.VE
namespace Go.VE
open Go Go.Proofs
/-! ### quoin/change.Check -/
def change_Check_G : List (Nat × App) := [(29, change_Apply_S)]
theorem change_Check_Gok : GOk Tryd.prog (getG change_Check_G) := GOk.cons change_Apply_ok (GOk.nil)
def change_Check_raw (t0 : List Int) (edits1 : List ((Int × List Int × List Int))) (K : Res → List Cell → Prop) : Prop :=
 change_Apply_P t0 edits1 ∧ (
 ∀ (r1 : List Int × Int), r1 = change_Apply_F t0 edits1 → (
 wfR (.tup [.fr 5 (.int .u8) r1.1, .v (.int .i64) r1.2]) → (
 K (.one (.v (.int .i64) r1.2)) [])))
def change_Check_A : List AS := [.v (.sl (.int .u8)), .v (.sl (.st (.pair (.int .i64) (.pair (.sl (.int .u8)) (.sl (.int .u8))))))]
theorem change_Check_walk (t0 : List Int) (edits1 : List ((Int × List Int × List Int))) (K : Res → List Cell → Prop) : runF tb (getG change_Check_G) [] Tryd.f80 [true] (mkA change_Check_A (t0, edits1, ())) K = change_Check_raw t0 edits1 K := by kernel_rfl

def change_Check_P (t0 : List Int) (edits1 : List ((Int × List Int × List Int))) : Prop :=
 change_Apply_P t0 edits1
def change_Check_F (t0 : List Int) (edits1 : List ((Int × List Int × List Int))) : Int :=
 let r1 : List Int × Int := change_Apply_F t0 edits1
 r1.2
set_option maxRecDepth 20000 in
theorem change_Check_sp (t0 : List Int) (edits1 : List ((Int × List Int × List Int))) (K : Res → List Cell → Prop) (_ : wfA change_Check_A (t0, edits1, ())) (hp : change_Check_P t0 edits1) (h : ∀ r : Int, r = change_Check_F t0 edits1 → K (.one (.v (.int .i64) r)) []) : change_Check_raw t0 edits1 K := by
  unfold change_Check_raw
  unfold change_Check_P at hp
  refine ⟨hp, ?_⟩
  intro r1 hr1
  subst r1
  intro _
  exact h _ rfl
def change_Check_C (v : valsA change_Check_A) (K : Res → List Cell → Prop) : Prop := change_Check_P v.1 v.2.1 ∧ ∀ r : Int, r = change_Check_F v.1 v.2.1 → K (.one (.v (.int .i64) r)) []
def change_Check_S : App := specW change_Check_A change_Check_C
theorem change_Check_wv (K : Res → List Cell → Prop) : ∀ v : valsA change_Check_A, runF tb (getG change_Check_G) [] Tryd.f80 [true] (mkA change_Check_A v) K = change_Check_raw v.1 v.2.1 K
  | (t0, edits1, ()) => change_Check_walk t0 edits1 K
set_option maxRecDepth 20000 in
theorem change_Check_ok : AppOk Tryd.prog 80 change_Check_S :=
  AppOk.specW (spec_ok ((runF_ok tb_M tb_ok change_Check_Gok (LabsOk.nil) (f := 80) (fn := Tryd.f80) (by kernel_rfl) (by kernel_rfl) (by kernel_rfl) [true])) fun v K hw h => (change_Check_wv K v).mpr (change_Check_sp v.1 v.2.1 K hw h.1 h.2))

end Go.VE
namespace Go.VE
open Go Go.Proofs
/-! ### quoin/quoinlaw19.fits -/
def qo_fits_G : List (Nat × App) := [(22, qo_same_S), (29, change_Apply_S), (80, change_Check_S), (81, change_Size_S)]
theorem qo_fits_Gok : GOk Tryd.prog (getG qo_fits_G) := GOk.cons qo_same_ok (GOk.cons change_Apply_ok (GOk.cons change_Check_ok (GOk.cons change_Size_ok (GOk.nil))))
def qo_fits_raw (t0 : List Int) (x1 : EfD) (e2 : Int) (K : Res → List Cell → Prop) : Prop :=
 bif (!decide (e2 = (0 : Int))) then
 ∀ (r1 : Bool), r1 = qo_same_F x1 (([] : List ((Int × List Int × List Int))), (0 : Int), (false, false, ([] : List Int)), (0 : Int), false) → (
 wfR (.one (.v (.bool) r1)) → (
 K (.one (.v (.bool) r1)) []))
 else
 change_Apply_P t0 x1.1 ∧ (
 ∀ (r2 : List Int × Int), r2 = change_Apply_F t0 x1.1 → (
 wfR (.tup [.fr 5 (.int .u8) r2.1, .v (.int .i64) r2.2]) → (
 bif (decide (r2.2 = (0 : Int))) then
 change_Check_P t0 x1.1 ∧ (
 ∀ (r3 : Int), r3 = change_Check_F t0 x1.1 → (
 wfR (.one (.v (.int .i64) r3)) → (
 bif (decide (r3 = (0 : Int))) then
 bif (decide ((0 : Int) ≤ x1.2.1)) then
 bif (decide (x1.2.1 ≤ (List.length r2.1 : Int))) then
 change_Size_P x1.1 ∧ (
 ∀ (r4 : Int), r4 = change_Size_F x1.1 → (
 wfR (.one (.v (.int .i64) r4)) → (
 K (.one (.v (.bool) (decide ((List.length r2.1 : Int) = (IntKind.wrap .i64 ((List.length t0 : Int) + r4)))))) [])))
 else
 K (.one (.v (.bool) false)) []
 else
 K (.one (.v (.bool) false)) []
 else
 K (.one (.v (.bool) false)) [])))
 else
 K (.one (.v (.bool) false)) [])))
def qo_fits_A : List AS := [.v (.sl (.int .u8)), .v EfT, .v (.int .i64)]
theorem qo_fits_walk (t0 : List Int) (x1 : EfD) (e2 : Int) (K : Res → List Cell → Prop) : runF tb (getG qo_fits_G) [] Tryd.f37 [true] (mkA qo_fits_A (t0, x1, e2, ())) K = qo_fits_raw t0 x1 e2 K := by kernel_rfl

def qo_fits_P (t0 : List Int) (x1 : EfD) (e2 : Int) : Prop :=
 bif (!decide (e2 = (0 : Int))) then
 True
 else
 change_Apply_P t0 x1.1 ∧ (
 let r2 : List Int × Int := change_Apply_F t0 x1.1
 bif (decide (r2.2 = (0 : Int))) then
 change_Check_P t0 x1.1 ∧ (
 let r3 : Int := change_Check_F t0 x1.1
 bif (decide (r3 = (0 : Int))) then
 bif (decide ((0 : Int) ≤ x1.2.1)) then
 bif (decide (x1.2.1 ≤ (List.length r2.1 : Int))) then
 change_Size_P x1.1
 else
 True
 else
 True
 else
 True)
 else
 True)
def qo_fits_F (t0 : List Int) (x1 : EfD) (e2 : Int) : Bool :=
 bif (!decide (e2 = (0 : Int))) then
 let r1 : Bool := qo_same_F x1 (([] : List ((Int × List Int × List Int))), (0 : Int), (false, false, ([] : List Int)), (0 : Int), false)
 r1
 else
 let r2 : List Int × Int := change_Apply_F t0 x1.1
 bif (decide (r2.2 = (0 : Int))) then
 let r3 : Int := change_Check_F t0 x1.1
 bif (decide (r3 = (0 : Int))) then
 bif (decide ((0 : Int) ≤ x1.2.1)) then
 bif (decide (x1.2.1 ≤ (List.length r2.1 : Int))) then
 let r4 : Int := change_Size_F x1.1
 (decide ((List.length r2.1 : Int) = (IntKind.wrap .i64 ((List.length t0 : Int) + r4))))
 else
 false
 else
 false
 else
 false
 else
 false
set_option maxRecDepth 20000 in
theorem qo_fits_sp (t0 : List Int) (x1 : EfD) (e2 : Int) (K : Res → List Cell → Prop) (_ : wfA qo_fits_A (t0, x1, e2, ())) (hp : qo_fits_P t0 x1 e2) (h : ∀ r : Bool, r = qo_fits_F t0 x1 e2 → K (.one (.v (.bool) r)) []) : qo_fits_raw t0 x1 e2 K := by
  unfold qo_fits_raw
  unfold qo_fits_P at hp
  refine brb (fun c_1 => ?_) (fun c_1 => ?_)
  ·
    clear hp
    intro r1 hr1
    subst r1
    intro _
    exact h _ ((ctrue c_1) : qo_fits_F t0 x1 e2 = _).symm
  ·
    replace hp := cF c_1 hp
    refine ⟨hp.1, ?_⟩
    replace hp := hp.2
    intro r2 hr2
    subst r2
    intro _
    refine brb (fun c_2 => ?_) (fun c_2 => ?_)
    ·
      replace hp := cT c_2 hp
      refine ⟨hp.1, ?_⟩
      replace hp := hp.2
      intro r3 hr3
      subst r3
      intro _
      refine brb (fun c_3 => ?_) (fun c_3 => ?_)
      ·
        replace hp := cT c_3 hp
        refine brb (fun c_4 => ?_) (fun c_4 => ?_)
        ·
          replace hp := cT c_4 hp
          refine brb (fun c_5 => ?_) (fun c_5 => ?_)
          ·
            replace hp := cT c_5 hp
            refine ⟨hp, ?_⟩
            intro r4 hr4
            subst r4
            intro _
            exact h _ ((Eq.trans (cfalse c_1) (Eq.trans (ctrue c_2) (Eq.trans (ctrue c_3) (Eq.trans (ctrue c_4) (ctrue c_5))))) : qo_fits_F t0 x1 e2 = _).symm
          ·
            clear hp
            exact h _ ((Eq.trans (cfalse c_1) (Eq.trans (ctrue c_2) (Eq.trans (ctrue c_3) (Eq.trans (ctrue c_4) (cfalse c_5))))) : qo_fits_F t0 x1 e2 = _).symm
        ·
          clear hp
          exact h _ ((Eq.trans (cfalse c_1) (Eq.trans (ctrue c_2) (Eq.trans (ctrue c_3) (cfalse c_4)))) : qo_fits_F t0 x1 e2 = _).symm
      ·
        clear hp
        exact h _ ((Eq.trans (cfalse c_1) (Eq.trans (ctrue c_2) (cfalse c_3))) : qo_fits_F t0 x1 e2 = _).symm
    ·
      clear hp
      exact h _ ((Eq.trans (cfalse c_1) (cfalse c_2)) : qo_fits_F t0 x1 e2 = _).symm
def qo_fits_C (v : valsA qo_fits_A) (K : Res → List Cell → Prop) : Prop := qo_fits_P v.1 v.2.1 v.2.2.1 ∧ ∀ r : Bool, r = qo_fits_F v.1 v.2.1 v.2.2.1 → K (.one (.v (.bool) r)) []
def qo_fits_S : App := specW qo_fits_A qo_fits_C
theorem qo_fits_wv (K : Res → List Cell → Prop) : ∀ v : valsA qo_fits_A, runF tb (getG qo_fits_G) [] Tryd.f37 [true] (mkA qo_fits_A v) K = qo_fits_raw v.1 v.2.1 v.2.2.1 K
  | (t0, x1, e2, ()) => qo_fits_walk t0 x1 e2 K
set_option maxRecDepth 20000 in
theorem qo_fits_ok : AppOk Tryd.prog 37 qo_fits_S :=
  AppOk.specW (spec_ok ((runF_ok tb_M tb_ok qo_fits_Gok (LabsOk.nil) (f := 37) (fn := Tryd.f37) (by kernel_rfl) (by kernel_rfl) (by kernel_rfl) [true])) fun v K hw h => (qo_fits_wv K v).mpr (qo_fits_sp v.1 v.2.1 v.2.2.1 K hw h.1 h.2))

end Go.VE
namespace Go.VE
open Go Go.Proofs
/-! ### quoin/oper.rest -/
def oper_rest_G : List (Nat × App) := [(65, lines_Of_S), (118, lines_End_S)]
theorem oper_rest_Gok : GOk Tryd.prog (getG oper_rest_G) := GOk.cons lines_Of_ok (GOk.cons lines_End_ok (GOk.nil))
def oper_rest_raw (t0 : List Int) (at1 : Int) (K : Res → List Cell → Prop) : Prop :=
 lines_Of_P t0 at1 ∧ (
 ∀ (r1 : Int × Int), r1 = lines_Of_F t0 at1 → (
 wfR (.tup [.v (.int .i64) r1.1, .v (.int .i64) r1.2]) → (
 lines_End_P t0 r1.1 ∧ (
 ∀ (r2 : Int × Int), r2 = lines_End_F t0 r1.1 → (
 wfR (.tup [.v (.int .i64) r2.1, .v (.int .i64) r2.2]) → (
 K (.one (.v (.int .i64) (IntKind.wrap .i64 (r2.1 - at1)))) []))))))
def oper_rest_A : List AS := [.v (.sl (.int .u8)), .v (.int .i64)]
theorem oper_rest_walk (t0 : List Int) (at1 : Int) (K : Res → List Cell → Prop) : runF tb (getG oper_rest_G) [] Tryd.f117 [true] (mkA oper_rest_A (t0, at1, ())) K = oper_rest_raw t0 at1 K := by kernel_rfl

def oper_rest_P (t0 : List Int) (at1 : Int) : Prop :=
 lines_Of_P t0 at1 ∧ (
 let r1 : Int × Int := lines_Of_F t0 at1
 lines_End_P t0 r1.1)
def oper_rest_F (t0 : List Int) (at1 : Int) : Int :=
 let r1 : Int × Int := lines_Of_F t0 at1
 let r2 : Int × Int := lines_End_F t0 r1.1
 (IntKind.wrap .i64 (r2.1 - at1))
set_option maxRecDepth 20000 in
theorem oper_rest_sp (t0 : List Int) (at1 : Int) (K : Res → List Cell → Prop) (_ : wfA oper_rest_A (t0, at1, ())) (hp : oper_rest_P t0 at1) (h : ∀ r : Int, r = oper_rest_F t0 at1 → K (.one (.v (.int .i64) r)) []) : oper_rest_raw t0 at1 K := by
  unfold oper_rest_raw
  unfold oper_rest_P at hp
  refine ⟨hp.1, ?_⟩
  replace hp := hp.2
  intro r1 hr1
  subst r1
  intro _
  refine ⟨hp, ?_⟩
  intro r2 hr2
  subst r2
  intro _
  exact h _ rfl
def oper_rest_C (v : valsA oper_rest_A) (K : Res → List Cell → Prop) : Prop := oper_rest_P v.1 v.2.1 ∧ ∀ r : Int, r = oper_rest_F v.1 v.2.1 → K (.one (.v (.int .i64) r)) []
def oper_rest_S : App := specW oper_rest_A oper_rest_C
theorem oper_rest_wv (K : Res → List Cell → Prop) : ∀ v : valsA oper_rest_A, runF tb (getG oper_rest_G) [] Tryd.f117 [true] (mkA oper_rest_A v) K = oper_rest_raw v.1 v.2.1 K
  | (t0, at1, ()) => oper_rest_walk t0 at1 K
set_option maxRecDepth 20000 in
theorem oper_rest_ok : AppOk Tryd.prog 117 oper_rest_S :=
  AppOk.specW (spec_ok ((runF_ok tb_M tb_ok oper_rest_Gok (LabsOk.nil) (f := 117) (fn := Tryd.f117) (by kernel_rfl) (by kernel_rfl) (by kernel_rfl) [true])) fun v K hw h => (oper_rest_wv K v).mpr (oper_rest_sp v.1 v.2.1 K hw h.1 h.2))

end Go.VE
namespace Go.VE
open Go Go.Proofs
/-! ### quoin/oper.Over -/
def oper_Over_G : List (Nat × App) := [(59, oper_outside_S), (117, oper_rest_S), (62, bytes_Repeat_S), (64, oper_edited_S)]
theorem oper_Over_Gok : GOk Tryd.prog (getG oper_Over_G) := GOk.cons oper_outside_ok (GOk.cons oper_rest_ok (GOk.cons bytes_Repeat_ok (GOk.cons oper_edited_ok (GOk.nil))))
def oper_Over_raw (t0 : List Int) (at1 : Int) (count2 : Int) (b3 : Int) (K : Res → List Cell → Prop) : Prop :=
 ∀ (r1 : Bool), r1 = oper_outside_F t0 at1 count2 (1 : Int) → (
 wfR (.one (.v (.bool) r1)) → (
 bif r1 then
 K (.tup [.v EfT (([] : List ((Int × List Int × List Int))), (0 : Int), (false, false, ([] : List Int)), (0 : Int), false), .v (.int .i64) (2 : Int)]) []
 else
 oper_rest_P t0 at1 ∧ (
 ∀ (r2 : Int), r2 = oper_rest_F t0 at1 → (
 wfR (.one (.v (.int .i64) r2)) → (
 bif (decide (r2 < count2)) then
 K (.tup [.v EfT (([] : List ((Int × List Int × List Int))), (0 : Int), (false, false, ([] : List Int)), (0 : Int), false), .v (.int .i64) (190 : Int)]) []
 else
 bytes_Repeat_P ([b3] : List Int) count2 ∧ (
 ∀ (r3 : List Int), r3 = bytes_Repeat_F ([b3] : List Int) count2 → (
 wfR (.one (.fr 5 (.int .u8) r3)) → (
 bif (decide (b3 = (10 : Int))) then
 oper_edited_P t0 at1 (IntKind.wrap .i64 (at1 + count2)) ([(10 : Int)] : List Int) ∧ (
 ∀ (r4 : List ((Int × List Int × List Int))), r4 = oper_edited_F t0 at1 (IntKind.wrap .i64 (at1 + count2)) ([(10 : Int)] : List Int) → (
 wfR (.one (.fr 95 (.st (.pair (.int .i64) (.pair (.sl (.int .u8)) (.sl (.int .u8))))) r4)) → (
 K (.tup [.v EfT (r4, (IntKind.wrap .i64 (at1 + (1 : Int))), (false, false, ([] : List Int)), (0 : Int), false), .v (.int .i64) (0 : Int)]) [])))
 else
 bif (decide (b3 = (13 : Int))) then
 oper_edited_P t0 at1 (IntKind.wrap .i64 (at1 + count2)) ([(10 : Int)] : List Int) ∧ (
 ∀ (r5 : List ((Int × List Int × List Int))), r5 = oper_edited_F t0 at1 (IntKind.wrap .i64 (at1 + count2)) ([(10 : Int)] : List Int) → (
 wfR (.one (.fr 95 (.st (.pair (.int .i64) (.pair (.sl (.int .u8)) (.sl (.int .u8))))) r5)) → (
 K (.tup [.v EfT (r5, (IntKind.wrap .i64 (at1 + (1 : Int))), (false, false, ([] : List Int)), (0 : Int), false), .v (.int .i64) (0 : Int)]) [])))
 else
 oper_edited_P t0 at1 (IntKind.wrap .i64 (at1 + count2)) r3 ∧ (
 ∀ (r6 : List ((Int × List Int × List Int))), r6 = oper_edited_F t0 at1 (IntKind.wrap .i64 (at1 + count2)) r3 → (
 wfR (.one (.fr 95 (.st (.pair (.int .i64) (.pair (.sl (.int .u8)) (.sl (.int .u8))))) r6)) → (
 K (.tup [.v EfT (r6, (IntKind.wrap .i64 ((IntKind.wrap .i64 (at1 + count2)) - (1 : Int))), (false, false, ([] : List Int)), (0 : Int), false), .v (.int .i64) (0 : Int)]) [])))))))))))
def oper_Over_A : List AS := [.v (.sl (.int .u8)), .v (.int .i64), .v (.int .i64), .v (.int .u8)]
theorem oper_Over_walk (t0 : List Int) (at1 : Int) (count2 : Int) (b3 : Int) (K : Res → List Cell → Prop) : runF tb (getG oper_Over_G) [] Tryd.f76 [true, true] (mkA oper_Over_A (t0, at1, count2, b3, ())) K = oper_Over_raw t0 at1 count2 b3 K := by kernel_rfl

def oper_Over_P (t0 : List Int) (at1 : Int) (count2 : Int) (b3 : Int) : Prop :=
 let r1 : Bool := oper_outside_F t0 at1 count2 (1 : Int)
 bif r1 then
 True
 else
 oper_rest_P t0 at1 ∧ (
 let r2 : Int := oper_rest_F t0 at1
 bif (decide (r2 < count2)) then
 True
 else
 bytes_Repeat_P ([b3] : List Int) count2 ∧ (
 let r3 : List Int := bytes_Repeat_F ([b3] : List Int) count2
 bif (decide (b3 = (10 : Int))) then
 oper_edited_P t0 at1 (IntKind.wrap .i64 (at1 + count2)) ([(10 : Int)] : List Int)
 else
 bif (decide (b3 = (13 : Int))) then
 oper_edited_P t0 at1 (IntKind.wrap .i64 (at1 + count2)) ([(10 : Int)] : List Int)
 else
 oper_edited_P t0 at1 (IntKind.wrap .i64 (at1 + count2)) r3))
def oper_Over_F (t0 : List Int) (at1 : Int) (count2 : Int) (b3 : Int) : EfD × Int :=
 let r1 : Bool := oper_outside_F t0 at1 count2 (1 : Int)
 bif r1 then
 ((([] : List ((Int × List Int × List Int))), (0 : Int), (false, false, ([] : List Int)), (0 : Int), false), (2 : Int))
 else
 let r2 : Int := oper_rest_F t0 at1
 bif (decide (r2 < count2)) then
 ((([] : List ((Int × List Int × List Int))), (0 : Int), (false, false, ([] : List Int)), (0 : Int), false), (190 : Int))
 else
 let r3 : List Int := bytes_Repeat_F ([b3] : List Int) count2
 bif (decide (b3 = (10 : Int))) then
 let r4 : List ((Int × List Int × List Int)) := oper_edited_F t0 at1 (IntKind.wrap .i64 (at1 + count2)) ([(10 : Int)] : List Int)
 ((r4, (IntKind.wrap .i64 (at1 + (1 : Int))), (false, false, ([] : List Int)), (0 : Int), false), (0 : Int))
 else
 bif (decide (b3 = (13 : Int))) then
 let r5 : List ((Int × List Int × List Int)) := oper_edited_F t0 at1 (IntKind.wrap .i64 (at1 + count2)) ([(10 : Int)] : List Int)
 ((r5, (IntKind.wrap .i64 (at1 + (1 : Int))), (false, false, ([] : List Int)), (0 : Int), false), (0 : Int))
 else
 let r6 : List ((Int × List Int × List Int)) := oper_edited_F t0 at1 (IntKind.wrap .i64 (at1 + count2)) r3
 ((r6, (IntKind.wrap .i64 ((IntKind.wrap .i64 (at1 + count2)) - (1 : Int))), (false, false, ([] : List Int)), (0 : Int), false), (0 : Int))
set_option maxRecDepth 20000 in
theorem oper_Over_sp (t0 : List Int) (at1 : Int) (count2 : Int) (b3 : Int) (K : Res → List Cell → Prop) (_ : wfA oper_Over_A (t0, at1, count2, b3, ())) (hp : oper_Over_P t0 at1 count2 b3) (h : ∀ r : EfD × Int, r = oper_Over_F t0 at1 count2 b3 → K (.tup [.v EfT r.1, .v (.int .i64) r.2]) []) : oper_Over_raw t0 at1 count2 b3 K := by
  unfold oper_Over_raw
  unfold oper_Over_P at hp
  intro r1 hr1
  subst r1
  intro _
  refine brb (fun c_1 => ?_) (fun c_1 => ?_)
  ·
    clear hp
    have e := h _ ((ctrue c_1) : oper_Over_F t0 at1 count2 b3 = _).symm
    exact e
  ·
    replace hp := cF c_1 hp
    refine ⟨hp.1, ?_⟩
    replace hp := hp.2
    intro r2 hr2
    subst r2
    intro _
    refine brb (fun c_2 => ?_) (fun c_2 => ?_)
    ·
      clear hp
      have e := h _ ((Eq.trans (cfalse c_1) (ctrue c_2)) : oper_Over_F t0 at1 count2 b3 = _).symm
      exact e
    ·
      replace hp := cF c_2 hp
      refine ⟨hp.1, ?_⟩
      replace hp := hp.2
      intro r3 hr3
      subst r3
      intro _
      refine brb (fun c_3 => ?_) (fun c_3 => ?_)
      ·
        replace hp := cT c_3 hp
        refine ⟨hp, ?_⟩
        intro r4 hr4
        subst r4
        intro _
        have e := h _ ((Eq.trans (cfalse c_1) (Eq.trans (cfalse c_2) (ctrue c_3))) : oper_Over_F t0 at1 count2 b3 = _).symm
        exact e
      ·
        replace hp := cF c_3 hp
        refine brb (fun c_4 => ?_) (fun c_4 => ?_)
        ·
          replace hp := cT c_4 hp
          refine ⟨hp, ?_⟩
          intro r5 hr5
          subst r5
          intro _
          have e := h _ ((Eq.trans (cfalse c_1) (Eq.trans (cfalse c_2) (Eq.trans (cfalse c_3) (ctrue c_4)))) : oper_Over_F t0 at1 count2 b3 = _).symm
          exact e
        ·
          replace hp := cF c_4 hp
          refine ⟨hp, ?_⟩
          intro r6 hr6
          subst r6
          intro _
          have e := h _ ((Eq.trans (cfalse c_1) (Eq.trans (cfalse c_2) (Eq.trans (cfalse c_3) (cfalse c_4)))) : oper_Over_F t0 at1 count2 b3 = _).symm
          exact e
def oper_Over_C (v : valsA oper_Over_A) (K : Res → List Cell → Prop) : Prop := oper_Over_P v.1 v.2.1 v.2.2.1 v.2.2.2.1 ∧ ∀ r : EfD × Int, r = oper_Over_F v.1 v.2.1 v.2.2.1 v.2.2.2.1 → K (.tup [.v EfT r.1, .v (.int .i64) r.2]) []
def oper_Over_S : App := specW oper_Over_A oper_Over_C
theorem oper_Over_wv (K : Res → List Cell → Prop) : ∀ v : valsA oper_Over_A, runF tb (getG oper_Over_G) [] Tryd.f76 [true, true] (mkA oper_Over_A v) K = oper_Over_raw v.1 v.2.1 v.2.2.1 v.2.2.2.1 K
  | (t0, at1, count2, b3, ()) => oper_Over_walk t0 at1 count2 b3 K
set_option maxRecDepth 20000 in
theorem oper_Over_ok : AppOk Tryd.prog 76 oper_Over_S :=
  AppOk.specW (spec_ok ((runF_ok tb_M tb_ok oper_Over_Gok (LabsOk.nil) (f := 76) (fn := Tryd.f76) (by kernel_rfl) (by kernel_rfl) (by kernel_rfl) [true, true])) fun v K hw h => (oper_Over_wv K v).mpr (oper_Over_sp v.1 v.2.1 v.2.2.1 v.2.2.2.1 K hw h.1 h.2))

end Go.VE
namespace Go.VE
open Go Go.Proofs
/-! ### quoin/oper.Turn -/
def oper_Turn_G : List (Nat × App) := [(59, oper_outside_S), (117, oper_rest_S), (60, bytes_Clone_S), (34, class_Toggle_S), (64, oper_edited_S)]
theorem oper_Turn_Gok : GOk Tryd.prog (getG oper_Turn_G) := GOk.cons oper_outside_ok (GOk.cons oper_rest_ok (GOk.cons bytes_Clone_ok (GOk.cons class_Toggle_ok (GOk.cons oper_edited_ok (GOk.nil)))))
theorem oper_Turn_st : storesC (bodyOf Tryd.f77) = true := by kernel_rfl
def oper_Turn_d0 : List LS := [.v 0 (.sl (.int .u8)), .v 1 (.int .i64), .b 6 48 [], .v 8 (.int .i64), .o 9 77 5 (.int .u8), .o 32 77 5 (.int .u8), .v 33 (.int .i64), .v 34 (.int .i64), .c 48 EfT]
def oper_Turn_d0x0 : List LS := [.v 0 (.sl (.int .u8)), .v 1 (.int .i64), .b 6 48 [], .v 8 (.int .i64), .o 9 77 5 (.int .u8), .c 48 EfT]
def oper_Turn_dx0 : DX := ⟨none, none, [(0, oper_Turn_d0x0)]⟩
def oper_Turn_T0 (Y : List Int → Int → Int → List Int → List Int → Int → Int → EfD → Prop) (kx0 : List Int → Int → Int → List Int → EfD → Prop) (t0 : List Int) (at1 : Int) (k8 : Int) (p9 : List Int) (x32 : List Int) (x33 : Int) (x34 : Int) (x6b : EfD) : Prop :=
 bif (decide (x34 < x33)) then
 bif decide (0 ≤ x34 ∧ x34 < (List.length x32 : Int)) then
 ∀ (r4 : Int), r4 = class_Toggle_F (rd (0 : Int) x32 x34) → (
 wfR (.one (.v (.int .u8) r4)) → (
 bif decide (0 ≤ x34 ∧ x34 < (List.length p9 : Int)) then
 Y t0 at1 k8 (List.set p9 (Int.toNat x34) r4) (List.set x32 (Int.toNat x34) r4) x33 (IntKind.wrap .i64 (x34 + (1 : Int))) x6b
 else False))
 else False
 else
 kx0 t0 at1 k8 p9 x6b
def oper_Turn_L0 (kx0 : List Int → Int → Int → List Int → EfD → Prop) : Nat → List Int → Int → Int → List Int → List Int → Int → Int → EfD → Prop
  | 0, _, _, _, _, _, _, _, _ => False
  | n + 1, t0, at1, k8, p9, x32, x33, x34, x6b => wfD oper_Turn_d0 (t0, at1, k8, p9, x32, x33, x34, x6b, ()) → oper_Turn_T0 (oper_Turn_L0 kx0 n) kx0 t0 at1 k8 p9 x32 x33 x34 x6b
theorem oper_Turn_s0 (k : Ex → St → Prop) (Y : vals oper_Turn_d0 → Prop) (t0 : List Int) (at1 : Int) (k8 : Int) (p9 : List Int) (x32 : List Int) (x33 : Int) (x34 : Int) (x6b : EfD) :
    ex tb (getG oper_Turn_G) [] (at' (bodyOf Tryd.f77) [0, 0, 1, 0, 1, 1, 1, 1, 1]) [0, 0, 1, 0, 1, 1, 1, 1, 1] (mkD 56 oper_Turn_d0 (t0, at1, k8, p9, x32, x33, x34, x6b, ())) (lpK 56 oper_Turn_d0 oper_Turn_dx0 k Y) =
    oper_Turn_T0 (fun t0 at1 k8 p9 x32 x33 x34 x6b => Y (t0, at1, k8, p9, x32, x33, x34, x6b, ())) (fun t0 at1 k8 p9 x6b => wfD oper_Turn_d0x0 (t0, at1, k8, p9, x6b, ()) → k (.exit 0) (mkD 56 oper_Turn_d0x0 (t0, at1, k8, p9, x6b, ()))) t0 at1 k8 p9 x32 x33 x34 x6b := by kernel_rfl
theorem oper_Turn_e0 (k : Ex → St → Prop) : ∀ (n : Nat) (t0 : List Int) (at1 : Int) (k8 : Int) (p9 : List Int) (x32 : List Int) (x33 : Int) (x34 : Int) (x6b : EfD), lpD 56 oper_Turn_d0 oper_Turn_dx0 (ex tb (getG oper_Turn_G) [] (at' (bodyOf Tryd.f77) [0, 0, 1, 0, 1, 1, 1, 1, 1]) [0, 0, 1, 0, 1, 1, 1, 1, 1]) k n (t0, at1, k8, p9, x32, x33, x34, x6b, ()) = oper_Turn_L0 (fun t0 at1 k8 p9 x6b => wfD oper_Turn_d0x0 (t0, at1, k8, p9, x6b, ()) → k (.exit 0) (mkD 56 oper_Turn_d0x0 (t0, at1, k8, p9, x6b, ()))) n t0 at1 k8 p9 x32 x33 x34 x6b
  | 0, _, _, _, _, _, _, _, _ => rfl
  | n + 1, t0, at1, k8, p9, x32, x33, x34, x6b => congrArg (fun Z : Prop => wfD oper_Turn_d0 (t0, at1, k8, p9, x32, x33, x34, x6b, ()) → Z) ((oper_Turn_s0 k (lpD 56 oper_Turn_d0 oper_Turn_dx0 (ex tb (getG oper_Turn_G) [] (at' (bodyOf Tryd.f77) [0, 0, 1, 0, 1, 1, 1, 1, 1]) [0, 0, 1, 0, 1, 1, 1, 1, 1]) k n) t0 at1 k8 p9 x32 x33 x34 x6b).trans (congrArg (fun Y => oper_Turn_T0 Y (fun t0 at1 k8 p9 x6b => wfD oper_Turn_d0x0 (t0, at1, k8, p9, x6b, ()) → k (.exit 0) (mkD 56 oper_Turn_d0x0 (t0, at1, k8, p9, x6b, ()))) t0 at1 k8 p9 x32 x33 x34 x6b) (funext fun t0 => funext fun at1 => funext fun k8 => funext fun p9 => funext fun x32 => funext fun x33 => funext fun x34 => funext fun x6b => oper_Turn_e0 k n t0 at1 k8 p9 x32 x33 x34 x6b)))
theorem oper_Turn_v0 (k : Ex → St → Prop) (n : Nat) : ∀ v : vals oper_Turn_d0, lpD 56 oper_Turn_d0 oper_Turn_dx0 (ex tb (getG oper_Turn_G) [] (at' (bodyOf Tryd.f77) [0, 0, 1, 0, 1, 1, 1, 1, 1]) [0, 0, 1, 0, 1, 1, 1, 1, 1]) k n v = oper_Turn_L0 (fun t0 at1 k8 p9 x6b => wfD oper_Turn_d0x0 (t0, at1, k8, p9, x6b, ()) → k (.exit 0) (mkD 56 oper_Turn_d0x0 (t0, at1, k8, p9, x6b, ()))) n v.1 v.2.1 v.2.2.1 v.2.2.2.1 v.2.2.2.2.1 v.2.2.2.2.2.1 v.2.2.2.2.2.2.1 v.2.2.2.2.2.2.2.1
  | (t0, at1, k8, p9, x32, x33, x34, x6b, ()) => oper_Turn_e0 k n t0 at1 k8 p9 x32 x33 x34 x6b
def oper_Turn_X0 : Pce := fun st k => ckD 56 oper_Turn_d0 st fun v => wfD oper_Turn_d0 v → ∃ n, oper_Turn_L0 (fun t0 at1 k8 p9 x6b => wfD oper_Turn_d0x0 (t0, at1, k8, p9, x6b, ()) → k (.exit 0) (mkD 56 oper_Turn_d0x0 (t0, at1, k8, p9, x6b, ()))) n v.1 v.2.1 v.2.2.1 v.2.2.2.1 v.2.2.2.2.1 v.2.2.2.2.2.1 v.2.2.2.2.2.2.1 v.2.2.2.2.2.2.2.1
set_option maxRecDepth 20000 in
theorem oper_Turn_x0 : SemOk Tryd.prog (at' (bodyOf Tryd.f77) [0, 1, 0, 1, 1, 1, 1, 1]) oper_Turn_X0 :=
  (SemOk.loop (ex_sound tb_M tb_ok oper_Turn_Gok (LabsOk.nil) (at' (bodyOf Tryd.f77) [0, 0, 1, 0, 1, 1, 1, 1, 1]) [0, 0, 1, 0, 1, 1, 1, 1, 1] rfl (storesC_at oper_Turn_st [0, 0, 1, 0, 1, 1, 1, 1, 1])) 56 oper_Turn_d0 oper_Turn_dx0).mono fun st k h => ckD_mono h fun v hv hw => (hv hw).elim fun n hn => ⟨n, Eq.mpr (oper_Turn_v0 k n v) hn⟩
def oper_Turn_B0 : Labs := ([0, 1, 0, 1, 1, 1, 1, 1], oper_Turn_X0) :: []
theorem oper_Turn_b0 : LabsOk Tryd.prog (bodyOf Tryd.f77) oper_Turn_B0 := LabsOk.cons oper_Turn_x0 (LabsOk.nil)
def oper_Turn_raw (t0 : List Int) (at1 : Int) (count2 : Int) (K : Res → List Cell → Prop) : Prop :=
 ∀ (r1 : Bool), r1 = oper_outside_F t0 at1 count2 (1 : Int) → (
 wfR (.one (.v (.bool) r1)) → (
 bif r1 then
 K (.tup [.v EfT (([] : List ((Int × List Int × List Int))), (0 : Int), (false, false, ([] : List Int)), (0 : Int), false), .v (.int .i64) (2 : Int)]) []
 else
 oper_rest_P t0 at1 ∧ (
 ∀ (r2 : Int), r2 = oper_rest_F t0 at1 → (
 wfR (.one (.v (.int .i64) r2)) → (
 bif (decide ((mn count2 r2) = (0 : Int))) then
 K (.tup [.v EfT (([] : List ((Int × List Int × List Int))), (0 : Int), (false, false, ([] : List Int)), (0 : Int), false), .v (.int .i64) (190 : Int)]) []
 else
 bif decide (0 ≤ at1 ∧ at1 ≤ (IntKind.wrap .i64 (at1 + (mn count2 r2))) ∧ (IntKind.wrap .i64 (at1 + (mn count2 r2))) ≤ (List.length t0 : Int)) then
 bytes_Clone_P (slc t0 at1 (IntKind.wrap .i64 (at1 + (mn count2 r2)))) ∧ (
 ∀ (r3 : List Int), r3 = bytes_Clone_F (slc t0 at1 (IntKind.wrap .i64 (at1 + (mn count2 r2)))) → (
 wfR (.one (.fr 5 (.int .u8) r3)) → (
 (wfD oper_Turn_d0 (t0, at1, (mn count2 r2), r3, r3, (List.length r3 : Int), (0 : Int), (([] : List ((Int × List Int × List Int))), (0 : Int), (false, false, ([] : List Int)), (0 : Int), false), ()) → ∃ n, oper_Turn_L0 (fun (t0 : List Int) (at1 : Int) (k8 : Int) (p9 : List Int) (x6b : EfD) => wfD oper_Turn_d0x0 (t0, at1, k8, p9, x6b, ()) → (
 oper_edited_P t0 at1 (IntKind.wrap .i64 (at1 + k8)) p9 ∧ (
 ∀ (r5 : List ((Int × List Int × List Int))), r5 = oper_edited_F t0 at1 (IntKind.wrap .i64 (at1 + k8)) p9 → (
 wfR (.one (.fr 95 (.st (.pair (.int .i64) (.pair (.sl (.int .u8)) (.sl (.int .u8))))) r5)) → (
 K (.tup [.v EfT (r5, (IntKind.wrap .i64 (at1 + k8)), (false, false, ([] : List Int)), (0 : Int), false), .v (.int .i64) (0 : Int)]) []))))) n t0 at1 (mn count2 r2) r3 r3 (List.length r3 : Int) (0 : Int) (([] : List ((Int × List Int × List Int))), (0 : Int), (false, false, ([] : List Int)), (0 : Int), false)))))
 else False)))))
def oper_Turn_A : List AS := [.v (.sl (.int .u8)), .v (.int .i64), .v (.int .i64)]
theorem oper_Turn_walk (t0 : List Int) (at1 : Int) (count2 : Int) (K : Res → List Cell → Prop) : runF tb (getG oper_Turn_G) oper_Turn_B0 Tryd.f77 [true, true] (mkA oper_Turn_A (t0, at1, count2, ())) K = oper_Turn_raw t0 at1 count2 K := by kernel_rfl
--! pre 1
def oper_Turn_P (t : List Int) (p count : Int) : Prop :=
 t.length ≤ 1099511627776 ∧ (oper_outside_F t p count 1 = false → oper_rest_P t p ∧ 0 ≤ p ∧ 0 ≤ oper_rest_F t p ∧ 0 < count ∧ p + oper_rest_F t p ≤ (t.length : Int) ∧
 oper_edited_P t p (p + mn count (oper_rest_F t p)) ((slc t p (p + mn count (oper_rest_F t p))).map class_Toggle_F))
def oper_Turn_F (t : List Int) (p count : Int) : (List (Int × List Int × List Int) × Int × (Bool × Bool × List Int) × Int × Bool) × Int :=
 if oper_outside_F t p count 1 = true then (([], 0, (false, false, []), 0, false), 2)
 else if mn count (oper_rest_F t p) = 0 then (([], 0, (false, false, []), 0, false), 190)
 else ((oper_edited_F t p (p + mn count (oper_rest_F t p)) ((slc t p (p + mn count (oper_rest_F t p))).map class_Toggle_F), p + mn count (oper_rest_F t p), (false, false, []), 0, false), 0)
theorem oper_Turn_l0 (kx : List Int → Int → Int → List Int → (List (Int × List Int × List Int) × Int × (Bool × Bool × List Int) × Int × Bool) → Prop) (t : List Int) (p k : Int) (s : List Int) (hl : s.length ≤ 1099511627776) (x) (hx : kx t p k (s.map class_Toggle_F) x) :
    ∀ (m i : Nat), s.length < m + i → i ≤ s.length → oper_Turn_L0 kx m t p k ((s.take i).map class_Toggle_F ++ s.drop i) ((s.take i).map class_Toggle_F ++ s.drop i) (s.length : Int) (i : Int) x
  | 0, i, h, h2 => by omega
  | m + 1, i, h, h2 => by
    intro _
    have hlen : ((s.take i).map class_Toggle_F ++ s.drop i).length = s.length := by
      rw [List.length_append, List.length_map, List.length_take, List.length_drop]; omega
    unfold oper_Turn_T0
    refine brn (fun hlt => asrt ⟨by omega, by rw [hlen]; exact hlt⟩ fun r hr _ => asrt ⟨by omega, by rw [hlen]; exact hlt⟩ ?_) (fun hge => ?_)
    · have hi : i < s.length := by omega
      have hil : ((s.take i).map class_Toggle_F).length = i := by rw [List.length_map, List.length_take]; omega
      have e : rd (0 : Int) ((s.take i).map class_Toggle_F ++ s.drop i) (i : Int) = s[i] := by
        rw [rd_nat _ _ _ (by omega), List.getElem_append_right (by omega), List.getElem_drop]
        congr 1; omega
      rw [e] at hr
      subst r
      have es : ((s.take i).map class_Toggle_F ++ s.drop i).set i (class_Toggle_F s[i]) = (s.take (i + 1)).map class_Toggle_F ++ s.drop (i + 1) := by
        have e2 : s.take (i + 1) = s.take i ++ [s[i]] := by rw [List.take_add_one, List.getElem?_eq_getElem hi]; rfl
        rw [List.set_append_right _ _ (by omega), hil, Nat.sub_self, List.drop_eq_getElem_cons hi, List.set_cons_zero, e2, List.map_append, List.append_assoc]
        rfl
      rw [Int.toNat_natCast, es, wrap_i64 (by omega) (by omega), show (i : Int) + 1 = ((i + 1 : Nat) : Int) by omega]
      exact oper_Turn_l0 kx t p k s hl x hx m (i + 1) (by omega) (by omega)
    · obtain rfl : i = s.length := by omega
      rw [List.take_length, List.drop_length, List.append_nil]
      exact hx
theorem oper_Turn_sp (t : List Int) (p count : Int) (K : Res → List Cell → Prop) (_ : wfA oper_Turn_A (t, p, count, ())) (hp : oper_Turn_P t p count)
    (h : ∀ r : (List (Int × List Int × List Int) × Int × (Bool × Bool × List Int) × Int × Bool) × Int, r = oper_Turn_F t p count → K (.tup [.v EfT r.1, .v (.int .i64) r.2]) []) : oper_Turn_raw t p count K := by
  obtain ⟨h1, h2⟩ := hp
  unfold oper_Turn_F at h
  unfold oper_Turn_raw
  intro r1 e1 _
  subst r1
  refine brb (fun c1 => h (_, 2) (by rw [if_pos c1])) (fun c1 => ?_)
  obtain ⟨h3, h4, h5, h6, h7, h8⟩ := h2 c1
  rw [if_neg (by rw [c1]; decide)] at h
  refine ⟨h3, fun r2 e2 _ => ?_⟩
  subst r2
  refine brn (fun c2 => h (_, 190) (by rw [if_pos c2])) (fun c2 => ?_)
  rw [if_neg c2] at h
  have hm : 0 ≤ mn count (oper_rest_F t p) ∧ mn count (oper_rest_F t p) ≤ oper_rest_F t p := by
    unfold mn
    by_cases c : oper_rest_F t p < count
    · rw [decide_eq_true c]; exact ⟨h5, Int.le_refl _⟩
    · rw [decide_eq_false c]; exact ⟨by show 0 ≤ count; omega, by show count ≤ _; omega⟩
  generalize mn count (oper_rest_F t p) = k at *
  rw [wrap_i64 (n := p + k) (by omega) (by omega)]
  have hs : (slc t p (p + k)).length ≤ t.length := by
    unfold slc; rw [List.length_drop, List.length_take]; omega
  refine asrt ⟨by omega, by omega, by omega⟩ ⟨show _ ≤ lim by unfold lim; omega, fun r3 e3 _ => ?_⟩
  replace e3 : r3 = slc t p (p + k) := e3
  subst r3
  intro _
  refine ⟨_, oper_Turn_l0 _ t p k (slc t p (p + k)) (by omega) _ ?_ ((slc t p (p + k)).length + 1) 0 (by omega) (Nat.zero_le _)⟩
  intro _
  rw [wrap_i64 (n := p + k) (by omega) (by omega)]
  refine ⟨h8, fun r5 e5 _ => ?_⟩
  subst r5
  exact h (_, 0) rfl

def oper_Turn_C (v : valsA oper_Turn_A) (K : Res → List Cell → Prop) : Prop := oper_Turn_P v.1 v.2.1 v.2.2.1 ∧ ∀ r : EfD × Int, r = oper_Turn_F v.1 v.2.1 v.2.2.1 → K (.tup [.v EfT r.1, .v (.int .i64) r.2]) []
def oper_Turn_S : App := specW oper_Turn_A oper_Turn_C
theorem oper_Turn_wv (K : Res → List Cell → Prop) : ∀ v : valsA oper_Turn_A, runF tb (getG oper_Turn_G) oper_Turn_B0 Tryd.f77 [true, true] (mkA oper_Turn_A v) K = oper_Turn_raw v.1 v.2.1 v.2.2.1 K
  | (t0, at1, count2, ()) => oper_Turn_walk t0 at1 count2 K
set_option maxRecDepth 20000 in
theorem oper_Turn_ok : AppOk Tryd.prog 77 oper_Turn_S :=
  AppOk.specW (spec_ok ((runF_ok tb_M tb_ok oper_Turn_Gok (oper_Turn_b0) (f := 77) (fn := Tryd.f77) (by kernel_rfl) (by kernel_rfl) oper_Turn_st [true, true])) fun v K hw h => (oper_Turn_wv K v).mpr (oper_Turn_sp v.1 v.2.1 v.2.2.1 K hw h.1 h.2))

end Go.VE
namespace Go.VE
open Go Go.Proofs
/-! ### quoin/class.Of -/
def class_Of_G : List (Nat × App) := [(74, class_small_S), (73, class_great_S)]
theorem class_Of_Gok : GOk Tryd.prog (getG class_Of_G) := GOk.cons class_small_ok (GOk.cons class_great_ok (GOk.nil))
def class_Of_raw (b0 : Int) (big1 : Bool) (K : Res → List Cell → Prop) : Prop :=
 bif (decide (b0 = (10 : Int))) then
 K (.one (.v (.int .i64) (3 : Int))) []
 else
 bif (decide (b0 = (32 : Int))) then
 K (.one (.v (.int .i64) (0 : Int))) []
 else
 bif (decide (b0 = (9 : Int))) then
 K (.one (.v (.int .i64) (0 : Int))) []
 else
 bif big1 then
 K (.one (.v (.int .i64) (2 : Int))) []
 else
 ∀ (r1 : Bool), r1 = class_small_F b0 → (
 wfR (.one (.v (.bool) r1)) → (
 bif r1 then
 K (.one (.v (.int .i64) (2 : Int))) []
 else
 ∀ (r2 : Bool), r2 = class_great_F b0 → (
 wfR (.one (.v (.bool) r2)) → (
 bif r2 then
 K (.one (.v (.int .i64) (2 : Int))) []
 else
 bif (decide ((48 : Int) ≤ b0)) then
 bif (decide (b0 ≤ (57 : Int))) then
 K (.one (.v (.int .i64) (2 : Int))) []
 else
 bif (decide (b0 = (95 : Int))) then
 K (.one (.v (.int .i64) (2 : Int))) []
 else
 bif (decide ((128 : Int) ≤ b0)) then
 K (.one (.v (.int .i64) (2 : Int))) []
 else
 K (.one (.v (.int .i64) (1 : Int))) []
 else
 bif (decide (b0 = (95 : Int))) then
 K (.one (.v (.int .i64) (2 : Int))) []
 else
 bif (decide ((128 : Int) ≤ b0)) then
 K (.one (.v (.int .i64) (2 : Int))) []
 else
 K (.one (.v (.int .i64) (1 : Int))) []))))
def class_Of_A : List AS := [.v (.int .u8), .v (.bool)]
theorem class_Of_walk (b0 : Int) (big1 : Bool) (K : Res → List Cell → Prop) : runF tb (getG class_Of_G) [] Tryd.f119 [true] (mkA class_Of_A (b0, big1, ())) K = class_Of_raw b0 big1 K := by kernel_rfl

def class_Of_F (b0 : Int) (big1 : Bool) : Int :=
 bif (decide (b0 = (10 : Int))) then
 (3 : Int)
 else
 bif (decide (b0 = (32 : Int))) then
 (0 : Int)
 else
 bif (decide (b0 = (9 : Int))) then
 (0 : Int)
 else
 bif big1 then
 (2 : Int)
 else
 let r1 : Bool := class_small_F b0
 bif r1 then
 (2 : Int)
 else
 let r2 : Bool := class_great_F b0
 bif r2 then
 (2 : Int)
 else
 bif (decide ((48 : Int) ≤ b0)) then
 bif (decide (b0 ≤ (57 : Int))) then
 (2 : Int)
 else
 bif (decide (b0 = (95 : Int))) then
 (2 : Int)
 else
 bif (decide ((128 : Int) ≤ b0)) then
 (2 : Int)
 else
 (1 : Int)
 else
 bif (decide (b0 = (95 : Int))) then
 (2 : Int)
 else
 bif (decide ((128 : Int) ≤ b0)) then
 (2 : Int)
 else
 (1 : Int)
set_option maxRecDepth 20000 in
theorem class_Of_sp (b0 : Int) (big1 : Bool) (K : Res → List Cell → Prop) (_ : wfA class_Of_A (b0, big1, ())) (h : ∀ r : Int, r = class_Of_F b0 big1 → K (.one (.v (.int .i64) r)) []) : class_Of_raw b0 big1 K := by
  unfold class_Of_raw
  refine brb (fun c_1 => ?_) (fun c_1 => ?_)
  ·
    exact h _ ((ctrue c_1) : class_Of_F b0 big1 = _).symm
  ·
    refine brb (fun c_2 => ?_) (fun c_2 => ?_)
    ·
      exact h _ ((Eq.trans (cfalse c_1) (ctrue c_2)) : class_Of_F b0 big1 = _).symm
    ·
      refine brb (fun c_3 => ?_) (fun c_3 => ?_)
      ·
        exact h _ ((Eq.trans (cfalse c_1) (Eq.trans (cfalse c_2) (ctrue c_3))) : class_Of_F b0 big1 = _).symm
      ·
        refine brb (fun c_4 => ?_) (fun c_4 => ?_)
        ·
          exact h _ ((Eq.trans (cfalse c_1) (Eq.trans (cfalse c_2) (Eq.trans (cfalse c_3) (ctrue c_4)))) : class_Of_F b0 big1 = _).symm
        ·
          intro r1 hr1
          subst r1
          intro _
          refine brb (fun c_5 => ?_) (fun c_5 => ?_)
          ·
            exact h _ ((Eq.trans (cfalse c_1) (Eq.trans (cfalse c_2) (Eq.trans (cfalse c_3) (Eq.trans (cfalse c_4) (ctrue c_5))))) : class_Of_F b0 big1 = _).symm
          ·
            intro r2 hr2
            subst r2
            intro _
            refine brb (fun c_6 => ?_) (fun c_6 => ?_)
            ·
              exact h _ ((Eq.trans (cfalse c_1) (Eq.trans (cfalse c_2) (Eq.trans (cfalse c_3) (Eq.trans (cfalse c_4) (Eq.trans (cfalse c_5) (ctrue c_6)))))) : class_Of_F b0 big1 = _).symm
            ·
              refine brb (fun c_7 => ?_) (fun c_7 => ?_)
              ·
                refine brb (fun c_8 => ?_) (fun c_8 => ?_)
                ·
                  exact h _ ((Eq.trans (cfalse c_1) (Eq.trans (cfalse c_2) (Eq.trans (cfalse c_3) (Eq.trans (cfalse c_4) (Eq.trans (cfalse c_5) (Eq.trans (cfalse c_6) (Eq.trans (ctrue c_7) (ctrue c_8)))))))) : class_Of_F b0 big1 = _).symm
                ·
                  refine brb (fun c_9 => ?_) (fun c_9 => ?_)
                  ·
                    exact h _ ((Eq.trans (cfalse c_1) (Eq.trans (cfalse c_2) (Eq.trans (cfalse c_3) (Eq.trans (cfalse c_4) (Eq.trans (cfalse c_5) (Eq.trans (cfalse c_6) (Eq.trans (ctrue c_7) (Eq.trans (cfalse c_8) (ctrue c_9))))))))) : class_Of_F b0 big1 = _).symm
                  ·
                    refine brb (fun c_10 => ?_) (fun c_10 => ?_)
                    ·
                      exact h _ ((Eq.trans (cfalse c_1) (Eq.trans (cfalse c_2) (Eq.trans (cfalse c_3) (Eq.trans (cfalse c_4) (Eq.trans (cfalse c_5) (Eq.trans (cfalse c_6) (Eq.trans (ctrue c_7) (Eq.trans (cfalse c_8) (Eq.trans (cfalse c_9) (ctrue c_10)))))))))) : class_Of_F b0 big1 = _).symm
                    ·
                      exact h _ ((Eq.trans (cfalse c_1) (Eq.trans (cfalse c_2) (Eq.trans (cfalse c_3) (Eq.trans (cfalse c_4) (Eq.trans (cfalse c_5) (Eq.trans (cfalse c_6) (Eq.trans (ctrue c_7) (Eq.trans (cfalse c_8) (Eq.trans (cfalse c_9) (cfalse c_10)))))))))) : class_Of_F b0 big1 = _).symm
              ·
                refine brb (fun c_11 => ?_) (fun c_11 => ?_)
                ·
                  exact h _ ((Eq.trans (cfalse c_1) (Eq.trans (cfalse c_2) (Eq.trans (cfalse c_3) (Eq.trans (cfalse c_4) (Eq.trans (cfalse c_5) (Eq.trans (cfalse c_6) (Eq.trans (cfalse c_7) (ctrue c_11)))))))) : class_Of_F b0 big1 = _).symm
                ·
                  refine brb (fun c_12 => ?_) (fun c_12 => ?_)
                  ·
                    exact h _ ((Eq.trans (cfalse c_1) (Eq.trans (cfalse c_2) (Eq.trans (cfalse c_3) (Eq.trans (cfalse c_4) (Eq.trans (cfalse c_5) (Eq.trans (cfalse c_6) (Eq.trans (cfalse c_7) (Eq.trans (cfalse c_11) (ctrue c_12))))))))) : class_Of_F b0 big1 = _).symm
                  ·
                    exact h _ ((Eq.trans (cfalse c_1) (Eq.trans (cfalse c_2) (Eq.trans (cfalse c_3) (Eq.trans (cfalse c_4) (Eq.trans (cfalse c_5) (Eq.trans (cfalse c_6) (Eq.trans (cfalse c_7) (Eq.trans (cfalse c_11) (cfalse c_12))))))))) : class_Of_F b0 big1 = _).symm
def class_Of_C (v : valsA class_Of_A) (K : Res → List Cell → Prop) : Prop := ∀ r : Int, r = class_Of_F v.1 v.2.1 → K (.one (.v (.int .i64) r)) []
def class_Of_S : App := specW class_Of_A class_Of_C
theorem class_Of_wv (K : Res → List Cell → Prop) : ∀ v : valsA class_Of_A, runF tb (getG class_Of_G) [] Tryd.f119 [true] (mkA class_Of_A v) K = class_Of_raw v.1 v.2.1 K
  | (b0, big1, ()) => class_Of_walk b0 big1 K
set_option maxRecDepth 20000 in
theorem class_Of_ok : AppOk Tryd.prog 119 class_Of_S :=
  AppOk.specW (spec_ok ((runF_ok tb_M tb_ok class_Of_Gok (LabsOk.nil) (f := 119) (fn := Tryd.f119) (by kernel_rfl) (by kernel_rfl) (by kernel_rfl) [true])) fun v K hw h => (class_Of_wv K v).mpr (class_Of_sp v.1 v.2.1 K hw h))

end Go.VE
