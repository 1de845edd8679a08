/- OperShifts: whatever the input, up to the bulk that the statement names, the law answers true, and what was handed in reads as it did. Its conditions: the bound of the given statement and the tables that its card ties, no other. -/
import Derived.Test.YtmnhjhamgacdnaaDoorOS15
import Derived.MapKept
set_option linter.unusedVariables false
set_option linter.unusedSectionVars false
set_option linter.unusedSimpArgs false
namespace Go.VE
open Go Go.Proofs Go.RowKit Go.Lib Go.MapKept

structure MapAt (w0 w : World) (es : Array MapEntry) : Prop where
  at_ : w.heap[w0.heap.size]? = some (.map es es.size)
  size : w.heap.size = w0.heap.size + 1
  old : ∀ b, b < w0.heap.size → w.heap[b]? = w0.heap[b]?
  os : w.os = w0.os
  tape : w.tape = w0.tape
  output : w.output = w0.output

theorem MapAt.made (w : World) : MapAt w (w.alloc (.map #[] 0)) #[] :=
  { at_ := by show (w.heap.push _)[w.heap.size]? = _; simp, size := by simp, old := fun b hb => (by show (w.heap.push _)[b]? = _; rw [Array.getElem?_push, if_neg (by omega)]), os := rfl, tape := rfl, output := rfl }

theorem MapAt.upd {P : Program} {t k e : TypeId} {w0 w : World} {es : Array MapEntry} (M : MapAt w0 w es) (hu : P.underlying t = some (.map k e)) (hk : P.underlying k = some .string) {s : ByteArray} {v : Value}
    (hf : Instr.findNow .string (.string s) es.toList 0 = some none) :
    ∃ w', (Instr.mapUpdate t (.map (some w0.heap.size)) (.string s) v).run P w = .ok () w' ∧ MapAt w0 w' (es.push { key := .string s, val := v, born := es.size }) := by
  refine ⟨{ w with heap := w.heap.setIfInBounds w0.heap.size (.map (es.push { key := .string s, val := v, born := es.size }) (es.size + 1)) }, ?_, ?_⟩
  · have h1 := run_checkKey (P := P) (w := w) (kt := k) (k := .string s) hk (by trivial) false 9999
    have h2 := run_findKey (P := P) (w := w) hk hf
    have h3 := MapKept.run_setObj_map (P := P) (.map (es.push { key := .string s, val := v, born := es.size }) (es.size + 1)) M.at_
    have h4 := MapKept.run_getObj_map (P := P) M.at_
    simp only [Instr.mapUpdate, Sem.run_bind, run_underlying hu, h4, Result.andThen_ok, h1, h2, h3]
  · have hs := M.size
    refine { at_ := ?_, size := by simpa using M.size, old := fun b hb => ?_, os := M.os, tape := M.tape, output := M.output }
    · simp [hs]
    · rw [← M.old b hb]
      exact Array.getElem?_setIfInBounds_ne (by omega)

/-! ### operations one behind the other -/
section
variable {P : Program} {ops : Array Oper} {Q : Exit → Act → World → Prop} {ix : List Nat} {j : Nat} {a : Act} {w w' : World} {v : Value}

theorem op_val {o : Oper} (hj : ops[j]? = some o) (hg : o.guard = none) (hr : (execOp a.eval o).run P w = .ok (.value v) w') (hn : wpOps P ops Q ix (a.put o.dst v) w') : wpOps P ops Q (j :: ix) a w := by
  simp only [wpOps, hj]
  rw [if_pos (by simp [Region.wanted, hg])]
  exact .inl (wp_val hr hn)

theorem op_skip {o : Oper} (hj : ops[j]? = some o) (hg : o.guard = none) (hr : (execOp a.eval o).run P w = .ok .skip w') (hn : wpOps P ops Q ix (a.put o.dst undef) w') : wpOps P ops Q (j :: ix) a w := by
  simp only [wpOps, hj]
  rw [if_pos (by simp [Region.wanted, hg])]
  refine .inl ?_
  unfold Oper.wp
  rw [hr]
  exact hn

theorem op_enter {o : Oper} {f : FuncId} {args : Array Value} (hj : ops[j]? = some o) (hg : o.guard = none) (hr : (execOp a.eval o).run P w = .ok (.enter f args) w)
    (h : Calls P f args w fun e w' => ∃ v, e = .returned v ∧ wpOps P ops Q ix (a.put o.dst v) w') : wpOps P ops Q (j :: ix) a w := by
  simp only [wpOps, hj]
  rw [if_pos (by simp [Region.wanted, hg])]
  refine .inl ?_
  unfold Oper.wp
  rw [hr]
  refine h.mono ?_
  rintro e w' ⟨v, rfl, hb⟩
  exact hb
end

def ent (k : ByteArray) (f i : Nat) : MapEntry := { key := .string k, val := .func (.func f) #[] #[], born := i }

def opsOf : Code → Array Oper
  | .region _ ops _ => ops
  | _ => #[]

section
variable {P : Program} {ops : Array Oper} {Q : Exit → Act → World → Prop} {ix : List Nat} {j : Nat} {a : Act} {w w' : World} {v : Value} {dst : Option Tmp}
theorem op_val' (op : Op) (hj : (ops[j]?).map (fun o => (o.op, o.dst, o.guard)) = some (op, dst, none)) (hr : ∀ o : Oper, o.op = op → o.dst = dst → (execOp a.eval o).run P w = .ok (.value v) w') (hn : wpOps P ops Q ix (a.put dst v) w') : wpOps P ops Q (j :: ix) a w := by
  cases ho : ops[j]? with
  | none => rw [ho] at hj; cases hj
  | some o =>
    rw [ho] at hj
    simp only [Option.map_some, Option.some.injEq, Prod.mk.injEq] at hj
    obtain ⟨h1, h2, h3⟩ := hj
    exact op_val ho h3 (hr o h1 h2) (by rw [h2]; exact hn)
theorem op_skip' (op : Op) (hj : (ops[j]?).map (fun o => (o.op, o.dst, o.guard)) = some (op, none, none)) (hr : ∀ o : Oper, o.op = op → o.dst = none → (execOp a.eval o).run P w = .ok .skip w') (hn : wpOps P ops Q ix a w') : wpOps P ops Q (j :: ix) a w := by
  cases ho : ops[j]? with
  | none => rw [ho] at hj; cases hj
  | some o =>
    rw [ho] at hj
    simp only [Option.map_some, Option.some.injEq, Prod.mk.injEq] at hj
    obtain ⟨h1, h2, h3⟩ := hj
    exact op_skip ho h3 (hr o h1 h2) (by rw [h2]; exact hn)
theorem op_enter' (op : Op) {f : FuncId} {args : Array Value} (hj : (ops[j]?).map (fun o => (o.op, o.dst, o.guard)) = some (op, dst, none)) (hr : ∀ o : Oper, o.op = op → o.dst = dst → (execOp a.eval o).run P w = .ok (.enter f args) w)
    (h : Calls P f args w fun e w' => ∃ v, e = .returned v ∧ wpOps P ops Q ix (a.put dst v) w') : wpOps P ops Q (j :: ix) a w := by
  cases ho : ops[j]? with
  | none => rw [ho] at hj; cases hj
  | some o =>
    rw [ho] at hj
    simp only [Option.map_some, Option.some.injEq, Prod.mk.injEq] at hj
    obtain ⟨h1, h2, h3⟩ := hj
    exact op_enter ho h3 (hr o h1 h2) (by rw [h2]; exact h)
theorem op_ins {t k e : TypeId} {w0 : World} {es : Array MapEntry} (T : Tmp) (M : MapAt w0 w es) (hu : P.underlying t = some (.map k e)) (hk : P.underlying k = some .string) (hT : a.eval (.tmp T) = .map (some w0.heap.size)) (s : ByteArray) (f : FuncId)
    (hj : (ops[j]?).map (fun o => (o.op, o.dst, o.guard)) = some (.insert t (.tmp T) (.const (.string s)) (.func f), none, none))
    (hf : Instr.findNow .string (.string s) es.toList 0 = some none) (hn : ∀ w', MapAt w0 w' (es.push (ent s f es.size)) → wpOps P ops Q ix a w') : wpOps P ops Q (j :: ix) a w := by
  obtain ⟨w', hr, M'⟩ := M.upd (v := .func (.func f) #[] #[]) hu hk hf
  refine op_skip' _ hj (fun o ho hd => ?_) (hn w' M')
  unfold execOp
  rw [ho]
  dsimp only
  rw [hT]
  show (Sem.run P (do Instr.mapUpdate t (.map (some w0.heap.size)) (.string s) (.func (.func f) #[] #[]); pure _) w) = _
  rw [Sem.run_bind, hr]
  rfl
end

def tabE : Array MapEntry := #[ent ⟨#[100]⟩ 103 0, ent ⟨#[99]⟩ 104 1, ent ⟨#[121]⟩ 105 2, ent ⟨#[62]⟩ 106 3, ent ⟨#[60]⟩ 107 4, ent ⟨#[103, 126]⟩ 108 5, ent ⟨#[103, 117]⟩ 110 6, ent ⟨#[103, 85]⟩ 111 7]

theorem tab_mt : Tryd.prog.underlying 108 = some (.map 9 106) := by kernel_rfl
theorem tab_kt : Tryd.prog.underlying 9 = some .string := by kernel_rfl
theorem operators_body : Tryd.f69.body = some (.seq (.region 0 (opsOf (at' (bodyOf Tryd.f69) [0])) false) (.seq (.region 1 (opsOf (at' (bodyOf Tryd.f69) [0, 1])) false) .ret)) := by kernel_rfl
theorem operators_run (w : World) : Calls Tryd.prog 69 #[] w fun e w' => e = .returned (.map (some w.heap.size)) ∧ MapAt w w' tabE := by
  refine calls_of_wp (fn := Tryd.f69) (by kernel_rfl) operators_body ?_
  refine wp_seq (wp_region ?_)
  rw [show List.range (opsOf (at' (bodyOf Tryd.f69) [0])).size = [0] by kernel_rfl]
  refine op_val' (.assign (.const (.map none))) (dst := some 0) (by kernel_rfl) (fun o ho hd => by unfold execOp; rw [ho]; rfl) ?_
  show Code.wp _ _ _ _ _
  refine wp_seq (wp_region ?_)
  rw [show List.range (opsOf (at' (bodyOf Tryd.f69) [0, 1])).size = [0, 1, 2, 3, 4, 5, 6, 7, 8, 9, 10] by kernel_rfl]
  refine op_val' (.makeMap 108 none) (dst := some 1) (by kernel_rfl) (fun o ho hd => by unfold execOp; rw [ho]; rfl) ?_
  have hT : ∀ (x y z : Value) (ds : List Deferred) (m : Value), (((Act.mk #[x, y, z] ds).put (some 1) m).eval (.tmp 1)) = m := fun _ _ _ _ _ => rfl
  refine op_ins 1 (MapAt.made w) tab_mt tab_kt rfl ⟨#[100]⟩ 103 (by kernel_rfl) (by kernel_rfl) fun w M => ?_
  refine op_ins 1 M tab_mt tab_kt rfl ⟨#[99]⟩ 104 (by kernel_rfl) (by kernel_rfl) fun w M => ?_
  refine op_ins 1 M tab_mt tab_kt rfl ⟨#[121]⟩ 105 (by kernel_rfl) (by kernel_rfl) fun w M => ?_
  refine op_ins 1 M tab_mt tab_kt rfl ⟨#[62]⟩ 106 (by kernel_rfl) (by kernel_rfl) fun w M => ?_
  refine op_ins 1 M tab_mt tab_kt rfl ⟨#[60]⟩ 107 (by kernel_rfl) (by kernel_rfl) fun w M => ?_
  refine op_ins 1 M tab_mt tab_kt rfl ⟨#[103, 126]⟩ 108 (by kernel_rfl) (by kernel_rfl) fun w M => ?_
  refine op_ins 1 M tab_mt tab_kt rfl ⟨#[103, 117]⟩ 110 (by kernel_rfl) (by kernel_rfl) fun w M => ?_
  refine op_ins 1 M tab_mt tab_kt rfl ⟨#[103, 85]⟩ 111 (by kernel_rfl) (by kernel_rfl) fun w M => ?_
  refine op_val' (.move (.tmp 1)) (dst := some 2) (by kernel_rfl) (fun o ho hd => by unfold execOp; rw [ho]; rfl) ?_
  refine op_val' (.assign (.tmp 2)) (dst := some 0) (by kernel_rfl) (fun o ho hd => by unfold execOp; rw [ho]; rfl) ?_
  refine wp_ret ?_
  refine ⟨rfl, _, ?_, rfl, M⟩
  rw [results_eq, show Tryd.f69.results = #[.tmp 0] by kernel_rfl]
  simp [resSem, Act.put]
  rfl

/-! ### what is found in it -/
theorem lookup_run {P : Program} {t k e : TypeId} (hu : P.underlying t = some (.map k e)) (hk : P.underlying k = some .string) {es : Array MapEntry} {c r i : Nat} {w : World} (hb : w.heap[r]? = some (.map es c)) {s : ByteArray} {v : Value}
    (hf : Instr.findNow .string (.string s) es.toList 0 = some (some (i, v))) : (Instr.lookup t (.map (some r)) (.string s) true).run P w = .ok (.tuple #[v, .bool true]) w := by
  have h1 := run_checkKey (P := P) (w := w) (kt := k) (k := .string s) hk (by trivial) es.isEmpty 9999
  have h2 := run_findKey (P := P) (w := w) hk hf
  have h4 := MapKept.run_getObj_map (P := P) hb
  simp [Instr.lookup, run_underlying hu, h4, h1, h2, Result.andThen]

theorem lookup_none {P : Program} {t k e : TypeId} (hu : P.underlying t = some (.map k e)) (hk : P.underlying k = some .string) {es : Array MapEntry} {c r : Nat} {w : World} (hb : w.heap[r]? = some (.map es c)) {s : ByteArray} {z : Value}
    (hz : (zeroValue e).run P w = .ok z w) (hf : Instr.findNow .string (.string s) es.toList 0 = some none) : (Instr.lookup t (.map (some r)) (.string s) true).run P w = .ok (.tuple #[z, .bool false]) w := by
  have h1 := run_checkKey (P := P) (w := w) (kt := k) (k := .string s) hk (by trivial) es.isEmpty 9999
  have h2 := run_findKey (P := P) (w := w) hk hf
  have h4 := MapKept.run_getObj_map (P := P) hb
  simp [Instr.lookup, run_underlying hu, h4, h1, h2, hz, Result.andThen]

def goK : List (List Int × Nat) → List Int → (Option Nat → Prop) → Prop
  | [], _, k => k none
  | (a, f) :: r, x, k => bif decide (x = a) then k (some f) else goK r x k

theorem goK_mem : ∀ {ks : List (List Int × Nat)} {x : List Int} {k : Option Nat → Prop}, goK ks x k → (∃ f, (x, f) ∈ ks ∧ k (some f)) ∨ ((∀ p ∈ ks, p.1 ≠ x) ∧ k none)
  | [], _, _, h => .inr ⟨fun p hp => (List.not_mem_nil hp).elim, h⟩
  | (a, f) :: r, x, k, h => by
    unfold goK at h
    by_cases c : x = a
    · rw [decide_eq_true c] at h
      exact .inl ⟨f, by rw [c]; exact List.mem_cons_self, h⟩
    · rw [decide_eq_false c] at h
      rcases goK_mem h with ⟨f', h1, h2⟩ | ⟨h1, h2⟩
      · exact .inl ⟨f', List.mem_cons_of_mem _ h1, h2⟩
      · refine .inr ⟨fun p hp => ?_, h2⟩
        rcases List.mem_cons.1 hp with e | e
        · rw [e]; exact fun e2 => c e2.symm
        · exact h1 p e

def tabKeys : List (List Int × Nat) := [([100], 103), ([99], 104), ([121], 105), ([62], 106), ([60], 107), ([103, 126], 108), ([103, 117], 110), ([103, 85], 111)]

theorem bytes_eq {s t : ByteArray} (h : bytesOf s = bytesOf t) : s = t := by
  have := bytesOf_inj h
  cases s; cases t
  simp only [ByteArray.mk.injEq]
  exact Array.ext' this

theorem tabE_find {x : List Int} {f : Nat} (h : (x, f) ∈ tabKeys) {s : ByteArray} (hs : bytesOf s = x) : ∃ i, Instr.findNow .string (.string s) tabE.toList 0 = some (some (i, .func (.func f) #[] #[])) := by
  have key : ∀ (t : ByteArray) (i : Nat), bytesOf t = x → Instr.findNow .string (.string t) tabE.toList 0 = some (some (i, .func (.func f) #[] #[])) → ∃ i, Instr.findNow .string (.string s) tabE.toList 0 = some (some (i, .func (.func f) #[] #[])) := fun t i ht hi => by
    rw [bytes_eq (hs.trans ht.symm)]; exact ⟨i, hi⟩
  simp only [tabKeys, List.mem_cons, Prod.mk.injEq, List.not_mem_nil, or_false] at h
  rcases h with ⟨rfl, rfl⟩ | ⟨rfl, rfl⟩ | ⟨rfl, rfl⟩ | ⟨rfl, rfl⟩ | ⟨rfl, rfl⟩ | ⟨rfl, rfl⟩ | ⟨rfl, rfl⟩ | ⟨rfl, rfl⟩
  · exact key ⟨#[100]⟩ 0 (by decide) (by kernel_rfl)
  · exact key ⟨#[99]⟩ 1 (by decide) (by kernel_rfl)
  · exact key ⟨#[121]⟩ 2 (by decide) (by kernel_rfl)
  · exact key ⟨#[62]⟩ 3 (by decide) (by kernel_rfl)
  · exact key ⟨#[60]⟩ 4 (by decide) (by kernel_rfl)
  · exact key ⟨#[103, 126]⟩ 5 (by decide) (by kernel_rfl)
  · exact key ⟨#[103, 117]⟩ 6 (by decide) (by kernel_rfl)
  · exact key ⟨#[103, 85]⟩ 7 (by decide) (by kernel_rfl)

theorem findNow_none (s : ByteArray) : ∀ (es : List MapEntry) (i : Nat), (∀ e ∈ es, ∃ t : ByteArray, e.key = .string t ∧ s ≠ t) → Instr.findNow .string (.string s) es i = some none
  | [], _, _ => rfl
  | e :: es, i, h => by
    obtain ⟨t, ht, hne⟩ := h e List.mem_cons_self
    unfold Instr.findNow
    rw [ht]
    have hb : (s == t) = false := by
      obtain ⟨a⟩ := s
      obtain ⟨b⟩ := t
      have : a ≠ b := fun e => hne (by rw [e])
      show (a == b) = false
      exact beq_false_of_ne this
    simp only [Instr.sameNow, hb]
    exact findNow_none s es (i + 1) fun e' he' => h e' (List.mem_cons_of_mem _ he')

theorem tabE_none {x : List Int} (h : ∀ p ∈ tabKeys, p.1 ≠ x) {s : ByteArray} (hs : bytesOf s = x) : Instr.findNow .string (.string s) tabE.toList 0 = some none := by
  refine findNow_none s _ 0 fun e he => ?_
  have ne : ∀ (t : ByteArray) (f : Nat), (bytesOf t, f) ∈ tabKeys → s ≠ t := fun t f ht e => h _ ht (by rw [← hs, e])
  simp only [tabE, List.mem_cons, List.not_mem_nil, or_false] at he
  rcases he with rfl | rfl | rfl | rfl | rfl | rfl | rfl | rfl
  · exact ⟨_, rfl, ne _ 103 (by simp [tabKeys, show bytesOf ⟨#[100]⟩ = [100] by decide])⟩
  · exact ⟨_, rfl, ne _ 104 (by simp [tabKeys, show bytesOf ⟨#[99]⟩ = [99] by decide])⟩
  · exact ⟨_, rfl, ne _ 105 (by simp [tabKeys, show bytesOf ⟨#[121]⟩ = [121] by decide])⟩
  · exact ⟨_, rfl, ne _ 106 (by simp [tabKeys, show bytesOf ⟨#[62]⟩ = [62] by decide])⟩
  · exact ⟨_, rfl, ne _ 107 (by simp [tabKeys, show bytesOf ⟨#[60]⟩ = [60] by decide])⟩
  · exact ⟨_, rfl, ne _ 108 (by simp [tabKeys, show bytesOf ⟨#[103, 126]⟩ = [103, 126] by decide])⟩
  · exact ⟨_, rfl, ne _ 110 (by simp [tabKeys, show bytesOf ⟨#[103, 117]⟩ = [103, 117] by decide])⟩
  · exact ⟨_, rfl, ne _ 111 (by simp [tabKeys, show bytesOf ⟨#[103, 85]⟩ = [103, 85] by decide])⟩

theorem zero_of {P : Program} {t : TypeId} {z : Value} (h : (P.info? t).map (fun i => i.zero) = some (some z)) (w : World) : (zeroValue t).run P w = .ok z w := by
  cases hi : P.info? t with
  | none => rw [hi] at h; cases h
  | some i =>
    rw [hi] at h
    injection h with h
    simp [zeroValue, typeInfo, hi, h]

theorem tab_zero (w : World) : (zeroValue 106).run Tryd.prog w = .ok .nilFunc w := zero_of (by kernel_rfl) w

def tabV : Option Nat → Value
  | some f => .func (.func f) #[] #[]
  | none => .nilFunc

def tabS : Option Nat → Slot
  | some f => .fn f []
  | none => .no
def tabB : Option Nat → Bool
  | some _ => true
  | none => false

theorem tabS_rel {G : Names} {I : Nat → Prop} {w : World} : ∀ f : Option Nat, SRel G I w (tabS f) (tabV f)
  | some _ => ⟨[], rfl, rfl, fun i k u hk => by simp at hk⟩
  | none => trivial

def tabSt (st : St) (x : List Int) (f : Option Nat) : St :=
  (((((((st.put (some 18) .no).put (some 19) (.v .str x)).put (some 20) .no).put (some 17) .no).put (some 21) .no).put (some 22) .no).put (some 12) (tabS f)).put (some 13) (.v .bool (tabB f))

def tabX (R : Pce) : Pce := fun st k => match st.ev (.tmp 2), Nat.beq st.tmps.length 77 with
  | .v .str x, true => goK tabKeys x fun f => R (tabSt st x f) k
  | _, _ => False

theorem Do_at : at' (bodyOf Tryd.f28) [1] = .seq (.region 1 (opsOf (at' (bodyOf Tryd.f28) [0, 1])) false) (at' (bodyOf Tryd.f28) [1, 1]) := by kernel_rfl

theorem wpOps_then {P : Program} {ops : Array Oper} {c : Code} {Q : Exit → Act → World → Prop} {a : Act} {w : World} (h : c.wp P Q a w) : wpOps P ops (Exit.then (c.wp P Q) Q) [] a w := h

set_option maxRecDepth 20000 in
theorem tabX_ok {R : Pce} (hR : SemOk Tryd.prog (at' (bodyOf Tryd.f28) [1, 1]) R) : SemOk Tryd.prog (at' (bodyOf Tryd.f28) [1]) (tabX R) := by
  intro w0 F Fn I0 W ds G I st tm w Q k hW hI hx hk
  unfold tabX at hx
  split at hx
  · rename_i x hev hlen
    have hlen := Nat.eq_of_beq_eq_true hlen
    have hsz : tm.size = 77 := hI.size.trans hlen
    have h2 := hI.ev (.tmp 2) ds
    rw [hev] at h2
    obtain ⟨s, hs, hsx, hsl⟩ := RepV.str_eq h2
    obtain ⟨f, hR', hfind⟩ : ∃ f, R (tabSt st x f) k ∧ ∀ (w' : World) (r c : Nat), w'.heap[r]? = some (.map tabE c) → (Instr.lookup 108 (.map (some r)) (.string s) true).run Tryd.prog w' = .ok (.tuple #[tabV f, .bool (tabB f)]) w' := by
      rcases goK_mem hx with ⟨f, hf, hR'⟩ | ⟨hf, hR'⟩
      · obtain ⟨i, hfind⟩ := tabE_find hf hsx
        exact ⟨some f, hR', fun w' r c hb => lookup_run tab_mt tab_kt hb hfind⟩
      · exact ⟨none, hR', fun w' r c hb => lookup_none tab_mt tab_kt hb (tab_zero w') (tabE_none hf hsx)⟩
    have hs2 : tm[2]? = some (.string s) := by
      have : tm.getD 2 undef = .string s := hs
      rw [Array.getD_eq_getD_getElem?] at this
      rw [Array.getElem?_eq_getElem (by omega)] at this ⊢
      exact congrArg some this
    rw [Do_at]
    refine wp_seq (wp_region ?_)
    rw [show List.range (opsOf (at' (bodyOf Tryd.f28) [0, 1])).size = [0, 1, 2, 3, 4, 5, 6, 7] by kernel_rfl]
    refine op_enter' (.call ⟨.value (.func 69), #[], #[]⟩) (f := 69) (args := #[]) (dst := some 18) (by kernel_rfl) (fun o ho hd => ?_) ((operators_run w).mono ?_)
    · have := enters_of (P := Tryd.prog) (f := 69) (fn := Tryd.f69) (by kernel_rfl) (by kernel_rfl) #[] w
      unfold execOp
      rw [ho]
      simp [Sem.run_bind, resolve, Act.eval, Deferred.ofValue, invoke, this]
    rintro e w' ⟨rfl, M⟩
    refine ⟨_, rfl, ?_⟩
    have hI1 := hI.grow (w' := w') (by rw [M.size]; omega) M.old M.os M.tape M.output
    refine op_val' (.move (.tmp 2)) (w' := w') (v := .string s) (dst := some 19) (by kernel_rfl) (fun o ho hd => ?_) ?_
    · unfold execOp; rw [ho]; simp [Act.eval, Act.put, hs2]
    refine op_val' (.lookup 108 (.tmp 18) (.tmp 19) true) (w' := w') (v := .tuple #[tabV f, .bool (tabB f)]) (dst := some 20) (by kernel_rfl) (fun o ho hd => ?_) ?_
    · have hl := hfind _ _ _ M.at_
      unfold execOp
      rw [ho]
      simp [Act.eval, Act.put, hsz, hl]
    refine op_val' (.move (.tmp 20)) (w' := w') (v := .tuple #[tabV f, .bool (tabB f)]) (dst := some 17) (by kernel_rfl) (fun o ho hd => ?_) ?_
    · unfold execOp; rw [ho]; simp [Act.eval, Act.put, hsz]
    refine op_val' (.extract (.tmp 17) 0) (w' := w') (v := tabV f) (dst := some 21) (by kernel_rfl) (fun o ho hd => ?_) ?_
    · unfold execOp; rw [ho]; simp [Act.eval, Act.put, hsz, Instr.extract]
    refine op_val' (.extract (.tmp 17) 1) (w' := w') (v := .bool (tabB f)) (dst := some 22) (by kernel_rfl) (fun o ho hd => ?_) ?_
    · unfold execOp; rw [ho]; simp [Act.eval, Act.put, hsz, Instr.extract]
    refine op_val' (.assign (.tmp 21)) (w' := w') (v := tabV f) (dst := some 12) (by kernel_rfl) (fun o ho hd => ?_) ?_
    · unfold execOp; rw [ho]; simp [Act.eval, Act.put, hsz]
    refine op_val' (.assign (.tmp 22)) (w' := w') (v := .bool (tabB f)) (dst := some 13) (by kernel_rfl) (fun o ho hd => ?_) ?_
    · unfold execOp; rw [ho]; simp [Act.eval, Act.put, hsz]
    refine wpOps_then ?_
    have hI2 := (hI1.put (some 18) (s := .no) (v := .map (some w.heap.size)) trivial).put (some 19) (s := .v .str x) (v := .string s) (by rw [← hsx]; exact RepV.str_mk hsl)
    have hI3 := ((hI2.put (some 20) (s := .no) (v := .tuple #[tabV f, .bool (tabB f)]) trivial).put (some 17) (s := .no) (v := .tuple #[tabV f, .bool (tabB f)]) trivial).put (some 21) (s := .no) (v := tabV f) trivial
    have hI4 := ((hI3.put (some 22) (s := .no) (v := .bool (tabB f)) trivial).put (some 12) (s := tabS f) (v := tabV f) (tabS_rel f)).put (some 13) (s := .v .bool (tabB f)) (v := .bool (tabB f)) RepV.bool_mk
    simp only [Act.put]
    exact hR Q k hW hI4 hR' hk
  · cases hx
end Go.VE
namespace Go.VE
open Go Go.Proofs
/-! ### quoin/oper.Do -/
def oper_Do_G : List (Nat × App) := [(59, oper_outside_S), (70, oper_spanned_S), (103, oj_deleted_S), (104, oj_changed_S), (105, oj_yanked_S), (106, oj_indented_S), (107, oj_outdented_S), (108, oo_1_S), (110, oo_2_S), (111, oo_3_S)]
theorem oper_Do_Gok : GOk Tryd.prog (getG oper_Do_G) := GOk.cons oper_outside_ok (GOk.cons oper_spanned_ok (GOk.cons oj_deleted_ok (GOk.cons oj_changed_ok (GOk.cons oj_yanked_ok (GOk.cons oj_indented_ok (GOk.cons oj_outdented_ok (GOk.cons oo_1_ok (GOk.cons oo_2_ok (GOk.cons oo_3_ok (GOk.nil))))))))))
theorem oper_Do_st : storesC (bodyOf Tryd.f28) = true := by kernel_rfl
def oper_Do_XT : Pce := tabX (ex tb (getG oper_Do_G) [] (at' (bodyOf Tryd.f28) [1, 1]) [1, 1])
set_option maxRecDepth 20000 in
theorem oper_Do_xT : SemOk Tryd.prog (at' (bodyOf Tryd.f28) [1]) oper_Do_XT := tabX_ok (ex_sound tb_M tb_ok oper_Do_Gok (LabsOk.nil) (at' (bodyOf Tryd.f28) [1, 1]) [1, 1] rfl (storesC_at oper_Do_st [1, 1]))
def oper_Do_BT : Labs := ([1], oper_Do_XT) :: []
theorem oper_Do_bT : LabsOk Tryd.prog (bodyOf Tryd.f28) oper_Do_BT := LabsOk.cons oper_Do_xT (LabsOk.nil)
def oper_Do_raw (t0 : List Int) (at1 : Int) (op2 : List Int) (rv3 : (Int × Int × Bool × Bool)) (count4 : Int) (K : Res → List Cell → Prop) : Prop :=
 bif (decide (op2 = ([100] : List Int))) then
 ∀ (r1 : Bool), r1 = oper_outside_F t0 at1 count4 (1 : Int) → (
 wfR (.one (.v (.bool) r1)) → (
 bif r1 then
 K (.tup [.v EfT (([] : List ((Int × List Int × List Int))), (0 : Int), (false, false, ([] : List Int)), (0 : Int), false), .v (.int .i64) (2 : Int)]) []
 else
 oper_spanned_P t0 at1 rv3 ∧ (
 ∀ (r2 : Int × Int × Bool), r2 = oper_spanned_F t0 at1 rv3 → (
 wfR (.tup [.v (.int .i64) r2.1, .v (.int .i64) r2.2.1, .v (.bool) r2.2.2]) → (
 bif (!r2.2.2) then
 K (.tup [.v EfT (([] : List ((Int × List Int × List Int))), (0 : Int), (false, false, ([] : List Int)), (0 : Int), false), .v (.int .i64) (2 : Int)]) []
 else
 bif (decide (rv3.1 = rv3.2.1)) then
 bif (!rv3.2.2.1) then
 bif (!decide (op2 = ([99] : List Int))) then
 K (.tup [.v EfT (([] : List ((Int × List Int × List Int))), (0 : Int), (false, false, ([] : List Int)), (0 : Int), false), .v (.int .i64) (190 : Int)]) []
 else
 bif rv3.2.2.1 then
 bif (decide (op2 = ([100] : List Int))) then
 K (.tup [.v EfT (([] : List ((Int × List Int × List Int))), (0 : Int), (false, false, ([] : List Int)), (0 : Int), false), .v (.int .i64) (190 : Int)]) []
 else
 oj_deleted_P (t0, at1, rv3, r2.1, r2.2.1, count4) ∧ (
 ∀ (r3 : EfD × Int), r3 = oj_deleted_F (t0, at1, rv3, r2.1, r2.2.1, count4) → (
 wfR (.tup [.v EfT r3.1, .v (.int .i64) r3.2]) → (
 K (.tup [.v EfT r3.1, .v (.int .i64) r3.2]) [])))
 else
 oj_deleted_P (t0, at1, rv3, r2.1, r2.2.1, count4) ∧ (
 ∀ (r4 : EfD × Int), r4 = oj_deleted_F (t0, at1, rv3, r2.1, r2.2.1, count4) → (
 wfR (.tup [.v EfT r4.1, .v (.int .i64) r4.2]) → (
 K (.tup [.v EfT r4.1, .v (.int .i64) r4.2]) [])))
 else
 bif rv3.2.2.1 then
 bif (decide (op2 = ([100] : List Int))) then
 K (.tup [.v EfT (([] : List ((Int × List Int × List Int))), (0 : Int), (false, false, ([] : List Int)), (0 : Int), false), .v (.int .i64) (190 : Int)]) []
 else
 oj_deleted_P (t0, at1, rv3, r2.1, r2.2.1, count4) ∧ (
 ∀ (r5 : EfD × Int), r5 = oj_deleted_F (t0, at1, rv3, r2.1, r2.2.1, count4) → (
 wfR (.tup [.v EfT r5.1, .v (.int .i64) r5.2]) → (
 K (.tup [.v EfT r5.1, .v (.int .i64) r5.2]) [])))
 else
 oj_deleted_P (t0, at1, rv3, r2.1, r2.2.1, count4) ∧ (
 ∀ (r6 : EfD × Int), r6 = oj_deleted_F (t0, at1, rv3, r2.1, r2.2.1, count4) → (
 wfR (.tup [.v EfT r6.1, .v (.int .i64) r6.2]) → (
 K (.tup [.v EfT r6.1, .v (.int .i64) r6.2]) [])))
 else
 oj_deleted_P (t0, at1, rv3, r2.1, r2.2.1, count4) ∧ (
 ∀ (r7 : EfD × Int), r7 = oj_deleted_F (t0, at1, rv3, r2.1, r2.2.1, count4) → (
 wfR (.tup [.v EfT r7.1, .v (.int .i64) r7.2]) → (
 K (.tup [.v EfT r7.1, .v (.int .i64) r7.2]) []))))))))
 else
 bif (decide (op2 = ([99] : List Int))) then
 ∀ (r8 : Bool), r8 = oper_outside_F t0 at1 count4 (1 : Int) → (
 wfR (.one (.v (.bool) r8)) → (
 bif r8 then
 K (.tup [.v EfT (([] : List ((Int × List Int × List Int))), (0 : Int), (false, false, ([] : List Int)), (0 : Int), false), .v (.int .i64) (2 : Int)]) []
 else
 oper_spanned_P t0 at1 rv3 ∧ (
 ∀ (r9 : Int × Int × Bool), r9 = oper_spanned_F t0 at1 rv3 → (
 wfR (.tup [.v (.int .i64) r9.1, .v (.int .i64) r9.2.1, .v (.bool) r9.2.2]) → (
 bif (!r9.2.2) then
 K (.tup [.v EfT (([] : List ((Int × List Int × List Int))), (0 : Int), (false, false, ([] : List Int)), (0 : Int), false), .v (.int .i64) (2 : Int)]) []
 else
 bif (decide (rv3.1 = rv3.2.1)) then
 bif (!rv3.2.2.1) then
 bif (!decide (op2 = ([99] : List Int))) then
 K (.tup [.v EfT (([] : List ((Int × List Int × List Int))), (0 : Int), (false, false, ([] : List Int)), (0 : Int), false), .v (.int .i64) (190 : Int)]) []
 else
 bif rv3.2.2.1 then
 bif (decide (op2 = ([100] : List Int))) then
 K (.tup [.v EfT (([] : List ((Int × List Int × List Int))), (0 : Int), (false, false, ([] : List Int)), (0 : Int), false), .v (.int .i64) (190 : Int)]) []
 else
 oj_changed_P (t0, at1, rv3, r9.1, r9.2.1, count4) ∧ (
 ∀ (r10 : EfD × Int), r10 = oj_changed_F (t0, at1, rv3, r9.1, r9.2.1, count4) → (
 wfR (.tup [.v EfT r10.1, .v (.int .i64) r10.2]) → (
 K (.tup [.v EfT r10.1, .v (.int .i64) r10.2]) [])))
 else
 oj_changed_P (t0, at1, rv3, r9.1, r9.2.1, count4) ∧ (
 ∀ (r11 : EfD × Int), r11 = oj_changed_F (t0, at1, rv3, r9.1, r9.2.1, count4) → (
 wfR (.tup [.v EfT r11.1, .v (.int .i64) r11.2]) → (
 K (.tup [.v EfT r11.1, .v (.int .i64) r11.2]) [])))
 else
 bif rv3.2.2.1 then
 bif (decide (op2 = ([100] : List Int))) then
 K (.tup [.v EfT (([] : List ((Int × List Int × List Int))), (0 : Int), (false, false, ([] : List Int)), (0 : Int), false), .v (.int .i64) (190 : Int)]) []
 else
 oj_changed_P (t0, at1, rv3, r9.1, r9.2.1, count4) ∧ (
 ∀ (r12 : EfD × Int), r12 = oj_changed_F (t0, at1, rv3, r9.1, r9.2.1, count4) → (
 wfR (.tup [.v EfT r12.1, .v (.int .i64) r12.2]) → (
 K (.tup [.v EfT r12.1, .v (.int .i64) r12.2]) [])))
 else
 oj_changed_P (t0, at1, rv3, r9.1, r9.2.1, count4) ∧ (
 ∀ (r13 : EfD × Int), r13 = oj_changed_F (t0, at1, rv3, r9.1, r9.2.1, count4) → (
 wfR (.tup [.v EfT r13.1, .v (.int .i64) r13.2]) → (
 K (.tup [.v EfT r13.1, .v (.int .i64) r13.2]) [])))
 else
 oj_changed_P (t0, at1, rv3, r9.1, r9.2.1, count4) ∧ (
 ∀ (r14 : EfD × Int), r14 = oj_changed_F (t0, at1, rv3, r9.1, r9.2.1, count4) → (
 wfR (.tup [.v EfT r14.1, .v (.int .i64) r14.2]) → (
 K (.tup [.v EfT r14.1, .v (.int .i64) r14.2]) []))))))))
 else
 bif (decide (op2 = ([121] : List Int))) then
 ∀ (r15 : Bool), r15 = oper_outside_F t0 at1 count4 (1 : Int) → (
 wfR (.one (.v (.bool) r15)) → (
 bif r15 then
 K (.tup [.v EfT (([] : List ((Int × List Int × List Int))), (0 : Int), (false, false, ([] : List Int)), (0 : Int), false), .v (.int .i64) (2 : Int)]) []
 else
 oper_spanned_P t0 at1 rv3 ∧ (
 ∀ (r16 : Int × Int × Bool), r16 = oper_spanned_F t0 at1 rv3 → (
 wfR (.tup [.v (.int .i64) r16.1, .v (.int .i64) r16.2.1, .v (.bool) r16.2.2]) → (
 bif (!r16.2.2) then
 K (.tup [.v EfT (([] : List ((Int × List Int × List Int))), (0 : Int), (false, false, ([] : List Int)), (0 : Int), false), .v (.int .i64) (2 : Int)]) []
 else
 bif (decide (rv3.1 = rv3.2.1)) then
 bif (!rv3.2.2.1) then
 bif (!decide (op2 = ([99] : List Int))) then
 K (.tup [.v EfT (([] : List ((Int × List Int × List Int))), (0 : Int), (false, false, ([] : List Int)), (0 : Int), false), .v (.int .i64) (190 : Int)]) []
 else
 bif rv3.2.2.1 then
 bif (decide (op2 = ([100] : List Int))) then
 K (.tup [.v EfT (([] : List ((Int × List Int × List Int))), (0 : Int), (false, false, ([] : List Int)), (0 : Int), false), .v (.int .i64) (190 : Int)]) []
 else
 oj_yanked_P (t0, at1, rv3, r16.1, r16.2.1, count4) ∧ (
 ∀ (r17 : EfD × Int), r17 = oj_yanked_F (t0, at1, rv3, r16.1, r16.2.1, count4) → (
 wfR (.tup [.v EfT r17.1, .v (.int .i64) r17.2]) → (
 K (.tup [.v EfT r17.1, .v (.int .i64) r17.2]) [])))
 else
 oj_yanked_P (t0, at1, rv3, r16.1, r16.2.1, count4) ∧ (
 ∀ (r18 : EfD × Int), r18 = oj_yanked_F (t0, at1, rv3, r16.1, r16.2.1, count4) → (
 wfR (.tup [.v EfT r18.1, .v (.int .i64) r18.2]) → (
 K (.tup [.v EfT r18.1, .v (.int .i64) r18.2]) [])))
 else
 bif rv3.2.2.1 then
 bif (decide (op2 = ([100] : List Int))) then
 K (.tup [.v EfT (([] : List ((Int × List Int × List Int))), (0 : Int), (false, false, ([] : List Int)), (0 : Int), false), .v (.int .i64) (190 : Int)]) []
 else
 oj_yanked_P (t0, at1, rv3, r16.1, r16.2.1, count4) ∧ (
 ∀ (r19 : EfD × Int), r19 = oj_yanked_F (t0, at1, rv3, r16.1, r16.2.1, count4) → (
 wfR (.tup [.v EfT r19.1, .v (.int .i64) r19.2]) → (
 K (.tup [.v EfT r19.1, .v (.int .i64) r19.2]) [])))
 else
 oj_yanked_P (t0, at1, rv3, r16.1, r16.2.1, count4) ∧ (
 ∀ (r20 : EfD × Int), r20 = oj_yanked_F (t0, at1, rv3, r16.1, r16.2.1, count4) → (
 wfR (.tup [.v EfT r20.1, .v (.int .i64) r20.2]) → (
 K (.tup [.v EfT r20.1, .v (.int .i64) r20.2]) [])))
 else
 oj_yanked_P (t0, at1, rv3, r16.1, r16.2.1, count4) ∧ (
 ∀ (r21 : EfD × Int), r21 = oj_yanked_F (t0, at1, rv3, r16.1, r16.2.1, count4) → (
 wfR (.tup [.v EfT r21.1, .v (.int .i64) r21.2]) → (
 K (.tup [.v EfT r21.1, .v (.int .i64) r21.2]) []))))))))
 else
 bif (decide (op2 = ([62] : List Int))) then
 ∀ (r22 : Bool), r22 = oper_outside_F t0 at1 count4 (1 : Int) → (
 wfR (.one (.v (.bool) r22)) → (
 bif r22 then
 K (.tup [.v EfT (([] : List ((Int × List Int × List Int))), (0 : Int), (false, false, ([] : List Int)), (0 : Int), false), .v (.int .i64) (2 : Int)]) []
 else
 oper_spanned_P t0 at1 rv3 ∧ (
 ∀ (r23 : Int × Int × Bool), r23 = oper_spanned_F t0 at1 rv3 → (
 wfR (.tup [.v (.int .i64) r23.1, .v (.int .i64) r23.2.1, .v (.bool) r23.2.2]) → (
 bif (!r23.2.2) then
 K (.tup [.v EfT (([] : List ((Int × List Int × List Int))), (0 : Int), (false, false, ([] : List Int)), (0 : Int), false), .v (.int .i64) (2 : Int)]) []
 else
 bif (decide (rv3.1 = rv3.2.1)) then
 bif (!rv3.2.2.1) then
 bif (!decide (op2 = ([99] : List Int))) then
 K (.tup [.v EfT (([] : List ((Int × List Int × List Int))), (0 : Int), (false, false, ([] : List Int)), (0 : Int), false), .v (.int .i64) (190 : Int)]) []
 else
 bif rv3.2.2.1 then
 bif (decide (op2 = ([100] : List Int))) then
 K (.tup [.v EfT (([] : List ((Int × List Int × List Int))), (0 : Int), (false, false, ([] : List Int)), (0 : Int), false), .v (.int .i64) (190 : Int)]) []
 else
 oj_indented_P (t0, at1, rv3, r23.1, r23.2.1, count4) ∧ (
 ∀ (r24 : EfD × Int), r24 = oj_indented_F (t0, at1, rv3, r23.1, r23.2.1, count4) → (
 wfR (.tup [.v EfT r24.1, .v (.int .i64) r24.2]) → (
 K (.tup [.v EfT r24.1, .v (.int .i64) r24.2]) [])))
 else
 oj_indented_P (t0, at1, rv3, r23.1, r23.2.1, count4) ∧ (
 ∀ (r25 : EfD × Int), r25 = oj_indented_F (t0, at1, rv3, r23.1, r23.2.1, count4) → (
 wfR (.tup [.v EfT r25.1, .v (.int .i64) r25.2]) → (
 K (.tup [.v EfT r25.1, .v (.int .i64) r25.2]) [])))
 else
 bif rv3.2.2.1 then
 bif (decide (op2 = ([100] : List Int))) then
 K (.tup [.v EfT (([] : List ((Int × List Int × List Int))), (0 : Int), (false, false, ([] : List Int)), (0 : Int), false), .v (.int .i64) (190 : Int)]) []
 else
 oj_indented_P (t0, at1, rv3, r23.1, r23.2.1, count4) ∧ (
 ∀ (r26 : EfD × Int), r26 = oj_indented_F (t0, at1, rv3, r23.1, r23.2.1, count4) → (
 wfR (.tup [.v EfT r26.1, .v (.int .i64) r26.2]) → (
 K (.tup [.v EfT r26.1, .v (.int .i64) r26.2]) [])))
 else
 oj_indented_P (t0, at1, rv3, r23.1, r23.2.1, count4) ∧ (
 ∀ (r27 : EfD × Int), r27 = oj_indented_F (t0, at1, rv3, r23.1, r23.2.1, count4) → (
 wfR (.tup [.v EfT r27.1, .v (.int .i64) r27.2]) → (
 K (.tup [.v EfT r27.1, .v (.int .i64) r27.2]) [])))
 else
 oj_indented_P (t0, at1, rv3, r23.1, r23.2.1, count4) ∧ (
 ∀ (r28 : EfD × Int), r28 = oj_indented_F (t0, at1, rv3, r23.1, r23.2.1, count4) → (
 wfR (.tup [.v EfT r28.1, .v (.int .i64) r28.2]) → (
 K (.tup [.v EfT r28.1, .v (.int .i64) r28.2]) []))))))))
 else
 bif (decide (op2 = ([60] : List Int))) then
 ∀ (r29 : Bool), r29 = oper_outside_F t0 at1 count4 (1 : Int) → (
 wfR (.one (.v (.bool) r29)) → (
 bif r29 then
 K (.tup [.v EfT (([] : List ((Int × List Int × List Int))), (0 : Int), (false, false, ([] : List Int)), (0 : Int), false), .v (.int .i64) (2 : Int)]) []
 else
 oper_spanned_P t0 at1 rv3 ∧ (
 ∀ (r30 : Int × Int × Bool), r30 = oper_spanned_F t0 at1 rv3 → (
 wfR (.tup [.v (.int .i64) r30.1, .v (.int .i64) r30.2.1, .v (.bool) r30.2.2]) → (
 bif (!r30.2.2) then
 K (.tup [.v EfT (([] : List ((Int × List Int × List Int))), (0 : Int), (false, false, ([] : List Int)), (0 : Int), false), .v (.int .i64) (2 : Int)]) []
 else
 bif (decide (rv3.1 = rv3.2.1)) then
 bif (!rv3.2.2.1) then
 bif (!decide (op2 = ([99] : List Int))) then
 K (.tup [.v EfT (([] : List ((Int × List Int × List Int))), (0 : Int), (false, false, ([] : List Int)), (0 : Int), false), .v (.int .i64) (190 : Int)]) []
 else
 bif rv3.2.2.1 then
 bif (decide (op2 = ([100] : List Int))) then
 K (.tup [.v EfT (([] : List ((Int × List Int × List Int))), (0 : Int), (false, false, ([] : List Int)), (0 : Int), false), .v (.int .i64) (190 : Int)]) []
 else
 oj_outdented_P (t0, at1, rv3, r30.1, r30.2.1, count4) ∧ (
 ∀ (r31 : EfD × Int), r31 = oj_outdented_F (t0, at1, rv3, r30.1, r30.2.1, count4) → (
 wfR (.tup [.v EfT r31.1, .v (.int .i64) r31.2]) → (
 K (.tup [.v EfT r31.1, .v (.int .i64) r31.2]) [])))
 else
 oj_outdented_P (t0, at1, rv3, r30.1, r30.2.1, count4) ∧ (
 ∀ (r32 : EfD × Int), r32 = oj_outdented_F (t0, at1, rv3, r30.1, r30.2.1, count4) → (
 wfR (.tup [.v EfT r32.1, .v (.int .i64) r32.2]) → (
 K (.tup [.v EfT r32.1, .v (.int .i64) r32.2]) [])))
 else
 bif rv3.2.2.1 then
 bif (decide (op2 = ([100] : List Int))) then
 K (.tup [.v EfT (([] : List ((Int × List Int × List Int))), (0 : Int), (false, false, ([] : List Int)), (0 : Int), false), .v (.int .i64) (190 : Int)]) []
 else
 oj_outdented_P (t0, at1, rv3, r30.1, r30.2.1, count4) ∧ (
 ∀ (r33 : EfD × Int), r33 = oj_outdented_F (t0, at1, rv3, r30.1, r30.2.1, count4) → (
 wfR (.tup [.v EfT r33.1, .v (.int .i64) r33.2]) → (
 K (.tup [.v EfT r33.1, .v (.int .i64) r33.2]) [])))
 else
 oj_outdented_P (t0, at1, rv3, r30.1, r30.2.1, count4) ∧ (
 ∀ (r34 : EfD × Int), r34 = oj_outdented_F (t0, at1, rv3, r30.1, r30.2.1, count4) → (
 wfR (.tup [.v EfT r34.1, .v (.int .i64) r34.2]) → (
 K (.tup [.v EfT r34.1, .v (.int .i64) r34.2]) [])))
 else
 oj_outdented_P (t0, at1, rv3, r30.1, r30.2.1, count4) ∧ (
 ∀ (r35 : EfD × Int), r35 = oj_outdented_F (t0, at1, rv3, r30.1, r30.2.1, count4) → (
 wfR (.tup [.v EfT r35.1, .v (.int .i64) r35.2]) → (
 K (.tup [.v EfT r35.1, .v (.int .i64) r35.2]) []))))))))
 else
 bif (decide (op2 = ([103, 126] : List Int))) then
 ∀ (r36 : Bool), r36 = oper_outside_F t0 at1 count4 (1 : Int) → (
 wfR (.one (.v (.bool) r36)) → (
 bif r36 then
 K (.tup [.v EfT (([] : List ((Int × List Int × List Int))), (0 : Int), (false, false, ([] : List Int)), (0 : Int), false), .v (.int .i64) (2 : Int)]) []
 else
 oper_spanned_P t0 at1 rv3 ∧ (
 ∀ (r37 : Int × Int × Bool), r37 = oper_spanned_F t0 at1 rv3 → (
 wfR (.tup [.v (.int .i64) r37.1, .v (.int .i64) r37.2.1, .v (.bool) r37.2.2]) → (
 bif (!r37.2.2) then
 K (.tup [.v EfT (([] : List ((Int × List Int × List Int))), (0 : Int), (false, false, ([] : List Int)), (0 : Int), false), .v (.int .i64) (2 : Int)]) []
 else
 bif (decide (rv3.1 = rv3.2.1)) then
 bif (!rv3.2.2.1) then
 bif (!decide (op2 = ([99] : List Int))) then
 K (.tup [.v EfT (([] : List ((Int × List Int × List Int))), (0 : Int), (false, false, ([] : List Int)), (0 : Int), false), .v (.int .i64) (190 : Int)]) []
 else
 bif rv3.2.2.1 then
 bif (decide (op2 = ([100] : List Int))) then
 K (.tup [.v EfT (([] : List ((Int × List Int × List Int))), (0 : Int), (false, false, ([] : List Int)), (0 : Int), false), .v (.int .i64) (190 : Int)]) []
 else
 oo_1_P (t0, at1, rv3, r37.1, r37.2.1, count4) ∧ (
 ∀ (r38 : EfD × Int), r38 = oo_1_F (t0, at1, rv3, r37.1, r37.2.1, count4) → (
 wfR (.tup [.v EfT r38.1, .v (.int .i64) r38.2]) → (
 K (.tup [.v EfT r38.1, .v (.int .i64) r38.2]) [])))
 else
 oo_1_P (t0, at1, rv3, r37.1, r37.2.1, count4) ∧ (
 ∀ (r39 : EfD × Int), r39 = oo_1_F (t0, at1, rv3, r37.1, r37.2.1, count4) → (
 wfR (.tup [.v EfT r39.1, .v (.int .i64) r39.2]) → (
 K (.tup [.v EfT r39.1, .v (.int .i64) r39.2]) [])))
 else
 bif rv3.2.2.1 then
 bif (decide (op2 = ([100] : List Int))) then
 K (.tup [.v EfT (([] : List ((Int × List Int × List Int))), (0 : Int), (false, false, ([] : List Int)), (0 : Int), false), .v (.int .i64) (190 : Int)]) []
 else
 oo_1_P (t0, at1, rv3, r37.1, r37.2.1, count4) ∧ (
 ∀ (r40 : EfD × Int), r40 = oo_1_F (t0, at1, rv3, r37.1, r37.2.1, count4) → (
 wfR (.tup [.v EfT r40.1, .v (.int .i64) r40.2]) → (
 K (.tup [.v EfT r40.1, .v (.int .i64) r40.2]) [])))
 else
 oo_1_P (t0, at1, rv3, r37.1, r37.2.1, count4) ∧ (
 ∀ (r41 : EfD × Int), r41 = oo_1_F (t0, at1, rv3, r37.1, r37.2.1, count4) → (
 wfR (.tup [.v EfT r41.1, .v (.int .i64) r41.2]) → (
 K (.tup [.v EfT r41.1, .v (.int .i64) r41.2]) [])))
 else
 oo_1_P (t0, at1, rv3, r37.1, r37.2.1, count4) ∧ (
 ∀ (r42 : EfD × Int), r42 = oo_1_F (t0, at1, rv3, r37.1, r37.2.1, count4) → (
 wfR (.tup [.v EfT r42.1, .v (.int .i64) r42.2]) → (
 K (.tup [.v EfT r42.1, .v (.int .i64) r42.2]) []))))))))
 else
 bif (decide (op2 = ([103, 117] : List Int))) then
 ∀ (r43 : Bool), r43 = oper_outside_F t0 at1 count4 (1 : Int) → (
 wfR (.one (.v (.bool) r43)) → (
 bif r43 then
 K (.tup [.v EfT (([] : List ((Int × List Int × List Int))), (0 : Int), (false, false, ([] : List Int)), (0 : Int), false), .v (.int .i64) (2 : Int)]) []
 else
 oper_spanned_P t0 at1 rv3 ∧ (
 ∀ (r44 : Int × Int × Bool), r44 = oper_spanned_F t0 at1 rv3 → (
 wfR (.tup [.v (.int .i64) r44.1, .v (.int .i64) r44.2.1, .v (.bool) r44.2.2]) → (
 bif (!r44.2.2) then
 K (.tup [.v EfT (([] : List ((Int × List Int × List Int))), (0 : Int), (false, false, ([] : List Int)), (0 : Int), false), .v (.int .i64) (2 : Int)]) []
 else
 bif (decide (rv3.1 = rv3.2.1)) then
 bif (!rv3.2.2.1) then
 bif (!decide (op2 = ([99] : List Int))) then
 K (.tup [.v EfT (([] : List ((Int × List Int × List Int))), (0 : Int), (false, false, ([] : List Int)), (0 : Int), false), .v (.int .i64) (190 : Int)]) []
 else
 bif rv3.2.2.1 then
 bif (decide (op2 = ([100] : List Int))) then
 K (.tup [.v EfT (([] : List ((Int × List Int × List Int))), (0 : Int), (false, false, ([] : List Int)), (0 : Int), false), .v (.int .i64) (190 : Int)]) []
 else
 oo_2_P (t0, at1, rv3, r44.1, r44.2.1, count4) ∧ (
 ∀ (r45 : EfD × Int), r45 = oo_2_F (t0, at1, rv3, r44.1, r44.2.1, count4) → (
 wfR (.tup [.v EfT r45.1, .v (.int .i64) r45.2]) → (
 K (.tup [.v EfT r45.1, .v (.int .i64) r45.2]) [])))
 else
 oo_2_P (t0, at1, rv3, r44.1, r44.2.1, count4) ∧ (
 ∀ (r46 : EfD × Int), r46 = oo_2_F (t0, at1, rv3, r44.1, r44.2.1, count4) → (
 wfR (.tup [.v EfT r46.1, .v (.int .i64) r46.2]) → (
 K (.tup [.v EfT r46.1, .v (.int .i64) r46.2]) [])))
 else
 bif rv3.2.2.1 then
 bif (decide (op2 = ([100] : List Int))) then
 K (.tup [.v EfT (([] : List ((Int × List Int × List Int))), (0 : Int), (false, false, ([] : List Int)), (0 : Int), false), .v (.int .i64) (190 : Int)]) []
 else
 oo_2_P (t0, at1, rv3, r44.1, r44.2.1, count4) ∧ (
 ∀ (r47 : EfD × Int), r47 = oo_2_F (t0, at1, rv3, r44.1, r44.2.1, count4) → (
 wfR (.tup [.v EfT r47.1, .v (.int .i64) r47.2]) → (
 K (.tup [.v EfT r47.1, .v (.int .i64) r47.2]) [])))
 else
 oo_2_P (t0, at1, rv3, r44.1, r44.2.1, count4) ∧ (
 ∀ (r48 : EfD × Int), r48 = oo_2_F (t0, at1, rv3, r44.1, r44.2.1, count4) → (
 wfR (.tup [.v EfT r48.1, .v (.int .i64) r48.2]) → (
 K (.tup [.v EfT r48.1, .v (.int .i64) r48.2]) [])))
 else
 oo_2_P (t0, at1, rv3, r44.1, r44.2.1, count4) ∧ (
 ∀ (r49 : EfD × Int), r49 = oo_2_F (t0, at1, rv3, r44.1, r44.2.1, count4) → (
 wfR (.tup [.v EfT r49.1, .v (.int .i64) r49.2]) → (
 K (.tup [.v EfT r49.1, .v (.int .i64) r49.2]) []))))))))
 else
 bif (decide (op2 = ([103, 85] : List Int))) then
 ∀ (r50 : Bool), r50 = oper_outside_F t0 at1 count4 (1 : Int) → (
 wfR (.one (.v (.bool) r50)) → (
 bif r50 then
 K (.tup [.v EfT (([] : List ((Int × List Int × List Int))), (0 : Int), (false, false, ([] : List Int)), (0 : Int), false), .v (.int .i64) (2 : Int)]) []
 else
 oper_spanned_P t0 at1 rv3 ∧ (
 ∀ (r51 : Int × Int × Bool), r51 = oper_spanned_F t0 at1 rv3 → (
 wfR (.tup [.v (.int .i64) r51.1, .v (.int .i64) r51.2.1, .v (.bool) r51.2.2]) → (
 bif (!r51.2.2) then
 K (.tup [.v EfT (([] : List ((Int × List Int × List Int))), (0 : Int), (false, false, ([] : List Int)), (0 : Int), false), .v (.int .i64) (2 : Int)]) []
 else
 bif (decide (rv3.1 = rv3.2.1)) then
 bif (!rv3.2.2.1) then
 bif (!decide (op2 = ([99] : List Int))) then
 K (.tup [.v EfT (([] : List ((Int × List Int × List Int))), (0 : Int), (false, false, ([] : List Int)), (0 : Int), false), .v (.int .i64) (190 : Int)]) []
 else
 bif rv3.2.2.1 then
 bif (decide (op2 = ([100] : List Int))) then
 K (.tup [.v EfT (([] : List ((Int × List Int × List Int))), (0 : Int), (false, false, ([] : List Int)), (0 : Int), false), .v (.int .i64) (190 : Int)]) []
 else
 oo_3_P (t0, at1, rv3, r51.1, r51.2.1, count4) ∧ (
 ∀ (r52 : EfD × Int), r52 = oo_3_F (t0, at1, rv3, r51.1, r51.2.1, count4) → (
 wfR (.tup [.v EfT r52.1, .v (.int .i64) r52.2]) → (
 K (.tup [.v EfT r52.1, .v (.int .i64) r52.2]) [])))
 else
 oo_3_P (t0, at1, rv3, r51.1, r51.2.1, count4) ∧ (
 ∀ (r53 : EfD × Int), r53 = oo_3_F (t0, at1, rv3, r51.1, r51.2.1, count4) → (
 wfR (.tup [.v EfT r53.1, .v (.int .i64) r53.2]) → (
 K (.tup [.v EfT r53.1, .v (.int .i64) r53.2]) [])))
 else
 bif rv3.2.2.1 then
 bif (decide (op2 = ([100] : List Int))) then
 K (.tup [.v EfT (([] : List ((Int × List Int × List Int))), (0 : Int), (false, false, ([] : List Int)), (0 : Int), false), .v (.int .i64) (190 : Int)]) []
 else
 oo_3_P (t0, at1, rv3, r51.1, r51.2.1, count4) ∧ (
 ∀ (r54 : EfD × Int), r54 = oo_3_F (t0, at1, rv3, r51.1, r51.2.1, count4) → (
 wfR (.tup [.v EfT r54.1, .v (.int .i64) r54.2]) → (
 K (.tup [.v EfT r54.1, .v (.int .i64) r54.2]) [])))
 else
 oo_3_P (t0, at1, rv3, r51.1, r51.2.1, count4) ∧ (
 ∀ (r55 : EfD × Int), r55 = oo_3_F (t0, at1, rv3, r51.1, r51.2.1, count4) → (
 wfR (.tup [.v EfT r55.1, .v (.int .i64) r55.2]) → (
 K (.tup [.v EfT r55.1, .v (.int .i64) r55.2]) [])))
 else
 oo_3_P (t0, at1, rv3, r51.1, r51.2.1, count4) ∧ (
 ∀ (r56 : EfD × Int), r56 = oo_3_F (t0, at1, rv3, r51.1, r51.2.1, count4) → (
 wfR (.tup [.v EfT r56.1, .v (.int .i64) r56.2]) → (
 K (.tup [.v EfT r56.1, .v (.int .i64) r56.2]) []))))))))
 else
 ∀ (r57 : Bool), r57 = oper_outside_F t0 at1 count4 (1 : Int) → (
 wfR (.one (.v (.bool) r57)) → (
 bif r57 then
 K (.tup [.v EfT (([] : List ((Int × List Int × List Int))), (0 : Int), (false, false, ([] : List Int)), (0 : Int), false), .v (.int .i64) (2 : Int)]) []
 else
 K (.tup [.v EfT (([] : List ((Int × List Int × List Int))), (0 : Int), (false, false, ([] : List Int)), (0 : Int), false), .v (.int .i64) (2 : Int)]) []))
def oper_Do_A : List AS := [.v (.sl (.int .u8)), .v (.int .i64), .v (.str), .v (.st (.pair (.int .i64) (.pair (.int .i64) (.pair (.bool) (.bool))))), .v (.int .i64)]
theorem oper_Do_walk (t0 : List Int) (at1 : Int) (op2 : List Int) (rv3 : (Int × Int × Bool × Bool)) (count4 : Int) (K : Res → List Cell → Prop) : runF tb (getG oper_Do_G) oper_Do_BT Tryd.f28 [true, true] (mkA oper_Do_A (t0, at1, op2, rv3, count4, ())) K = oper_Do_raw t0 at1 op2 rv3 count4 K := by kernel_rfl
--! import OM
--! cut 9999
--! pre 1
--! tab 100:103 99:104 121:105 62:106 60:107 103,126:108 103,117:110 103,85:111
--! tabelse 1
abbrev Eff := List (Int × List Int × List Int) × Int × (Bool × Bool × List Int) × Int × Bool
abbrev Job := List Int × Int × (Int × Int × Bool × Bool) × Int × Int × Int
def doBr (JP : Job → Prop) (JF : Job → Eff × Int) (t0 : List Int) (at1 : Int) (op2 : List Int) (rv3 : (Int × Int × Bool × Bool)) (count4 : Int) (K : Res → List Cell → Prop) : Prop :=
  ∀ (r1 : Bool), r1 = oper_outside_F t0 at1 count4 (1 : Int) → (
  wfR (.one (.v (.bool) r1)) → (
  bif r1 then
    K (.tup [.v EfT (([] : List ((Int × List Int × List Int))), (0 : Int), (false, false, ([] : List Int)), (0 : Int), false), .v (.int .i64) (2 : Int)]) []
  else
    oper_spanned_P t0 at1 rv3 ∧ (
    ∀ (r2 : Int × Int × Bool), r2 = oper_spanned_F t0 at1 rv3 → (
    wfR (.tup [.v (.int .i64) r2.1, .v (.int .i64) r2.2.1, .v (.bool) r2.2.2]) → (
    bif (!r2.2.2) then
      K (.tup [.v EfT (([] : List ((Int × List Int × List Int))), (0 : Int), (false, false, ([] : List Int)), (0 : Int), false), .v (.int .i64) (2 : Int)]) []
    else
    bif (decide (rv3.1 = rv3.2.1)) then
      bif (!rv3.2.2.1) then
        bif (!decide (op2 = ([99] : List Int))) then
          K (.tup [.v EfT (([] : List ((Int × List Int × List Int))), (0 : Int), (false, false, ([] : List Int)), (0 : Int), false), .v (.int .i64) (190 : Int)]) []
        else
        bif rv3.2.2.1 then
          bif (decide (op2 = ([100] : List Int))) then
            K (.tup [.v EfT (([] : List ((Int × List Int × List Int))), (0 : Int), (false, false, ([] : List Int)), (0 : Int), false), .v (.int .i64) (190 : Int)]) []
          else
            JP (t0, at1, rv3, r2.1, r2.2.1, count4) ∧ (
            ∀ (r3 : EfD × Int), r3 = JF (t0, at1, rv3, r2.1, r2.2.1, count4) → (
            wfR (.tup [.v EfT r3.1, .v (.int .i64) r3.2]) → (
            K (.tup [.v EfT r3.1, .v (.int .i64) r3.2]) [])))
        else
          JP (t0, at1, rv3, r2.1, r2.2.1, count4) ∧ (
          ∀ (r4 : EfD × Int), r4 = JF (t0, at1, rv3, r2.1, r2.2.1, count4) → (
          wfR (.tup [.v EfT r4.1, .v (.int .i64) r4.2]) → (
          K (.tup [.v EfT r4.1, .v (.int .i64) r4.2]) [])))
      else
      bif rv3.2.2.1 then
        bif (decide (op2 = ([100] : List Int))) then
          K (.tup [.v EfT (([] : List ((Int × List Int × List Int))), (0 : Int), (false, false, ([] : List Int)), (0 : Int), false), .v (.int .i64) (190 : Int)]) []
        else
          JP (t0, at1, rv3, r2.1, r2.2.1, count4) ∧ (
          ∀ (r5 : EfD × Int), r5 = JF (t0, at1, rv3, r2.1, r2.2.1, count4) → (
          wfR (.tup [.v EfT r5.1, .v (.int .i64) r5.2]) → (
          K (.tup [.v EfT r5.1, .v (.int .i64) r5.2]) [])))
      else
        JP (t0, at1, rv3, r2.1, r2.2.1, count4) ∧ (
        ∀ (r6 : EfD × Int), r6 = JF (t0, at1, rv3, r2.1, r2.2.1, count4) → (
        wfR (.tup [.v EfT r6.1, .v (.int .i64) r6.2]) → (
        K (.tup [.v EfT r6.1, .v (.int .i64) r6.2]) [])))
    else
      JP (t0, at1, rv3, r2.1, r2.2.1, count4) ∧ (
      ∀ (r7 : EfD × Int), r7 = JF (t0, at1, rv3, r2.1, r2.2.1, count4) → (
      wfR (.tup [.v EfT r7.1, .v (.int .i64) r7.2]) → (
      K (.tup [.v EfT r7.1, .v (.int .i64) r7.2]) []))))))))
def doF (JF : Job → Eff × Int) (t : List Int) (at_ : Int) (op : List Int) (r : Int × Int × Bool × Bool) (count : Int) : Eff × Int :=
  if oper_outside_F t at_ count 1 = true then (([], 0, (false, false, []), 0, false), 2)
  else if (oper_spanned_F t at_ r).2.2 = false then (([], 0, (false, false, []), 0, false), 2)
  else if r.1 = r.2.1 ∧ (r.2.2.1 = false ∧ op ≠ [99] ∨ r.2.2.1 = true ∧ op = [100]) then (([], 0, (false, false, []), 0, false), 190)
  else JF (t, at_, r, (oper_spanned_F t at_ r).1, (oper_spanned_F t at_ r).2.1, count)
theorem doBr_of (JP : Job → Prop) (JF : Job → Eff × Int) (t : List Int) (at_ : Int) (op : List Int) (r : Int × Int × Bool × Bool) (count : Int) (K : Res → List Cell → Prop)
    (hp : oper_outside_F t at_ count 1 = false → oper_spanned_P t at_ r ∧ ((oper_spanned_F t at_ r).2.2 = true → JP (t, at_, r, (oper_spanned_F t at_ r).1, (oper_spanned_F t at_ r).2.1, count)))
    (h : ∀ r' : Eff × Int, r' = doF JF t at_ op r count → K (.tup [.v EfT r'.1, .v (.int .i64) r'.2]) []) : doBr JP JF t at_ op r count K := by
  unfold doBr
  intro r1 h1 _
  refine brb (fun c => h (_, _) (by unfold doF; rw [if_pos (h1.symm.trans c)])) (fun c => ?_)
  have c := h1.symm.trans c
  obtain ⟨hp1, hp2⟩ := hp c
  refine ⟨hp1, fun r2 h2 _ => ?_⟩
  have hc : ¬ oper_outside_F t at_ count 1 = true := by rw [c]; simp
  subst h2
  refine brb (fun c2 => h (_, _) (by unfold doF; rw [if_neg hc, if_pos (by simpa using c2)])) (fun c2 => ?_)
  have c2 : (oper_spanned_F t at_ r).2.2 = true := by simpa using c2
  have hc2 : ¬ (oper_spanned_F t at_ r).2.2 = false := by rw [c2]; simp
  have hj := hp2 c2
  have fin : ¬ (r.1 = r.2.1 ∧ (r.2.2.1 = false ∧ op ≠ [99] ∨ r.2.2.1 = true ∧ op = [100])) → ∀ (r3 : Eff × Int), r3 = JF (t, at_, r, (oper_spanned_F t at_ r).1, (oper_spanned_F t at_ r).2.1, count) → K (.tup [.v EfT r3.1, .v (.int .i64) r3.2]) [] := fun hn r3 h3 => h r3 (by unfold doF; rw [if_neg hc, if_neg hc2, if_neg hn, h3])
  have bad : (r.1 = r.2.1 ∧ (r.2.2.1 = false ∧ op ≠ [99] ∨ r.2.2.1 = true ∧ op = [100])) → K (.tup [.v EfT (([], 0, (false, false, []), 0, false) : Eff), .v (.int .i64) (190 : Int)]) [] := fun hn => h (_, _) (by unfold doF; rw [if_neg hc, if_neg hc2, if_pos hn])
  refine brn (fun d1 => ?_) (fun d1 => ⟨hj, fun r3 h3 _ => fin (fun hn => d1 hn.1) r3 h3⟩)
  refine brb (fun d2 => ?_) (fun d2 => ?_)
  · have d2 : r.2.2.1 = false := by simpa using d2
    refine brx (fun d3 => bad ⟨d1, .inl ⟨d2, d3⟩⟩) (fun d3 => ?_)
    refine brb (fun d4 => by rw [d2] at d4; cases d4) (fun _ => ⟨hj, fun r3 h3 _ => fin (fun hn => ?_) r3 h3⟩)
    rcases hn.2 with hh | hh
    · exact hh.2 d3
    · rw [d2] at hh; cases hh.1
  · have d2 : r.2.2.1 = true := by simpa using d2
    refine brb (fun _ => brn (fun d3 => bad ⟨d1, .inr ⟨d2, d3⟩⟩) (fun d3 => ⟨hj, fun r3 h3 _ => fin (fun hn => ?_) r3 h3⟩)) (fun d4 => by rw [d2] at d4; cases d4)
    rcases hn.2 with hh | hh
    · rw [d2] at hh; cases hh.1
    · exact d3 hh.2
def knownOps : List (List Int) := [[100], [99], [121], [62], [60], [103, 126], [103, 117], [103, 85]]
def opP (op : List Int) : Job → Prop :=
  if op = [100] then oj_deleted_P else if op = [99] then oj_changed_P else if op = [121] then oj_yanked_P else if op = [62] then oj_indented_P else if op = [60] then oj_outdented_P
  else if op = [103, 126] then oo_1_P else if op = [103, 117] then oo_2_P else oo_3_P
def opF (op : List Int) : Job → Eff × Int :=
  if op = [100] then oj_deleted_F else if op = [99] then oj_changed_F else if op = [121] then oj_yanked_F else if op = [62] then oj_indented_F else if op = [60] then oj_outdented_F
  else if op = [103, 126] then oo_1_F else if op = [103, 117] then oo_2_F else oo_3_F
def oper_Do_P (t : List Int) (at_ : Int) (op : List Int) (r : Int × Int × Bool × Bool) (count : Int) : Prop :=
 op ∈ knownOps → oper_outside_F t at_ count 1 = false → oper_spanned_P t at_ r ∧ ((oper_spanned_F t at_ r).2.2 = true → opP op (t, at_, r, (oper_spanned_F t at_ r).1, (oper_spanned_F t at_ r).2.1, count))
def oper_Do_F (t : List Int) (at_ : Int) (op : List Int) (r : Int × Int × Bool × Bool) (count : Int) : Eff × Int := if op ∈ knownOps then doF (opF op) t at_ op r count else (([], 0, (false, false, []), 0, false), 2)
theorem oper_Do_sp (t : List Int) (at_ : Int) (op : List Int) (r : Int × Int × Bool × Bool) (count : Int) (K : Res → List Cell → Prop) (_ : wfA oper_Do_A (t, at_, op, r, count, ())) (hp : oper_Do_P t at_ op r count)
    (h : ∀ r' : Eff × Int, r' = oper_Do_F t at_ op r count → K (.tup [.v EfT r'.1, .v (.int .i64) r'.2]) []) : oper_Do_raw t at_ op r count K := by
  have key : ∀ JP JF, op ∈ knownOps → opP op = JP → opF op = JF → doBr JP JF t at_ op r count K := fun JP JF hk e1 e2 => by
    subst e1; subst e2
    exact doBr_of _ _ t at_ op r count K (hp hk) (fun r' hr' => h r' (by unfold oper_Do_F; rw [if_pos hk]; exact hr'))
  unfold oper_Do_raw
  refine brn (fun c => key oj_deleted_P oj_deleted_F (by rw [c]; decide) (by rw [c]; rfl) (by rw [c]; rfl)) (fun c1 => ?_)
  refine brn (fun c => key oj_changed_P oj_changed_F (by rw [c]; decide) (by rw [c]; rfl) (by rw [c]; rfl)) (fun c2 => ?_)
  refine brn (fun c => key oj_yanked_P oj_yanked_F (by rw [c]; decide) (by rw [c]; rfl) (by rw [c]; rfl)) (fun c3 => ?_)
  refine brn (fun c => key oj_indented_P oj_indented_F (by rw [c]; decide) (by rw [c]; rfl) (by rw [c]; rfl)) (fun c4 => ?_)
  refine brn (fun c => key oj_outdented_P oj_outdented_F (by rw [c]; decide) (by rw [c]; rfl) (by rw [c]; rfl)) (fun c5 => ?_)
  refine brn (fun c => key oo_1_P oo_1_F (by rw [c]; decide) (by rw [c]; rfl) (by rw [c]; rfl)) (fun c6 => ?_)
  refine brn (fun c => key oo_2_P oo_2_F (by rw [c]; decide) (by rw [c]; rfl) (by rw [c]; rfl)) (fun c7 => ?_)
  refine brn (fun c => key oo_3_P oo_3_F (by rw [c]; decide) (by rw [c]; rfl) (by rw [c]; rfl)) (fun c8 => ?_)
  have no : ¬ op ∈ knownOps := by
    simp only [knownOps, List.mem_cons, List.not_mem_nil, or_false, not_or]
    exact ⟨c1, c2, c3, c4, c5, c6, c7, c8⟩
  have e := h _ (by unfold oper_Do_F; rw [if_neg no])
  intro r1 _ _
  exact brb (fun _ => e) (fun _ => e)

def oper_Do_C (v : valsA oper_Do_A) (K : Res → List Cell → Prop) : Prop := oper_Do_P v.1 v.2.1 v.2.2.1 v.2.2.2.1 v.2.2.2.2.1 ∧ ∀ r : EfD × Int, r = oper_Do_F v.1 v.2.1 v.2.2.1 v.2.2.2.1 v.2.2.2.2.1 → K (.tup [.v EfT r.1, .v (.int .i64) r.2]) []
def oper_Do_S : App := specW oper_Do_A oper_Do_C
theorem oper_Do_wv (K : Res → List Cell → Prop) : ∀ v : valsA oper_Do_A, runF tb (getG oper_Do_G) oper_Do_BT Tryd.f28 [true, true] (mkA oper_Do_A v) K = oper_Do_raw v.1 v.2.1 v.2.2.1 v.2.2.2.1 v.2.2.2.2.1 K
  | (t0, at1, op2, rv3, count4, ()) => oper_Do_walk t0 at1 op2 rv3 count4 K
set_option maxRecDepth 20000 in
theorem oper_Do_ok : AppOk Tryd.prog 28 oper_Do_S :=
  AppOk.specW (spec_ok ((runF_ok tb_M tb_ok oper_Do_Gok (oper_Do_bT) (f := 28) (fn := Tryd.f28) (by kernel_rfl) (by kernel_rfl) oper_Do_st [true, true])) fun v K hw h => (oper_Do_wv K v).mpr (oper_Do_sp v.1 v.2.1 v.2.2.1 v.2.2.2.1 v.2.2.2.2.1 K hw h.1 h.2))

end Go.VE
namespace Go.VE
open Go Go.Proofs
/-! ### bytes.HasSuffix -/
def bytes_HasSuffix_G : List (Nat × App) := [(95, bytes_Equal_S)]
theorem bytes_HasSuffix_Gok : GOk Tryd.prog (getG bytes_HasSuffix_G) := GOk.cons bytes_Equal_ok (GOk.nil)
def bytes_HasSuffix_raw (s0 : List Int) (suffix1 : List Int) (K : Res → List Cell → Prop) : Prop :=
 bif (decide ((List.length suffix1 : Int) ≤ (List.length s0 : Int))) then
 bif decide (0 ≤ (IntKind.wrap .i64 ((List.length s0 : Int) - (List.length suffix1 : Int))) ∧ (IntKind.wrap .i64 ((List.length s0 : Int) - (List.length suffix1 : Int))) ≤ (List.length s0 : Int)) then
 ∀ (r1 : Bool), r1 = bytes_Equal_F (List.drop (Int.toNat (IntKind.wrap .i64 ((List.length s0 : Int) - (List.length suffix1 : Int)))) s0) suffix1 → (
 wfR (.one (.v (.bool) r1)) → (
 K (.one (.v (.bool) r1)) []))
 else False
 else
 K (.one (.v (.bool) false)) []
def bytes_HasSuffix_A : List AS := [.v (.sl (.int .u8)), .v (.sl (.int .u8))]
theorem bytes_HasSuffix_walk (s0 : List Int) (suffix1 : List Int) (K : Res → List Cell → Prop) : runF tb (getG bytes_HasSuffix_G) [] Tryd.f61 [true] (mkA bytes_HasSuffix_A (s0, suffix1, ())) K = bytes_HasSuffix_raw s0 suffix1 K := by kernel_rfl

def bytes_HasSuffix_P (s0 : List Int) (suffix1 : List Int) : Prop :=
 bif (decide ((List.length suffix1 : Int) ≤ (List.length s0 : Int))) then
 (0 ≤ (IntKind.wrap .i64 ((List.length s0 : Int) - (List.length suffix1 : Int))) ∧ (IntKind.wrap .i64 ((List.length s0 : Int) - (List.length suffix1 : Int))) ≤ (List.length s0 : Int))
 else
 True
def bytes_HasSuffix_F (s0 : List Int) (suffix1 : List Int) : Bool :=
 bif (decide ((List.length suffix1 : Int) ≤ (List.length s0 : Int))) then
 let r1 : Bool := bytes_Equal_F (List.drop (Int.toNat (IntKind.wrap .i64 ((List.length s0 : Int) - (List.length suffix1 : Int)))) s0) suffix1
 r1
 else
 false
set_option maxRecDepth 20000 in
theorem bytes_HasSuffix_sp (s0 : List Int) (suffix1 : List Int) (K : Res → List Cell → Prop) (_ : wfA bytes_HasSuffix_A (s0, suffix1, ())) (hp : bytes_HasSuffix_P s0 suffix1) (h : ∀ r : Bool, r = bytes_HasSuffix_F s0 suffix1 → K (.one (.v (.bool) r)) []) : bytes_HasSuffix_raw s0 suffix1 K := by
  unfold bytes_HasSuffix_raw
  unfold bytes_HasSuffix_P at hp
  refine brb (fun c_1 => ?_) (fun c_1 => ?_)
  ·
    replace hp := cT c_1 hp
    refine asrt hp ?_
    intro r1 hr1
    subst r1
    intro _
    exact h _ ((ctrue c_1) : bytes_HasSuffix_F s0 suffix1 = _).symm
  ·
    clear hp
    exact h _ ((cfalse c_1) : bytes_HasSuffix_F s0 suffix1 = _).symm
def bytes_HasSuffix_C (v : valsA bytes_HasSuffix_A) (K : Res → List Cell → Prop) : Prop := bytes_HasSuffix_P v.1 v.2.1 ∧ ∀ r : Bool, r = bytes_HasSuffix_F v.1 v.2.1 → K (.one (.v (.bool) r)) []
def bytes_HasSuffix_S : App := specW bytes_HasSuffix_A bytes_HasSuffix_C
theorem bytes_HasSuffix_wv (K : Res → List Cell → Prop) : ∀ v : valsA bytes_HasSuffix_A, runF tb (getG bytes_HasSuffix_G) [] Tryd.f61 [true] (mkA bytes_HasSuffix_A v) K = bytes_HasSuffix_raw v.1 v.2.1 K
  | (s0, suffix1, ()) => bytes_HasSuffix_walk s0 suffix1 K
set_option maxRecDepth 20000 in
theorem bytes_HasSuffix_ok : AppOk Tryd.prog 61 bytes_HasSuffix_S :=
  AppOk.specW (spec_ok ((runF_ok tb_M tb_ok bytes_HasSuffix_Gok (LabsOk.nil) (f := 61) (fn := Tryd.f61) (by kernel_rfl) (by kernel_rfl) (by kernel_rfl) [true])) fun v K hw h => (bytes_HasSuffix_wv K v).mpr (bytes_HasSuffix_sp v.1 v.2.1 K hw h.1 h.2))

end Go.VE
namespace Go.VE
open Go Go.Proofs
/-! ### quoin/oper.within -/
def oper_within_G : List (Nat × App) := []
theorem oper_within_Gok : GOk Tryd.prog (getG oper_within_G) := GOk.nil
def oper_within_raw (t0 : List Int) (at1 : Int) (K : Res → List Cell → Prop) : Prop :=
 bif (decide (at1 < (List.length t0 : Int))) then
 bif decide (0 ≤ at1 ∧ at1 < (List.length t0 : Int)) then
 K (.one (.v (.bool) (!decide ((rd (0 : Int) t0 at1) = (10 : Int))))) []
 else False
 else
 K (.one (.v (.bool) false)) []
def oper_within_A : List AS := [.v (.sl (.int .u8)), .v (.int .i64)]
theorem oper_within_walk (t0 : List Int) (at1 : Int) (K : Res → List Cell → Prop) : runF tb (getG oper_within_G) [] Tryd.f63 [true] (mkA oper_within_A (t0, at1, ())) K = oper_within_raw t0 at1 K := by kernel_rfl

def oper_within_P (t0 : List Int) (at1 : Int) : Prop :=
 bif (decide (at1 < (List.length t0 : Int))) then
 (0 ≤ at1 ∧ at1 < (List.length t0 : Int))
 else
 True
def oper_within_F (t0 : List Int) (at1 : Int) : Bool :=
 bif (decide (at1 < (List.length t0 : Int))) then
 (!decide ((rd (0 : Int) t0 at1) = (10 : Int)))
 else
 false
set_option maxRecDepth 20000 in
theorem oper_within_sp (t0 : List Int) (at1 : Int) (K : Res → List Cell → Prop) (_ : wfA oper_within_A (t0, at1, ())) (hp : oper_within_P t0 at1) (h : ∀ r : Bool, r = oper_within_F t0 at1 → K (.one (.v (.bool) r)) []) : oper_within_raw t0 at1 K := by
  unfold oper_within_raw
  unfold oper_within_P at hp
  refine brb (fun c_1 => ?_) (fun c_1 => ?_)
  ·
    replace hp := cT c_1 hp
    refine asrt hp ?_
    exact h _ ((ctrue c_1) : oper_within_F t0 at1 = _).symm
  ·
    clear hp
    exact h _ ((cfalse c_1) : oper_within_F t0 at1 = _).symm
def oper_within_C (v : valsA oper_within_A) (K : Res → List Cell → Prop) : Prop := oper_within_P v.1 v.2.1 ∧ ∀ r : Bool, r = oper_within_F v.1 v.2.1 → K (.one (.v (.bool) r)) []
def oper_within_S : App := specW oper_within_A oper_within_C
theorem oper_within_wv (K : Res → List Cell → Prop) : ∀ v : valsA oper_within_A, runF tb (getG oper_within_G) [] Tryd.f63 [true] (mkA oper_within_A v) K = oper_within_raw v.1 v.2.1 K
  | (t0, at1, ()) => oper_within_walk t0 at1 K
set_option maxRecDepth 20000 in
theorem oper_within_ok : AppOk Tryd.prog 63 oper_within_S :=
  AppOk.specW (spec_ok ((runF_ok tb_M tb_ok oper_within_Gok (LabsOk.nil) (f := 63) (fn := Tryd.f63) (by kernel_rfl) (by kernel_rfl) (by kernel_rfl) [true])) fun v K hw h => (oper_within_wv K v).mpr (oper_within_sp v.1 v.2.1 K hw h.1 h.2))

end Go.VE
namespace Go.VE
open Go Go.Proofs
/-! ### quoin/oper.Put -/
def oper_Put_G : List (Nat × App) := [(59, oper_outside_S), (60, bytes_Clone_S), (61, bytes_HasSuffix_S), (62, bytes_Repeat_S), (63, oper_within_S), (64, oper_edited_S), (43, bytes_IndexByte_S), (65, lines_Of_S), (31, lines_Start_S), (67, oper_with_S), (66, lines_First_S)]
theorem oper_Put_Gok : GOk Tryd.prog (getG oper_Put_G) := GOk.cons oper_outside_ok (GOk.cons bytes_Clone_ok (GOk.cons bytes_HasSuffix_ok (GOk.cons bytes_Repeat_ok (GOk.cons oper_within_ok (GOk.cons oper_edited_ok (GOk.cons bytes_IndexByte_ok (GOk.cons lines_Of_ok (GOk.cons lines_Start_ok (GOk.cons oper_with_ok (GOk.cons lines_First_ok (GOk.nil)))))))))))
theorem oper_Put_st : storesC (bodyOf Tryd.f21) = true := by kernel_rfl
def oper_Put_d0 : List LS := [.v 0 (.sl (.int .u8)), .v 1 (.int .i64), .b 10 80 [], .o 12 101 5 (.int .u8), .o 13 109 5 (.int .u8), .c 80 EfT]
def oper_Put_d0r : List LS := [.b 10 80 [], .v 11 (.int .i64), .c 80 EfT]
def oper_Put_dx0 : DX := ⟨none, some oper_Put_d0r, []⟩
def oper_Put_J0 (kr : Int → EfD → Prop) (t0 : List Int) (at1 : Int) (p12 : List Int) (all13 : List Int) (x10b : EfD) : Prop :=
 oper_edited_P t0 at1 at1 all13 ∧ (
 ∀ (r6 : List ((Int × List Int × List Int))), r6 = oper_edited_F t0 at1 at1 all13 → (
 wfR (.one (.fr 95 (.st (.pair (.int .i64) (.pair (.sl (.int .u8)) (.sl (.int .u8))))) r6)) → (
 ∀ (r7 : Int), r7 = bytes_IndexByte_F p12 (10 : Int) → (
 wfR (.one (.v (.int .i64) r7)) → (
 bif (decide ((0 : Int) ≤ r7)) then
 kr (0 : Int) (r6, at1, (false, false, ([] : List Int)), (0 : Int), false)
 else
 kr (0 : Int) (r6, (IntKind.wrap .i64 ((IntKind.wrap .i64 (at1 + (List.length all13 : Int))) - (1 : Int))), (false, false, ([] : List Int)), (0 : Int), false))))))
theorem oper_Put_s0 (k : Ex → St → Prop) (t0 : List Int) (at1 : Int) (p12 : List Int) (all13 : List Int) (x10b : EfD) :
    ex tb (getG oper_Put_G) [] (at' (bodyOf Tryd.f21) [1, 1, 0, 1, 0, 1, 1, 1, 1, 1, 1, 1]) [1, 1, 0, 1, 0, 1, 1, 1, 1, 1, 1, 1] (mkD 130 oper_Put_d0 (t0, at1, p12, all13, x10b, ())) (wk 130 oper_Put_dx0 k) =
    oper_Put_J0 (fun x11 x10b => wfD oper_Put_d0r (x11, x10b, ()) → k .ret (mkD 130 oper_Put_d0r (x11, x10b, ()))) t0 at1 p12 all13 x10b := by kernel_rfl
theorem oper_Put_v0 (k : Ex → St → Prop) : ∀ v : vals oper_Put_d0, ex tb (getG oper_Put_G) [] (at' (bodyOf Tryd.f21) [1, 1, 0, 1, 0, 1, 1, 1, 1, 1, 1, 1]) [1, 1, 0, 1, 0, 1, 1, 1, 1, 1, 1, 1] (mkD 130 oper_Put_d0 v) (wk 130 oper_Put_dx0 k) = oper_Put_J0 (fun x11 x10b => wfD oper_Put_d0r (x11, x10b, ()) → k .ret (mkD 130 oper_Put_d0r (x11, x10b, ()))) v.1 v.2.1 v.2.2.1 v.2.2.2.1 v.2.2.2.2.1
  | (t0, at1, p12, all13, x10b, ()) => oper_Put_s0 k t0 at1 p12 all13 x10b
def oper_Put_X0 : Pce := fun st k => ckD 130 oper_Put_d0 st fun v => wfD oper_Put_d0 v → oper_Put_J0 (fun x11 x10b => wfD oper_Put_d0r (x11, x10b, ()) → k .ret (mkD 130 oper_Put_d0r (x11, x10b, ()))) v.1 v.2.1 v.2.2.1 v.2.2.2.1 v.2.2.2.2.1
set_option maxRecDepth 20000 in
theorem oper_Put_x0 : SemOk Tryd.prog (at' (bodyOf Tryd.f21) [1, 1, 0, 1, 0, 1, 1, 1, 1, 1, 1, 1]) oper_Put_X0 :=
  (SemOk.wk (N := 130) (ds := oper_Put_d0) (dx := oper_Put_dx0) (ex_sound tb_M tb_ok oper_Put_Gok (LabsOk.nil) (at' (bodyOf Tryd.f21) [1, 1, 0, 1, 0, 1, 1, 1, 1, 1, 1, 1]) [1, 1, 0, 1, 0, 1, 1, 1, 1, 1, 1, 1] rfl (storesC_at oper_Put_st [1, 1, 0, 1, 0, 1, 1, 1, 1, 1, 1, 1]))).mono fun st k h => ckD_mono h fun v hv hw => Eq.mpr (oper_Put_v0 k v) (hv hw)
def oper_Put_B0 : Labs := ([1, 1, 0, 1, 0, 1, 1, 1, 1, 1, 1, 1], oper_Put_X0) :: []
theorem oper_Put_b0 : LabsOk Tryd.prog (bodyOf Tryd.f21) oper_Put_B0 := LabsOk.cons oper_Put_x0 (LabsOk.nil)
def oper_Put_d1 : List LS := [.v 0 (.sl (.int .u8)), .b 10 80 [], .o 13 109 5 (.int .u8), .v 15 (.int .i64), .v 17 (.int .i64), .c 80 EfT]
def oper_Put_d1r : List LS := [.b 10 80 [], .v 11 (.int .i64), .c 80 EfT]
def oper_Put_dx1 : DX := ⟨none, some oper_Put_d1r, []⟩
def oper_Put_J1 (kr : Int → EfD → Prop) (t0 : List Int) (all13 : List Int) (line15 : Int) (place17 : Int) (x10b : EfD) : Prop :=
 oper_edited_P t0 place17 place17 all13 ∧ (
 ∀ (r10 : List ((Int × List Int × List Int))), r10 = oper_edited_F t0 place17 place17 all13 → (
 wfR (.one (.fr 95 (.st (.pair (.int .i64) (.pair (.sl (.int .u8)) (.sl (.int .u8))))) r10)) → (
 oper_with_P t0 r10 ∧ (
 ∀ (r11 : List Int), r11 = oper_with_F t0 r10 → (
 wfR (.one (.fr 5 (.int .u8) r11)) → (
 ∀ (r12 : Int × Int), r12 = lines_First_F r11 line15 → (
 wfR (.tup [.v (.int .i64) r12.1, .v (.int .i64) r12.2]) → (
 kr (0 : Int) (r10, r12.1, (false, false, ([] : List Int)), (0 : Int), false)))))))))
theorem oper_Put_s1 (k : Ex → St → Prop) (t0 : List Int) (all13 : List Int) (line15 : Int) (place17 : Int) (x10b : EfD) :
    ex tb (getG oper_Put_G) oper_Put_B0 (at' (bodyOf Tryd.f21) [1, 1, 1, 1, 1, 1, 1, 1, 1, 1, 1, 1]) [1, 1, 1, 1, 1, 1, 1, 1, 1, 1, 1, 1] (mkD 130 oper_Put_d1 (t0, all13, line15, place17, x10b, ())) (wk 130 oper_Put_dx1 k) =
    oper_Put_J1 (fun x11 x10b => wfD oper_Put_d1r (x11, x10b, ()) → k .ret (mkD 130 oper_Put_d1r (x11, x10b, ()))) t0 all13 line15 place17 x10b := by kernel_rfl
theorem oper_Put_v1 (k : Ex → St → Prop) : ∀ v : vals oper_Put_d1, ex tb (getG oper_Put_G) oper_Put_B0 (at' (bodyOf Tryd.f21) [1, 1, 1, 1, 1, 1, 1, 1, 1, 1, 1, 1]) [1, 1, 1, 1, 1, 1, 1, 1, 1, 1, 1, 1] (mkD 130 oper_Put_d1 v) (wk 130 oper_Put_dx1 k) = oper_Put_J1 (fun x11 x10b => wfD oper_Put_d1r (x11, x10b, ()) → k .ret (mkD 130 oper_Put_d1r (x11, x10b, ()))) v.1 v.2.1 v.2.2.1 v.2.2.2.1 v.2.2.2.2.1
  | (t0, all13, line15, place17, x10b, ()) => oper_Put_s1 k t0 all13 line15 place17 x10b
def oper_Put_X1 : Pce := fun st k => ckD 130 oper_Put_d1 st fun v => wfD oper_Put_d1 v → oper_Put_J1 (fun x11 x10b => wfD oper_Put_d1r (x11, x10b, ()) → k .ret (mkD 130 oper_Put_d1r (x11, x10b, ()))) v.1 v.2.1 v.2.2.1 v.2.2.2.1 v.2.2.2.2.1
set_option maxRecDepth 20000 in
theorem oper_Put_x1 : SemOk Tryd.prog (at' (bodyOf Tryd.f21) [1, 1, 1, 1, 1, 1, 1, 1, 1, 1, 1, 1]) oper_Put_X1 :=
  (SemOk.wk (N := 130) (ds := oper_Put_d1) (dx := oper_Put_dx1) (ex_sound tb_M tb_ok oper_Put_Gok (oper_Put_b0) (at' (bodyOf Tryd.f21) [1, 1, 1, 1, 1, 1, 1, 1, 1, 1, 1, 1]) [1, 1, 1, 1, 1, 1, 1, 1, 1, 1, 1, 1] rfl (storesC_at oper_Put_st [1, 1, 1, 1, 1, 1, 1, 1, 1, 1, 1, 1]))).mono fun st k h => ckD_mono h fun v hv hw => Eq.mpr (oper_Put_v1 k v) (hv hw)
def oper_Put_B1 : Labs := ([1, 1, 1, 1, 1, 1, 1, 1, 1, 1, 1, 1], oper_Put_X1) :: oper_Put_B0
theorem oper_Put_b1 : LabsOk Tryd.prog (bodyOf Tryd.f21) oper_Put_B1 := LabsOk.cons oper_Put_x1 (oper_Put_b0)
def oper_Put_d2 : List LS := [.v 0 (.sl (.int .u8)), .b 10 80 [], .o 13 109 5 (.int .u8), .v 15 (.int .i64), .c 80 EfT]
def oper_Put_d2r : List LS := [.b 10 80 [], .v 11 (.int .i64), .c 80 EfT]
def oper_Put_dx2 : DX := ⟨none, some oper_Put_d2r, []⟩
def oper_Put_J2 (kr : Int → EfD → Prop) (t0 : List Int) (all13 : List Int) (line15 : Int) (x10b : EfD) : Prop :=
 ∀ (r9 : Int × Int), r9 = lines_Start_F t0 line15 → (
 wfR (.tup [.v (.int .i64) r9.1, .v (.int .i64) r9.2]) → (
 bif (!decide (r9.2 = (0 : Int))) then
 bif decide (0 ≤ (IntKind.wrap .i64 ((List.length all13 : Int) - (1 : Int))) ∧ (IntKind.wrap .i64 ((List.length all13 : Int) - (1 : Int))) ≤ (List.length all13 : Int)) then
 bif decide (List.length ([(10 : Int)] : List Int) + List.length (List.take (Int.toNat (IntKind.wrap .i64 ((List.length all13 : Int) - (1 : Int)))) all13) ≤ lim) then
 (wfD oper_Put_d1 (t0, (([(10 : Int)] : List Int) ++ (List.take (Int.toNat (IntKind.wrap .i64 ((List.length all13 : Int) - (1 : Int)))) all13)), line15, (List.length t0 : Int), x10b, ()) → oper_Put_J1 (fun (x11 : Int) (x10b : EfD) => wfD oper_Put_d1r (x11, x10b, ()) → (
 kr x11 x10b)) t0 (([(10 : Int)] : List Int) ++ (List.take (Int.toNat (IntKind.wrap .i64 ((List.length all13 : Int) - (1 : Int)))) all13)) line15 (List.length t0 : Int) x10b)
 else False
 else False
 else
 (wfD oper_Put_d1 (t0, all13, line15, r9.1, x10b, ()) → oper_Put_J1 (fun (x11 : Int) (x10b : EfD) => wfD oper_Put_d1r (x11, x10b, ()) → (
 kr x11 x10b)) t0 all13 line15 r9.1 x10b)))
theorem oper_Put_s2 (k : Ex → St → Prop) (t0 : List Int) (all13 : List Int) (line15 : Int) (x10b : EfD) :
    ex tb (getG oper_Put_G) oper_Put_B1 (at' (bodyOf Tryd.f21) [1, 1, 1, 1, 1, 1, 1, 1, 1, 1]) [1, 1, 1, 1, 1, 1, 1, 1, 1, 1] (mkD 130 oper_Put_d2 (t0, all13, line15, x10b, ())) (wk 130 oper_Put_dx2 k) =
    oper_Put_J2 (fun x11 x10b => wfD oper_Put_d2r (x11, x10b, ()) → k .ret (mkD 130 oper_Put_d2r (x11, x10b, ()))) t0 all13 line15 x10b := by kernel_rfl
theorem oper_Put_v2 (k : Ex → St → Prop) : ∀ v : vals oper_Put_d2, ex tb (getG oper_Put_G) oper_Put_B1 (at' (bodyOf Tryd.f21) [1, 1, 1, 1, 1, 1, 1, 1, 1, 1]) [1, 1, 1, 1, 1, 1, 1, 1, 1, 1] (mkD 130 oper_Put_d2 v) (wk 130 oper_Put_dx2 k) = oper_Put_J2 (fun x11 x10b => wfD oper_Put_d2r (x11, x10b, ()) → k .ret (mkD 130 oper_Put_d2r (x11, x10b, ()))) v.1 v.2.1 v.2.2.1 v.2.2.2.1
  | (t0, all13, line15, x10b, ()) => oper_Put_s2 k t0 all13 line15 x10b
def oper_Put_X2 : Pce := fun st k => ckD 130 oper_Put_d2 st fun v => wfD oper_Put_d2 v → oper_Put_J2 (fun x11 x10b => wfD oper_Put_d2r (x11, x10b, ()) → k .ret (mkD 130 oper_Put_d2r (x11, x10b, ()))) v.1 v.2.1 v.2.2.1 v.2.2.2.1
set_option maxRecDepth 20000 in
theorem oper_Put_x2 : SemOk Tryd.prog (at' (bodyOf Tryd.f21) [1, 1, 1, 1, 1, 1, 1, 1, 1, 1]) oper_Put_X2 :=
  (SemOk.wk (N := 130) (ds := oper_Put_d2) (dx := oper_Put_dx2) (ex_sound tb_M tb_ok oper_Put_Gok (oper_Put_b1) (at' (bodyOf Tryd.f21) [1, 1, 1, 1, 1, 1, 1, 1, 1, 1]) [1, 1, 1, 1, 1, 1, 1, 1, 1, 1] rfl (storesC_at oper_Put_st [1, 1, 1, 1, 1, 1, 1, 1, 1, 1]))).mono fun st k h => ckD_mono h fun v hv hw => Eq.mpr (oper_Put_v2 k v) (hv hw)
def oper_Put_B2 : Labs := ([1, 1, 1, 1, 1, 1, 1, 1, 1, 1], oper_Put_X2) :: oper_Put_B1
theorem oper_Put_b2 : LabsOk Tryd.prog (bodyOf Tryd.f21) oper_Put_B2 := LabsOk.cons oper_Put_x2 (oper_Put_b1)
def oper_Put_d3 : List LS := [.v 0 (.sl (.int .u8)), .v 1 (.int .i64), .v 2 (.int .i64), .v 4 (.bool), .b 8 64 [], .b 10 80 [], .o 12 101 5 (.int .u8), .c 64 (.st (.pair (.bool) (.pair (.bool) (.sl (.int .u8))))), .c 80 EfT]
def oper_Put_d3r : List LS := [.b 10 80 [], .v 11 (.int .i64), .c 80 EfT]
def oper_Put_dx3 : DX := ⟨none, some oper_Put_d3r, []⟩
def oper_Put_J3 (kr : Int → EfD → Prop) (t0 : List Int) (at1 : Int) (count2 : Int) (ahead4 : Bool) (p12 : List Int) (rv8b : (Bool × Bool × List Int)) (x10b : EfD) : Prop :=
 bif (decide ((65536 : Int) < (IntKind.wrap .i64 ((List.length p12 : Int) * count2)))) then
 kr (1 : Int) (([] : List ((Int × List Int × List Int))), (0 : Int), (false, false, ([] : List Int)), (0 : Int), false)
 else
 bytes_Repeat_P p12 count2 ∧ (
 ∀ (r4 : List Int), r4 = bytes_Repeat_F p12 count2 → (
 wfR (.one (.fr 5 (.int .u8) r4)) → (
 bif (!rv8b.2.1) then
 bif (decide ((List.length r4 : Int) = (0 : Int))) then
 kr (0 : Int) (([] : List ((Int × List Int × List Int))), at1, (false, false, ([] : List Int)), (0 : Int), false)
 else
 bif (!ahead4) then
 oper_within_P t0 at1 ∧ (
 ∀ (r5 : Bool), r5 = oper_within_F t0 at1 → (
 wfR (.one (.v (.bool) r5)) → (
 bif r5 then
 (wfD oper_Put_d0 (t0, (IntKind.wrap .i64 (at1 + (1 : Int))), p12, r4, x10b, ()) → oper_Put_J0 (fun (x11 : Int) (x10b : EfD) => wfD oper_Put_d0r (x11, x10b, ()) → (
 kr x11 x10b)) t0 (IntKind.wrap .i64 (at1 + (1 : Int))) p12 r4 x10b)
 else
 (wfD oper_Put_d0 (t0, at1, p12, r4, x10b, ()) → oper_Put_J0 (fun (x11 : Int) (x10b : EfD) => wfD oper_Put_d0r (x11, x10b, ()) → (
 kr x11 x10b)) t0 at1 p12 r4 x10b))))
 else
 (wfD oper_Put_d0 (t0, at1, p12, r4, x10b, ()) → oper_Put_J0 (fun (x11 : Int) (x10b : EfD) => wfD oper_Put_d0r (x11, x10b, ()) → (
 kr x11 x10b)) t0 at1 p12 r4 x10b)
 else
 lines_Of_P t0 at1 ∧ (
 ∀ (r8 : Int × Int), r8 = lines_Of_F t0 at1 → (
 wfR (.tup [.v (.int .i64) r8.1, .v (.int .i64) r8.2]) → (
 bif (!ahead4) then
 (wfD oper_Put_d2 (t0, r4, (IntKind.wrap .i64 (r8.1 + (1 : Int))), x10b, ()) → oper_Put_J2 (fun (x11 : Int) (x10b : EfD) => wfD oper_Put_d2r (x11, x10b, ()) → (
 kr x11 x10b)) t0 r4 (IntKind.wrap .i64 (r8.1 + (1 : Int))) x10b)
 else
 (wfD oper_Put_d2 (t0, r4, r8.1, x10b, ()) → oper_Put_J2 (fun (x11 : Int) (x10b : EfD) => wfD oper_Put_d2r (x11, x10b, ()) → (
 kr x11 x10b)) t0 r4 r8.1 x10b)))))))
theorem oper_Put_s3 (k : Ex → St → Prop) (t0 : List Int) (at1 : Int) (count2 : Int) (ahead4 : Bool) (p12 : List Int) (rv8b : (Bool × Bool × List Int)) (x10b : EfD) :
    ex tb (getG oper_Put_G) oper_Put_B2 (at' (bodyOf Tryd.f21) [1, 1, 1, 1, 1]) [1, 1, 1, 1, 1] (mkD 130 oper_Put_d3 (t0, at1, count2, ahead4, p12, rv8b, x10b, ())) (wk 130 oper_Put_dx3 k) =
    oper_Put_J3 (fun x11 x10b => wfD oper_Put_d3r (x11, x10b, ()) → k .ret (mkD 130 oper_Put_d3r (x11, x10b, ()))) t0 at1 count2 ahead4 p12 rv8b x10b := by kernel_rfl
theorem oper_Put_v3 (k : Ex → St → Prop) : ∀ v : vals oper_Put_d3, ex tb (getG oper_Put_G) oper_Put_B2 (at' (bodyOf Tryd.f21) [1, 1, 1, 1, 1]) [1, 1, 1, 1, 1] (mkD 130 oper_Put_d3 v) (wk 130 oper_Put_dx3 k) = oper_Put_J3 (fun x11 x10b => wfD oper_Put_d3r (x11, x10b, ()) → k .ret (mkD 130 oper_Put_d3r (x11, x10b, ()))) v.1 v.2.1 v.2.2.1 v.2.2.2.1 v.2.2.2.2.1 v.2.2.2.2.2.1 v.2.2.2.2.2.2.1
  | (t0, at1, count2, ahead4, p12, rv8b, x10b, ()) => oper_Put_s3 k t0 at1 count2 ahead4 p12 rv8b x10b
def oper_Put_X3 : Pce := fun st k => ckD 130 oper_Put_d3 st fun v => wfD oper_Put_d3 v → oper_Put_J3 (fun x11 x10b => wfD oper_Put_d3r (x11, x10b, ()) → k .ret (mkD 130 oper_Put_d3r (x11, x10b, ()))) v.1 v.2.1 v.2.2.1 v.2.2.2.1 v.2.2.2.2.1 v.2.2.2.2.2.1 v.2.2.2.2.2.2.1
set_option maxRecDepth 20000 in
theorem oper_Put_x3 : SemOk Tryd.prog (at' (bodyOf Tryd.f21) [1, 1, 1, 1, 1]) oper_Put_X3 :=
  (SemOk.wk (N := 130) (ds := oper_Put_d3) (dx := oper_Put_dx3) (ex_sound tb_M tb_ok oper_Put_Gok (oper_Put_b2) (at' (bodyOf Tryd.f21) [1, 1, 1, 1, 1]) [1, 1, 1, 1, 1] rfl (storesC_at oper_Put_st [1, 1, 1, 1, 1]))).mono fun st k h => ckD_mono h fun v hv hw => Eq.mpr (oper_Put_v3 k v) (hv hw)
def oper_Put_B3 : Labs := ([1, 1, 1, 1, 1], oper_Put_X3) :: oper_Put_B2
theorem oper_Put_b3 : LabsOk Tryd.prog (bodyOf Tryd.f21) oper_Put_B3 := LabsOk.cons oper_Put_x3 (oper_Put_b2)
def oper_Put_raw (t0 : List Int) (at1 : Int) (count2 : Int) (rv3 : (Bool × Bool × List Int)) (ahead4 : Bool) (K : Res → List Cell → Prop) : Prop :=
 ∀ (r1 : Bool), r1 = oper_outside_F t0 at1 count2 (1 : Int) → (
 wfR (.one (.v (.bool) r1)) → (
 bif r1 then
 K (.tup [.v EfT (([] : List ((Int × List Int × List Int))), (0 : Int), (false, false, ([] : List Int)), (0 : Int), false), .v (.int .i64) (2 : Int)]) []
 else
 bif (!rv3.1) then
 K (.tup [.v EfT (([] : List ((Int × List Int × List Int))), (0 : Int), (false, false, ([] : List Int)), (0 : Int), false), .v (.int .i64) (151 : Int)]) []
 else
 bytes_Clone_P rv3.2.2 ∧ (
 ∀ (r2 : List Int), r2 = bytes_Clone_F rv3.2.2 → (
 wfR (.one (.fr 5 (.int .u8) r2)) → (
 bif rv3.2.1 then
 bytes_HasSuffix_P r2 ([(10 : Int)] : List Int) ∧ (
 ∀ (r3 : Bool), r3 = bytes_HasSuffix_F r2 ([(10 : Int)] : List Int) → (
 wfR (.one (.v (.bool) r3)) → (
 bif (!r3) then
 bif decide (List.length r2 + List.length ([(10 : Int)] : List Int) ≤ lim) then
 (wfD oper_Put_d3 (t0, at1, count2, ahead4, (r2 ++ ([(10 : Int)] : List Int)), rv3, (([] : List ((Int × List Int × List Int))), (0 : Int), (false, false, ([] : List Int)), (0 : Int), false), ()) → oper_Put_J3 (fun (x11 : Int) (x10b : EfD) => wfD oper_Put_d3r (x11, x10b, ()) → (
 K (.tup [.v EfT x10b, .v (.int .i64) x11]) [])) t0 at1 count2 ahead4 (r2 ++ ([(10 : Int)] : List Int)) rv3 (([] : List ((Int × List Int × List Int))), (0 : Int), (false, false, ([] : List Int)), (0 : Int), false))
 else False
 else
 (wfD oper_Put_d3 (t0, at1, count2, ahead4, r2, rv3, (([] : List ((Int × List Int × List Int))), (0 : Int), (false, false, ([] : List Int)), (0 : Int), false), ()) → oper_Put_J3 (fun (x11 : Int) (x10b : EfD) => wfD oper_Put_d3r (x11, x10b, ()) → (
 K (.tup [.v EfT x10b, .v (.int .i64) x11]) [])) t0 at1 count2 ahead4 r2 rv3 (([] : List ((Int × List Int × List Int))), (0 : Int), (false, false, ([] : List Int)), (0 : Int), false)))))
 else
 (wfD oper_Put_d3 (t0, at1, count2, ahead4, r2, rv3, (([] : List ((Int × List Int × List Int))), (0 : Int), (false, false, ([] : List Int)), (0 : Int), false), ()) → oper_Put_J3 (fun (x11 : Int) (x10b : EfD) => wfD oper_Put_d3r (x11, x10b, ()) → (
 K (.tup [.v EfT x10b, .v (.int .i64) x11]) [])) t0 at1 count2 ahead4 r2 rv3 (([] : List ((Int × List Int × List Int))), (0 : Int), (false, false, ([] : List Int)), (0 : Int), false)))))))
def oper_Put_A : List AS := [.v (.sl (.int .u8)), .v (.int .i64), .v (.int .i64), .v (.st (.pair (.bool) (.pair (.bool) (.sl (.int .u8))))), .v (.bool)]
theorem oper_Put_walk (t0 : List Int) (at1 : Int) (count2 : Int) (rv3 : (Bool × Bool × List Int)) (ahead4 : Bool) (K : Res → List Cell → Prop) : runF tb (getG oper_Put_G) oper_Put_B3 Tryd.f21 [true, true] (mkA oper_Put_A (t0, at1, count2, rv3, ahead4, ())) K = oper_Put_raw t0 at1 count2 rv3 ahead4 K := by kernel_rfl

def oper_Put_J0_P (t0 : List Int) (at1 : Int) (p12 : List Int) (all13 : List Int) (x10b : EfD) : Prop :=
 oper_edited_P t0 at1 at1 all13
def oper_Put_J0_F (t0 : List Int) (at1 : Int) (p12 : List Int) (all13 : List Int) (x10b : EfD) : Int × EfD :=
 let r6 : List ((Int × List Int × List Int)) := oper_edited_F t0 at1 at1 all13
 let r7 : Int := bytes_IndexByte_F p12 (10 : Int)
 bif (decide ((0 : Int) ≤ r7)) then
 ((0 : Int), (r6, at1, (false, false, ([] : List Int)), (0 : Int), false))
 else
 ((0 : Int), (r6, (IntKind.wrap .i64 ((IntKind.wrap .i64 (at1 + (List.length all13 : Int))) - (1 : Int))), (false, false, ([] : List Int)), (0 : Int), false))
set_option maxRecDepth 20000 in
theorem oper_Put_J0_sp (kr : Int → EfD → Prop) (t0 : List Int) (at1 : Int) (p12 : List Int) (all13 : List Int) (x10b : EfD) (hp : oper_Put_J0_P t0 at1 p12 all13 x10b) (hr : ∀ q : Int × EfD, q = oper_Put_J0_F t0 at1 p12 all13 x10b → kr q.1 q.2) : oper_Put_J0 kr t0 at1 p12 all13 x10b := by
  unfold oper_Put_J0
  unfold oper_Put_J0_P at hp
  refine ⟨hp, ?_⟩
  intro r6 hr6
  subst r6
  intro _
  intro r7 hr7
  subst r7
  intro _
  refine brb (fun c_1 => ?_) (fun c_1 => ?_)
  ·
    have e := hr _ ((ctrue c_1) : oper_Put_J0_F t0 at1 p12 all13 x10b = _).symm
    exact e
  ·
    have e := hr _ ((cfalse c_1) : oper_Put_J0_F t0 at1 p12 all13 x10b = _).symm
    exact e
def oper_Put_J1_P (t0 : List Int) (all13 : List Int) (line15 : Int) (place17 : Int) (x10b : EfD) : Prop :=
 oper_edited_P t0 place17 place17 all13 ∧ (
 let r10 : List ((Int × List Int × List Int)) := oper_edited_F t0 place17 place17 all13
 oper_with_P t0 r10)
def oper_Put_J1_F (t0 : List Int) (all13 : List Int) (line15 : Int) (place17 : Int) (x10b : EfD) : Int × EfD :=
 let r10 : List ((Int × List Int × List Int)) := oper_edited_F t0 place17 place17 all13
 let r11 : List Int := oper_with_F t0 r10
 let r12 : Int × Int := lines_First_F r11 line15
 ((0 : Int), (r10, r12.1, (false, false, ([] : List Int)), (0 : Int), false))
set_option maxRecDepth 20000 in
theorem oper_Put_J1_sp (kr : Int → EfD → Prop) (t0 : List Int) (all13 : List Int) (line15 : Int) (place17 : Int) (x10b : EfD) (hp : oper_Put_J1_P t0 all13 line15 place17 x10b) (hr : ∀ q : Int × EfD, q = oper_Put_J1_F t0 all13 line15 place17 x10b → kr q.1 q.2) : oper_Put_J1 kr t0 all13 line15 place17 x10b := by
  unfold oper_Put_J1
  unfold oper_Put_J1_P at hp
  refine ⟨hp.1, ?_⟩
  replace hp := hp.2
  intro r10 hr10
  subst r10
  intro _
  refine ⟨hp, ?_⟩
  intro r11 hr11
  subst r11
  intro _
  intro r12 hr12
  subst r12
  intro _
  exact hr _ rfl
def oper_Put_J2_P (t0 : List Int) (all13 : List Int) (line15 : Int) (x10b : EfD) : Prop :=
 let r9 : Int × Int := lines_Start_F t0 line15
 bif (!decide (r9.2 = (0 : Int))) then
 (0 ≤ (IntKind.wrap .i64 ((List.length all13 : Int) - (1 : Int))) ∧ (IntKind.wrap .i64 ((List.length all13 : Int) - (1 : Int))) ≤ (List.length all13 : Int)) ∧ (
 (List.length ([(10 : Int)] : List Int) + List.length (List.take (Int.toNat (IntKind.wrap .i64 ((List.length all13 : Int) - (1 : Int)))) all13) ≤ lim) ∧ (
 oper_Put_J1_P t0 (([(10 : Int)] : List Int) ++ (List.take (Int.toNat (IntKind.wrap .i64 ((List.length all13 : Int) - (1 : Int)))) all13)) line15 (List.length t0 : Int) x10b))
 else
 oper_Put_J1_P t0 all13 line15 r9.1 x10b
def oper_Put_J2_F (t0 : List Int) (all13 : List Int) (line15 : Int) (x10b : EfD) : Int × EfD :=
 let r9 : Int × Int := lines_Start_F t0 line15
 bif (!decide (r9.2 = (0 : Int))) then
 let q1r : Int × EfD := oper_Put_J1_F t0 (([(10 : Int)] : List Int) ++ (List.take (Int.toNat (IntKind.wrap .i64 ((List.length all13 : Int) - (1 : Int)))) all13)) line15 (List.length t0 : Int) x10b
 let x11 : Int := q1r.1
 let x10b : EfD := q1r.2
 (x11, x10b)
 else
 let q1r : Int × EfD := oper_Put_J1_F t0 all13 line15 r9.1 x10b
 let x11 : Int := q1r.1
 let x10b : EfD := q1r.2
 (x11, x10b)
set_option maxRecDepth 20000 in
theorem oper_Put_J2_sp (kr : Int → EfD → Prop) (t0 : List Int) (all13 : List Int) (line15 : Int) (x10b : EfD) (hp : oper_Put_J2_P t0 all13 line15 x10b) (hr : ∀ q : Int × EfD, q = oper_Put_J2_F t0 all13 line15 x10b → kr q.1 q.2) : oper_Put_J2 kr t0 all13 line15 x10b := by
  unfold oper_Put_J2
  unfold oper_Put_J2_P at hp
  intro r9 hr9
  subst r9
  intro _
  refine brb (fun c_2 => ?_) (fun c_2 => ?_)
  ·
    replace hp := cT c_2 hp
    refine asrt hp.1 ?_
    replace hp := hp.2
    refine asrt hp.1 ?_
    replace hp := hp.2
    refine fun _ => oper_Put_J1_sp _ _ _ _ _ _ hp (fun q hq => ?_)
    subst hq
    intro _
    clear hp
    have e := hr _ ((ctrue c_2) : oper_Put_J2_F t0 all13 line15 x10b = _).symm
    exact e
  ·
    replace hp := cF c_2 hp
    refine fun _ => oper_Put_J1_sp _ _ _ _ _ _ hp (fun q hq => ?_)
    subst hq
    intro _
    clear hp
    have e := hr _ ((cfalse c_2) : oper_Put_J2_F t0 all13 line15 x10b = _).symm
    exact e
def oper_Put_J3_P (t0 : List Int) (at1 : Int) (count2 : Int) (ahead4 : Bool) (p12 : List Int) (rv8b : (Bool × Bool × List Int)) (x10b : EfD) : Prop :=
 bif (decide ((65536 : Int) < (IntKind.wrap .i64 ((List.length p12 : Int) * count2)))) then
 True
 else
 bytes_Repeat_P p12 count2 ∧ (
 let r4 : List Int := bytes_Repeat_F p12 count2
 bif (!rv8b.2.1) then
 bif (decide ((List.length r4 : Int) = (0 : Int))) then
 True
 else
 bif (!ahead4) then
 oper_within_P t0 at1 ∧ (
 let r5 : Bool := oper_within_F t0 at1
 bif r5 then
 oper_Put_J0_P t0 (IntKind.wrap .i64 (at1 + (1 : Int))) p12 r4 x10b
 else
 oper_Put_J0_P t0 at1 p12 r4 x10b)
 else
 oper_Put_J0_P t0 at1 p12 r4 x10b
 else
 lines_Of_P t0 at1 ∧ (
 let r8 : Int × Int := lines_Of_F t0 at1
 bif (!ahead4) then
 oper_Put_J2_P t0 r4 (IntKind.wrap .i64 (r8.1 + (1 : Int))) x10b
 else
 oper_Put_J2_P t0 r4 r8.1 x10b))
def oper_Put_J3_F (t0 : List Int) (at1 : Int) (count2 : Int) (ahead4 : Bool) (p12 : List Int) (rv8b : (Bool × Bool × List Int)) (x10b : EfD) : Int × EfD :=
 bif (decide ((65536 : Int) < (IntKind.wrap .i64 ((List.length p12 : Int) * count2)))) then
 ((1 : Int), (([] : List ((Int × List Int × List Int))), (0 : Int), (false, false, ([] : List Int)), (0 : Int), false))
 else
 let r4 : List Int := bytes_Repeat_F p12 count2
 bif (!rv8b.2.1) then
 bif (decide ((List.length r4 : Int) = (0 : Int))) then
 ((0 : Int), (([] : List ((Int × List Int × List Int))), at1, (false, false, ([] : List Int)), (0 : Int), false))
 else
 bif (!ahead4) then
 let r5 : Bool := oper_within_F t0 at1
 bif r5 then
 let q0r : Int × EfD := oper_Put_J0_F t0 (IntKind.wrap .i64 (at1 + (1 : Int))) p12 r4 x10b
 let x11 : Int := q0r.1
 let x10b : EfD := q0r.2
 (x11, x10b)
 else
 let q0r : Int × EfD := oper_Put_J0_F t0 at1 p12 r4 x10b
 let x11 : Int := q0r.1
 let x10b : EfD := q0r.2
 (x11, x10b)
 else
 let q0r : Int × EfD := oper_Put_J0_F t0 at1 p12 r4 x10b
 let x11 : Int := q0r.1
 let x10b : EfD := q0r.2
 (x11, x10b)
 else
 let r8 : Int × Int := lines_Of_F t0 at1
 bif (!ahead4) then
 let q2r : Int × EfD := oper_Put_J2_F t0 r4 (IntKind.wrap .i64 (r8.1 + (1 : Int))) x10b
 let x11 : Int := q2r.1
 let x10b : EfD := q2r.2
 (x11, x10b)
 else
 let q2r : Int × EfD := oper_Put_J2_F t0 r4 r8.1 x10b
 let x11 : Int := q2r.1
 let x10b : EfD := q2r.2
 (x11, x10b)
set_option maxRecDepth 20000 in
theorem oper_Put_J3_sp (kr : Int → EfD → Prop) (t0 : List Int) (at1 : Int) (count2 : Int) (ahead4 : Bool) (p12 : List Int) (rv8b : (Bool × Bool × List Int)) (x10b : EfD) (hp : oper_Put_J3_P t0 at1 count2 ahead4 p12 rv8b x10b) (hr : ∀ q : Int × EfD, q = oper_Put_J3_F t0 at1 count2 ahead4 p12 rv8b x10b → kr q.1 q.2) : oper_Put_J3 kr t0 at1 count2 ahead4 p12 rv8b x10b := by
  unfold oper_Put_J3
  unfold oper_Put_J3_P at hp
  refine brb (fun c_3 => ?_) (fun c_3 => ?_)
  ·
    clear hp
    have e := hr _ ((ctrue c_3) : oper_Put_J3_F t0 at1 count2 ahead4 p12 rv8b x10b = _).symm
    exact e
  ·
    replace hp := cF c_3 hp
    refine ⟨hp.1, ?_⟩
    replace hp := hp.2
    intro r4 hr4
    subst r4
    intro _
    refine brb (fun c_4 => ?_) (fun c_4 => ?_)
    ·
      replace hp := cT c_4 hp
      refine brb (fun c_5 => ?_) (fun c_5 => ?_)
      ·
        clear hp
        have e := hr _ ((Eq.trans (cfalse c_3) (Eq.trans (ctrue c_4) (ctrue c_5))) : oper_Put_J3_F t0 at1 count2 ahead4 p12 rv8b x10b = _).symm
        exact e
      ·
        replace hp := cF c_5 hp
        refine brb (fun c_6 => ?_) (fun c_6 => ?_)
        ·
          replace hp := cT c_6 hp
          refine ⟨hp.1, ?_⟩
          replace hp := hp.2
          intro r5 hr5
          subst r5
          intro _
          refine brb (fun c_7 => ?_) (fun c_7 => ?_)
          ·
            replace hp := cT c_7 hp
            refine fun _ => oper_Put_J0_sp _ _ _ _ _ _ hp (fun q hq => ?_)
            subst hq
            intro _
            clear hp
            have e := hr _ ((Eq.trans (cfalse c_3) (Eq.trans (ctrue c_4) (Eq.trans (cfalse c_5) (Eq.trans (ctrue c_6) (ctrue c_7))))) : oper_Put_J3_F t0 at1 count2 ahead4 p12 rv8b x10b = _).symm
            exact e
          ·
            replace hp := cF c_7 hp
            refine fun _ => oper_Put_J0_sp _ _ _ _ _ _ hp (fun q hq => ?_)
            subst hq
            intro _
            clear hp
            have e := hr _ ((Eq.trans (cfalse c_3) (Eq.trans (ctrue c_4) (Eq.trans (cfalse c_5) (Eq.trans (ctrue c_6) (cfalse c_7))))) : oper_Put_J3_F t0 at1 count2 ahead4 p12 rv8b x10b = _).symm
            exact e
        ·
          replace hp := cF c_6 hp
          refine fun _ => oper_Put_J0_sp _ _ _ _ _ _ hp (fun q hq => ?_)
          subst hq
          intro _
          clear hp
          have e := hr _ ((Eq.trans (cfalse c_3) (Eq.trans (ctrue c_4) (Eq.trans (cfalse c_5) (cfalse c_6)))) : oper_Put_J3_F t0 at1 count2 ahead4 p12 rv8b x10b = _).symm
          exact e
    ·
      replace hp := cF c_4 hp
      refine ⟨hp.1, ?_⟩
      replace hp := hp.2
      intro r8 hr8
      subst r8
      intro _
      refine brb (fun c_8 => ?_) (fun c_8 => ?_)
      ·
        replace hp := cT c_8 hp
        refine fun _ => oper_Put_J2_sp _ _ _ _ _ hp (fun q hq => ?_)
        subst hq
        intro _
        clear hp
        have e := hr _ ((Eq.trans (cfalse c_3) (Eq.trans (cfalse c_4) (ctrue c_8))) : oper_Put_J3_F t0 at1 count2 ahead4 p12 rv8b x10b = _).symm
        exact e
      ·
        replace hp := cF c_8 hp
        refine fun _ => oper_Put_J2_sp _ _ _ _ _ hp (fun q hq => ?_)
        subst hq
        intro _
        clear hp
        have e := hr _ ((Eq.trans (cfalse c_3) (Eq.trans (cfalse c_4) (cfalse c_8))) : oper_Put_J3_F t0 at1 count2 ahead4 p12 rv8b x10b = _).symm
        exact e
def oper_Put_P (t0 : List Int) (at1 : Int) (count2 : Int) (rv3 : (Bool × Bool × List Int)) (ahead4 : Bool) : Prop :=
 let r1 : Bool := oper_outside_F t0 at1 count2 (1 : Int)
 bif r1 then
 True
 else
 bif (!rv3.1) then
 True
 else
 bytes_Clone_P rv3.2.2 ∧ (
 let r2 : List Int := bytes_Clone_F rv3.2.2
 bif rv3.2.1 then
 bytes_HasSuffix_P r2 ([(10 : Int)] : List Int) ∧ (
 let r3 : Bool := bytes_HasSuffix_F r2 ([(10 : Int)] : List Int)
 bif (!r3) then
 (List.length r2 + List.length ([(10 : Int)] : List Int) ≤ lim) ∧ (
 oper_Put_J3_P t0 at1 count2 ahead4 (r2 ++ ([(10 : Int)] : List Int)) rv3 (([] : List ((Int × List Int × List Int))), (0 : Int), (false, false, ([] : List Int)), (0 : Int), false))
 else
 oper_Put_J3_P t0 at1 count2 ahead4 r2 rv3 (([] : List ((Int × List Int × List Int))), (0 : Int), (false, false, ([] : List Int)), (0 : Int), false))
 else
 oper_Put_J3_P t0 at1 count2 ahead4 r2 rv3 (([] : List ((Int × List Int × List Int))), (0 : Int), (false, false, ([] : List Int)), (0 : Int), false))
def oper_Put_F (t0 : List Int) (at1 : Int) (count2 : Int) (rv3 : (Bool × Bool × List Int)) (ahead4 : Bool) : EfD × Int :=
 let r1 : Bool := oper_outside_F t0 at1 count2 (1 : Int)
 bif r1 then
 ((([] : List ((Int × List Int × List Int))), (0 : Int), (false, false, ([] : List Int)), (0 : Int), false), (2 : Int))
 else
 bif (!rv3.1) then
 ((([] : List ((Int × List Int × List Int))), (0 : Int), (false, false, ([] : List Int)), (0 : Int), false), (151 : Int))
 else
 let r2 : List Int := bytes_Clone_F rv3.2.2
 bif rv3.2.1 then
 let r3 : Bool := bytes_HasSuffix_F r2 ([(10 : Int)] : List Int)
 bif (!r3) then
 let q3r : Int × EfD := oper_Put_J3_F t0 at1 count2 ahead4 (r2 ++ ([(10 : Int)] : List Int)) rv3 (([] : List ((Int × List Int × List Int))), (0 : Int), (false, false, ([] : List Int)), (0 : Int), false)
 let x11 : Int := q3r.1
 let x10b : EfD := q3r.2
 (x10b, x11)
 else
 let q3r : Int × EfD := oper_Put_J3_F t0 at1 count2 ahead4 r2 rv3 (([] : List ((Int × List Int × List Int))), (0 : Int), (false, false, ([] : List Int)), (0 : Int), false)
 let x11 : Int := q3r.1
 let x10b : EfD := q3r.2
 (x10b, x11)
 else
 let q3r : Int × EfD := oper_Put_J3_F t0 at1 count2 ahead4 r2 rv3 (([] : List ((Int × List Int × List Int))), (0 : Int), (false, false, ([] : List Int)), (0 : Int), false)
 let x11 : Int := q3r.1
 let x10b : EfD := q3r.2
 (x10b, x11)
set_option maxRecDepth 20000 in
theorem oper_Put_sp (t0 : List Int) (at1 : Int) (count2 : Int) (rv3 : (Bool × Bool × List Int)) (ahead4 : Bool) (K : Res → List Cell → Prop) (_ : wfA oper_Put_A (t0, at1, count2, rv3, ahead4, ())) (hp : oper_Put_P t0 at1 count2 rv3 ahead4) (h : ∀ r : EfD × Int, r = oper_Put_F t0 at1 count2 rv3 ahead4 → K (.tup [.v EfT r.1, .v (.int .i64) r.2]) []) : oper_Put_raw t0 at1 count2 rv3 ahead4 K := by
  unfold oper_Put_raw
  unfold oper_Put_P at hp
  intro r1 hr1
  subst r1
  intro _
  refine brb (fun c_9 => ?_) (fun c_9 => ?_)
  ·
    clear hp
    have e := h _ ((ctrue c_9) : oper_Put_F t0 at1 count2 rv3 ahead4 = _).symm
    exact e
  ·
    replace hp := cF c_9 hp
    refine brb (fun c_10 => ?_) (fun c_10 => ?_)
    ·
      clear hp
      have e := h _ ((Eq.trans (cfalse c_9) (ctrue c_10)) : oper_Put_F t0 at1 count2 rv3 ahead4 = _).symm
      exact e
    ·
      replace hp := cF c_10 hp
      refine ⟨hp.1, ?_⟩
      replace hp := hp.2
      intro r2 hr2
      subst r2
      intro _
      refine brb (fun c_11 => ?_) (fun c_11 => ?_)
      ·
        replace hp := cT c_11 hp
        refine ⟨hp.1, ?_⟩
        replace hp := hp.2
        intro r3 hr3
        subst r3
        intro _
        refine brb (fun c_12 => ?_) (fun c_12 => ?_)
        ·
          replace hp := cT c_12 hp
          refine asrt hp.1 ?_
          replace hp := hp.2
          refine fun _ => oper_Put_J3_sp _ _ _ _ _ _ _ _ hp (fun q hq => ?_)
          subst hq
          intro _
          clear hp
          have e := h _ ((Eq.trans (cfalse c_9) (Eq.trans (cfalse c_10) (Eq.trans (ctrue c_11) (ctrue c_12)))) : oper_Put_F t0 at1 count2 rv3 ahead4 = _).symm
          exact e
        ·
          replace hp := cF c_12 hp
          refine fun _ => oper_Put_J3_sp _ _ _ _ _ _ _ _ hp (fun q hq => ?_)
          subst hq
          intro _
          clear hp
          have e := h _ ((Eq.trans (cfalse c_9) (Eq.trans (cfalse c_10) (Eq.trans (ctrue c_11) (cfalse c_12)))) : oper_Put_F t0 at1 count2 rv3 ahead4 = _).symm
          exact e
      ·
        replace hp := cF c_11 hp
        refine fun _ => oper_Put_J3_sp _ _ _ _ _ _ _ _ hp (fun q hq => ?_)
        subst hq
        intro _
        clear hp
        have e := h _ ((Eq.trans (cfalse c_9) (Eq.trans (cfalse c_10) (cfalse c_11))) : oper_Put_F t0 at1 count2 rv3 ahead4 = _).symm
        exact e
def oper_Put_C (v : valsA oper_Put_A) (K : Res → List Cell → Prop) : Prop := oper_Put_P v.1 v.2.1 v.2.2.1 v.2.2.2.1 v.2.2.2.2.1 ∧ ∀ r : EfD × Int, r = oper_Put_F v.1 v.2.1 v.2.2.1 v.2.2.2.1 v.2.2.2.2.1 → K (.tup [.v EfT r.1, .v (.int .i64) r.2]) []
def oper_Put_S : App := specW oper_Put_A oper_Put_C
theorem oper_Put_wv (K : Res → List Cell → Prop) : ∀ v : valsA oper_Put_A, runF tb (getG oper_Put_G) oper_Put_B3 Tryd.f21 [true, true] (mkA oper_Put_A v) K = oper_Put_raw v.1 v.2.1 v.2.2.1 v.2.2.2.1 v.2.2.2.2.1 K
  | (t0, at1, count2, rv3, ahead4, ()) => oper_Put_walk t0 at1 count2 rv3 ahead4 K
set_option maxRecDepth 20000 in
theorem oper_Put_ok : AppOk Tryd.prog 21 oper_Put_S :=
  AppOk.specW (spec_ok ((runF_ok tb_M tb_ok oper_Put_Gok (oper_Put_b3) (f := 21) (fn := Tryd.f21) (by kernel_rfl) (by kernel_rfl) oper_Put_st [true, true])) fun v K hw h => (oper_Put_wv K v).mpr (oper_Put_sp v.1 v.2.1 v.2.2.1 v.2.2.2.1 v.2.2.2.2.1 K hw h.1 h.2))

end Go.VE
namespace Go.VE
open Go Go.Proofs
/-! ### quoin/quoinlaw19.place -/
def qo_place_G : List (Nat × App) := []
theorem qo_place_Gok : GOk Tryd.prog (getG qo_place_G) := GOk.nil
def qo_place_raw (i0 : Int) (n1 : Int) (K : Res → List Cell → Prop) : Prop :=
 bif (decide (i0 < (0 : Int))) then
 bif decide (n1 ≠ 0) then
 K (.one (.v (.int .i64) (Int.tmod (IntKind.wrap .i64 (0 - (IntKind.wrap .i64 (i0 + (1 : Int))))) n1))) []
 else False
 else
 bif decide (n1 ≠ 0) then
 K (.one (.v (.int .i64) (Int.tmod i0 n1))) []
 else False
def qo_place_A : List AS := [.v (.int .i64), .v (.int .i64)]
theorem qo_place_walk (i0 : Int) (n1 : Int) (K : Res → List Cell → Prop) : runF tb (getG qo_place_G) [] Tryd.f27 [true] (mkA qo_place_A (i0, n1, ())) K = qo_place_raw i0 n1 K := by kernel_rfl

def qo_place_P (i0 : Int) (n1 : Int) : Prop :=
 bif (decide (i0 < (0 : Int))) then
 (n1 ≠ 0)
 else
 (n1 ≠ 0)
def qo_place_F (i0 : Int) (n1 : Int) : Int :=
 bif (decide (i0 < (0 : Int))) then
 (Int.tmod (IntKind.wrap .i64 (0 - (IntKind.wrap .i64 (i0 + (1 : Int))))) n1)
 else
 (Int.tmod i0 n1)
set_option maxRecDepth 20000 in
theorem qo_place_sp (i0 : Int) (n1 : Int) (K : Res → List Cell → Prop) (_ : wfA qo_place_A (i0, n1, ())) (hp : qo_place_P i0 n1) (h : ∀ r : Int, r = qo_place_F i0 n1 → K (.one (.v (.int .i64) r)) []) : qo_place_raw i0 n1 K := by
  unfold qo_place_raw
  unfold qo_place_P at hp
  refine brb (fun c_1 => ?_) (fun c_1 => ?_)
  ·
    replace hp := cT c_1 hp
    refine asrt hp ?_
    exact h _ ((ctrue c_1) : qo_place_F i0 n1 = _).symm
  ·
    replace hp := cF c_1 hp
    refine asrt hp ?_
    exact h _ ((cfalse c_1) : qo_place_F i0 n1 = _).symm
def qo_place_C (v : valsA qo_place_A) (K : Res → List Cell → Prop) : Prop := qo_place_P v.1 v.2.1 ∧ ∀ r : Int, r = qo_place_F v.1 v.2.1 → K (.one (.v (.int .i64) r)) []
def qo_place_S : App := specW qo_place_A qo_place_C
theorem qo_place_wv (K : Res → List Cell → Prop) : ∀ v : valsA qo_place_A, runF tb (getG qo_place_G) [] Tryd.f27 [true] (mkA qo_place_A v) K = qo_place_raw v.1 v.2.1 K
  | (i0, n1, ()) => qo_place_walk i0 n1 K
set_option maxRecDepth 20000 in
theorem qo_place_ok : AppOk Tryd.prog 27 qo_place_S :=
  AppOk.specW (spec_ok ((runF_ok tb_M tb_ok qo_place_Gok (LabsOk.nil) (f := 27) (fn := Tryd.f27) (by kernel_rfl) (by kernel_rfl) (by kernel_rfl) [true])) fun v K hw h => (qo_place_wv K v).mpr (qo_place_sp v.1 v.2.1 K hw h.1 h.2))

end Go.VE
namespace Go.VE
theorem edited_P {t p : List Int} {f g : Int} (h0 : 0 ≤ f) (h1 : f ≤ g) (h2 : g ≤ t.length) (hl : t.length ≤ lim) (hp : p.length ≤ lim) : oper_edited_P t f g p := by
  have hs : (slc t f g).length ≤ lim := by unfold slc; rw [List.length_drop, List.length_take]; omega
  unfold oper_edited_P
  refine ⟨⟨h0, h1, h2⟩, ?_⟩
  dsimp only
  cases bytes_Equal_F (slc t f g) p
  · exact ⟨⟨h0, h1, h2⟩, hs, hp⟩
  · trivial
theorem edited_eq (t : List Int) (f g : Int) (p : List Int) : oper_edited_F t f g p = if slc t f g = p then [] else [(f, slc t f g, p)] := by
  unfold oper_edited_F bytes_Equal_F bytes_Clone_F
  by_cases h : slc t f g = p
  · rw [if_pos h]; dsimp only; rw [decide_eq_true h]; rfl
  · rw [if_neg h]; dsimp only; rw [decide_eq_false h]; rfl
theorem hasP_slc (t : List Int) {f g : Nat} (h1 : f ≤ g) (h2 : g ≤ t.length) (hl : t.length ≤ lim) : bytes_HasPrefix_F (t.drop f) ((t.take g).drop f) = true := by
  unfold bytes_HasPrefix_F
  have e : ((t.take g).drop f).length = g - f := by rw [List.length_drop, List.length_take]; omega
  have e2 : (t.drop f).length = t.length - f := List.length_drop
  dsimp only
  rw [decide_eq_true (by omega), cond_true, e]
  have : List.take (Int.toNat ((g - f : Nat) : Int)) (t.drop f) = (t.take g).drop f := by
    rw [Int.toNat_natCast, List.drop_take]
  rw [this]
  simp [bytes_Equal_F]
theorem apply_one (t p : List Int) {f g : Nat} (h1 : f ≤ g) (h2 : g ≤ t.length) (hl : t.length ≤ lim) : applyL [((f : Int), (t.take g).drop f, p)] t = some (t.take f ++ p ++ t.drop g) := by
  have hp := hasP_slc t h1 h2 hl
  unfold applyL
  rw [if_pos ⟨by omega, by show (f : Int) ≤ _; omega, by simpa using hp⟩]
  unfold applyL slR_F
  have e : ((t.take g).drop f).length = g - f := by rw [List.length_drop, List.length_take]; omega
  dsimp only
  rw [e, Int.toNat_natCast, show ((f : Int) + ((g - f : Nat) : Int)).toNat = g by omega]
theorem slc_nat (t : List Int) (i j : Nat) : slc t (i : Int) (j : Int) = (t.take j).drop i := by
  unfold slc; simp
theorem mid_same (t : List Int) {f g : Nat} (h1 : f ≤ g) : t.take f ++ (t.take g).drop f ++ t.drop g = t := by
  have : t.take f = (t.take g).take f := by rw [List.take_take, Nat.min_eq_left h1]
  rw [this, List.take_append_drop, List.take_append_drop]
theorem apply_edited (t p : List Int) {f g : Nat} (h1 : f ≤ g) (h2 : g ≤ t.length) (hl : t.length ≤ lim) : change_Apply_F t (oper_edited_F t (f : Int) (g : Int) p) = (t.take f ++ p ++ t.drop g, 0) := by
  rw [edited_eq, slc_nat]
  unfold change_Apply_F
  by_cases h : (t.take g).drop f = p
  · rw [if_pos h, applyL, ← h, mid_same t h1]
  · rw [if_neg h, apply_one t p h1 h2 hl]
theorem news_edited (t p : List Int) (f g : Int) : newsL (oper_edited_F t f g p) ≤ p.length := by
  rw [edited_eq]; split <;> simp [newsL]
theorem apply_P (t p : List Int) (f g : Int) (hl : t.length + p.length ≤ lim) : change_Apply_P t (oper_edited_F t f g p) := by
  have := news_edited t p f g
  unfold change_Apply_P; omega
theorem outside_no {t : List Int} {f : Int} (h0 : 0 ≤ f) (h1 : f ≤ t.length) : oper_outside_F t f 1 1 = false := by
  unfold oper_outside_F
  rw [decide_eq_false (by omega), decide_eq_false (by omega)]; rfl
theorem Count_P (t : List Int) : lines_Count_P t := rfl
theorem spanned_any (t : List Int) (at_ : Int) (r : Int × Int × Bool × Bool) : oper_spanned_P t at_ r := by
  have J1 : ∀ a, oper_spanned_J1_P t at_ a r := fun a => ⟨lines_Of_any _ _, lines_Of_any _ _, Count_P _, rfl, rfl, by simp⟩
  unfold oper_spanned_P
  refine ⟨lines_Of_any _ _, ?_⟩
  dsimp only
  cases !decide ((lines_Of_F t r.1).2 = 0)
  · cases decide (r.2.1 < r.1)
    · cases decide ((t.length : Int) < r.2.1)
      · cases !r.2.2.1
        · cases r.2.2.2
          · exact J1 _
          · exact J1 _
        · exact lines_Of_any _ _
      · trivial
    · trivial
  · trivial
theorem has_yes {t : List Int} {f : Int} (h0 : 0 ≤ f) (h1 : f ≤ t.length) : lines_has_F t f = true := by
  unfold lines_has_F
  rw [decide_eq_true h0, decide_eq_true h1]; rfl
theorem Of_eq {t : List Int} {f : Nat} (h1 : f ≤ t.length) : lines_Of_F t (f : Int) = ((cnt (t.take f) : Int), 0) := by
  unfold lines_Of_F
  rw [has_yes (by omega) (by omega)]
  rfl
theorem spanned_plain {t : List Int} {f g : Nat} (at_ : Int) (h1 : f ≤ g) (h2 : g ≤ t.length) (b : Bool) : (oper_spanned_F t at_ ((f : Int), (g : Int), false, b)).2.2 = true := by
  unfold oper_spanned_F
  rw [Of_eq (by omega)]
  dsimp only
  rw [decide_eq_false (by omega : ¬ (g : Int) < f), decide_eq_false (by omega : ¬ (t.length : Int) < g)]
  rfl
end Go.VE
namespace Go.VE
open Go Go.Proofs
/-! ### quoin/change.Size -/
def change_Size_G : List (Nat × App) := []
theorem change_Size_Gok : GOk Tryd.prog (getG change_Size_G) := GOk.nil
theorem change_Size_st : storesC (bodyOf Tryd.f81) = true := by kernel_rfl
def change_Size_d0 : List LS := [.v 3 (.int .i64), .v 6 (.sl (.st (.pair (.int .i64) (.pair (.sl (.int .u8)) (.sl (.int .u8)))))), .v 7 (.int .i64), .v 8 (.int .i64)]
def change_Size_d0x0 : List LS := [.v 3 (.int .i64)]
def change_Size_dx0 : DX := ⟨none, none, [(0, change_Size_d0x0)]⟩
def change_Size_T0 (Y : Int → List ((Int × List Int × List Int)) → Int → Int → Prop) (kx0 : Int → Prop) (n3 : Int) (x6 : List ((Int × List Int × List Int))) (x7 : Int) (x8 : Int) : Prop :=
 bif (decide (x8 < x7)) then
 bif decide (0 ≤ x8 ∧ x8 < (List.length x6 : Int)) then
 Y (IntKind.wrap .i64 (n3 + (IntKind.wrap .i64 ((List.length ((rd ((0 : Int), ([] : List Int), ([] : List Int)) x6 x8).2.2) : Int) - (List.length ((rd ((0 : Int), ([] : List Int), ([] : List Int)) x6 x8).2.1) : Int))))) x6 x7 (IntKind.wrap .i64 (x8 + (1 : Int)))
 else False
 else
 kx0 n3
def change_Size_L0 (kx0 : Int → Prop) : Nat → Int → List ((Int × List Int × List Int)) → Int → Int → Prop
  | 0, _, _, _, _ => False
  | n + 1, n3, x6, x7, x8 => wfD change_Size_d0 (n3, x6, x7, x8, ()) → change_Size_T0 (change_Size_L0 kx0 n) kx0 n3 x6 x7 x8
theorem change_Size_s0 (k : Ex → St → Prop) (Y : vals change_Size_d0 → Prop) (n3 : Int) (x6 : List ((Int × List Int × List Int))) (x7 : Int) (x8 : Int) :
    ex tb (getG change_Size_G) [] (at' (bodyOf Tryd.f81) [0, 0, 1, 0, 1, 1]) [0, 0, 1, 0, 1, 1] (mkD 23 change_Size_d0 (n3, x6, x7, x8, ())) (lpK 23 change_Size_d0 change_Size_dx0 k Y) =
    change_Size_T0 (fun n3 x6 x7 x8 => Y (n3, x6, x7, x8, ())) (fun n3 => wfD change_Size_d0x0 (n3, ()) → k (.exit 0) (mkD 23 change_Size_d0x0 (n3, ()))) n3 x6 x7 x8 := by kernel_rfl
theorem change_Size_e0 (k : Ex → St → Prop) : ∀ (n : Nat) (n3 : Int) (x6 : List ((Int × List Int × List Int))) (x7 : Int) (x8 : Int), lpD 23 change_Size_d0 change_Size_dx0 (ex tb (getG change_Size_G) [] (at' (bodyOf Tryd.f81) [0, 0, 1, 0, 1, 1]) [0, 0, 1, 0, 1, 1]) k n (n3, x6, x7, x8, ()) = change_Size_L0 (fun n3 => wfD change_Size_d0x0 (n3, ()) → k (.exit 0) (mkD 23 change_Size_d0x0 (n3, ()))) n n3 x6 x7 x8
  | 0, _, _, _, _ => rfl
  | n + 1, n3, x6, x7, x8 => congrArg (fun Z : Prop => wfD change_Size_d0 (n3, x6, x7, x8, ()) → Z) ((change_Size_s0 k (lpD 23 change_Size_d0 change_Size_dx0 (ex tb (getG change_Size_G) [] (at' (bodyOf Tryd.f81) [0, 0, 1, 0, 1, 1]) [0, 0, 1, 0, 1, 1]) k n) n3 x6 x7 x8).trans (congrArg (fun Y => change_Size_T0 Y (fun n3 => wfD change_Size_d0x0 (n3, ()) → k (.exit 0) (mkD 23 change_Size_d0x0 (n3, ()))) n3 x6 x7 x8) (funext fun n3 => funext fun x6 => funext fun x7 => funext fun x8 => change_Size_e0 k n n3 x6 x7 x8)))
theorem change_Size_v0 (k : Ex → St → Prop) (n : Nat) : ∀ v : vals change_Size_d0, lpD 23 change_Size_d0 change_Size_dx0 (ex tb (getG change_Size_G) [] (at' (bodyOf Tryd.f81) [0, 0, 1, 0, 1, 1]) [0, 0, 1, 0, 1, 1]) k n v = change_Size_L0 (fun n3 => wfD change_Size_d0x0 (n3, ()) → k (.exit 0) (mkD 23 change_Size_d0x0 (n3, ()))) n v.1 v.2.1 v.2.2.1 v.2.2.2.1
  | (n3, x6, x7, x8, ()) => change_Size_e0 k n n3 x6 x7 x8
def change_Size_X0 : Pce := fun st k => ckD 23 change_Size_d0 st fun v => wfD change_Size_d0 v → ∃ n, change_Size_L0 (fun n3 => wfD change_Size_d0x0 (n3, ()) → k (.exit 0) (mkD 23 change_Size_d0x0 (n3, ()))) n v.1 v.2.1 v.2.2.1 v.2.2.2.1
set_option maxRecDepth 20000 in
theorem change_Size_x0 : SemOk Tryd.prog (at' (bodyOf Tryd.f81) [0, 1, 0, 1, 1]) change_Size_X0 :=
  (SemOk.loop (ex_sound tb_M tb_ok change_Size_Gok (LabsOk.nil) (at' (bodyOf Tryd.f81) [0, 0, 1, 0, 1, 1]) [0, 0, 1, 0, 1, 1] rfl (storesC_at change_Size_st [0, 0, 1, 0, 1, 1])) 23 change_Size_d0 change_Size_dx0).mono fun st k h => ckD_mono h fun v hv hw => (hv hw).elim fun n hn => ⟨n, Eq.mpr (change_Size_v0 k n v) hn⟩
def change_Size_B0 : Labs := ([0, 1, 0, 1, 1], change_Size_X0) :: []
theorem change_Size_b0 : LabsOk Tryd.prog (bodyOf Tryd.f81) change_Size_B0 := LabsOk.cons change_Size_x0 (LabsOk.nil)
def change_Size_raw (edits0 : List ((Int × List Int × List Int))) (K : Res → List Cell → Prop) : Prop :=
 (wfD change_Size_d0 ((0 : Int), edits0, (List.length edits0 : Int), (0 : Int), ()) → ∃ n, change_Size_L0 (fun (n3 : Int) => wfD change_Size_d0x0 (n3, ()) → (
 K (.one (.v (.int .i64) n3)) [])) n (0 : Int) edits0 (List.length edits0 : Int) (0 : Int))
def change_Size_A : List AS := [.v (.sl (.st (.pair (.int .i64) (.pair (.sl (.int .u8)) (.sl (.int .u8))))))]
theorem change_Size_walk (edits0 : List ((Int × List Int × List Int))) (K : Res → List Cell → Prop) : runF tb (getG change_Size_G) change_Size_B0 Tryd.f81 [true] (mkA change_Size_A (edits0, ())) K = change_Size_raw edits0 K := by kernel_rfl
--! pre 1
def massL : List (Int × List Int × List Int) → Nat
  | [] => 0
  | e :: r => e.2.1.length + e.2.2.length + massL r
def sizeL : List (Int × List Int × List Int) → Int
  | [] => 0
  | e :: r => (e.2.2.length : Int) - (e.2.1.length : Int) + sizeL r
def change_Size_P (edits : List (Int × List Int × List Int)) : Prop := massL edits ≤ lim
def change_Size_F (edits : List (Int × List Int × List Int)) : Int := sizeL edits
theorem change_Size_l0 (kx0 : Int → Prop) (edits : List (Int × List Int × List Int)) (hl : edits.length ≤ 9223372036854775807) : ∀ (n i : Nat) (acc : Int), edits.length < n + i → i ≤ edits.length →
    -1099511627776 ≤ acc - (massL (edits.drop i) : Int) → acc + (massL (edits.drop i) : Int) ≤ 1099511627776 → kx0 (acc + sizeL (edits.drop i)) → change_Size_L0 kx0 n acc edits (edits.length : Int) (i : Int)
  | 0, i, acc, h, h2, _, _, _ => by omega
  | n + 1, i, acc, h, h2, m1, m2, hk => by
    intro _
    unfold change_Size_T0
    refine brn (fun hlt => asrt ⟨by omega, hlt⟩ ?_) (fun hge => ?_)
    · have hi : i < edits.length := by omega
      rw [List.drop_eq_getElem_cons hi] at m1 m2 hk
      rw [rd_nat _ _ _ hi]
      simp only [massL, sizeL] at m1 m2 hk
      generalize edits[i] = e at *
      rw [wrap_i64 (n := (List.length e.2.2 : Int) - (List.length e.2.1 : Int)) (by omega) (by omega), wrap_i64 (n := acc + ((List.length e.2.2 : Int) - (List.length e.2.1 : Int))) (by omega) (by omega), wrap_i64 (n := (i : Int) + 1) (by omega) (by omega), show (i : Int) + 1 = ((i + 1 : Nat) : Int) by omega]
      refine change_Size_l0 kx0 edits hl n (i + 1) _ (by omega) (by omega) (by omega) (by omega) ?_
      rw [Int.add_assoc]; exact hk
    · rw [List.drop_eq_nil_of_le (by omega), sizeL, Int.add_zero] at hk
      exact hk
theorem change_Size_sp (edits : List (Int × List Int × List Int)) (K : Res → List Cell → Prop) (hw : wfA change_Size_A (edits, ())) (hp : change_Size_P edits) (h : ∀ r : Int, r = change_Size_F edits → K (.one (.v (.int .i64) r)) []) : change_Size_raw edits K := by
  have hp : massL edits ≤ 1099511627776 := hp
  unfold change_Size_raw
  intro _
  exact ⟨edits.length + 1, change_Size_l0 _ edits hw.1.1 (edits.length + 1) 0 0 (by omega) (Nat.zero_le _) (by rw [List.drop_zero]; omega) (by rw [List.drop_zero]; omega) (fun _ => h _ (by rw [List.drop_zero, Int.zero_add]; rfl))⟩

def change_Size_C (v : valsA change_Size_A) (K : Res → List Cell → Prop) : Prop := change_Size_P v.1 ∧ ∀ r : Int, r = change_Size_F v.1 → K (.one (.v (.int .i64) r)) []
def change_Size_S : App := specW change_Size_A change_Size_C
theorem change_Size_wv (K : Res → List Cell → Prop) : ∀ v : valsA change_Size_A, runF tb (getG change_Size_G) change_Size_B0 Tryd.f81 [true] (mkA change_Size_A v) K = change_Size_raw v.1 K
  | (edits0, ()) => change_Size_walk edits0 K
set_option maxRecDepth 20000 in
theorem change_Size_ok : AppOk Tryd.prog 81 change_Size_S :=
  AppOk.specW (spec_ok ((runF_ok tb_M tb_ok change_Size_Gok (change_Size_b0) (f := 81) (fn := Tryd.f81) (by kernel_rfl) (by kernel_rfl) change_Size_st [true])) fun v K hw h => (change_Size_wv K v).mpr (change_Size_sp v.1 K hw h.1 h.2))

end Go.VE
namespace Go.VE
def zeroE : Eff := ([], 0, (false, false, []), 0, false)
def FitsE (t : List Int) (es : List (Int × List Int × List Int)) (cur : Int) : Prop := (change_Apply_F t es).2 = 0 ∧ 0 ≤ cur ∧ cur ≤ ((change_Apply_F t es).1.length : Int)
def Fine (t : List Int) (r : Eff × Int) : Prop := (r.2 ≠ 0 ∧ r.1 = zeroE) ∨ (r.2 = 0 ∧ FitsE t r.1.1 r.1.2.1 ∧ massL r.1.1 ≤ 1073741824)
theorem applyL_size : ∀ (es : List (Int × List Int × List Int)) (t u : List Int), applyL es t = some u → (u.length : Int) = (t.length : Int) + sizeL es
  | [], t, u, h => by
    unfold applyL at h
    injection h with h
    subst h
    unfold sizeL
    omega
  | e :: r, t, u, h => by
    unfold applyL at h
    split at h
    · rename_i hc
      have ih := applyL_size r _ u h
      have hp := hasP_le hc.2.2
      rw [List.length_drop] at hp
      unfold slR_F at ih
      rw [List.length_append, List.length_append, List.length_take, List.length_drop] at ih
      unfold sizeL
      omega
    · cases h
theorem apply_size {t : List Int} {es : List (Int × List Int × List Int)} (h : (change_Apply_F t es).2 = 0) : ((change_Apply_F t es).1.length : Int) = (t.length : Int) + sizeL es := by
  unfold change_Apply_F at h ⊢
  cases hu : applyL es t with
  | none => rw [hu] at h; cases h
  | some u => exact applyL_size es t u hu
theorem news_le_mass : ∀ es : List (Int × List Int × List Int), newsL es ≤ massL es
  | [] => Nat.le_refl _
  | e :: r => by
    have := news_le_mass r
    unfold newsL massL
    omega
theorem size_le_mass : ∀ es : List (Int × List Int × List Int), -(massL es : Int) ≤ sizeL es ∧ sizeL es ≤ (massL es : Int)
  | [] => by unfold massL sizeL; omega
  | e :: r => by
    have := size_le_mass r
    unfold massL sizeL
    omega
theorem apply_P' {t : List Int} {es : List (Int × List Int × List Int)} (ht : t.length ≤ 1073741824) (h : massL es ≤ 1073741824) : change_Apply_P t es := by
  have := news_le_mass es
  show t.length + newsL es ≤ lim
  unfold lim
  omega
theorem fits_edited (t p : List Int) {f g : Nat} (h1 : f ≤ g) (h2 : g ≤ t.length) (hl : t.length ≤ lim) {cur : Int} (h0 : 0 ≤ cur) (hc : cur ≤ (f : Int) + (p.length : Int) + ((t.length : Int) - (g : Int))) : FitsE t (oper_edited_F t (f : Int) (g : Int) p) cur := by
  unfold FitsE
  rw [apply_edited t p h1 h2 hl]
  refine ⟨rfl, h0, ?_⟩
  show cur ≤ ((t.take f ++ p ++ t.drop g).length : Int)
  rw [List.length_append, List.length_append, List.length_take, List.length_drop]
  omega
theorem fits_none (t : List Int) {cur : Int} (h0 : 0 ≤ cur) (hc : cur ≤ (t.length : Int)) : FitsE t [] cur := ⟨rfl, h0, hc⟩
theorem slc_le' (t : List Int) (f g : Int) : (slc t f g).length ≤ t.length := by
  unfold slc; rw [List.length_drop, List.length_take]; omega
theorem mass_edited (t p : List Int) (f g : Int) : massL (oper_edited_F t f g p) ≤ t.length + p.length := by
  have := slc_le' t f g
  rw [edited_eq]
  split
  · unfold massL; omega
  · simp only [massL]; omega
theorem scanB_range (t : List Int) : ∀ (m i j : Nat), scanB t m i = some j → i ≤ j ∧ j < i + m
  | 0, i, j, h => by cases h
  | m + 1, i, j, h => by
    unfold scanB at h
    split at h
    · have := scanB_range t m (i + 1) j h; omega
    · injection h with h; omega
theorem First_le (t : List Int) (n : Int) (ht : t.length ≤ 9223372036854775807) : 0 ≤ (lines_First_F t n).1 ∧ (lines_First_F t n).1 ≤ (t.length : Int) := by
  have hs := lines_Start_F_le t n
  have hr := tail_range t ht _ hs.1 hs.2
  unfold lines_First_F
  split
  · generalize (lines_Start_F t n).1 = s at *
    generalize lines_tail_F t s = e at *
    split
    · rename_i j hj
      have := scanB_range t _ _ _ hj
      show 0 ≤ (j : Int) ∧ (j : Int) ≤ (t.length : Int)
      omega
    · show 0 ≤ mx s (IntKind.wrap .i64 (e - 1)) ∧ mx s (IntKind.wrap .i64 (e - 1)) ≤ (t.length : Int)
      rw [wrap_i64 (by omega) (by omega)]
      unfold mx
      by_cases c : s < e - 1
      · rw [decide_eq_true c]; show 0 ≤ e - 1 ∧ e - 1 ≤ (t.length : Int); omega
      · rw [decide_eq_false c]; show 0 ≤ s ∧ s ≤ (t.length : Int); omega
  · exact ⟨Int.le_refl _, by show (0 : Int) ≤ (t.length : Int); omega⟩
theorem At_le (t : List Int) (n c : Int) (ht : t.length ≤ 1073741824) (hc : c ≤ 9223372036854775807) : 0 ≤ (lines_At_F t n c).1 ∧ (lines_At_F t n c).1 ≤ (t.length : Int) := by
  have hs := lines_Start_F_le t n
  have hr := tail_range t (by omega) _ hs.1 hs.2
  have z : (0 : Int) ≤ 0 ∧ (0 : Int) ≤ (t.length : Int) := ⟨Int.le_refl _, by omega⟩
  unfold lines_At_F
  dsimp only
  by_cases c1 : (lines_Start_F t n).2 = 0
  · rw [decide_eq_true c1]
    generalize (lines_Start_F t n).1 = s at *
    by_cases c2 : c < -1
    · rw [decide_eq_true c2]; exact z
    · rw [decide_eq_false c2]
      generalize lines_tail_F t s = e at *
      have hm : 0 ≤ mx s (IntKind.wrap .i64 (e - 1)) ∧ mx s (IntKind.wrap .i64 (e - 1)) ≤ (t.length : Int) ∧ s ≤ mx s (IntKind.wrap .i64 (e - 1)) := by
        rw [wrap_i64 (by omega) (by omega)]
        unfold mx
        by_cases c : s < e - 1
        · rw [decide_eq_true c]; show 0 ≤ e - 1 ∧ e - 1 ≤ (t.length : Int) ∧ s ≤ e - 1; omega
        · rw [decide_eq_false c]; show 0 ≤ s ∧ s ≤ (t.length : Int) ∧ s ≤ s; omega
      generalize mx s (IntKind.wrap .i64 (e - 1)) = m at *
      by_cases c3 : c = -1
      · rw [decide_eq_true c3]; exact ⟨hm.1, hm.2.1⟩
      · rw [decide_eq_false c3]
        show 0 ≤ (bif decide (IntKind.wrap .i64 (m - s) < c) then (m, (0 : Int)) else (IntKind.wrap .i64 (s + c), (0 : Int))).1 ∧ (bif decide (IntKind.wrap .i64 (m - s) < c) then (m, (0 : Int)) else (IntKind.wrap .i64 (s + c), (0 : Int))).1 ≤ (t.length : Int)
        rw [wrap_i64 (n := m - s) (by omega) (by omega)]
        by_cases c4 : m - s < c
        · rw [decide_eq_true c4]; exact ⟨hm.1, hm.2.1⟩
        · rw [decide_eq_false c4]
          show 0 ≤ IntKind.wrap .i64 (s + c) ∧ IntKind.wrap .i64 (s + c) ≤ (t.length : Int)
          rw [wrap_i64 (by omega) (by omega)]
          omega
  · rw [decide_eq_false c1]; exact z
theorem stay_le (j : Job) (h1 : 0 ≤ j.2.2.1.1) (h2 : j.2.2.1.1 ≤ (j.1.length : Int)) (ht : j.1.length ≤ 1073741824) (hc : (lines_Column_F j.1 j.2.1).1 ≤ 9223372036854775807) : 0 ≤ oj_stay_F j ∧ oj_stay_F j ≤ (j.1.length : Int) := by
  unfold oj_stay_F
  cases j.2.2.1.2.2.1
  · exact ⟨h1, h2⟩
  · exact At_le _ _ _ ht hc
theorem Column_le (t : List Int) (p : Int) : (lines_Column_F t p).1 ≤ 9223372036854775807 := by
  unfold lines_Column_F
  dsimp only
  cases lines_has_F t p
  · show (0 : Int) ≤ _; decide
  · exact (inR_wrap .i64 _).2
end Go.VE
namespace Go.VE
def unlT : List (List Int) → List Int
  | [] => []
  | l :: r => 10 :: (l ++ unlT r)
def unl : List (List Int) → List Int
  | [] => []
  | l :: r => l ++ unlT r
theorem unlT_append : ∀ A B : List (List Int), unlT (A ++ B) = unlT A ++ unlT B
  | [], B => rfl
  | a :: A, B => by
    show 10 :: (a ++ unlT (A ++ B)) = _
    rw [unlT_append A B]
    simp [unlT]
theorem unlT_unl {L : List (List Int)} (h : L ≠ []) : unlT L = 10 :: unl L := by
  cases L with
  | nil => exact absurd rfl h
  | cons a r => rfl
theorem cnt_unlT : ∀ L : List (List Int), (∀ x ∈ L, (10 : Int) ∉ x) → cnt (unlT L) = L.length
  | [], _ => rfl
  | a :: r, h => by
    have h1 := cnt_zero (h a List.mem_cons_self)
    have h2 := cnt_unlT r (fun x hx => h x (List.mem_cons_of_mem _ hx))
    unfold cnt at h1 h2 ⊢
    unfold unlT
    rw [List.count_cons_self, List.count_append, h1, h2, List.length_cons]
    omega
theorem splN_ok : ∀ (n : Nat) (s : List Int), n = cnt s → unl (splN n s) = s ∧ (∀ x ∈ splN n s, (10 : Int) ∉ x) ∧ (splN n s).length = n + 1
  | 0, s, h => by
    refine ⟨by simp [splN, unl, unlT], fun x hx => ?_, rfl⟩
    simp only [splN, List.mem_singleton] at hx
    subst hx
    exact List.count_eq_zero.1 h.symm
  | n + 1, s, h => by
    have hmem : (10 : Int) ∈ s := List.count_pos_iff.1 (by unfold cnt at h; omega)
    have hi : ¬ idxB s 10 < 0 := by unfold idxB; rw [if_pos hmem]; omega
    obtain ⟨_, he⟩ := idxB_some hi
    obtain ⟨f1, f2⟩ := idxOf_first hmem
    have hk : (idxB s 10).toNat = s.idxOf 10 := by rw [he]; rfl
    generalize s.idxOf 10 = k at *
    obtain ⟨hlt, hget⟩ := List.getElem?_eq_some_iff.1 f1
    have hd : s.drop k = 10 :: s.drop (k + 1) := by rw [List.drop_eq_getElem_cons hlt, hget]
    have hc : cnt (s.drop (k + 1)) = n := by
      have e := cnt_split s k
      rw [hd] at e
      have e1 := cnt_zero f2
      unfold cnt at *
      rw [List.count_cons_self] at e
      omega
    obtain ⟨g1, g2, g3⟩ := splN_ok n (s.drop (k + 1)) hc.symm
    rw [splN, if_neg hi, hk]
    refine ⟨?_, fun x hx => ?_, by rw [List.length_cons, g3]⟩
    · show s.take k ++ unlT (splN n (s.drop (k + 1))) = s
      rw [unlT_unl (by intro e; rw [e] at g3; simp at g3), g1, ← hd, List.take_append_drop]
    · rcases List.mem_cons.1 hx with e | e
      · rw [e]; exact f2
      · exact g2 x e
theorem split_ok (t : List Int) : unl (lines_Split_F t) = t ∧ (∀ x ∈ lines_Split_F t, (10 : Int) ∉ x) ∧ (lines_Split_F t).length = cnt t + 1 := splN_ok (cnt t) t rfl
def headW : List (List Int) → List Int
  | [] => []
  | a :: A => unl (a :: A) ++ [10]
theorem unl_append {A X : List (List Int)} (hX : X ≠ []) : unl (A ++ X) = headW A ++ unl X := by
  cases A with
  | nil => rfl
  | cons a A =>
    show a ++ unlT (A ++ X) = ((a ++ unlT A) ++ [10]) ++ unl X
    rw [unlT_append, unlT_unl hX]
    simp
theorem headW_cnt {A : List (List Int)} (hA : ∀ x ∈ A, (10 : Int) ∉ x) : cnt (headW A) = A.length := by
  cases A with
  | nil => rfl
  | cons a A =>
    show cnt ((a ++ unlT A) ++ [10]) = _
    rw [cnt_append, cnt_append, cnt_zero (hA a List.mem_cons_self), cnt_unlT A (fun x hx => hA x (List.mem_cons_of_mem _ hx)), List.length_cons]
    show 0 + A.length + 1 = _
    omega
theorem headW_begins {A X : List (List Int)} (hX : X ≠ []) (hA : ∀ x ∈ A, (10 : Int) ∉ x) : Begins (unl (A ++ X)) A.length (headW A).length := by
  rw [unl_append hX]
  refine ⟨by rw [List.length_append]; omega, by rw [List.take_left]; exact headW_cnt hA, ?_⟩
  cases A with
  | nil => exact .inl rfl
  | cons a A =>
    right
    show ((unl (a :: A) ++ [10]) ++ unl X)[(unl (a :: A) ++ [10]).length - 1]? = some 10
    rw [List.length_append, List.length_singleton, Nat.add_sub_cancel, List.append_assoc, List.getElem?_append_right (Nat.le_refl _), Nat.sub_self]
    rfl
theorem apply_head (w l rest q : List Int) (n : Nat) (hn : n ≤ l.length) (es : List (Int × List Int × List Int)) : applyL (((w.length : Int), l.take n, q) :: es) (w ++ (l ++ rest)) = applyL es (w ++ (q ++ l.drop n ++ rest)) := by
  have hp : bytes_HasPrefix_F ((w ++ (l ++ rest)).drop (w.length : Int).toNat) (l.take n) = true := by
    rw [Int.toNat_natCast, List.drop_left]
    unfold bytes_HasPrefix_F
    have e1 : (l.take n).length = n := by rw [List.length_take]; omega
    dsimp only
    rw [e1, decide_eq_true (by rw [List.length_append]; omega), cond_true, Int.toNat_natCast, List.take_append_of_le_length hn]
    unfold bytes_Equal_F
    exact decide_eq_true rfl
  rw [applyL, if_pos ⟨by show (0 : Int) ≤ (w.length : Int); omega, by show (w.length : Int) ≤ _; rw [List.length_append]; omega, hp⟩]
  unfold slR_F
  dsimp only
  rw [Int.toNat_natCast, List.take_left, List.length_take, Nat.min_eq_left hn, show ((w.length : Int) + (n : Int)).toNat = w.length + n by omega, ← List.drop_drop, List.drop_left, List.drop_append_of_le_length hn]
  simp only [List.append_assoc]
def hdL (g : List Int → Int × List Int) (l : List Int) : List Int := (g l).2 ++ l.drop (g l).1.toNat
theorem heads_one {g : List Int → Int × List Int} {l : List Int} (hl : 0 ≤ (g l).1 ∧ (g l).1 ≤ (l.length : Int)) {M : List (List Int)} {w rest : List Int} {p grown : Int} (hp : (w.length : Int) = p + grown) :
    ∃ grown', applyL (headsL g (l :: M) p grown) (w ++ (l ++ rest)) = applyL (headsL g M (p + ((l.length : Int) + 1)) grown') (w ++ (hdL g l ++ rest)) ∧ ((w ++ hdL g l).length : Int) + 1 = p + ((l.length : Int) + 1) + grown' := by
  have eh : headsL g (l :: M) p grown = if 0 < (g l).1 ∨ 0 < (g l).2.length then (p + grown, l.take (g l).1.toNat, (g l).2) :: headsL g M (p + ((l.length : Int) + 1)) (grown + (((g l).2.length : Int) - (g l).1)) else headsL g M (p + ((l.length : Int) + 1)) grown := rfl
  rw [eh]
  by_cases c : 0 < (g l).1 ∨ 0 < (g l).2.length
  · rw [if_pos c, ← hp, apply_head w l rest _ _ (by omega)]
    refine ⟨_, rfl, ?_⟩
    unfold hdL
    rw [List.length_append, List.length_append, List.length_drop]
    omega
  · have e : hdL g l = l := by
      have h2 : (g l).2 = [] := List.eq_nil_of_length_eq_zero (by omega)
      unfold hdL
      rw [h2, show (g l).1.toNat = 0 by omega]
      rfl
    rw [if_neg c, e]
    exact ⟨grown, rfl, by rw [List.length_append]; omega⟩
theorem heads_tail (g : List Int → Int × List Int) (B : List (List Int)) : ∀ (M : List (List Int)) (w : List Int) (p grown : Int), (w.length : Int) + 1 = p + grown → (∀ l ∈ M, 0 ≤ (g l).1 ∧ (g l).1 ≤ (l.length : Int)) →
    applyL (headsL g M p grown) (w ++ unlT (M ++ B)) = some (w ++ unlT (M.map (hdL g) ++ B))
  | [], w, p, grown, _, _ => rfl
  | l :: M, w, p, grown, hp, hM => by
    obtain ⟨grown', e1, e2⟩ := heads_one (hM l List.mem_cons_self) (M := M) (w := w ++ [10]) (rest := unlT (M ++ B)) (p := p) (grown := grown) (by rw [List.length_append, List.length_singleton]; omega)
    have ih := heads_tail g B M ((w ++ [10]) ++ hdL g l) _ _ e2 (fun x hx => hM x (List.mem_cons_of_mem _ hx))
    have t1 : w ++ unlT (l :: M ++ B) = (w ++ [10]) ++ (l ++ unlT (M ++ B)) := by
      show w ++ (10 :: (l ++ unlT (M ++ B))) = _
      rw [List.append_assoc]; rfl
    have t2 : w ++ unlT ((l :: M).map (hdL g) ++ B) = ((w ++ [10]) ++ hdL g l) ++ unlT (M.map (hdL g) ++ B) := by
      show w ++ (10 :: (hdL g l ++ unlT (M.map (hdL g) ++ B))) = _
      rw [List.append_assoc, List.append_assoc]; rfl
    rw [t1, e1, t2, ← ih, List.append_assoc (w ++ [10])]
theorem heads_law (g : List Int → Int × List Int) (M B : List (List Int)) (w : List Int) (p : Int) (hp : (w.length : Int) = p) (hM : ∀ l ∈ M, 0 ≤ (g l).1 ∧ (g l).1 ≤ (l.length : Int)) :
    applyL (headsL g M p 0) (w ++ unl (M ++ B)) = some (w ++ unl (M.map (hdL g) ++ B)) := by
  cases M with
  | nil => rfl
  | cons l M =>
    obtain ⟨grown', e1, e2⟩ := heads_one (hM l List.mem_cons_self) (M := M) (w := w) (rest := unlT (M ++ B)) (p := p) (grown := 0) (by omega)
    have ih := heads_tail g B M (w ++ hdL g l) _ _ e2 (fun x hx => hM x (List.mem_cons_of_mem _ hx))
    show applyL (headsL g (l :: M) p 0) (w ++ (l ++ unlT (M ++ B))) = some (w ++ (hdL g l ++ unlT (M.map (hdL g) ++ B)))
    rw [e1, ← List.append_assoc, ih, List.append_assoc]
theorem mass_heads (g : List Int → Int × List Int) : ∀ (M : List (List Int)) (p grown : Int), massL (headsL g M p grown) ≤ massH g M
  | [], _, _ => Nat.le_refl _
  | l :: M, p, grown => by
    unfold headsL massH
    split
    · have := mass_heads g M (p + ((l.length : Int) + 1)) (grown + (((g l).2.length : Int) - (g l).1))
      unfold massL
      dsimp only
      rw [List.length_take]
      omega
    · have := mass_heads g M (p + ((l.length : Int) + 1)) grown
      omega
theorem unlT_length : ∀ L : List (List Int), (unlT L).length = massH (fun _ => (0, [])) L
  | [] => rfl
  | l :: r => by
    have := unlT_length r
    unfold unlT massH
    rw [List.length_cons, List.length_append, this]
    show _ = l.length + 1 + 0 + _
    omega
theorem massH_append (g : List Int → Int × List Int) : ∀ A B : List (List Int), massH g (A ++ B) = massH g A + massH g B
  | [], B => by simp [massH]
  | a :: A, B => by
    show a.length + 1 + (g a).2.length + massH g (A ++ B) = a.length + 1 + (g a).2.length + massH g A + massH g B
    rw [massH_append g A B]
    omega
theorem unl_length {L : List (List Int)} (h : L ≠ []) : (unl L).length + 1 = massH (fun _ => (0, [])) L := by
  rw [← unlT_length, unlT_unl h, List.length_cons]
theorem split_three (t : List Int) {a b : Nat} (hab : a ≤ b) (hb : b ≤ cnt t) : ∃ A M B : List (List Int), lines_Split_F t = A ++ (M ++ B) ∧ A.length = a ∧ M.length = b - a + 1 ∧ slc (lines_Split_F t) (a : Int) ((b : Int) + 1) = M ∧
    t = headW A ++ unl (M ++ B) ∧ Begins t a (headW A).length ∧ massH (fun _ => (0, [])) M ≤ t.length + 1 := by
  obtain ⟨h1, h2, h3⟩ := split_ok t
  generalize lines_Split_F t = L at *
  refine ⟨L.take a, (L.take (b + 1)).drop a, L.drop (b + 1), ?_, by rw [List.length_take]; omega, by rw [List.length_drop, List.length_take]; omega, ?_, ?_, ?_, ?_⟩
  · have e : L.take a = (L.take (b + 1)).take a := by rw [List.take_take, Nat.min_eq_left (by omega)]
    rw [← List.append_assoc, e, List.take_append_drop, List.take_append_drop]
  · unfold slc
    rw [Int.toNat_natCast, show ((b : Int) + 1).toNat = b + 1 by omega]
  all_goals
    have e0 : L = L.take a ++ ((L.take (b + 1)).drop a ++ L.drop (b + 1)) := by
      have e : L.take a = (L.take (b + 1)).take a := by rw [List.take_take, Nat.min_eq_left (by omega)]
      rw [← List.append_assoc, e, List.take_append_drop, List.take_append_drop]
    have hX : (L.take (b + 1)).drop a ++ L.drop (b + 1) ≠ [] := by
      intro e
      have := congrArg List.length e
      rw [List.length_append, List.length_drop, List.length_take, List.length_nil] at this
      omega
  · rw [← unl_append hX, ← e0, h1]
  · have := headW_begins hX (A := L.take a) (fun x hx => h2 x (List.mem_of_mem_take hx))
    rw [← e0, h1, List.length_take, Nat.min_eq_left (by omega)] at this
    exact this
  · have e1 : (unl L).length + 1 = massH (fun _ => (0, [])) L := unl_length (by intro e; rw [e] at h3; simp at h3)
    rw [h1] at e1
    have e2 := congrArg (massH (fun _ => ((0 : Int), ([] : List Int)))) e0
    rw [massH_append, massH_append] at e2
    omega
end Go.VE
namespace Go.VE
theorem slc_le (t : List Int) (f g : Int) : (slc t f g).length ≤ t.length := by
  unfold slc; rw [List.length_drop, List.length_take]; omega
theorem place_P {i : Int} {n : Nat} (hn : n ≤ 20000) : qo_place_P i (IntKind.wrap .i64 ((n : Int) + 1)) := by
  rw [wrap_i64 (by omega) (by omega)]
  unfold qo_place_P
  cases decide (i < 0) <;> show _ ≠ _ <;> omega
theorem place_F {i : Int} {n : Nat} (hn : n ≤ 20000) (h1 : -9223372036854775808 ≤ i) (h2 : i ≤ 9223372036854775807) : ∃ k : Nat, qo_place_F i (IntKind.wrap .i64 ((n : Int) + 1)) = (k : Int) ∧ k ≤ n := by
  have key : ∀ j : Int, 0 ≤ j → ∃ k : Nat, Int.tmod j ((n : Int) + 1) = (k : Int) ∧ k ≤ n := fun j hj => by
    have g1 := Int.tmod_nonneg ((n : Int) + 1) hj
    have g2 := Int.tmod_lt_of_pos j (show (0 : Int) < (n : Int) + 1 by omega)
    exact ⟨(Int.tmod j ((n : Int) + 1)).toNat, by omega, by omega⟩
  rw [wrap_i64 (n := (n : Int) + 1) (by omega) (by omega)]
  unfold qo_place_F
  by_cases c : i < 0
  · rw [decide_eq_true c, cond_true, wrap_i64 (n := i + 1) (by omega) (by omega), wrap_i64 (by omega) (by omega)]
    exact key _ (by omega)
  · rw [decide_eq_false c, cond_false]
    exact key _ (by omega)
end Go.VE
namespace Go.VE
theorem put_J0 {t p all : List Int} {at_ : Int} {x} (h0 : 0 ≤ at_) (h1 : at_ ≤ t.length) (hl : t.length ≤ lim) (ha : all.length ≤ lim) : oper_Put_J0_P t at_ p all x := edited_P h0 (Int.le_refl _) h1 hl ha
theorem put_J1 {t all : List Int} {line place : Int} {x} (h0 : 0 ≤ place) (h1 : place ≤ t.length) (hl : t.length + all.length ≤ lim) : oper_Put_J1_P t all line place x :=
  ⟨edited_P h0 (Int.le_refl _) h1 (by omega) (by omega), apply_P t all place place hl⟩
theorem put_J2 {t all : List Int} {line : Int} {x} (ha : 1 ≤ all.length) (hl : t.length + all.length + 1 ≤ lim) : oper_Put_J2_P t all line x := by
  have hlim : lim = 1099511627776 := rfl
  have hs := lines_Start_F_le t line
  unfold oper_Put_J2_P
  dsimp only
  cases !decide ((lines_Start_F t line).2 = 0)
  · rw [cond_false]; exact put_J1 hs.1 hs.2 (by omega)
  · rw [cond_true, wrap_i64 (by omega) (by omega)]
    have e : (List.take (Int.toNat ((all.length : Int) - 1)) all).length ≤ all.length := by rw [List.length_take]; omega
    refine ⟨by omega, ?_, put_J1 (by omega) (by omega) ?_⟩
    · rw [List.length_singleton]; omega
    · rw [List.length_append, List.length_singleton]; omega
theorem put_J3 {t p : List Int} {at_ count : Int} {ahead : Bool} {r : Bool × Bool × List Int} {x} (h0 : 0 ≤ at_) (h1 : at_ ≤ t.length) (ht : t.length ≤ 4294967296) (hp : p.length < 4294967296) (hc : 1 ≤ count ∧ count ≤ 9999) (hr : r.2.1 = true → 1 ≤ p.length) :
    oper_Put_J3_P t at_ count ahead p r x := by
  have hlim : lim = 1099511627776 := rfl
  have hm : 0 ≤ (p.length : Int) * count := Int.mul_nonneg (by omega) (by omega)
  have hm2 : (p.length : Int) * count ≤ 4294967296 * 9999 := Int.mul_le_mul (by omega) (by omega) (by omega) (by omega)
  unfold oper_Put_J3_P
  rw [wrap_i64 (by omega) (by omega)]
  by_cases c : (65536 : Int) < (p.length : Int) * count
  · rw [decide_eq_true c]; trivial
  · rw [decide_eq_false c, cond_false]
    have hlen : (repB p count.toNat).length = count.toNat * p.length := repB_length p _
    have hcn : ((count.toNat * p.length : Nat) : Int) = (p.length : Int) * count := by
      rw [Int.natCast_mul, Int.toNat_of_nonneg (by omega), Int.mul_comm]
    have hle : (repB p count.toNat).length ≤ 65536 := by omega
    refine ⟨⟨by omega, by omega, hp, by omega⟩, ?_⟩
    dsimp only
    unfold bytes_Repeat_F
    cases hb : r.2.1
    · rw [Bool.not_false, cond_true]
      cases decide (((repB p count.toNat).length : Int) = 0)
      · cases ahead
        · rw [Bool.not_false, cond_false, cond_true]
          refine ⟨?_, ?_⟩
          · unfold oper_within_P
            by_cases c2 : at_ < (t.length : Int)
            · rw [decide_eq_true c2]; exact ⟨h0, c2⟩
            · rw [decide_eq_false c2]; trivial
          · cases hw : oper_within_F t at_
            · rw [cond_false]; exact put_J0 h0 h1 (by omega) (by omega)
            · rw [cond_true]
              have hlt : at_ < (t.length : Int) := by
                unfold oper_within_F at hw
                by_cases c2 : at_ < (t.length : Int)
                · exact c2
                · rw [decide_eq_false c2] at hw; cases hw
              rw [wrap_i64 (by omega) (by omega)]
              exact put_J0 (by omega) (by omega) (by omega) (by omega)
        · show oper_Put_J0_P t at_ p (repB p count.toNat) x
          exact put_J0 h0 h1 (by omega) (by omega)
      · trivial
    · have h3 := hr hb
      have h4 : 1 ≤ (repB p count.toNat).length := by
        rw [hlen]
        exact Nat.mul_pos (by omega) (by omega)
      rw [Bool.not_true, cond_false]
      refine ⟨lines_Of_any _ _, ?_⟩
      cases ahead
      · rw [Bool.not_false, cond_true]; exact put_J2 h4 (by omega)
      · rw [Bool.not_true, cond_false]; exact put_J2 h4 (by omega)
theorem hasSuffix_P (s : List Int) (hs : s.length ≤ lim) : bytes_HasSuffix_P s [10] := by
  have hlim : lim = 1099511627776 := rfl
  unfold bytes_HasSuffix_P
  by_cases c : (List.length ([10] : List Int) : Int) ≤ (s.length : Int)
  · rw [decide_eq_true c]
    rw [List.length_singleton] at *
    show _ ∧ _
    rw [wrap_i64 (by omega) (by omega)]; omega
  · rw [decide_eq_false c]; trivial
theorem hasSuffix_iff (s : List Int) (hs : s.length ≤ lim) : bytes_HasSuffix_F s [10] = true ↔ s.getLast? = some 10 := by
  have hlim : lim = 1099511627776 := rfl
  unfold bytes_HasSuffix_F
  cases s with
  | nil => simp
  | cons a l =>
    rw [decide_eq_true (by simp only [List.length_cons, List.length_nil]; omega), cond_true]
    dsimp only
    rw [List.length_cons, List.length_singleton, wrap_i64 (by rw [List.length_cons] at hs; omega) (by rw [List.length_cons] at hs; omega), show (((l.length + 1 : Nat) : Int) - ((1 : Nat) : Int)).toNat = l.length by omega]
    unfold bytes_Equal_F
    rw [decide_eq_true_eq]
    have : List.drop l.length (a :: l) = [(a :: l).getLast (by simp)] := by
      have e := List.dropLast_concat_getLast (l := a :: l) (by simp)
      conv => lhs; rw [← e]
      rw [List.drop_append_of_le_length (by simp), List.drop_eq_nil_of_le (by simp)]
      rfl
    rw [this, List.getLast?_eq_some_getLast (by simp)]
    simp
theorem put_P {t : List Int} {at_ count : Int} {r : Bool × Bool × List Int} {ahead : Bool} (ht : t.length ≤ 4294967296) (hr : r.2.2.length < 4294967295) : oper_Put_P t at_ count r ahead := by
  have hlim : lim = 1099511627776 := rfl
  unfold oper_Put_P
  dsimp only
  cases ho : oper_outside_F t at_ count 1
  · have hout : 0 ≤ at_ ∧ at_ ≤ t.length ∧ 1 ≤ count ∧ count ≤ 9999 := by
      unfold oper_outside_F at ho
      by_cases c1 : at_ < 0
      · rw [decide_eq_true c1] at ho; cases ho
      · rw [decide_eq_false c1] at ho
        by_cases c2 : (t.length : Int) < at_
        · rw [decide_eq_true c2] at ho; cases ho
        · rw [decide_eq_false c2] at ho
          by_cases c3 : count < 1
          · rw [decide_eq_true c3] at ho; cases ho
          · rw [decide_eq_false c3] at ho
            have c4 : ¬ (9999 : Int) < count := of_decide_eq_false ho
            omega
    rw [cond_false]
    cases !r.1
    · rw [cond_false]
      refine ⟨show _ ≤ lim by omega, ?_⟩
      unfold bytes_Clone_F
      cases hl : r.2.1
      · rw [cond_false]
        exact put_J3 hout.1 hout.2.1 ht (by omega) hout.2.2 (fun e => by rw [hl] at e; cases e)
      · rw [cond_true]
        refine ⟨hasSuffix_P _ (by omega), ?_⟩
        cases hh : bytes_HasSuffix_F r.2.2 [10]
        · rw [Bool.not_false, cond_true]
          refine ⟨by rw [List.length_singleton]; omega, put_J3 hout.1 hout.2.1 ht (by rw [List.length_append, List.length_singleton]; omega) hout.2.2 (fun _ => by rw [List.length_append, List.length_singleton]; omega)⟩
        · rw [Bool.not_true, cond_false]
          refine put_J3 hout.1 hout.2.1 ht (by omega) hout.2.2 (fun _ => ?_)
          have := (hasSuffix_iff r.2.2 (by omega)).1 hh
          cases hq : r.2.2 with
          | nil => rw [hq] at this; cases this
          | cons a l => simp
    · trivial
  · trivial
end Go.VE
namespace Go.VE
theorem take_J0 {text : List Int} {r x} (h : text.length + 1 ≤ lim) : extent_Take_J0_P text r x := by
  have hlim : lim = 1099511627776 := rfl
  unfold extent_Take_J0_P
  refine ⟨show _ ≤ lim by omega, ?_⟩
  unfold slC_F
  dsimp only
  cases r.2.2.2
  · rw [cond_false]
    by_cases c : (text.length : Int) = 0
    · rw [decide_eq_true c]; show _ ≤ lim; rw [List.length_singleton]; exact h
    · rw [decide_eq_false c, cond_false, wrap_i64 (by omega) (by omega)]
      refine ⟨by omega, ?_⟩
      cases !decide (rd (0 : Int) text ((text.length : Int) - 1) = 10)
      · trivial
      · show _ ≤ lim; rw [List.length_singleton]; exact h
  · show _ ≤ lim; rw [List.length_singleton]; exact h
theorem take_P {t : List Int} (r : Int × Int × Bool × Bool) (hl : t.length + 1 ≤ lim) : extent_Take_P t r := by
  have hlim : lim = 1099511627776 := rfl
  unfold extent_Take_P
  by_cases c1 : r.1 < 0
  · rw [decide_eq_true c1]; trivial
  rw [decide_eq_false c1, cond_false]
  by_cases c2 : r.2.1 < r.1
  · rw [decide_eq_true c2]; trivial
  rw [decide_eq_false c2, cond_false]
  by_cases c3 : (t.length : Int) < r.2.1
  · rw [decide_eq_true c3]; trivial
  rw [decide_eq_false c3, cond_false]
  cases r.2.2.1
  · exact ⟨by omega, show _ ≤ lim from Nat.le_trans (slc_le _ _ _) (by omega)⟩
  · rw [Bool.not_true, cond_false]
    refine ⟨by omega, ?_⟩
    cases r.2.2.2
    · rw [cond_false]
      exact take_J0 (by have := slc_le t r.1 r.2.1; omega)
    · rw [cond_true]
      by_cases c4 : r.1 = (t.length : Int)
      · rw [decide_eq_true c4]; trivial
      · rw [decide_eq_false c4, cond_false]
        refine ⟨by omega, ?_⟩
        cases !decide (rd (0 : Int) t r.1 = 10)
        · rw [cond_false, wrap_i64 (by omega) (by omega)]
          refine ⟨⟨by omega, ?_, ?_⟩, take_J0 (by have := slc_le t (r.1 + 1) (mx (r.1 + 1) r.2.1); omega)⟩
          · unfold mx; by_cases c5 : r.1 + 1 < r.2.1
            · rw [decide_eq_true c5, cond_true]; omega
            · rw [decide_eq_false c5, cond_false]; omega
          · unfold mx; by_cases c5 : r.1 + 1 < r.2.1
            · rw [decide_eq_true c5, cond_true]; omega
            · rw [decide_eq_false c5, cond_false]; omega
        · trivial
theorem deleted_P {j : Job} (h0 : 0 ≤ j.2.2.1.1) (h1 : j.2.2.1.1 ≤ j.2.2.1.2.1) (h2 : j.2.2.1.2.1 ≤ (j.1.length : Int)) (hl : j.1.length + 1 ≤ lim) : oj_deleted_P j := by
  unfold oj_deleted_P
  refine ⟨edited_P h0 h1 h2 (by omega) (Nat.zero_le _), take_P _ hl, ?_⟩
  dsimp only
  cases j.2.2.1.2.2.1
  · trivial
  · exact ⟨apply_P _ _ _ _ (by simp; omega), Count_P _⟩
theorem At_any (t : List Int) (l c : Int) : lines_At_P t l c := by
  have hs := lines_Start_F_le t l
  unfold lines_At_P
  dsimp only
  cases !decide ((lines_Start_F t l).2 = 0)
  · cases decide (c < -1)
    · exact hs
    · trivial
  · trivial
theorem Column_any (t : List Int) (p : Int) : lines_Column_P t p := by
  unfold lines_Column_P
  dsimp only
  cases h : lines_has_F t p
  · trivial
  · unfold lines_has_F at h
    by_cases c : (0 : Int) ≤ p
    · rw [decide_eq_true c] at h
      exact ⟨c, of_decide_eq_true h⟩
    · rw [decide_eq_false c] at h; cases h
theorem stay_any (j : Job) : oj_stay_P j := by
  unfold oj_stay_P
  cases j.2.2.1.2.2.1
  · trivial
  · exact ⟨Column_any _ _, At_any _ _ _⟩
theorem spanned_ok {t : List Int} {at_ : Int} {r : Int × Int × Bool × Bool} (h : (oper_spanned_F t at_ r).2.2 = true) : 0 ≤ r.1 ∧ r.1 ≤ r.2.1 ∧ r.2.1 ≤ (t.length : Int) := by
  unfold oper_spanned_F at h
  dsimp only at h
  by_cases c : (lines_Of_F t r.1).2 = 0
  · rw [decide_eq_true c, Bool.not_true, cond_false] at h
    have h0 : 0 ≤ r.1 := by
      unfold lines_Of_F lines_has_F at c
      by_cases c0 : (0 : Int) ≤ r.1
      · exact c0
      · rw [decide_eq_false c0] at c; cases c
    by_cases c1 : r.2.1 < r.1
    · rw [decide_eq_true c1] at h; cases h
    · rw [decide_eq_false c1, cond_false] at h
      by_cases c2 : (t.length : Int) < r.2.1
      · rw [decide_eq_true c2] at h; cases h
      · omega
  · rw [decide_eq_false c] at h; cases h
end Go.VE
namespace Go.VE
theorem cnt_le (t : List Int) : cnt t ≤ t.length := List.count_le_length
theorem count_eq (t : List Int) : lines_Count_F t = IntKind.wrap .i64 ((cnt t : Int) + 1) := rfl

/-! ### lines, whole -/
theorem whole_mid {t : List Int} {a b pa pe : Nat} (ht : t.length ≤ 65536) (ha : Begins t a pa) (hb : Begins t (b + 1) pe) (hab : a ≤ b) : extent_Whole_F t (a : Int) (b : Int) = (((pa : Int), (pe : Int), true, false), 0) := by
  have hc := hb.cnt_le
  have hcl := cnt_le t
  obtain ⟨pb, hpb⟩ := begins_ex (t := t) (n := b) (by omega)
  unfold extent_Whole_F
  rw [start_at ha, start_at hpb, wrap_i64 (by omega) (by omega), show (b : Int) + 1 = ((b + 1 : Nat) : Int) by omega, start_at hb]
  dsimp only
  rw [decide_eq_false (by omega : ¬ (b : Int) < a)]
  rfl
theorem whole_end {t : List Int} {a pa : Nat} (ht : t.length ≤ 65536) (ha : Begins t a pa) : extent_Whole_F t (a : Int) (cnt t : Int) = if 0 < a then ((((pa - 1 : Nat) : Int), (t.length : Int), true, true), 0) else ((0, (t.length : Int), true, false), 0) := by
  have hc := ha.cnt_le
  have hcl := cnt_le t
  have hp := ha.1
  obtain ⟨pb, hpb⟩ := begins_ex (t := t) (n := cnt t) (Nat.le_refl _)
  unfold extent_Whole_F
  rw [start_at ha, start_at hpb, wrap_i64 (by omega) (by omega), show (cnt t : Int) + 1 = ((cnt t + 1 : Nat) : Int) by omega, start_out (by omega)]
  dsimp only
  rw [decide_eq_false (by omega : ¬ (cnt t : Int) < a), wrap_i64 (by omega) (by omega)]
  by_cases h : 0 < a
  · have := (ha.pos h).1
    rw [if_pos h, decide_eq_true (by omega : (0 : Int) < (a : Int)), show ((pa - 1 : Nat) : Int) = (pa : Int) - 1 by omega]
    rfl
  · rw [if_neg h, decide_eq_false (by omega : ¬ (0 : Int) < (a : Int))]
    rfl
theorem start_nonneg {t : List Int} {n : Int} (h : (lines_Start_F t n).2 = 0) : 0 ≤ n := by
  unfold lines_Start_F at h
  by_cases c : n < 0
  · rw [if_pos c] at h; cases h
  · omega
theorem whole_nonneg {t : List Int} {a b : Int} (h : (extent_Whole_F t a b).2 = 0) : 0 ≤ b := by
  unfold extent_Whole_F at h
  dsimp only at h
  cases c1 : !decide ((lines_Start_F t a).2 = 0)
  · rw [c1, cond_false] at h
    cases c2 : !decide ((lines_Start_F t b).2 = 0)
    · exact start_nonneg (by simpa using c2)
    · rw [c2] at h; cases h
  · rw [c1] at h; cases h
theorem eqT_range (r : Int × Int × Bool × Bool) : eqT (.pair (.int .i64) (.pair (.int .i64) (.pair (.bool) (.bool)))) r r = true := by
  obtain ⟨a, b, c, d⟩ := r
  simp [eqT]
theorem step_keeps {t : List Int} {a here : Int} {r : Int × Int × Bool × Bool} {f : Int} (b : Int) (h : 0 ≤ f) : 0 ≤ spanStep t a here r f b := by
  unfold spanStep
  split
  · rename_i hc; exact whole_nonneg hc.1
  · exact h
theorem step_finds {t : List Int} {a here : Int} {r : Int × Int × Bool × Bool} (f : Int) {b : Int} (hb : 0 ≤ b) (h : extent_Whole_F t a b = (r, 0)) : 0 ≤ spanStep t a here r f b := by
  unfold spanStep
  rw [h]
  by_cases c : 0 ≤ f ∧ here ≤ f
  · rw [if_neg (fun hh => hh.2.2 c)]; exact c.1
  · rw [if_pos ⟨rfl, eqT_range r, c⟩]; exact hb
theorem spanned_J1 {t : List Int} (ht : t.length ≤ 65536) {at_ a : Int} {r : Int × Int × Bool × Bool} {b : Nat} (h : extent_Whole_F t a (b : Int) = (r, 0)) (hb : (b : Int) = (lines_Of_F t r.2.1).1 - 1 ∨ b = cnt t)
    (hr : (lines_Of_F t r.2.1).1 ≤ 100000 ∧ 0 ≤ (lines_Of_F t r.2.1).1) : (oper_spanned_J1_F t at_ a r).2.2 = true := by
  have hcl := cnt_le t
  unfold oper_spanned_J1_F oper_spanned_L0_F
  dsimp only
  rw [count_eq, wrap_i64 (n := (cnt t : Int) + 1) (by omega) (by omega), wrap_i64 (n := (cnt t : Int) + 1 - 1) (by omega) (by omega), wrap_i64 (by omega) (by omega), show (cnt t : Int) + 1 - 1 = (cnt t : Int) by omega]
  rw [decide_eq_true_eq]
  simp only [List.foldl_cons, List.foldl_nil]
  rcases hb with hb | hb
  · rw [← hb]
    exact step_keeps _ (step_finds _ (by omega) h)
  · subst hb
    exact step_finds _ (by omega) h
theorem spanned_lines {t : List Int} (ht : t.length ≤ 65536) {at_ : Int} {f g : Nat} {lead : Bool} {b : Nat} (h1 : f ≤ g) (h2 : g ≤ t.length)
    (h : extent_Whole_F t (((cnt (t.take f) + (if lead then 1 else 0) : Nat)) : Int) (b : Int) = (((f : Int), (g : Int), true, lead), 0)) (hb : b + 1 = cnt (t.take g) ∨ b = cnt t) : (oper_spanned_F t at_ ((f : Int), (g : Int), true, lead)).2.2 = true := by
  have hof : lines_Of_F t (g : Int) = ((cnt (t.take g) : Int), 0) := Of_eq h2
  have hcg := cnt_take_all t g
  have hcf := cnt_take_all t f
  have hcl := cnt_le t
  have J : ∀ a : Int, a = (((cnt (t.take f) + (if lead then 1 else 0) : Nat)) : Int) → (oper_spanned_J1_F t at_ a ((f : Int), (g : Int), true, lead)).2.2 = true := fun a ha => by
    subst ha
    refine spanned_J1 ht h ?_ ?_
    · rw [hof]; rcases hb with hb | hb
      · exact .inl (by show (b : Int) = (cnt (t.take g) : Int) - 1; omega)
      · exact .inr hb
    · rw [hof]; show (cnt (t.take g) : Int) ≤ 100000 ∧ (0 : Int) ≤ (cnt (t.take g) : Int); omega
  unfold oper_spanned_F
  rw [Of_eq (show f ≤ t.length by omega)]
  dsimp only
  rw [decide_eq_false (by omega : ¬ (g : Int) < f), decide_eq_false (by omega : ¬ (t.length : Int) < g)]
  cases lead
  · show (oper_spanned_J1_F t at_ (cnt (t.take f) : Int) _).2.2 = true
    exact J _ (by rw [if_neg (by simp), Nat.add_zero])
  · show (oper_spanned_J1_F t at_ (IntKind.wrap .i64 ((cnt (t.take f) : Int) + 1)) _).2.2 = true
    exact J _ (by rw [wrap_i64 (by omega) (by omega)]; simp)

/-! ### what is taken out -/
theorem take_plain {t : List Int} {f g : Nat} (lead : Bool) (h1 : f ≤ g) (h2 : g ≤ t.length) : extent_Take_F t ((f : Int), (g : Int), false, lead) = ((true, false, (t.take g).drop f), 0) := by
  unfold extent_Take_F
  dsimp only
  rw [decide_eq_false (by omega : ¬ (f : Int) < 0), decide_eq_false (by omega : ¬ (g : Int) < f), decide_eq_false (by omega : ¬ (t.length : Int) < g), slc_nat]
  rfl
theorem take_J0_ten {text : List Int} {r x} (hl : r.2.2.2 = false) (hs : text.length ≤ lim) (h : text.getLast? = some 10) : extent_Take_J0_F text r x = (0, (true, true, text)) := by
  have hlim : lim = 1099511627776 := rfl
  cases text with
  | nil => cases h
  | cons y l =>
    rw [List.length_cons] at hs
    unfold extent_Take_J0_F slC_F
    dsimp only
    have e : rd (0 : Int) (y :: l) (IntKind.wrap .i64 (((y :: l).length : Int) - 1)) = 10 := by
      rw [List.length_cons, wrap_i64 (by omega) (by omega), show (((l.length + 1 : Nat) : Int) - 1) = ((l.length : Nat) : Int) by omega, rd_nat _ _ _ (by simp)]
      rw [List.getLast?_eq_getElem?] at h
      simpa using h
    rw [hl, e, decide_eq_false (by rw [List.length_cons]; omega)]
    rfl
theorem take_mid {t : List Int} {f g : Nat} (h1 : f < g) (h2 : g ≤ t.length) (hl : t.length ≤ lim) (h : t[g - 1]? = some 10) : extent_Take_F t ((f : Int), (g : Int), true, false) = ((true, true, (t.take g).drop f), 0) := by
  have hlen : ((t.take g).drop f).length = g - f := by rw [List.length_drop, List.length_take]; omega
  unfold extent_Take_F
  dsimp only
  rw [decide_eq_false (by omega : ¬ (f : Int) < 0), decide_eq_false (by omega : ¬ (g : Int) < f), decide_eq_false (by omega : ¬ (t.length : Int) < g), slc_nat]
  have e := take_J0_ten (text := (t.take g).drop f) (r := ((f : Int), (g : Int), true, false)) (x := (false, false, [])) rfl (by omega) (by
    rw [List.getLast?_eq_getElem?, hlen, List.getElem?_drop, List.getElem?_take_of_lt (by omega), show f + (g - f - 1) = g - 1 by omega]; exact h)
  refine (show _ = ((extent_Take_J0_F ((t.take g).drop f) ((f : Int), (g : Int), true, false) (false, false, [])).2, (extent_Take_J0_F ((t.take g).drop f) ((f : Int), (g : Int), true, false) (false, false, [])).1) from rfl).trans ?_
  rw [e]
theorem take_lead {t : List Int} {f : Nat} (ht : t.length ≤ 65536) (h1 : f < t.length) (h : t[f]? = some 10) : extent_Take_F t ((f : Int), (t.length : Int), true, true) = ((true, true, t.drop (f + 1) ++ [10]), 0) := by
  have e : rd (0 : Int) t (f : Int) = 10 := by
    rw [rd_nat _ _ _ h1]
    rw [List.getElem?_eq_getElem h1] at h
    exact Option.some.inj h
  have em : mx ((f : Int) + 1) (t.length : Int) = (t.length : Int) := by
    unfold mx
    by_cases c : (f : Int) + 1 < t.length
    · rw [decide_eq_true c]; rfl
    · rw [decide_eq_false c, cond_false]; omega
  unfold extent_Take_F
  dsimp only
  rw [decide_eq_false (by omega : ¬ (f : Int) < 0), decide_eq_false (by omega : ¬ (t.length : Int) < f), decide_eq_false (by omega : ¬ (t.length : Int) < t.length), decide_eq_false (by omega : ¬ (f : Int) = t.length), e, wrap_i64 (by omega) (by omega), em,
    show (f : Int) + 1 = ((f + 1 : Nat) : Int) by omega, slc_nat t (f + 1) t.length, List.take_length]
  rfl
end Go.VE
namespace Go.VE
theorem outside_iff {t : List Int} {p c low : Int} (h : oper_outside_F t p c low = false) : 0 ≤ p ∧ p ≤ (t.length : Int) ∧ low ≤ c ∧ c ≤ 9999 := by
  unfold oper_outside_F at h
  by_cases c1 : p < 0
  · rw [decide_eq_true c1] at h; cases h
  · rw [decide_eq_false c1, cond_false] at h
    by_cases c2 : (t.length : Int) < p
    · rw [decide_eq_true c2] at h; cases h
    · rw [decide_eq_false c2, cond_false] at h
      by_cases c3 : c < low
      · rw [decide_eq_true c3] at h; cases h
      · rw [decide_eq_false c3, cond_false] at h
        have := of_decide_eq_false h
        omega
theorem start_ok {t : List Int} {n : Int} (h : (lines_Start_F t n).2 = 0) : 0 ≤ n ∧ n ≤ (cnt t : Int) := by
  have h0 := start_nonneg h
  obtain ⟨k, rfl⟩ := Int.eq_ofNat_of_zero_le h0
  by_cases c : k ≤ cnt t
  · omega
  · rw [start_out (by omega)] at h; cases h
theorem whole_ab {t : List Int} {a b : Int} (h : (extent_Whole_F t a b).2 = 0) : 0 ≤ a ∧ a ≤ b ∧ b ≤ (cnt t : Int) := by
  unfold extent_Whole_F at h
  dsimp only at h
  by_cases c1 : (lines_Start_F t a).2 = 0
  · rw [decide_eq_true c1, Bool.not_true, cond_false] at h
    by_cases c2 : (lines_Start_F t b).2 = 0
    · rw [decide_eq_true c2, Bool.not_true, cond_false] at h
      by_cases c3 : b < a
      · rw [decide_eq_true c3] at h; cases h
      · have := start_ok c1
        have := start_ok c2
        omega
    · rw [decide_eq_false c2] at h; cases h
  · rw [decide_eq_false c1] at h; cases h
theorem step_ab {t : List Int} {a here : Int} {r : Int × Int × Bool × Bool} {f : Int} (b : Int) (hf : 0 ≤ f → 0 ≤ a ∧ a ≤ f ∧ f ≤ (cnt t : Int)) (h : 0 ≤ spanStep t a here r f b) : 0 ≤ a ∧ a ≤ spanStep t a here r f b ∧ spanStep t a here r f b ≤ (cnt t : Int) := by
  unfold spanStep at h ⊢
  split
  · rename_i hc
    exact whole_ab hc.1
  · rename_i hc
    rw [if_neg hc] at h
    exact hf h
theorem J1_ab {t : List Int} {at_ a : Int} {r : Int × Int × Bool × Bool} (h : (oper_spanned_J1_F t at_ a r).2.2 = true) : (oper_spanned_J1_F t at_ a r).1 = a ∧ 0 ≤ a ∧ a ≤ (oper_spanned_J1_F t at_ a r).2.1 ∧ (oper_spanned_J1_F t at_ a r).2.1 ≤ (cnt t : Int) := by
  unfold oper_spanned_J1_F oper_spanned_L0_F at h ⊢
  dsimp only at h ⊢
  simp only [List.foldl_cons, List.foldl_nil] at h ⊢
  exact ⟨trivial, step_ab _ (fun h2 => step_ab _ (fun h3 => absurd h3 (by decide)) h2) (of_decide_eq_true h)⟩
theorem spanned_ab {t : List Int} (ht : t.length ≤ 1048576) {at_ : Int} {r : Int × Int × Bool × Bool} (h : (oper_spanned_F t at_ r).2.2 = true) :
    0 ≤ (oper_spanned_F t at_ r).1 ∧ (oper_spanned_F t at_ r).1 ≤ (oper_spanned_F t at_ r).2.1 ∧ (oper_spanned_F t at_ r).2.1 ≤ (cnt t : Int) := by
  obtain ⟨h0, h1, h2⟩ := spanned_ok h
  obtain ⟨f, hf⟩ := Int.eq_ofNat_of_zero_le h0
  unfold oper_spanned_F at h ⊢
  dsimp only at h ⊢
  have hof : lines_Of_F t r.1 = ((cnt (t.take f) : Int), 0) := by rw [hf]; exact Of_eq (by omega)
  rw [hof] at h ⊢
  rw [decide_eq_false (by omega : ¬ r.2.1 < r.1), decide_eq_false (by omega : ¬ (t.length : Int) < r.2.1)] at h ⊢
  revert h
  cases r.2.2.1
  · intro _
    have hm : ∃ m : Nat, mx r.1 (IntKind.wrap .i64 (r.2.1 - 1)) = (m : Int) ∧ f ≤ m ∧ m ≤ t.length := by
      rw [wrap_i64 (by omega) (by omega)]
      unfold mx
      by_cases c : r.1 < r.2.1 - 1
      · rw [decide_eq_true c]; exact ⟨(r.2.1 - 1).toNat, by show r.2.1 - 1 = _; omega, by omega, by omega⟩
      · rw [decide_eq_false c]; exact ⟨f, hf, Nat.le_refl _, by omega⟩
    obtain ⟨m, e, h3, h4⟩ := hm
    show (0 : Int) ≤ (cnt (t.take f) : Int) ∧ (cnt (t.take f) : Int) ≤ (lines_Of_F t (mx r.1 (IntKind.wrap .i64 (r.2.1 - 1)))).1 ∧ (lines_Of_F t (mx r.1 (IntKind.wrap .i64 (r.2.1 - 1)))).1 ≤ (cnt t : Int)
    rw [e, Of_eq h4]
    have := cnt_take_le t h3
    have := cnt_take_all t m
    show (0 : Int) ≤ (cnt (t.take f) : Int) ∧ (cnt (t.take f) : Int) ≤ (cnt (t.take m) : Int) ∧ (cnt (t.take m) : Int) ≤ (cnt t : Int)
    omega
  · cases r.2.2.2
    · intro h
      have J := J1_ab (t := t) (at_ := at_) (a := (cnt (t.take f) : Int)) (r := r) h
      show 0 ≤ (oper_spanned_J1_F t at_ (cnt (t.take f) : Int) r).1 ∧ (oper_spanned_J1_F t at_ (cnt (t.take f) : Int) r).1 ≤ (oper_spanned_J1_F t at_ (cnt (t.take f) : Int) r).2.1 ∧ (oper_spanned_J1_F t at_ (cnt (t.take f) : Int) r).2.1 ≤ (cnt t : Int)
      rw [J.1]
      exact J.2
    · intro h
      have J := J1_ab (t := t) (at_ := at_) (a := IntKind.wrap .i64 ((cnt (t.take f) : Int) + 1)) (r := r) h
      show 0 ≤ (oper_spanned_J1_F t at_ (IntKind.wrap .i64 ((cnt (t.take f) : Int) + 1)) r).1 ∧ (oper_spanned_J1_F t at_ (IntKind.wrap .i64 ((cnt (t.take f) : Int) + 1)) r).1 ≤ (oper_spanned_J1_F t at_ (IntKind.wrap .i64 ((cnt (t.take f) : Int) + 1)) r).2.1 ∧ (oper_spanned_J1_F t at_ (IntKind.wrap .i64 ((cnt (t.take f) : Int) + 1)) r).2.1 ≤ (cnt t : Int)
      rw [J.1]
      exact J.2
structure JobOk (j : Job) : Prop where
  len : j.1.length ≤ 65536
  r0 : 0 ≤ j.2.2.1.1
  r1 : j.2.2.1.1 ≤ j.2.2.1.2.1
  r2 : j.2.2.1.2.1 ≤ (j.1.length : Int)
  a0 : 0 ≤ j.2.2.2.1
  ab : j.2.2.2.1 ≤ j.2.2.2.2.1
  b1 : j.2.2.2.2.1 ≤ (cnt j.1 : Int)
  c1 : 1 ≤ j.2.2.2.2.2
  c2 : j.2.2.2.2.2 ≤ 9999
theorem fits_first {t : List Int} {es : List (Int × List Int × List Int)} {u : List Int} (n : Int) (h : change_Apply_F t es = (u, 0)) (hu : u.length ≤ 9223372036854775807) : FitsE t es (lines_First_F (oper_with_F t es) n).1 := by
  have e : oper_with_F t es = u := by unfold oper_with_F; rw [h]
  have := First_le u n hu
  unfold FitsE
  rw [h, e]
  exact ⟨rfl, this.1, this.2⟩
theorem apply_edited_i (t p : List Int) {f g : Int} (h0 : 0 ≤ f) (h1 : f ≤ g) (h2 : g ≤ (t.length : Int)) (hl : t.length ≤ lim) : ∃ u, change_Apply_F t (oper_edited_F t f g p) = (u, 0) ∧ (u.length : Int) = (t.length : Int) - (g - f) + (p.length : Int) := by
  obtain ⟨f, rfl⟩ := Int.eq_ofNat_of_zero_le h0
  obtain ⟨g, rfl⟩ := Int.eq_ofNat_of_zero_le (by omega : 0 ≤ g)
  refine ⟨_, apply_edited t p (by omega) (by omega) hl, ?_⟩
  rw [List.length_append, List.length_append, List.length_take, List.length_drop]
  omega
theorem fits_edited_i (t p : List Int) {f g cur : Int} (h0 : 0 ≤ f) (h1 : f ≤ g) (h2 : g ≤ (t.length : Int)) (hl : t.length ≤ lim) (c0 : 0 ≤ cur) (c1 : cur ≤ (t.length : Int) - (g - f) + (p.length : Int)) : FitsE t (oper_edited_F t f g p) cur := by
  obtain ⟨u, e1, e2⟩ := apply_edited_i t p h0 h1 h2 hl
  unfold FitsE
  rw [e1]
  exact ⟨rfl, c0, by show cur ≤ (u.length : Int); omega⟩
theorem deleted_fine {j : Job} (h : JobOk j) : oj_deleted_P j ∧ Fine j.1 (oj_deleted_F j) := by
  have hl := h.len
  have h0 := h.r0
  have h1 := h.r1
  have h2 := h.r2
  have hlim : lim = 1099511627776 := rfl
  refine ⟨deleted_P h0 h1 h2 (by omega), .inr ?_⟩
  have hm := mass_edited j.1 [] j.2.2.1.1 j.2.2.1.2.1
  rw [List.length_nil] at hm
  obtain ⟨u, e1, e2⟩ := apply_edited_i j.1 [] h0 h1 h2 (by omega)
  rw [List.length_nil] at e2
  unfold oj_deleted_F
  dsimp only
  cases j.2.2.1.2.2.1
  · exact ⟨rfl, fits_edited_i (cur := j.2.2.1.1) j.1 [] h0 h1 h2 (by omega) h0 (by rw [List.length_nil]; omega), Nat.le_trans hm (by omega)⟩
  · exact ⟨rfl, fits_first _ e1 (by omega), Nat.le_trans hm (by omega)⟩
theorem taken_P' {j : Job} (h : JobOk j) : oj_taken_P j := take_P _ (by have := h.len; unfold lim; omega)
theorem tail_range' (t : List Int) (n : Int) (ht : t.length ≤ 65536) : (lines_Start_F t n).1 ≤ lines_tail_F t (lines_Start_F t n).1 ∧ lines_tail_F t (lines_Start_F t n).1 ≤ (t.length : Int) :=
  tail_range t (by omega) _ (lines_Start_F_le t n).1 (lines_Start_F_le t n).2
theorem End_any (t : List Int) (n : Int) : lines_End_P t n := by
  unfold lines_End_P
  dsimp only
  cases !decide ((lines_Start_F t n).2 = 0)
  · exact lines_Start_F_le t n
  · trivial
theorem End_eq {t : List Int} {n : Int} (h : (lines_Start_F t n).2 = 0) : lines_End_F t n = (lines_tail_F t (lines_Start_F t n).1, 0) := by
  unfold lines_End_F
  dsimp only
  rw [decide_eq_true h]
  rfl
theorem start_yes {t : List Int} {n : Int} (h0 : 0 ≤ n) (h1 : n ≤ (cnt t : Int)) : ∃ k p : Nat, n = (k : Int) ∧ Begins t k p ∧ lines_Start_F t n = ((p : Int), 0) := by
  obtain ⟨k, rfl⟩ := Int.eq_ofNat_of_zero_le h0
  obtain ⟨p, hp⟩ := begins_ex (t := t) (n := k) (by omega)
  exact ⟨k, p, rfl, hp, start_at hp⟩
theorem changed_J0 {j : Job} (h : JobOk j) (x2 : Eff) (rg : Bool × Bool × List Int) (ho : Int) : oj_changed_J0_P j x2 ([], j.2.2.1.1, rg, ho, true) ∧ Fine j.1 ((oj_changed_J0_F j x2 ([], j.2.2.1.1, rg, ho, true)).2, (oj_changed_J0_F j x2 ([], j.2.2.1.1, rg, ho, true)).1) := by
  have hl := h.len
  have h0 := h.r0
  have h1 := h.r1
  have h2 := h.r2
  have hlim : lim = 1099511627776 := rfl
  unfold oj_changed_J0_P oj_changed_J0_F
  dsimp only
  cases j.2.2.1.2.2.1
  · have hm := mass_edited j.1 [] j.2.2.1.1 j.2.2.1.2.1
    rw [List.length_nil] at hm
    exact ⟨edited_P h0 h1 h2 (by omega) (Nat.zero_le _), .inr ⟨rfl, fits_edited_i (cur := j.2.2.1.1) j.1 [] h0 h1 h2 (by omega) h0 (by rw [List.length_nil]; omega), Nat.le_trans hm (by omega)⟩⟩
  · have ha := h.ab
    obtain ⟨a, pa, ea, ba, sa⟩ := start_yes h.a0 (Int.le_trans ha h.b1)
    obtain ⟨b, pb, eb, bb, sb⟩ := start_yes (Int.le_trans h.a0 ha) h.b1
    have hle : pa ≤ pb := ba.le bb (by omega)
    have ht := tail_range' j.1 j.2.2.2.2.1 hl
    have he := End_eq (t := j.1) (n := j.2.2.2.2.1) (by rw [sb])
    rw [sb] at ht he
    rw [sa, he]
    dsimp only at ht ⊢
    have hm := mass_edited j.1 [] (pa : Int) (lines_tail_F j.1 (pb : Int))
    rw [List.length_nil] at hm
    exact ⟨⟨End_any _ _, edited_P (by omega) (by omega) ht.2 (by omega) (Nat.zero_le _)⟩, .inr ⟨rfl, fits_edited_i (cur := (pa : Int)) j.1 [] (by omega) (by omega) ht.2 (by omega) (by omega) (by rw [List.length_nil]; omega), Nat.le_trans hm (by omega)⟩⟩
theorem changed_fine {j : Job} (h : JobOk j) : oj_changed_P j ∧ Fine j.1 (oj_changed_F j) := by
  have hT := taken_P' h
  unfold oj_changed_P oj_changed_F
  dsimp only
  cases decide (j.2.2.1.1 < j.2.2.1.2.1)
  · cases j.2.2.1.2.2.1
    · exact changed_J0 h _ _ _
    · have := changed_J0 h ([], 0, (false, false, []), 0, false) (oj_taken_F j).1 (oj_taken_F j).2
      exact ⟨⟨hT, this.1⟩, this.2⟩
  · have := changed_J0 h ([], 0, (false, false, []), 0, false) (oj_taken_F j).1 (oj_taken_F j).2
    exact ⟨⟨hT, this.1⟩, this.2⟩
theorem stay_le' {j : Job} (h : JobOk j) : 0 ≤ oj_stay_F j ∧ oj_stay_F j ≤ (j.1.length : Int) := by
  have hl := h.len
  have h1 := h.r1
  have h2 := h.r2
  exact stay_le j h.r0 (by omega) (by omega) (Column_le _ _)
theorem yanked_fine {j : Job} (h : JobOk j) : oj_yanked_P j ∧ Fine j.1 (oj_yanked_F j) := by
  have := stay_le' h
  exact ⟨⟨taken_P' h, stay_any _⟩, .inr ⟨rfl, fits_none j.1 this.1 this.2, by show massL [] ≤ _; decide⟩⟩
theorem turned_fine {j : Job} (h : JobOk j) (f : Int → Int) : (oper_edited_P j.1 j.2.2.1.1 j.2.2.1.2.1 ((slc j.1 j.2.2.1.1 j.2.2.1.2.1).map f)) ∧
    Fine j.1 ((oper_edited_F j.1 j.2.2.1.1 j.2.2.1.2.1 ((slc j.1 j.2.2.1.1 j.2.2.1.2.1).map f), oj_stay_F j, (false, false, []), 0, false), 0) := by
  have hl := h.len
  have h0 := h.r0
  have h1 := h.r1
  have h2 := h.r2
  have hs := stay_le' h
  have hlim : lim = 1099511627776 := rfl
  have hp : ((slc j.1 j.2.2.1.1 j.2.2.1.2.1).map f).length = (slc j.1 j.2.2.1.1 j.2.2.1.2.1).length := List.length_map ..
  have hq : ((slc j.1 j.2.2.1.1 j.2.2.1.2.1).length : Int) = j.2.2.1.2.1 - j.2.2.1.1 := by
    unfold slc; rw [List.length_drop, List.length_take]; omega
  have hm := mass_edited j.1 ((slc j.1 j.2.2.1.1 j.2.2.1.2.1).map f) j.2.2.1.1 j.2.2.1.2.1
  exact ⟨edited_P h0 h1 h2 (by omega) (by omega), .inr ⟨rfl, fits_edited_i (cur := oj_stay_F j) j.1 _ h0 h1 h2 (by omega) hs.1 (by omega), Nat.le_trans hm (by omega)⟩⟩
theorem heads_core (g : List Int → Int × List Int) (t : List Int) {a b : Int} (h0 : 0 ≤ a) (hab : a ≤ b) (hb : b ≤ (cnt t : Int)) (hg : ∀ l, 0 ≤ (g l).1 ∧ (g l).1 ≤ (l.length : Int)) (ht : t.length ≤ 65536) (hm : massH g (slc (lines_Split_F t) a (b + 1)) ≤ 1073741824) :
    HeadsP g t a b ∧ oper_with_P t (headsL g (slc (lines_Split_F t) a (b + 1)) (lines_Start_F t a).1 0) ∧ (∃ u, change_Apply_F t (headsL g (slc (lines_Split_F t) a (b + 1)) (lines_Start_F t a).1 0) = (u, 0)) ∧
      massL (headsL g (slc (lines_Split_F t) a (b + 1)) (lines_Start_F t a).1 0) ≤ 1073741824 := by
  obtain ⟨A, rfl⟩ := Int.eq_ofNat_of_zero_le h0
  obtain ⟨B, rfl⟩ := Int.eq_ofNat_of_zero_le (by omega : 0 ≤ b)
  have hlim : lim = 1099511627776 := rfl
  obtain ⟨X, M, Y, s1, s2, s3, s4, s5, s6, s7⟩ := split_three t (a := A) (b := B) (by omega) (by omega)
  have hlen := (split_ok t).2.2
  rw [s4] at hm ⊢
  have hst := start_at s6
  rw [hst]
  dsimp only
  have hmm := mass_heads g M ((headW X).length : Int) 0
  have hlaw := heads_law g M Y (headW X) _ rfl (fun l _ => hg l)
  rw [← s5] at hlaw
  refine ⟨⟨by omega, by omega, by omega, by omega, ?_, ?_⟩, apply_P' (by omega) (by omega), ?_, by omega⟩
  · rw [s4]; exact fun l _ => hg l
  · rw [s4]; omega
  · refine ⟨headW X ++ unl (M.map (hdL g) ++ Y), ?_⟩
    unfold change_Apply_F
    rw [hlaw]
theorem massH_zero (g : List Int → Int × List Int) (hg : ∀ l, (g l).2 = []) : ∀ M : List (List Int), massH g M = massH (fun _ => (0, [])) M
  | [] => rfl
  | l :: M => by
    unfold massH
    rw [massH_zero g hg M, hg l]
theorem massH_full (g : List Int → Int × List Int) (c : Int) (hg : ∀ l : List Int, ((g l).2.length : Int) = if 0 < l.length then c else 0) : ∀ M : List (List Int), (massH g M : Int) = (massH (fun _ => (0, [])) M : Int) + fullC c M
  | [] => rfl
  | l :: M => by
    have ih := massH_full g c hg M
    have h1 := hg l
    unfold massH fullC
    by_cases c : 0 < l.length
    · rw [if_pos c] at h1 ⊢
      show ((l.length + 1 + (g l).2.length + massH g M : Nat) : Int) = ((l.length + 1 + 0 + massH (fun _ => (0, [])) M : Nat) : Int) + _
      omega
    · rw [if_neg c] at h1 ⊢
      show ((l.length + 1 + (g l).2.length + massH g M : Nat) : Int) = ((l.length + 1 + 0 + massH (fun _ => (0, [])) M : Nat) : Int) + _
      omega
theorem out_g (c : List Int × Int × (Int × Int × Bool × Bool) × Int × Int × Int) (l : List Int) : hdO_g c l = ((outN c.2.2.2.2.2.toNat l : Int), []) := rfl
theorem in_g (c : List Int) (l : List Int) : hdI_g c l = (0, if 0 < l.length then c else []) := by
  unfold hdI_g oj_indented_1_F
  cases l with
  | nil => rfl
  | cons a r =>
    rw [if_pos (by rw [List.length_cons]; omega), decide_eq_false (by rw [List.length_cons]; omega)]
    rfl
theorem outdented_fine {j : Job} (h : JobOk j) : oj_outdented_P j ∧ Fine j.1 (oj_outdented_F j) := by
  have hl := h.len
  have hb := h.b1
  have ha := h.ab
  have h0 := h.a0
  obtain ⟨k1, k2, ⟨u, k3⟩, k4⟩ := heads_core (hdO_g j) j.1 h.a0 h.ab h.b1 (fun l => by rw [out_g]; have := outN_le j.2.2.2.2.2.toNat l; show (0 : Int) ≤ (_ : Nat) ∧ ((_ : Nat) : Int) ≤ _; omega) hl (by
    obtain ⟨X, M, Y, s1, s2, s3, s4, s5, s6, s7⟩ := split_three j.1 (a := j.2.2.2.1.toNat) (b := j.2.2.2.2.1.toNat) (by omega) (by omega)
    rw [Int.toNat_of_nonneg h0, Int.toNat_of_nonneg (by omega)] at s4
    rw [s4, massH_zero _ (fun l => by rw [out_g])]
    omega)
  have hsz := apply_size (t := j.1) (by rw [k3])
  have hms := size_le_mass (headsL (hdO_g j) (slc (lines_Split_F j.1) j.2.2.2.1 (j.2.2.2.2.1 + 1)) (lines_Start_F j.1 j.2.2.2.1).1 0)
  rw [k3] at hsz
  exact ⟨⟨k1, k2⟩, .inr ⟨rfl, fits_first _ k3 (by dsimp only at hsz; omega), k4⟩⟩
theorem rep_nine (n : Nat) : repB [9] n = List.replicate n 9 := by
  induction n with
  | zero => rfl
  | succ n ih => simp [repB, ih, List.replicate_succ]
theorem indented_fine {j : Job} (h : JobOk j) : oj_indented_P j ∧ Fine j.1 (oj_indented_F j) := by
  have hl := h.len
  have hb := h.b1
  have ha := h.ab
  have h0 := h.a0
  have hc1 := h.c1
  have hc2 := h.c2
  have hlim : lim = 1099511627776 := rfl
  have hlen := (split_ok j.1).2.2
  obtain ⟨X, M, Y, s1, s2, s3, s4, s5, s6, s7⟩ := split_three j.1 (a := j.2.2.2.1.toNat) (b := j.2.2.2.2.1.toNat) (by omega) (by omega)
  rw [Int.toNat_of_nonneg h0, Int.toNat_of_nonneg (by omega)] at s4
  have hrep : (bytes_Repeat_F [9] j.2.2.2.2.2).length = j.2.2.2.2.2.toNat := by
    unfold bytes_Repeat_F; rw [rep_nine, List.length_replicate]
  have core : fullC j.2.2.2.2.2 M ≤ 65536 → _ := fun hf => heads_core (hdI_g (bytes_Repeat_F [9] j.2.2.2.2.2)) j.1 h.a0 h.ab h.b1 (fun l => by rw [in_g]; exact ⟨Int.le_refl _, by show (0 : Int) ≤ (l.length : Int); omega⟩) hl (by
    have := massH_full (hdI_g (bytes_Repeat_F [9] j.2.2.2.2.2)) j.2.2.2.2.2 (fun l => by
      rw [in_g]
      by_cases c : 0 < l.length
      · rw [if_pos c, if_pos c, hrep]; omega
      · rw [if_neg c, if_neg c]; rfl) M
    rw [s4]
    omega)
  refine ⟨⟨by omega, h0, by omega, by omega, by omega, hc2, fun hf => ?_⟩, ?_⟩
  · rw [s4] at hf
    obtain ⟨k1, k2, _, _⟩ := core hf
    exact ⟨k1, k2⟩
  · unfold oj_indented_F
    split
    · exact .inl ⟨by decide, rfl⟩
    · rename_i hf
      rw [s4] at hf
      obtain ⟨_, _, ⟨u, k3⟩, k4⟩ := core (by omega)
      have hsz := apply_size (t := j.1) (by rw [k3])
      have hms := size_le_mass (headsL (hdI_g (bytes_Repeat_F [9] j.2.2.2.2.2)) (slc (lines_Split_F j.1) j.2.2.2.1 (j.2.2.2.2.1 + 1)) (lines_Start_F j.1 j.2.2.2.1).1 0)
      rw [k3] at hsz
      exact .inr ⟨rfl, fits_first _ k3 (by dsimp only at hsz; omega), k4⟩
theorem do_fine {t : List Int} {at_ count : Int} {op : List Int} {r : Int × Int × Bool × Bool} (ht : t.length ≤ 65536) : oper_Do_P t at_ op r count ∧ Fine t (oper_Do_F t at_ op r count) := by
  have hz : Fine t ((([], 0, (false, false, []), 0, false), 2) : Eff × Int) := .inl ⟨by decide, rfl⟩
  have job : oper_outside_F t at_ count 1 = false → (oper_spanned_F t at_ r).2.2 = true → JobOk (t, at_, r, (oper_spanned_F t at_ r).1, (oper_spanned_F t at_ r).2.1, count) := fun ho hs => by
    obtain ⟨o1, o2, o3, o4⟩ := outside_iff ho
    obtain ⟨s1, s2, s3⟩ := spanned_ok hs
    obtain ⟨a1, a2, a3⟩ := spanned_ab (by omega) hs
    exact ⟨ht, s1, s2, s3, a1, a2, a3, o3, o4⟩
  have each : op ∈ knownOps → ∀ j : Job, JobOk j → opP op j ∧ Fine j.1 (opF op j) := fun hk j hj => by
    simp only [knownOps, List.mem_cons, List.not_mem_nil, or_false] at hk
    rcases hk with e | e | e | e | e | e | e | e <;> subst e
    · exact deleted_fine hj
    · exact changed_fine hj
    · exact yanked_fine hj
    · exact indented_fine hj
    · exact outdented_fine hj
    · have := turned_fine hj class_Toggle_F
      exact ⟨⟨⟨hj.r0, hj.r1, hj.r2⟩, by have := hj.len; omega, this.1, stay_any _⟩, this.2⟩
    · have := turned_fine hj class_Lower_F
      exact ⟨⟨⟨hj.r0, hj.r1, hj.r2⟩, by have := hj.len; omega, this.1, stay_any _⟩, this.2⟩
    · have := turned_fine hj class_Upper_F
      exact ⟨⟨⟨hj.r0, hj.r1, hj.r2⟩, by have := hj.len; omega, this.1, stay_any _⟩, this.2⟩
  refine ⟨fun hk ho => ⟨spanned_any _ _ _, fun hs => (each hk _ (job ho hs)).1⟩, ?_⟩
  unfold oper_Do_F
  by_cases hk : op ∈ knownOps
  · rw [if_pos hk]
    unfold doF
    by_cases ho : oper_outside_F t at_ count 1 = true
    · rw [if_pos ho]; exact hz
    · rw [if_neg ho]
      by_cases hs : (oper_spanned_F t at_ r).2.2 = false
      · rw [if_pos hs]; exact hz
      · rw [if_neg hs]
        split
        · exact .inl ⟨by decide, rfl⟩
        · exact (each hk _ (job (by simpa using ho) (by simpa using hs))).2
  · rw [if_neg hk]; exact hz
end Go.VE
namespace Go.VE
theorem cut_ten : ∀ (l m x y : List Int), (10 : Int) ∉ l → (10 : Int) ∉ m → (x = [] ∨ x.head? = some 10) → (y = [] ∨ y.head? = some 10) → l ++ x = m ++ y → l = m ∧ x = y
  | [], [], x, y, _, _, _, _, h => ⟨rfl, h⟩
  | [], b :: m, x, y, _, hm, hx, _, h => by
    exfalso
    have h : x = b :: (m ++ y) := h
    rcases hx with hx | hx
    · rw [hx] at h; cases h
    · rw [h] at hx
      injection hx with hx
      exact hm (by rw [hx]; exact List.mem_cons_self)
  | a :: l, [], x, y, hl, _, _, hy, h => by
    exfalso
    have h : a :: (l ++ x) = y := h
    rcases hy with hy | hy
    · rw [hy] at h; cases h
    · rw [← h] at hy
      injection hy with hy
      exact hl (by rw [hy]; exact List.mem_cons_self)
  | a :: l, b :: m, x, y, hl, hm, hx, hy, h => by
    have h : a :: (l ++ x) = b :: (m ++ y) := h
    injection h with h1 h2
    obtain ⟨e1, e2⟩ := cut_ten l m x y (fun c => hl (List.mem_cons_of_mem _ c)) (fun c => hm (List.mem_cons_of_mem _ c)) hx hy h2
    exact ⟨by rw [h1, e1], e2⟩
theorem unlT_head (L : List (List Int)) : unlT L = [] ∨ (unlT L).head? = some 10 := by
  cases L with
  | nil => exact .inl rfl
  | cons a r => exact .inr rfl
theorem unlT_inj : ∀ L M : List (List Int), (∀ x ∈ L, (10 : Int) ∉ x) → (∀ x ∈ M, (10 : Int) ∉ x) → unlT L = unlT M → L = M
  | [], [], _, _, _ => rfl
  | [], b :: M, _, _, h => by cases h
  | a :: L, [], _, _, h => by cases h
  | a :: L, b :: M, hL, hM, h => by
    have h : 10 :: (a ++ unlT L) = 10 :: (b ++ unlT M) := h
    injection h with _ h
    obtain ⟨e1, e2⟩ := cut_ten a b _ _ (hL a List.mem_cons_self) (hM b List.mem_cons_self) (unlT_head L) (unlT_head M) h
    rw [e1, unlT_inj L M (fun x hx => hL x (List.mem_cons_of_mem _ hx)) (fun x hx => hM x (List.mem_cons_of_mem _ hx)) e2]
theorem unl_inj {L M : List (List Int)} (h1 : L ≠ []) (h2 : M ≠ []) (hL : ∀ x ∈ L, (10 : Int) ∉ x) (hM : ∀ x ∈ M, (10 : Int) ∉ x) (h : unl L = unl M) : L = M :=
  unlT_inj L M hL hM (by rw [unlT_unl h1, unlT_unl h2, h])
theorem split_unl {L : List (List Int)} (h1 : L ≠ []) (hL : ∀ x ∈ L, (10 : Int) ∉ x) : lines_Split_F (unl L) = L := by
  obtain ⟨g1, g2, g3⟩ := split_ok (unl L)
  exact unl_inj (by intro e; rw [e] at g3; simp at g3) h1 g2 hL g1
theorem cnt_unl {L : List (List Int)} (h1 : L ≠ []) (hL : ∀ x ∈ L, (10 : Int) ∉ x) : cnt (unl L) + 1 = L.length := by
  have := (split_ok (unl L)).2.2
  rw [split_unl h1 hL] at this
  omega
def mapR (h : List Int → List Int) (a b : Nat) (L : List (List Int)) : List (List Int) := L.take a ++ (((L.take (b + 1)).drop a).map h ++ L.drop (b + 1))
theorem mapR_get {h : List Int → List Int} {a b : Nat} {L : List (List Int)} (hab : a ≤ b) (hb : b < L.length) (i : Nat) : (mapR h a b L)[i]? = if a ≤ i ∧ i ≤ b then L[i]?.map h else L[i]? := by
  unfold mapR
  have e1 : (L.take a).length = a := by rw [List.length_take]; omega
  have e2 : (((L.take (b + 1)).drop a).map h).length = b + 1 - a := by rw [List.length_map, List.length_drop, List.length_take]; omega
  by_cases c1 : i < a
  · rw [if_neg (by omega), List.getElem?_append_left (by omega), List.getElem?_take, if_pos c1]
  · rw [List.getElem?_append_right (by omega), e1]
    by_cases c2 : i ≤ b
    · rw [if_pos ⟨by omega, c2⟩, List.getElem?_append_left (by omega), List.getElem?_map, List.getElem?_drop, List.getElem?_take, if_pos (by omega), show a + (i - a) = i by omega]
    · rw [if_neg (by omega), List.getElem?_append_right (by omega), e2, List.getElem?_drop, show b + 1 + (i - a - (b + 1 - a)) = i by omega]
theorem mapR_length {h : List Int → List Int} {a b : Nat} {L : List (List Int)} (hab : a ≤ b) (hb : b < L.length) : (mapR h a b L).length = L.length := by
  unfold mapR
  rw [List.length_append, List.length_append, List.length_map, List.length_drop, List.length_take, List.length_take, List.length_drop]
  omega
theorem mapR_short {h : List Int → List Int} (h0 : h [] = []) {a b c : Nat} {L : List (List Int)} (hab : a ≤ b) (hbc : b ≤ c) (hc : c < L.length) (he : ∀ i, b < i → i ≤ c → L[i]? = some []) : mapR h a b L = mapR h a c L := by
  apply List.ext_getElem?
  intro i
  rw [mapR_get hab (by omega), mapR_get (by omega) hc]
  by_cases c1 : a ≤ i ∧ i ≤ b
  · rw [if_pos c1, if_pos ⟨c1.1, by omega⟩]
  · rw [if_neg c1]
    split
    · rw [he i (by omega) (by omega)]
      simp [h0]
    · rfl
theorem mapR_no_ten {h : List Int → List Int} (hh : ∀ l, (10 : Int) ∉ l → (10 : Int) ∉ h l) {a b : Nat} {L : List (List Int)} (hL : ∀ x ∈ L, (10 : Int) ∉ x) : ∀ x ∈ mapR h a b L, (10 : Int) ∉ x := by
  intro x hx
  unfold mapR at hx
  rcases List.mem_append.1 hx with hx | hx
  · exact hL x (List.mem_of_mem_take hx)
  · rcases List.mem_append.1 hx with hx | hx
    · obtain ⟨l, hl, rfl⟩ := List.mem_map.1 hx
      exact hh l (hL l (List.mem_of_mem_take (List.mem_of_mem_drop hl)))
    · exact hL x (List.mem_of_mem_drop hx)
theorem heads_map (g : List Int → Int × List Int) (t : List Int) {a b : Nat} (hab : a ≤ b) (hb : b ≤ cnt t) (hg : ∀ l, 0 ≤ (g l).1 ∧ (g l).1 ≤ (l.length : Int)) :
    change_Apply_F t (headsL g (slc (lines_Split_F t) (a : Int) ((b : Int) + 1)) (lines_Start_F t (a : Int)).1 0) = (unl (mapR (hdL g) a b (lines_Split_F t)), 0) := by
  obtain ⟨h1, h2, h3⟩ := split_ok t
  have es : slc (lines_Split_F t) (a : Int) ((b : Int) + 1) = ((lines_Split_F t).take (b + 1)).drop a := by
    unfold slc
    rw [Int.toNat_natCast, show ((b : Int) + 1).toNat = b + 1 by omega]
  obtain ⟨X, M, Y, s1, s2, s3, s4, s5, s6, s7⟩ := split_three t hab hb
  have hst := start_at s6
  have hM : M ≠ [] := by intro e; rw [e] at s3; simp at s3
  have hlaw := heads_law g M Y (headW X) _ rfl (fun l _ => hg l)
  rw [← s5] at hlaw
  rw [s4, hst]
  dsimp only
  have e1 : X = (lines_Split_F t).take a := by rw [s1, ← s2, List.take_left]
  have e2 : Y = (lines_Split_F t).drop (b + 1) := by
    have : b + 1 = (X ++ M).length := by rw [List.length_append]; omega
    rw [s1, ← List.append_assoc, this, List.drop_left]
  have e3 : unl (mapR (hdL g) a b (lines_Split_F t)) = headW X ++ unl (M.map (hdL g) ++ Y) := by
    unfold mapR
    rw [← e1, ← e2, ← es, s4]
    exact unl_append (by intro e; exact hM (by simpa using (List.append_eq_nil_iff.1 e).1))
  unfold change_Apply_F
  rw [hlaw, e3]
theorem eqT_lead (p q p2 q2 : Int) (a b : Bool) (h : eqT (.pair (.int .i64) (.pair (.int .i64) (.pair (.bool) (.bool)))) ((p, q, a, b) : Int × Int × Bool × Bool) ((p2, q2, true, true) : Int × Int × Bool × Bool) = true) : b = true := by
  cases b
  · exfalso
    revert h
    simp only [eqT]
    generalize decide (p = p2) = x
    generalize decide (q = q2) = y
    cases x <;> cases y <;> cases a <;> simp
  · rfl
theorem eqT_end (p q p2 q2 : Int) (a b c d : Bool) (h : eqT (.pair (.int .i64) (.pair (.int .i64) (.pair (.bool) (.bool)))) ((p, q, a, b) : Int × Int × Bool × Bool) ((p2, q2, c, d) : Int × Int × Bool × Bool) = true) : q = q2 := by
  by_cases e : q = q2
  · exact e
  · exfalso
    revert h
    simp only [eqT]
    rw [decide_eq_false e]
    generalize decide (p = p2) = x
    cases x <;> simp
theorem span_lines {t : List Int} (ht : t.length ≤ 65536) {a b pa : Nat} (hab : a ≤ b) (hb : b ≤ cnt t) (ha : Begins t a pa) : ∃ (r : Int × Int × Bool × Bool) (b' : Nat), extent_Whole_F t (a : Int) (b : Int) = (r, 0) ∧ r.2.2.1 = true ∧
    oper_spanned_F t (pa : Int) r = ((a : Int), (b' : Int), true) ∧ a ≤ b' ∧ b' ≤ b ∧ (b' < b → b' + 1 = b ∧ Begins t b t.length) := by
  have hcl := cnt_le t
  have hpa := ha.1
  have hofa : lines_Of_F t (pa : Int) = ((a : Int), 0) := by rw [Of_eq hpa, ha.2.1]
  -- what is found
  have J : ∀ (x : Int) (r : Int × Int × Bool × Bool) (n : Nat), x = (a : Int) → lines_Of_F t r.2.1 = ((n : Int), 0) → oper_spanned_J1_F t (pa : Int) x r = ((a : Int), spanStep t (a : Int) (a : Int) r (spanStep t (a : Int) (a : Int) r (-1) ((n : Int) - 1)) (cnt t : Int), decide (0 ≤ spanStep t (a : Int) (a : Int) r (spanStep t (a : Int) (a : Int) r (-1) ((n : Int) - 1)) (cnt t : Int))) := fun x r n hx hn => by
    subst hx
    have hn9 : (n : Int) ≤ 65536 := by
      have : n = (lines_Of_F t r.2.1).1 := by rw [hn]
      have h2 : (lines_Of_F t r.2.1).1 ≤ 65536 := by
        unfold lines_Of_F
        cases lines_has_F t r.2.1
        · show (0 : Int) ≤ 65536; decide
        · show (List.count (rd (0 : Int) [10] 0) (List.take r.2.1.toNat t) : Int) ≤ 65536
          have := List.count_le_length (a := rd (0 : Int) [10] 0) (l := List.take r.2.1.toNat t)
          rw [List.length_take] at this
          omega
      omega
    unfold oper_spanned_J1_F oper_spanned_L0_F
    dsimp only
    rw [hn, hofa, count_eq]
    dsimp only
    rw [wrap_i64 (n := (n : Int) - 1) (by omega) (by omega), wrap_i64 (n := (cnt t : Int) + 1) (by omega) (by omega), wrap_i64 (by omega) (by omega), show (cnt t : Int) + 1 - 1 = (cnt t : Int) by omega]
    rfl
  have keep : ∀ (r : Int × Int × Bool × Bool) (f x : Int), 0 ≤ f → (a : Int) ≤ f → spanStep t (a : Int) (a : Int) r f x = f := fun r f x h0 h1 => by
    unfold spanStep; rw [if_neg (fun hh => hh.2.2 ⟨h0, h1⟩)]
  have find : ∀ (r : Int × Int × Bool × Bool) (x : Int), extent_Whole_F t (a : Int) x = (r, 0) → spanStep t (a : Int) (a : Int) r (-1) x = x := fun r x h => by
    unfold spanStep; rw [h, if_pos ⟨rfl, eqT_range r, fun hh => absurd hh.1 (by decide)⟩]
  have miss : ∀ (r : Int × Int × Bool × Bool) (x : Int), ¬ ((extent_Whole_F t (a : Int) x).2 = 0 ∧ eqT (.pair (.int .i64) (.pair (.int .i64) (.pair (.bool) (.bool)))) (extent_Whole_F t (a : Int) x).1 r = true) → spanStep t (a : Int) (a : Int) r (-1) x = -1 := fun r x h => by
    unfold spanStep; rw [if_neg (fun hh => h ⟨hh.1, hh.2.1⟩)]
  have span : ∀ (f g : Nat) (lead : Bool) (n : Nat), f ≤ g → g ≤ t.length → cnt (t.take f) + (if lead then 1 else 0) = a → cnt (t.take g) = n → oper_spanned_F t (pa : Int) ((f : Int), (g : Int), true, lead) = ((a : Int), spanStep t (a : Int) (a : Int) ((f : Int), (g : Int), true, lead) (spanStep t (a : Int) (a : Int) ((f : Int), (g : Int), true, lead) (-1) ((n : Int) - 1)) (cnt t : Int), decide (0 ≤ spanStep t (a : Int) (a : Int) ((f : Int), (g : Int), true, lead) (spanStep t (a : Int) (a : Int) ((f : Int), (g : Int), true, lead) (-1) ((n : Int) - 1)) (cnt t : Int))) := fun f g lead n h1 h2 h3 h4 => by
    have hof : lines_Of_F t (g : Int) = ((n : Int), 0) := by rw [Of_eq h2, h4]
    unfold oper_spanned_F
    rw [Of_eq (show f ≤ t.length by omega)]
    dsimp only
    rw [decide_eq_false (by omega : ¬ (g : Int) < f), decide_eq_false (by omega : ¬ (t.length : Int) < g)]
    cases lead
    · show (_ : Int × Int × Bool) = _
      have := J (cnt (t.take f) : Int) ((f : Int), (g : Int), true, false) n (by simp at h3; omega) hof
      exact this
    · have := J (IntKind.wrap .i64 ((cnt (t.take f) : Int) + 1)) ((f : Int), (g : Int), true, true) n (by rw [wrap_i64 (by omega) (by omega)]; simp at h3; omega) hof
      exact this
  by_cases hlt : b < cnt t
  · obtain ⟨pe, hpe⟩ := begins_ex (t := t) (n := b + 1) (by omega)
    have hle := ha.le hpe (by omega)
    have hw := whole_mid ht ha hpe hab
    refine ⟨_, b, hw, rfl, ?_, hab, Nat.le_refl _, fun h => absurd h (by omega)⟩
    rw [span pa pe false (b + 1) hle hpe.1 (by rw [ha.2.1]; simp) hpe.2.1]
    rw [show ((b + 1 : Nat) : Int) - 1 = (b : Int) by omega, find _ _ hw, keep _ _ _ (by omega) (by omega), decide_eq_true (by omega : (0 : Int) ≤ (b : Int))]
  · have hb' : b = cnt t := by omega
    subst hb'
    have hw := whole_end ht ha
    have hcl2 : cnt (t.take t.length) = cnt t := by rw [List.take_length]
    by_cases h0 : 0 < a
    · rw [if_pos h0] at hw
      obtain ⟨g1, g2⟩ := ha.pos h0
      have hc1 : cnt (t.take (pa - 1)) + 1 = a := by
        have := cnt_take_succ g2
        rw [show pa - 1 + 1 = pa by omega, ha.2.1] at this
        omega
      refine ⟨_, cnt t, hw, rfl, ?_, hab, Nat.le_refl _, fun h => absurd h (by omega)⟩
      rw [span (pa - 1) t.length true (cnt t) (by omega) (Nat.le_refl _) (by simp; omega) hcl2]
      rw [miss _ _ (fun hh => ?_), find _ _ hw, decide_eq_true (by omega : (0 : Int) ≤ (cnt t : Int))]
      have hab2 := whole_ab hh.1
      obtain ⟨pe, hpe⟩ := begins_ex (t := t) (n := cnt t) (Nat.le_refl _)
      have hw2 := whole_mid (b := cnt t - 1) ht ha (by rw [show cnt t - 1 + 1 = cnt t by omega]; exact hpe) (by omega)
      rw [show ((cnt t - 1 : Nat) : Int) = (cnt t : Int) - 1 by omega] at hw2
      rw [hw2] at hh
      exact absurd (eqT_lead _ _ _ _ _ _ hh.2) (by decide)
    · obtain rfl : a = 0 := by omega
      obtain rfl : pa = 0 := ha.uniq (Begins.zero t)
      rw [if_neg h0] at hw
      replace hw : extent_Whole_F t ((0 : Nat) : Int) (cnt t : Int) = ((((0 : Nat) : Int), (t.length : Int), true, false), 0) := hw
      by_cases hc : 0 < cnt t
      · obtain ⟨pe, hpe⟩ := begins_ex (t := t) (n := cnt t) (Nat.le_refl _)
        have hpl := hpe.1
        have hw2 := whole_mid (b := cnt t - 1) ht ha (by rw [show cnt t - 1 + 1 = cnt t by omega]; exact hpe) (by omega)
        rw [show ((cnt t - 1 : Nat) : Int) = (cnt t : Int) - 1 by omega] at hw2
        by_cases he : pe = t.length
        · subst he
          refine ⟨_, cnt t - 1, hw, rfl, ?_, by omega, by omega, fun _ => ⟨by omega, hpe⟩⟩
          rw [span 0 t.length false (cnt t) (Nat.zero_le _) (Nat.le_refl _) (by simp [cnt]) hcl2]
          rw [find _ _ hw2, keep _ _ _ (by omega) (by omega), decide_eq_true (by omega : (0 : Int) ≤ (cnt t : Int) - 1), show ((cnt t - 1 : Nat) : Int) = (cnt t : Int) - 1 by omega]
        · refine ⟨_, cnt t, hw, rfl, ?_, by omega, Nat.le_refl _, fun h => absurd h (by omega)⟩
          rw [span 0 t.length false (cnt t) (Nat.zero_le _) (Nat.le_refl _) (by simp [cnt]) hcl2]
          rw [miss _ _ (fun hh => ?_), find _ _ hw, decide_eq_true (by omega : (0 : Int) ≤ (cnt t : Int))]
          rw [hw2] at hh
          have := eqT_end _ _ _ _ _ _ _ _ hh.2
          omega
      · refine ⟨_, cnt t, hw, rfl, ?_, by omega, Nat.le_refl _, fun h => absurd h (by omega)⟩
        rw [span 0 t.length false (cnt t) (Nat.zero_le _) (Nat.le_refl _) (by simp [cnt]) hcl2]
        rw [miss _ _ (fun hh => ?_), find _ _ hw, decide_eq_true (by omega : (0 : Int) ≤ (cnt t : Int))]
        have := whole_ab hh.1
        omega
end Go.VE
namespace Go.VE
def tabsK (k : Nat) : List Int := List.replicate k 9
def inL (k : Nat) (l : List Int) : List Int := if 0 < l.length then tabsK k ++ l else l
def outL (k : Nat) (l : List Int) : List Int := l.drop (outN k l)
theorem hd_in (k : Nat) : hdL (hdI_g (tabsK k)) = inL k := funext fun l => by
  unfold hdL inL
  rw [in_g]
  dsimp only
  by_cases c : 0 < l.length
  · rw [if_pos c, if_pos c]; rfl
  · rw [if_neg c, if_neg c]; rfl
theorem hd_out (j : List Int × Int × (Int × Int × Bool × Bool) × Int × Int × Int) : hdL (hdO_g j) = outL j.2.2.2.2.2.toNat := funext fun l => by
  unfold hdL outL
  rw [out_g]
  dsimp only
  rw [Int.toNat_natCast]
  rfl
theorem out_tabs : ∀ (k : Nat) (l : List Int), outN k (tabsK k ++ l) = k
  | 0, l => rfl
  | k + 1, l => by
    have e : tabsK (k + 1) ++ l = 9 :: (tabsK k ++ l) := by unfold tabsK; rw [List.replicate_succ]; rfl
    have hs : stepO (9 :: (tabsK k ++ l)) = 1 := by unfold stepO; exact if_pos rfl
    rw [e, outN, hs, if_neg (by decide), List.drop_succ_cons, List.drop_zero, out_tabs k l]
    omega
theorem outN_nil : ∀ k : Nat, outN k [] = 0
  | 0 => rfl
  | k + 1 => by rw [outN, if_pos (by decide)]
theorem out_in (k : Nat) (l : List Int) : outL k (inL k l) = l := by
  unfold inL outL
  by_cases c : 0 < l.length
  · rw [if_pos c, out_tabs]
    have : (tabsK k).length = k := List.length_replicate
    conv => lhs; arg 1; rw [← this]
    rw [List.drop_left]
  · rw [if_neg c]
    have : l = [] := List.eq_nil_of_length_eq_zero (by omega)
    rw [this, outN_nil]
    rfl
theorem in_no_ten (k : Nat) : ∀ l : List Int, (10 : Int) ∉ l → (10 : Int) ∉ inL k l := fun l hl h => by
  unfold inL at h
  split at h
  · rcases List.mem_append.1 h with h | h
    · have := List.eq_of_mem_replicate h
      exact absurd this (by decide)
    · exact hl h
  · exact hl h
theorem out_no_ten (k : Nat) : ∀ l : List Int, (10 : Int) ∉ l → (10 : Int) ∉ outL k l := fun l hl h => hl (List.mem_of_mem_drop h)
theorem do_lines {t : List Int} {a b' pa : Nat} {r : Int × Int × Bool × Bool} {k : Int} (h1 : 1 ≤ k) (h9 : k ≤ 9999) (ha : Begins t a pa) (hl : r.2.2.1 = true) (hs : oper_spanned_F t (pa : Int) r = ((a : Int), (b' : Int), true)) {op : List Int} (hop : op ∈ knownOps) (hne : op ≠ [100]) :
    oper_Do_F t (pa : Int) op r k = opF op (t, (pa : Int), r, (a : Int), (b' : Int), k) := by
  have hpa := ha.1
  have ho : oper_outside_F t (pa : Int) k 1 = false := by
    unfold oper_outside_F
    rw [decide_eq_false (by omega), decide_eq_false (by omega), decide_eq_false (by omega), decide_eq_false (by omega)]
    rfl
  unfold oper_Do_F doF
  rw [if_pos hop, hs, ho, if_neg (by decide), if_neg (by show ¬ (true = false); decide), if_neg ?_]
  rintro ⟨_, h | h⟩
  · rw [hl] at h; cases h.1
  · exact hne h.2
theorem last_empty {t : List Int} {b : Nat} (hb : b = cnt t) (h : Begins t b t.length) : (lines_Split_F t)[b]? = some [] := by
  obtain ⟨X, M, Y, s1, s2, s3, s4, s5, s6, s7⟩ := split_three t (a := b) (b := b) (Nat.le_refl _) (by omega)
  have hu := s6.uniq h
  have hl := congrArg List.length s5
  rw [List.length_append, hu] at hl
  cases M with
  | nil => simp at s3
  | cons l M =>
    have he : (unl (l :: M ++ Y)).length = 0 := by omega
    have : l.length = 0 := by
      have e : unl (l :: M ++ Y) = l ++ unlT (M ++ Y) := rfl
      rw [e, List.length_append] at he
      omega
    have hl0 : l = [] := List.eq_nil_of_length_eq_zero this
    rw [s1, List.getElem?_append_right (by omega), s2, Nat.sub_self, hl0]
    rfl
theorem fullC_nine (c : Int) (h0 : 0 ≤ c) (h9 : c ≤ 9) : ∀ L : List (List Int), fullC c L ≤ 9 * (L.length : Int)
  | [] => by simp [fullC]
  | l :: r => by
    have := fullC_nine c h0 h9 r
    unfold fullC
    rw [List.length_cons]
    split <;> omega
theorem short_lines {t : List Int} {h : List Int → List Int} (h0 : h [] = []) {a b b' : Nat} (hab : a ≤ b') (hb' : b' ≤ b) (hb : b ≤ cnt t) (he : b' < b → b' + 1 = b ∧ b = cnt t ∧ Begins t b t.length) : mapR h a b' (lines_Split_F t) = mapR h a b (lines_Split_F t) := by
  have h3 := (split_ok t).2.2
  refine mapR_short h0 hab hb' (by omega) fun i i1 i2 => ?_
  obtain ⟨e1, e2, e3⟩ := he (by omega)
  obtain rfl : i = b := by omega
  exact last_empty e2 e3
theorem begins_all {t : List Int} {b : Nat} (h : Begins t b t.length) : b = cnt t := by
  have := h.2.1
  rw [List.take_length] at this
  exact this.symm
theorem in_do {t : List Int} (ht : t.length ≤ 4096) {a b pa : Nat} (hab : a ≤ b) (hb : b ≤ cnt t) (ha : Begins t a pa) {k : Nat} (k1 : 1 ≤ k) (k9 : k ≤ 9) : ∃ (r : Int × Int × Bool × Bool) (x : Eff), extent_Whole_F t (a : Int) (b : Int) = (r, 0) ∧
    oper_Do_F t (pa : Int) [62] r (k : Int) = (x, 0) ∧ change_Apply_F t x.1 = (unl (mapR (inL k) a b (lines_Split_F t)), 0) := by
  have hcl := cnt_le t
  obtain ⟨r, b', g1, g2, g3, g4, g5, g6⟩ := span_lines (by omega) hab hb ha
  obtain ⟨X, M, Y, s1, s2, s3, s4, s5, s6, s7⟩ := split_three t (a := a) (b := b') g4 (by omega)
  have hd := do_lines (k := (k : Int)) (op := [62]) (by omega) (by omega) ha g2 g3 (by decide) (by decide)
  have hrep : bytes_Repeat_F [9] (k : Int) = tabsK k := by unfold bytes_Repeat_F; rw [Int.toNat_natCast, rep_nine]; rfl
  have hf : ¬ 65536 < fullC (k : Int) (slc (lines_Split_F t) (a : Int) ((b' : Int) + 1)) := by
    have := fullC_nine (k : Int) (by omega) (by omega) M
    rw [s4]; omega
  have e : opF [62] (t, (pa : Int), r, (a : Int), (b' : Int), (k : Int)) = ((hdI_F (t, (pa : Int), r, (a : Int), (b' : Int), (k : Int)) (tabsK k)).1, 0) := by
    show oj_indented_F _ = _
    unfold oj_indented_F
    rw [if_neg hf, hrep]
  refine ⟨r, _, g1, hd.trans e, ?_⟩
  have hm := heads_map (hdI_g (tabsK k)) t g4 (by omega) (fun l => by rw [in_g]; exact ⟨Int.le_refl _, by show (0 : Int) ≤ (l.length : Int); omega⟩)
  rw [hd_in, short_lines (by rfl) g4 g5 hb (fun h => ⟨(g6 h).1, begins_all (g6 h).2, (g6 h).2⟩)] at hm
  exact hm
theorem out_do {t : List Int} (ht : t.length ≤ 65536) {a b pa : Nat} (hab : a ≤ b) (hb : b ≤ cnt t) (ha : Begins t a pa) {k : Nat} (k1 : 1 ≤ k) (k9 : k ≤ 9) : ∃ (r : Int × Int × Bool × Bool) (x : Eff), extent_Whole_F t (a : Int) (b : Int) = (r, 0) ∧
    oper_Do_F t (pa : Int) [60] r (k : Int) = (x, 0) ∧ change_Apply_F t x.1 = (unl (mapR (outL k) a b (lines_Split_F t)), 0) := by
  obtain ⟨r, b', g1, g2, g3, g4, g5, g6⟩ := span_lines ht hab hb ha
  have hd := do_lines (k := (k : Int)) (op := [60]) (by omega) (by omega) ha g2 g3 (by decide) (by decide)
  have e : opF [60] (t, (pa : Int), r, (a : Int), (b' : Int), (k : Int)) = ((hdO_F (t, (pa : Int), r, (a : Int), (b' : Int), (k : Int)) (t, (pa : Int), r, (a : Int), (b' : Int), (k : Int))).1, 0) := rfl
  refine ⟨r, _, g1, hd.trans e, ?_⟩
  have hm := heads_map (hdO_g (t, (pa : Int), r, (a : Int), (b' : Int), (k : Int))) t g4 (by omega) (fun l => by rw [out_g]; exact ⟨Int.natCast_nonneg _, Int.ofNat_le.2 (outN_le _ l)⟩)
  rw [hd_out, short_lines (by unfold outL; rw [outN_nil]; rfl) g4 g5 hb (fun h => ⟨(g6 h).1, begins_all (g6 h).2, (g6 h).2⟩)] at hm
  exact hm
theorem unlT_map_le (k : Nat) : ∀ L : List (List Int), (unlT (L.map (inL k))).length ≤ (unlT L).length + k * L.length
  | [] => Nat.le_refl _
  | l :: L => by
    have ih := unlT_map_le k L
    have h : (inL k l).length ≤ k + l.length := by
      unfold inL
      split
      · rw [List.length_append]; unfold tabsK; rw [List.length_replicate]; omega
      · omega
    rw [List.map_cons, List.length_cons, Nat.mul_succ]
    unfold unlT
    rw [List.length_cons, List.length_cons, List.length_append, List.length_append]
    omega
theorem mapR_len {k a b : Nat} {L : List (List Int)} (hab : a ≤ b) (hb : b < L.length) : (unl (mapR (inL k) a b L)).length ≤ (unl L).length + k * L.length := by
  have h1 : L = L.take a ++ ((L.take (b + 1)).drop a ++ L.drop (b + 1)) := by
    have e : L.take a = (L.take (b + 1)).take a := by rw [List.take_take, Nat.min_eq_left (by omega)]
    rw [← List.append_assoc, e, List.take_append_drop, List.take_append_drop]
  have hn : mapR (inL k) a b L ≠ [] := by
    intro e
    have := mapR_length (h := inL k) hab hb
    rw [e, List.length_nil] at this
    omega
  have hL : L ≠ [] := by intro e; rw [e] at hb; simp at hb
  have e1 := congrArg List.length (unlT_unl hn)
  have e2 := congrArg List.length (unlT_unl hL)
  rw [List.length_cons] at e1 e2
  have hm := unlT_map_le k ((L.take (b + 1)).drop a)
  have hk : k * ((L.take (b + 1)).drop a).length ≤ k * L.length := Nat.mul_le_mul_left _ (by rw [List.length_drop, List.length_take]; omega)
  have e3 : (unlT (mapR (inL k) a b L)).length = (unlT (L.take a)).length + ((unlT (((L.take (b + 1)).drop a).map (inL k))).length + (unlT (L.drop (b + 1))).length) := by
    unfold mapR
    rw [unlT_append, unlT_append, List.length_append, List.length_append]
  have e4 : (unlT L).length = (unlT (L.take a)).length + ((unlT ((L.take (b + 1)).drop a)).length + (unlT (L.drop (b + 1))).length) := by
    conv => lhs; rw [h1]
    rw [unlT_append, unlT_append, List.length_append, List.length_append]
  omega
end Go.VE
namespace Go.VE
open Go Go.Proofs
/-! ### quoin/quoinlaw19.awake -/
def qo_awake_G : List (Nat × App) := [(28, oper_Do_S), (21, oper_Put_S)]
theorem qo_awake_Gok : GOk Tryd.prog (getG qo_awake_G) := GOk.cons oper_Do_ok (GOk.cons oper_Put_ok (GOk.nil))
def qo_awake_raw  (K : Res → List Cell → Prop) : Prop :=
 oper_Do_P ([(104 : Int), (101 : Int), (108 : Int), (108 : Int), (111 : Int)] : List Int) (0 : Int) ([100] : List Int) ((0 : Int), (2 : Int), false, false) (1 : Int) ∧ (
 ∀ (r1 : EfD × Int), r1 = oper_Do_F ([(104 : Int), (101 : Int), (108 : Int), (108 : Int), (111 : Int)] : List Int) (0 : Int) ([100] : List Int) ((0 : Int), (2 : Int), false, false) (1 : Int) → (
 wfR (.tup [.v EfT r1.1, .v (.int .i64) r1.2]) → (
 oper_Put_P ([(108 : Int), (108 : Int), (111 : Int)] : List Int) (0 : Int) (1 : Int) r1.1.2.2.1 true ∧ (
 ∀ (r2 : EfD × Int), r2 = oper_Put_F ([(108 : Int), (108 : Int), (111 : Int)] : List Int) (0 : Int) (1 : Int) r1.1.2.2.1 true → (
 wfR (.tup [.v EfT r2.1, .v (.int .i64) r2.2]) → (
 bif (decide (r1.2 = (0 : Int))) then
 bif (decide (r2.2 = (0 : Int))) then
 bif (decide ((List.length r1.1.1 : Int) = (1 : Int))) then
 bif decide (0 ≤ (0 : Int) ∧ (0 : Int) < (List.length r1.1.1 : Int)) then
 bif (decide ((rd ((0 : Int), ([] : List Int), ([] : List Int)) r1.1.1 (0 : Int)).2.1 = ([104, 101] : List Int))) then
 bif (decide (r1.1.2.2.1.2.2 = ([104, 101] : List Int))) then
 bif (decide (r1.1.2.2.2.1 = (3 : Int))) then
 bif (decide ((List.length r2.1.1 : Int) = (1 : Int))) then
 bif decide (0 ≤ (0 : Int) ∧ (0 : Int) < (List.length r2.1.1 : Int)) then
 bif (decide ((rd ((0 : Int), ([] : List Int), ([] : List Int)) r2.1.1 (0 : Int)).2.2 = ([104, 101] : List Int))) then
 K (.one (.v (.bool) (decide (r2.1.2.1 = (1 : Int))))) []
 else
 K (.one (.v (.bool) false)) []
 else False
 else
 K (.one (.v (.bool) false)) []
 else
 K (.one (.v (.bool) false)) []
 else
 K (.one (.v (.bool) false)) []
 else
 K (.one (.v (.bool) false)) []
 else False
 else
 K (.one (.v (.bool) false)) []
 else
 K (.one (.v (.bool) false)) []
 else
 K (.one (.v (.bool) false)) []))))))
def qo_awake_A : List AS := []
theorem qo_awake_walk  (K : Res → List Cell → Prop) : runF tb (getG qo_awake_G) [] Tryd.f18 [true] (mkA qo_awake_A ()) K = qo_awake_raw  K := by kernel_rfl
--! pre 0
--! import FT3 OL4
def qo_awake_F : Bool := true
theorem qo_awake_sp (K : Res → List Cell → Prop) (_ : wfA qo_awake_A ()) (h : ∀ r : Bool, r = qo_awake_F → K (.one (.v .bool r)) []) : qo_awake_raw K := by
  unfold qo_awake_raw
  refine ⟨(do_fine (by decide)).1, fun r1 h1 _ => ?_⟩
  have e1 : oper_Do_F [104, 101, 108, 108, 111] 0 [100] (0, 2, false, false) 1 = (([(0, [104, 101], [])], 0, (true, false, [104, 101]), 3, false), 0) := by kernel_rfl
  rw [e1] at h1
  subst h1
  refine ⟨put_P (by decide) (by decide), fun r2 h2 _ => ?_⟩
  have e2 : oper_Put_F [108, 108, 111] 0 1 ((([(0, [104, 101], [])], 0, (true, false, [104, 101]), 3, false), 0) : Eff × Int).1.2.2.1 true = (([(0, [], [104, 101])], 1, (false, false, []), 0, false), 0) := by kernel_rfl
  rw [e2] at h2
  subst h2
  exact h true rfl

def qo_awake_C (v : valsA qo_awake_A) (K : Res → List Cell → Prop) : Prop := ∀ r : Bool, r = qo_awake_F → K (.one (.v (.bool) r)) []
def qo_awake_S : App := specW qo_awake_A qo_awake_C
theorem qo_awake_wv (K : Res → List Cell → Prop) : ∀ v : valsA qo_awake_A, runF tb (getG qo_awake_G) [] Tryd.f18 [true] (mkA qo_awake_A v) K = qo_awake_raw  K
  | () => qo_awake_walk  K
set_option maxRecDepth 20000 in
theorem qo_awake_ok : AppOk Tryd.prog 18 qo_awake_S :=
  AppOk.specW (spec_ok ((runF_ok tb_M tb_ok qo_awake_Gok (LabsOk.nil) (f := 18) (fn := Tryd.f18) (by kernel_rfl) (by kernel_rfl) (by kernel_rfl) [true])) fun v K hw h => (qo_awake_wv K v).mpr (qo_awake_sp  K hw h))

end Go.VE
namespace Go.VE
open Go Go.Proofs
/-! ### quoin/quoinlaw19.OperShifts -/
def qo_OperShifts_G : List (Nat × App) := [(18, qo_awake_S), (26, lines_Count_S), (27, qo_place_S), (31, lines_Start_S), (30, extent_Whole_S), (28, oper_Do_S), (29, change_Apply_S), (35, lines_Split_S)]
theorem qo_OperShifts_Gok : GOk Tryd.prog (getG qo_OperShifts_G) := GOk.cons qo_awake_ok (GOk.cons lines_Count_ok (GOk.cons qo_place_ok (GOk.cons lines_Start_ok (GOk.cons extent_Whole_ok (GOk.cons oper_Do_ok (GOk.cons change_Apply_ok (GOk.cons lines_Split_ok (GOk.nil))))))))
theorem qo_OperShifts_st : storesC (bodyOf Tryd.f8) = true := by kernel_rfl
def qo_OperShifts_d0 : List LS := [.v 8 (.int .i64), .v 9 (.int .i64), .o 27 221 22 (.sl (.int .u8)), .o 28 229 22 (.sl (.int .u8)), .v 29 (.int .i64), .v 30 (.int .i64), .v 31 (.str), .v 175 (.int .i64), .v 176 (.int .i64), .v 200 (.int .i64), .v 201 (.int .i64)]
def qo_OperShifts_d0x2 : List LS := [.v 8 (.int .i64), .v 9 (.int .i64), .o 27 221 22 (.sl (.int .u8)), .o 28 229 22 (.sl (.int .u8)), .v 29 (.int .i64), .v 30 (.int .i64), .v 31 (.str), .v 175 (.int .i64), .v 176 (.int .i64)]
def qo_OperShifts_dx0 : DX := ⟨none, none, [(2, qo_OperShifts_d0x2)]⟩
def qo_OperShifts_T0 (Y : Int → Int → List (List Int) → List (List Int) → Int → Int → List Int → Int → Int → Int → Int → Prop) (kx2 : Int → Int → List (List Int) → List (List Int) → Int → Int → List Int → Int → Int → Prop) (k8 : Int) (a9 : Int) (old27 : List (List Int)) (now28 : List (List Int)) (last29 : Int) (i30 : Int) (want31 : List Int) (x175 : Int) (x176 : Int) (x200 : Int) (x201 : Int) : Prop :=
 bif (decide (x201 < x200)) then
 bif decide (List.length ([9] : List Int) + List.length want31 ≤ lim) then
 Y k8 a9 old27 now28 last29 i30 (([9] : List Int) ++ want31) x175 x176 x200 (IntKind.wrap .i64 (x201 + (1 : Int)))
 else False
 else
 kx2 k8 a9 old27 now28 last29 i30 want31 x175 x176
def qo_OperShifts_L0 (kx2 : Int → Int → List (List Int) → List (List Int) → Int → Int → List Int → Int → Int → Prop) : Nat → Int → Int → List (List Int) → List (List Int) → Int → Int → List Int → Int → Int → Int → Int → Prop
  | 0, _, _, _, _, _, _, _, _, _, _, _ => False
  | n + 1, k8, a9, old27, now28, last29, i30, want31, x175, x176, x200, x201 => wfD qo_OperShifts_d0 (k8, a9, old27, now28, last29, i30, want31, x175, x176, x200, x201, ()) → qo_OperShifts_T0 (qo_OperShifts_L0 kx2 n) kx2 k8 a9 old27 now28 last29 i30 want31 x175 x176 x200 x201
theorem qo_OperShifts_s0 (k : Ex → St → Prop) (Y : vals qo_OperShifts_d0 → Prop) (k8 : Int) (a9 : Int) (old27 : List (List Int)) (now28 : List (List Int)) (last29 : Int) (i30 : Int) (want31 : List Int) (x175 : Int) (x176 : Int) (x200 : Int) (x201 : Int) :
    ex tb (getG qo_OperShifts_G) [] (at' (bodyOf Tryd.f8) [0, 0, 1, 0, 1, 0, 1, 1, 0, 0, 1, 1, 0, 0, 1, 0, 1, 1, 1, 1, 1, 1, 1, 1, 1, 1, 1, 1, 1, 1, 1, 1, 1, 1, 1]) [0, 0, 1, 0, 1, 0, 1, 1, 0, 0, 1, 1, 0, 0, 1, 0, 1, 1, 1, 1, 1, 1, 1, 1, 1, 1, 1, 1, 1, 1, 1, 1, 1, 1, 1] (mkD 214 qo_OperShifts_d0 (k8, a9, old27, now28, last29, i30, want31, x175, x176, x200, x201, ())) (lpK 214 qo_OperShifts_d0 qo_OperShifts_dx0 k Y) =
    qo_OperShifts_T0 (fun k8 a9 old27 now28 last29 i30 want31 x175 x176 x200 x201 => Y (k8, a9, old27, now28, last29, i30, want31, x175, x176, x200, x201, ())) (fun k8 a9 old27 now28 last29 i30 want31 x175 x176 => wfD qo_OperShifts_d0x2 (k8, a9, old27, now28, last29, i30, want31, x175, x176, ()) → k (.exit 2) (mkD 214 qo_OperShifts_d0x2 (k8, a9, old27, now28, last29, i30, want31, x175, x176, ()))) k8 a9 old27 now28 last29 i30 want31 x175 x176 x200 x201 := by kernel_rfl
theorem qo_OperShifts_e0 (k : Ex → St → Prop) : ∀ (n : Nat) (k8 : Int) (a9 : Int) (old27 : List (List Int)) (now28 : List (List Int)) (last29 : Int) (i30 : Int) (want31 : List Int) (x175 : Int) (x176 : Int) (x200 : Int) (x201 : Int), lpD 214 qo_OperShifts_d0 qo_OperShifts_dx0 (ex tb (getG qo_OperShifts_G) [] (at' (bodyOf Tryd.f8) [0, 0, 1, 0, 1, 0, 1, 1, 0, 0, 1, 1, 0, 0, 1, 0, 1, 1, 1, 1, 1, 1, 1, 1, 1, 1, 1, 1, 1, 1, 1, 1, 1, 1, 1]) [0, 0, 1, 0, 1, 0, 1, 1, 0, 0, 1, 1, 0, 0, 1, 0, 1, 1, 1, 1, 1, 1, 1, 1, 1, 1, 1, 1, 1, 1, 1, 1, 1, 1, 1]) k n (k8, a9, old27, now28, last29, i30, want31, x175, x176, x200, x201, ()) = qo_OperShifts_L0 (fun k8 a9 old27 now28 last29 i30 want31 x175 x176 => wfD qo_OperShifts_d0x2 (k8, a9, old27, now28, last29, i30, want31, x175, x176, ()) → k (.exit 2) (mkD 214 qo_OperShifts_d0x2 (k8, a9, old27, now28, last29, i30, want31, x175, x176, ()))) n k8 a9 old27 now28 last29 i30 want31 x175 x176 x200 x201
  | 0, _, _, _, _, _, _, _, _, _, _, _ => rfl
  | n + 1, k8, a9, old27, now28, last29, i30, want31, x175, x176, x200, x201 => congrArg (fun Z : Prop => wfD qo_OperShifts_d0 (k8, a9, old27, now28, last29, i30, want31, x175, x176, x200, x201, ()) → Z) ((qo_OperShifts_s0 k (lpD 214 qo_OperShifts_d0 qo_OperShifts_dx0 (ex tb (getG qo_OperShifts_G) [] (at' (bodyOf Tryd.f8) [0, 0, 1, 0, 1, 0, 1, 1, 0, 0, 1, 1, 0, 0, 1, 0, 1, 1, 1, 1, 1, 1, 1, 1, 1, 1, 1, 1, 1, 1, 1, 1, 1, 1, 1]) [0, 0, 1, 0, 1, 0, 1, 1, 0, 0, 1, 1, 0, 0, 1, 0, 1, 1, 1, 1, 1, 1, 1, 1, 1, 1, 1, 1, 1, 1, 1, 1, 1, 1, 1]) k n) k8 a9 old27 now28 last29 i30 want31 x175 x176 x200 x201).trans (congrArg (fun Y => qo_OperShifts_T0 Y (fun k8 a9 old27 now28 last29 i30 want31 x175 x176 => wfD qo_OperShifts_d0x2 (k8, a9, old27, now28, last29, i30, want31, x175, x176, ()) → k (.exit 2) (mkD 214 qo_OperShifts_d0x2 (k8, a9, old27, now28, last29, i30, want31, x175, x176, ()))) k8 a9 old27 now28 last29 i30 want31 x175 x176 x200 x201) (funext fun k8 => funext fun a9 => funext fun old27 => funext fun now28 => funext fun last29 => funext fun i30 => funext fun want31 => funext fun x175 => funext fun x176 => funext fun x200 => funext fun x201 => qo_OperShifts_e0 k n k8 a9 old27 now28 last29 i30 want31 x175 x176 x200 x201)))
theorem qo_OperShifts_v0 (k : Ex → St → Prop) (n : Nat) : ∀ v : vals qo_OperShifts_d0, lpD 214 qo_OperShifts_d0 qo_OperShifts_dx0 (ex tb (getG qo_OperShifts_G) [] (at' (bodyOf Tryd.f8) [0, 0, 1, 0, 1, 0, 1, 1, 0, 0, 1, 1, 0, 0, 1, 0, 1, 1, 1, 1, 1, 1, 1, 1, 1, 1, 1, 1, 1, 1, 1, 1, 1, 1, 1]) [0, 0, 1, 0, 1, 0, 1, 1, 0, 0, 1, 1, 0, 0, 1, 0, 1, 1, 1, 1, 1, 1, 1, 1, 1, 1, 1, 1, 1, 1, 1, 1, 1, 1, 1]) k n v = qo_OperShifts_L0 (fun k8 a9 old27 now28 last29 i30 want31 x175 x176 => wfD qo_OperShifts_d0x2 (k8, a9, old27, now28, last29, i30, want31, x175, x176, ()) → k (.exit 2) (mkD 214 qo_OperShifts_d0x2 (k8, a9, old27, now28, last29, i30, want31, x175, x176, ()))) n v.1 v.2.1 v.2.2.1 v.2.2.2.1 v.2.2.2.2.1 v.2.2.2.2.2.1 v.2.2.2.2.2.2.1 v.2.2.2.2.2.2.2.1 v.2.2.2.2.2.2.2.2.1 v.2.2.2.2.2.2.2.2.2.1 v.2.2.2.2.2.2.2.2.2.2.1
  | (k8, a9, old27, now28, last29, i30, want31, x175, x176, x200, x201, ()) => qo_OperShifts_e0 k n k8 a9 old27 now28 last29 i30 want31 x175 x176 x200 x201
def qo_OperShifts_X0 : Pce := fun st k => ckD 214 qo_OperShifts_d0 st fun v => wfD qo_OperShifts_d0 v → ∃ n, qo_OperShifts_L0 (fun k8 a9 old27 now28 last29 i30 want31 x175 x176 => wfD qo_OperShifts_d0x2 (k8, a9, old27, now28, last29, i30, want31, x175, x176, ()) → k (.exit 2) (mkD 214 qo_OperShifts_d0x2 (k8, a9, old27, now28, last29, i30, want31, x175, x176, ()))) n v.1 v.2.1 v.2.2.1 v.2.2.2.1 v.2.2.2.2.1 v.2.2.2.2.2.1 v.2.2.2.2.2.2.1 v.2.2.2.2.2.2.2.1 v.2.2.2.2.2.2.2.2.1 v.2.2.2.2.2.2.2.2.2.1 v.2.2.2.2.2.2.2.2.2.2.1
set_option maxRecDepth 20000 in
theorem qo_OperShifts_x0 : SemOk Tryd.prog (at' (bodyOf Tryd.f8) [0, 1, 0, 1, 0, 1, 1, 0, 0, 1, 1, 0, 0, 1, 0, 1, 1, 1, 1, 1, 1, 1, 1, 1, 1, 1, 1, 1, 1, 1, 1, 1, 1, 1]) qo_OperShifts_X0 :=
  (SemOk.loop (ex_sound tb_M tb_ok qo_OperShifts_Gok (LabsOk.nil) (at' (bodyOf Tryd.f8) [0, 0, 1, 0, 1, 0, 1, 1, 0, 0, 1, 1, 0, 0, 1, 0, 1, 1, 1, 1, 1, 1, 1, 1, 1, 1, 1, 1, 1, 1, 1, 1, 1, 1, 1]) [0, 0, 1, 0, 1, 0, 1, 1, 0, 0, 1, 1, 0, 0, 1, 0, 1, 1, 1, 1, 1, 1, 1, 1, 1, 1, 1, 1, 1, 1, 1, 1, 1, 1, 1] rfl (storesC_at qo_OperShifts_st [0, 0, 1, 0, 1, 0, 1, 1, 0, 0, 1, 1, 0, 0, 1, 0, 1, 1, 1, 1, 1, 1, 1, 1, 1, 1, 1, 1, 1, 1, 1, 1, 1, 1, 1])) 214 qo_OperShifts_d0 qo_OperShifts_dx0).mono fun st k h => ckD_mono h fun v hv hw => (hv hw).elim fun n hn => ⟨n, Eq.mpr (qo_OperShifts_v0 k n v) hn⟩
def qo_OperShifts_B0 : Labs := ([0, 1, 0, 1, 0, 1, 1, 0, 0, 1, 1, 0, 0, 1, 0, 1, 1, 1, 1, 1, 1, 1, 1, 1, 1, 1, 1, 1, 1, 1, 1, 1, 1, 1], qo_OperShifts_X0) :: []
theorem qo_OperShifts_b0 : LabsOk Tryd.prog (bodyOf Tryd.f8) qo_OperShifts_B0 := LabsOk.cons qo_OperShifts_x0 (LabsOk.nil)
def qo_OperShifts_d1 : List LS := [.v 8 (.int .i64), .v 9 (.int .i64), .o 27 221 22 (.sl (.int .u8)), .o 28 229 22 (.sl (.int .u8)), .v 29 (.int .i64), .v 175 (.int .i64), .v 176 (.int .i64)]
def qo_OperShifts_d1r : List LS := [.v 6 (.bool)]
def qo_OperShifts_d1x0 : List LS := []
def qo_OperShifts_dx1 : DX := ⟨none, some qo_OperShifts_d1r, [(0, qo_OperShifts_d1x0)]⟩
def qo_OperShifts_T1 (Y : Int → Int → List (List Int) → List (List Int) → Int → Int → Int → Prop) (kr : Bool → Prop) (kx0 : Prop) (k8 : Int) (a9 : Int) (old27 : List (List Int)) (now28 : List (List Int)) (last29 : Int) (x175 : Int) (x176 : Int) : Prop :=
 bif (decide (x176 < x175)) then
 bif decide (0 ≤ x176 ∧ x176 < (List.length old27 : Int)) then
 bif (decide (a9 ≤ x176)) then
 bif (decide (x176 ≤ last29)) then
 bif decide (0 ≤ x176 ∧ x176 < (List.length old27 : Int)) then
 bif (decide ((0 : Int) < (List.length (rd ([] : List Int) old27 x176) : Int))) then
 (wfD qo_OperShifts_d0 (k8, a9, old27, now28, last29, x176, (rd ([] : List Int) old27 x176), x175, x176, k8, (0 : Int), ()) → ∃ n, qo_OperShifts_L0 (fun (k8 : Int) (a9 : Int) (old27 : List (List Int)) (now28 : List (List Int)) (last29 : Int) (i30 : Int) (want31 : List Int) (x175 : Int) (x176 : Int) => wfD qo_OperShifts_d0x2 (k8, a9, old27, now28, last29, i30, want31, x175, x176, ()) → (
 bif decide (0 ≤ i30 ∧ i30 < (List.length now28 : Int)) then
 bif (!decide ((rd ([] : List Int) now28 i30) = want31)) then
 kr false
 else
 Y k8 a9 old27 now28 last29 x175 (IntKind.wrap .i64 (x176 + (1 : Int)))
 else False)) n k8 a9 old27 now28 last29 x176 (rd ([] : List Int) old27 x176) x175 x176 k8 (0 : Int))
 else
 bif decide (0 ≤ x176 ∧ x176 < (List.length now28 : Int)) then
 bif (!decide ((rd ([] : List Int) now28 x176) = (rd ([] : List Int) old27 x176))) then
 kr false
 else
 Y k8 a9 old27 now28 last29 x175 (IntKind.wrap .i64 (x176 + (1 : Int)))
 else False
 else False
 else
 bif decide (0 ≤ x176 ∧ x176 < (List.length now28 : Int)) then
 bif (!decide ((rd ([] : List Int) now28 x176) = (rd ([] : List Int) old27 x176))) then
 kr false
 else
 Y k8 a9 old27 now28 last29 x175 (IntKind.wrap .i64 (x176 + (1 : Int)))
 else False
 else
 bif decide (0 ≤ x176 ∧ x176 < (List.length now28 : Int)) then
 bif (!decide ((rd ([] : List Int) now28 x176) = (rd ([] : List Int) old27 x176))) then
 kr false
 else
 Y k8 a9 old27 now28 last29 x175 (IntKind.wrap .i64 (x176 + (1 : Int)))
 else False
 else False
 else
 kx0
def qo_OperShifts_L1 (kr : Bool → Prop) (kx0 : Prop) : Nat → Int → Int → List (List Int) → List (List Int) → Int → Int → Int → Prop
  | 0, _, _, _, _, _, _, _ => False
  | n + 1, k8, a9, old27, now28, last29, x175, x176 => wfD qo_OperShifts_d1 (k8, a9, old27, now28, last29, x175, x176, ()) → qo_OperShifts_T1 (qo_OperShifts_L1 kr kx0 n) kr kx0 k8 a9 old27 now28 last29 x175 x176
theorem qo_OperShifts_s1 (k : Ex → St → Prop) (Y : vals qo_OperShifts_d1 → Prop) (k8 : Int) (a9 : Int) (old27 : List (List Int)) (now28 : List (List Int)) (last29 : Int) (x175 : Int) (x176 : Int) :
    ex tb (getG qo_OperShifts_G) qo_OperShifts_B0 (at' (bodyOf Tryd.f8) [0, 0, 1, 0, 1, 1, 1, 1, 1, 1, 1, 1, 1, 1, 1, 1, 1, 1, 1, 1, 1, 1, 1]) [0, 0, 1, 0, 1, 1, 1, 1, 1, 1, 1, 1, 1, 1, 1, 1, 1, 1, 1, 1, 1, 1, 1] (mkD 214 qo_OperShifts_d1 (k8, a9, old27, now28, last29, x175, x176, ())) (lpK 214 qo_OperShifts_d1 qo_OperShifts_dx1 k Y) =
    qo_OperShifts_T1 (fun k8 a9 old27 now28 last29 x175 x176 => Y (k8, a9, old27, now28, last29, x175, x176, ())) (fun x6 => wfD qo_OperShifts_d1r (x6, ()) → k .ret (mkD 214 qo_OperShifts_d1r (x6, ()))) (wfD qo_OperShifts_d1x0 () → k (.exit 0) (mkD 214 qo_OperShifts_d1x0 ())) k8 a9 old27 now28 last29 x175 x176 := by kernel_rfl
theorem qo_OperShifts_e1 (k : Ex → St → Prop) : ∀ (n : Nat) (k8 : Int) (a9 : Int) (old27 : List (List Int)) (now28 : List (List Int)) (last29 : Int) (x175 : Int) (x176 : Int), lpD 214 qo_OperShifts_d1 qo_OperShifts_dx1 (ex tb (getG qo_OperShifts_G) qo_OperShifts_B0 (at' (bodyOf Tryd.f8) [0, 0, 1, 0, 1, 1, 1, 1, 1, 1, 1, 1, 1, 1, 1, 1, 1, 1, 1, 1, 1, 1, 1]) [0, 0, 1, 0, 1, 1, 1, 1, 1, 1, 1, 1, 1, 1, 1, 1, 1, 1, 1, 1, 1, 1, 1]) k n (k8, a9, old27, now28, last29, x175, x176, ()) = qo_OperShifts_L1 (fun x6 => wfD qo_OperShifts_d1r (x6, ()) → k .ret (mkD 214 qo_OperShifts_d1r (x6, ()))) (wfD qo_OperShifts_d1x0 () → k (.exit 0) (mkD 214 qo_OperShifts_d1x0 ())) n k8 a9 old27 now28 last29 x175 x176
  | 0, _, _, _, _, _, _, _ => rfl
  | n + 1, k8, a9, old27, now28, last29, x175, x176 => congrArg (fun Z : Prop => wfD qo_OperShifts_d1 (k8, a9, old27, now28, last29, x175, x176, ()) → Z) ((qo_OperShifts_s1 k (lpD 214 qo_OperShifts_d1 qo_OperShifts_dx1 (ex tb (getG qo_OperShifts_G) qo_OperShifts_B0 (at' (bodyOf Tryd.f8) [0, 0, 1, 0, 1, 1, 1, 1, 1, 1, 1, 1, 1, 1, 1, 1, 1, 1, 1, 1, 1, 1, 1]) [0, 0, 1, 0, 1, 1, 1, 1, 1, 1, 1, 1, 1, 1, 1, 1, 1, 1, 1, 1, 1, 1, 1]) k n) k8 a9 old27 now28 last29 x175 x176).trans (congrArg (fun Y => qo_OperShifts_T1 Y (fun x6 => wfD qo_OperShifts_d1r (x6, ()) → k .ret (mkD 214 qo_OperShifts_d1r (x6, ()))) (wfD qo_OperShifts_d1x0 () → k (.exit 0) (mkD 214 qo_OperShifts_d1x0 ())) k8 a9 old27 now28 last29 x175 x176) (funext fun k8 => funext fun a9 => funext fun old27 => funext fun now28 => funext fun last29 => funext fun x175 => funext fun x176 => qo_OperShifts_e1 k n k8 a9 old27 now28 last29 x175 x176)))
theorem qo_OperShifts_v1 (k : Ex → St → Prop) (n : Nat) : ∀ v : vals qo_OperShifts_d1, lpD 214 qo_OperShifts_d1 qo_OperShifts_dx1 (ex tb (getG qo_OperShifts_G) qo_OperShifts_B0 (at' (bodyOf Tryd.f8) [0, 0, 1, 0, 1, 1, 1, 1, 1, 1, 1, 1, 1, 1, 1, 1, 1, 1, 1, 1, 1, 1, 1]) [0, 0, 1, 0, 1, 1, 1, 1, 1, 1, 1, 1, 1, 1, 1, 1, 1, 1, 1, 1, 1, 1, 1]) k n v = qo_OperShifts_L1 (fun x6 => wfD qo_OperShifts_d1r (x6, ()) → k .ret (mkD 214 qo_OperShifts_d1r (x6, ()))) (wfD qo_OperShifts_d1x0 () → k (.exit 0) (mkD 214 qo_OperShifts_d1x0 ())) n v.1 v.2.1 v.2.2.1 v.2.2.2.1 v.2.2.2.2.1 v.2.2.2.2.2.1 v.2.2.2.2.2.2.1
  | (k8, a9, old27, now28, last29, x175, x176, ()) => qo_OperShifts_e1 k n k8 a9 old27 now28 last29 x175 x176
def qo_OperShifts_X1 : Pce := fun st k => ckD 214 qo_OperShifts_d1 st fun v => wfD qo_OperShifts_d1 v → ∃ n, qo_OperShifts_L1 (fun x6 => wfD qo_OperShifts_d1r (x6, ()) → k .ret (mkD 214 qo_OperShifts_d1r (x6, ()))) (wfD qo_OperShifts_d1x0 () → k (.exit 0) (mkD 214 qo_OperShifts_d1x0 ())) n v.1 v.2.1 v.2.2.1 v.2.2.2.1 v.2.2.2.2.1 v.2.2.2.2.2.1 v.2.2.2.2.2.2.1
set_option maxRecDepth 20000 in
theorem qo_OperShifts_x1 : SemOk Tryd.prog (at' (bodyOf Tryd.f8) [0, 1, 0, 1, 1, 1, 1, 1, 1, 1, 1, 1, 1, 1, 1, 1, 1, 1, 1, 1, 1, 1]) qo_OperShifts_X1 :=
  (SemOk.loop (ex_sound tb_M tb_ok qo_OperShifts_Gok (qo_OperShifts_b0) (at' (bodyOf Tryd.f8) [0, 0, 1, 0, 1, 1, 1, 1, 1, 1, 1, 1, 1, 1, 1, 1, 1, 1, 1, 1, 1, 1, 1]) [0, 0, 1, 0, 1, 1, 1, 1, 1, 1, 1, 1, 1, 1, 1, 1, 1, 1, 1, 1, 1, 1, 1] rfl (storesC_at qo_OperShifts_st [0, 0, 1, 0, 1, 1, 1, 1, 1, 1, 1, 1, 1, 1, 1, 1, 1, 1, 1, 1, 1, 1, 1])) 214 qo_OperShifts_d1 qo_OperShifts_dx1).mono fun st k h => ckD_mono h fun v hv hw => (hv hw).elim fun n hn => ⟨n, Eq.mpr (qo_OperShifts_v1 k n v) hn⟩
def qo_OperShifts_B1 : Labs := ([0, 1, 0, 1, 1, 1, 1, 1, 1, 1, 1, 1, 1, 1, 1, 1, 1, 1, 1, 1, 1, 1], qo_OperShifts_X1) :: qo_OperShifts_B0
theorem qo_OperShifts_b1 : LabsOk Tryd.prog (bodyOf Tryd.f8) qo_OperShifts_B1 := LabsOk.cons qo_OperShifts_x1 (qo_OperShifts_b0)
def qo_OperShifts_d2 : List LS := [.v 8 (.int .i64), .v 9 (.int .i64), .o 27 221 22 (.sl (.int .u8)), .o 28 229 22 (.sl (.int .u8)), .v 29 (.int .i64)]
def qo_OperShifts_d2r : List LS := [.v 6 (.bool)]
def qo_OperShifts_dx2 : DX := ⟨none, some qo_OperShifts_d2r, []⟩
def qo_OperShifts_J2 (kr : Bool → Prop) (k8 : Int) (a9 : Int) (old27 : List (List Int)) (now28 : List (List Int)) (last29 : Int) : Prop :=
 (wfD qo_OperShifts_d1 (k8, a9, old27, now28, last29, (List.length old27 : Int), (0 : Int), ()) → ∃ n, qo_OperShifts_L1 (fun (x6 : Bool) => wfD qo_OperShifts_d1r (x6, ()) → (
 kr x6)) (wfD qo_OperShifts_d1x0 () → (
 kr true)) n k8 a9 old27 now28 last29 (List.length old27 : Int) (0 : Int))
theorem qo_OperShifts_s2 (k : Ex → St → Prop) (k8 : Int) (a9 : Int) (old27 : List (List Int)) (now28 : List (List Int)) (last29 : Int) :
    ex tb (getG qo_OperShifts_G) qo_OperShifts_B1 (at' (bodyOf Tryd.f8) [1, 1, 1, 1, 1, 1, 1, 1, 1, 1, 1, 1, 1, 1, 1, 1, 1, 1, 1]) [1, 1, 1, 1, 1, 1, 1, 1, 1, 1, 1, 1, 1, 1, 1, 1, 1, 1, 1] (mkD 214 qo_OperShifts_d2 (k8, a9, old27, now28, last29, ())) (wk 214 qo_OperShifts_dx2 k) =
    qo_OperShifts_J2 (fun x6 => wfD qo_OperShifts_d2r (x6, ()) → k .ret (mkD 214 qo_OperShifts_d2r (x6, ()))) k8 a9 old27 now28 last29 := by kernel_rfl
theorem qo_OperShifts_v2 (k : Ex → St → Prop) : ∀ v : vals qo_OperShifts_d2, ex tb (getG qo_OperShifts_G) qo_OperShifts_B1 (at' (bodyOf Tryd.f8) [1, 1, 1, 1, 1, 1, 1, 1, 1, 1, 1, 1, 1, 1, 1, 1, 1, 1, 1]) [1, 1, 1, 1, 1, 1, 1, 1, 1, 1, 1, 1, 1, 1, 1, 1, 1, 1, 1] (mkD 214 qo_OperShifts_d2 v) (wk 214 qo_OperShifts_dx2 k) = qo_OperShifts_J2 (fun x6 => wfD qo_OperShifts_d2r (x6, ()) → k .ret (mkD 214 qo_OperShifts_d2r (x6, ()))) v.1 v.2.1 v.2.2.1 v.2.2.2.1 v.2.2.2.2.1
  | (k8, a9, old27, now28, last29, ()) => qo_OperShifts_s2 k k8 a9 old27 now28 last29
def qo_OperShifts_X2 : Pce := fun st k => ckD 214 qo_OperShifts_d2 st fun v => wfD qo_OperShifts_d2 v → qo_OperShifts_J2 (fun x6 => wfD qo_OperShifts_d2r (x6, ()) → k .ret (mkD 214 qo_OperShifts_d2r (x6, ()))) v.1 v.2.1 v.2.2.1 v.2.2.2.1 v.2.2.2.2.1
set_option maxRecDepth 20000 in
theorem qo_OperShifts_x2 : SemOk Tryd.prog (at' (bodyOf Tryd.f8) [1, 1, 1, 1, 1, 1, 1, 1, 1, 1, 1, 1, 1, 1, 1, 1, 1, 1, 1]) qo_OperShifts_X2 :=
  (SemOk.wk (N := 214) (ds := qo_OperShifts_d2) (dx := qo_OperShifts_dx2) (ex_sound tb_M tb_ok qo_OperShifts_Gok (qo_OperShifts_b1) (at' (bodyOf Tryd.f8) [1, 1, 1, 1, 1, 1, 1, 1, 1, 1, 1, 1, 1, 1, 1, 1, 1, 1, 1]) [1, 1, 1, 1, 1, 1, 1, 1, 1, 1, 1, 1, 1, 1, 1, 1, 1, 1, 1] rfl (storesC_at qo_OperShifts_st [1, 1, 1, 1, 1, 1, 1, 1, 1, 1, 1, 1, 1, 1, 1, 1, 1, 1, 1]))).mono fun st k h => ckD_mono h fun v hv hw => Eq.mpr (qo_OperShifts_v2 k v) (hv hw)
def qo_OperShifts_B2 : Labs := ([1, 1, 1, 1, 1, 1, 1, 1, 1, 1, 1, 1, 1, 1, 1, 1, 1, 1, 1], qo_OperShifts_X2) :: qo_OperShifts_B1
theorem qo_OperShifts_b2 : LabsOk Tryd.prog (bodyOf Tryd.f8) qo_OperShifts_B2 := LabsOk.cons qo_OperShifts_x2 (qo_OperShifts_b1)
def qo_OperShifts_raw (t0 : List Int) (q1 : (Int × Int × Bool)) (count2 : Int) (K : Res → List Cell → Prop) : Prop :=
 ∀ (r1 : Bool), r1 = qo_awake_F → (
 wfR (.one (.v (.bool) r1)) → (
 bif (!r1) then
 K (.one (.v (.bool) false)) []
 else
 bif (decide ((4096 : Int) < (List.length t0 : Int))) then
 K (.one (.v (.bool) true)) []
 else
 lines_Count_P t0 ∧ (
 ∀ (r2 : Int), r2 = lines_Count_F t0 → (
 wfR (.one (.v (.int .i64) r2)) → (
 qo_place_P count2 (9 : Int) ∧ (
 ∀ (r3 : Int), r3 = qo_place_F count2 (9 : Int) → (
 wfR (.one (.v (.int .i64) r3)) → (
 qo_place_P q1.1 r2 ∧ (
 ∀ (r4 : Int), r4 = qo_place_F q1.1 r2 → (
 wfR (.one (.v (.int .i64) r4)) → (
 qo_place_P q1.2.1 r2 ∧ (
 ∀ (r5 : Int), r5 = qo_place_F q1.2.1 r2 → (
 wfR (.one (.v (.int .i64) r5)) → (
 ∀ (r6 : Int × Int), r6 = lines_Start_F t0 (mn r4 r5) → (
 wfR (.tup [.v (.int .i64) r6.1, .v (.int .i64) r6.2]) → (
 ∀ (r7 : (Int × Int × Bool × Bool) × Int), r7 = extent_Whole_F t0 (mn r4 r5) (mx r4 r5) → (
 wfR (.tup [.v (.st (.pair (.int .i64) (.pair (.int .i64) (.pair (.bool) (.bool))))) r7.1, .v (.int .i64) r7.2]) → (
 oper_Do_P t0 r6.1 ([62] : List Int) r7.1 (IntKind.wrap .i64 (r3 + (1 : Int))) ∧ (
 ∀ (r8 : EfD × Int), r8 = oper_Do_F t0 r6.1 ([62] : List Int) r7.1 (IntKind.wrap .i64 (r3 + (1 : Int))) → (
 wfR (.tup [.v EfT r8.1, .v (.int .i64) r8.2]) → (
 change_Apply_P t0 r8.1.1 ∧ (
 ∀ (r9 : List Int × Int), r9 = change_Apply_F t0 r8.1.1 → (
 wfR (.tup [.fr 5 (.int .u8) r9.1, .v (.int .i64) r9.2]) → (
 ∀ (r10 : (Int × Int × Bool × Bool) × Int), r10 = extent_Whole_F r9.1 (mn r4 r5) (mx r4 r5) → (
 wfR (.tup [.v (.st (.pair (.int .i64) (.pair (.int .i64) (.pair (.bool) (.bool))))) r10.1, .v (.int .i64) r10.2]) → (
 ∀ (r11 : Int × Int), r11 = lines_Start_F r9.1 (mn r4 r5) → (
 wfR (.tup [.v (.int .i64) r11.1, .v (.int .i64) r11.2]) → (
 oper_Do_P r9.1 r11.1 ([60] : List Int) r10.1 (IntKind.wrap .i64 (r3 + (1 : Int))) ∧ (
 ∀ (r12 : EfD × Int), r12 = oper_Do_F r9.1 r11.1 ([60] : List Int) r10.1 (IntKind.wrap .i64 (r3 + (1 : Int))) → (
 wfR (.tup [.v EfT r12.1, .v (.int .i64) r12.2]) → (
 change_Apply_P r9.1 r12.1.1 ∧ (
 ∀ (r13 : List Int × Int), r13 = change_Apply_F r9.1 r12.1.1 → (
 wfR (.tup [.fr 5 (.int .u8) r13.1, .v (.int .i64) r13.2]) → (
 bif (!decide (r7.2 = (0 : Int))) then
 K (.one (.v (.bool) false)) []
 else
 bif (!decide (r8.2 = (0 : Int))) then
 K (.one (.v (.bool) false)) []
 else
 bif (!decide (r9.2 = (0 : Int))) then
 K (.one (.v (.bool) false)) []
 else
 bif (!decide (r10.2 = (0 : Int))) then
 K (.one (.v (.bool) false)) []
 else
 bif (!decide (r12.2 = (0 : Int))) then
 K (.one (.v (.bool) false)) []
 else
 bif (!decide (r13.2 = (0 : Int))) then
 K (.one (.v (.bool) false)) []
 else
 bif (!decide (r13.1 = t0)) then
 K (.one (.v (.bool) false)) []
 else
 lines_Split_P t0 ∧ (
 ∀ (r14 : List (List Int)), r14 = lines_Split_F t0 → (
 wfR (.one (.fr 22 (.sl (.int .u8)) r14)) → (
 lines_Split_P r9.1 ∧ (
 ∀ (r15 : List (List Int)), r15 = lines_Split_F r9.1 → (
 wfR (.one (.fr 22 (.sl (.int .u8)) r15)) → (
 bif (!decide ((List.length r14 : Int) = (List.length r15 : Int))) then
 K (.one (.v (.bool) false)) []
 else
 bif (decide ((mx r4 r5) = (IntKind.wrap .i64 (r2 - (1 : Int))))) then
 bif (decide ((mn r4 r5) = (0 : Int))) then
 bif (decide ((1 : Int) < r2)) then
 bif decide (0 ≤ (IntKind.wrap .i64 (r2 - (1 : Int))) ∧ (IntKind.wrap .i64 (r2 - (1 : Int))) < (List.length r14 : Int)) then
 bif (decide ((List.length (rd ([] : List Int) r14 (IntKind.wrap .i64 (r2 - (1 : Int)))) : Int) = (0 : Int))) then
 (wfD qo_OperShifts_d2 ((IntKind.wrap .i64 (r3 + (1 : Int))), (mn r4 r5), r14, r15, (IntKind.wrap .i64 (r2 - (2 : Int))), ()) → qo_OperShifts_J2 (fun (x6 : Bool) => wfD qo_OperShifts_d2r (x6, ()) → (
 K (.one (.v (.bool) x6)) [])) (IntKind.wrap .i64 (r3 + (1 : Int))) (mn r4 r5) r14 r15 (IntKind.wrap .i64 (r2 - (2 : Int))))
 else
 (wfD qo_OperShifts_d2 ((IntKind.wrap .i64 (r3 + (1 : Int))), (mn r4 r5), r14, r15, (mx r4 r5), ()) → qo_OperShifts_J2 (fun (x6 : Bool) => wfD qo_OperShifts_d2r (x6, ()) → (
 K (.one (.v (.bool) x6)) [])) (IntKind.wrap .i64 (r3 + (1 : Int))) (mn r4 r5) r14 r15 (mx r4 r5))
 else False
 else
 (wfD qo_OperShifts_d2 ((IntKind.wrap .i64 (r3 + (1 : Int))), (mn r4 r5), r14, r15, (mx r4 r5), ()) → qo_OperShifts_J2 (fun (x6 : Bool) => wfD qo_OperShifts_d2r (x6, ()) → (
 K (.one (.v (.bool) x6)) [])) (IntKind.wrap .i64 (r3 + (1 : Int))) (mn r4 r5) r14 r15 (mx r4 r5))
 else
 (wfD qo_OperShifts_d2 ((IntKind.wrap .i64 (r3 + (1 : Int))), (mn r4 r5), r14, r15, (mx r4 r5), ()) → qo_OperShifts_J2 (fun (x6 : Bool) => wfD qo_OperShifts_d2r (x6, ()) → (
 K (.one (.v (.bool) x6)) [])) (IntKind.wrap .i64 (r3 + (1 : Int))) (mn r4 r5) r14 r15 (mx r4 r5))
 else
 (wfD qo_OperShifts_d2 ((IntKind.wrap .i64 (r3 + (1 : Int))), (mn r4 r5), r14, r15, (mx r4 r5), ()) → qo_OperShifts_J2 (fun (x6 : Bool) => wfD qo_OperShifts_d2r (x6, ()) → (
 K (.one (.v (.bool) x6)) [])) (IntKind.wrap .i64 (r3 + (1 : Int))) (mn r4 r5) r14 r15 (mx r4 r5))))))))))))))))))))))))))))))))))))))))))
def qo_OperShifts_A : List AS := [.v (.sl (.int .u8)), .v (.st (.pair (.int .i64) (.pair (.int .i64) (.bool)))), .v (.int .i64)]
theorem qo_OperShifts_walk (t0 : List Int) (q1 : (Int × Int × Bool)) (count2 : Int) (K : Res → List Cell → Prop) : runF tb (getG qo_OperShifts_G) qo_OperShifts_B2 Tryd.f8 [true] (mkA qo_OperShifts_A (t0, q1, count2, ())) K = qo_OperShifts_raw t0 q1 count2 K := by kernel_rfl
--! law 1

def qo_OperShifts_R : App := runF tb (getG qo_OperShifts_G) qo_OperShifts_B2 Tryd.f8 [true]
theorem qo_OperShifts_ok : AppOk Tryd.prog 8 qo_OperShifts_R := runF_ok tb_M tb_ok qo_OperShifts_Gok (qo_OperShifts_b2) (f := 8) (fn := Tryd.f8) (by kernel_rfl) (by kernel_rfl) qo_OperShifts_st [true]
end Go.VE
namespace Go.VE
theorem shifts_l0 (kx2 : Int → Int → List (List Int) → List (List Int) → Int → Int → List Int → Int → Int → Prop) (k8 a9 : Int) (old now : List (List Int)) (last i30 x175 x176 : Int) (k : Nat) (hk : k ≤ 100) (l : List Int) (hl : l.length ≤ 65536)
    (hx : kx2 k8 a9 old now last i30 (tabsK k ++ l) x175 x176) : ∀ (n j : Nat), k < n + j → j ≤ k → qo_OperShifts_L0 kx2 n k8 a9 old now last i30 (tabsK j ++ l) x175 x176 (k : Int) (j : Int)
  | 0, j, h, h2 => by omega
  | n + 1, j, h, h2 => by
    intro _
    unfold qo_OperShifts_T0
    have hlim : lim = 1099511627776 := rfl
    have ht : (tabsK j).length = j := List.length_replicate
    refine brn (fun hlt => asrt (by rw [List.length_append, List.length_singleton, ht]; omega) ?_) (fun hge => ?_)
    · rw [wrap_i64 (by omega) (by omega), show (j : Int) + 1 = ((j + 1 : Nat) : Int) by omega, show [9] ++ (tabsK j ++ l) = tabsK (j + 1) ++ l by unfold tabsK; rw [List.replicate_succ]; rfl]
      exact shifts_l0 kx2 k8 a9 old now last i30 x175 x176 k hk l hl hx n (j + 1) (by omega) (by omega)
    · obtain rfl : j = k := by omega
      exact hx
theorem shifts_l1 (kr : Bool → Prop) (kx0 : Prop) (hx : kx0) (k : Nat) (hk : k ≤ 100) (a last : Int) (L N : List (List Int)) (hN : N.length = L.length) (hL9 : L.length ≤ 9223372036854775806) (hl : ∀ l ∈ L, l.length ≤ 65536)
    (hg : ∀ (i : Nat) (h : i < L.length) (h2 : i < N.length), N[i] = if a ≤ (i : Int) ∧ (i : Int) ≤ last ∧ 0 < L[i].length then tabsK k ++ L[i] else L[i]) :
    ∀ (n i : Nat), L.length < n + i → i ≤ L.length → qo_OperShifts_L1 kr kx0 n (k : Int) a L N last (L.length : Int) (i : Int)
  | 0, i, h, h2 => by omega
  | n + 1, i, h, h2 => by
    intro _
    unfold qo_OperShifts_T1
    refine brn (fun hlt => asrt ⟨by omega, hlt⟩ ?_) (fun hge => hx)
    have hi : i < L.length := by omega
    have hi2 : i < N.length := by omega
    have hv := hg i hi hi2
    have hll := hl L[i] (List.getElem_mem hi)
    rw [rd_nat _ _ _ hi]
    have next : qo_OperShifts_L1 kr kx0 n (k : Int) a L N last (L.length : Int) (IntKind.wrap .i64 ((i : Int) + 1)) := by
      rw [wrap_i64 (by omega) (by omega), show (i : Int) + 1 = ((i + 1 : Nat) : Int) by omega]
      exact shifts_l1 kr kx0 hx k hk a last L N hN hL9 hl hg n (i + 1) (by omega) (by omega)
    have same : ¬ (a ≤ (i : Int) ∧ (i : Int) ≤ last ∧ 0 < L[i].length) → (bif decide (0 ≤ (i : Int) ∧ (i : Int) < (List.length N : Int)) then
        bif (!decide ((rd ([] : List Int) N (i : Int)) = L[i])) then kr false else qo_OperShifts_L1 kr kx0 n (k : Int) a L N last (L.length : Int) (IntKind.wrap .i64 ((i : Int) + (1 : Int))) else False) := fun hno => by
      rw [if_neg hno] at hv
      refine asrt ⟨by omega, by omega⟩ ?_
      rw [rd_nat _ _ _ hi2]
      exact brx (fun hne => absurd hv hne) (fun _ => next)
    refine brn (fun c1 => brn (fun c2 => asrt ⟨by omega, hlt⟩ (brn (fun c3 => fun _ => ?_) (fun c3 => same (by omega)))) (fun c2 => same (by omega))) (fun c1 => same (by omega))
    rw [if_pos ⟨c1, c2, by omega⟩] at hv
    refine ⟨k + 1, shifts_l0 _ _ _ _ _ _ _ _ _ k hk L[i] hll (fun _ => ?_) (k + 1) 0 (by omega) (Nat.zero_le _)⟩
    refine asrt ⟨by omega, by omega⟩ ?_
    rw [rd_nat _ _ _ hi2]
    exact brx (fun hne => absurd hv hne) (fun _ => next)
theorem shifts_J2 (kr : Bool → Prop) (h : kr true) (k : Nat) (hk : k ≤ 100) (a last : Int) (L N : List (List Int)) (hN : N.length = L.length) (hL9 : L.length ≤ 9223372036854775806) (hl : ∀ l ∈ L, l.length ≤ 65536)
    (hg : ∀ (i : Nat) (h : i < L.length) (h2 : i < N.length), N[i] = if a ≤ (i : Int) ∧ (i : Int) ≤ last ∧ 0 < L[i].length then tabsK k ++ L[i] else L[i]) : qo_OperShifts_J2 kr (k : Int) a L N last := by
  intro _
  exact ⟨L.length + 1, shifts_l1 _ _ (fun _ => h) k hk a last L N hN hL9 hl hg (L.length + 1) 0 (by omega) (Nat.zero_le _)⟩
theorem mnmx' {a b : Nat} : mn (a : Int) (b : Int) = ((min a b : Nat) : Int) ∧ mx (a : Int) (b : Int) = ((max a b : Nat) : Int) := by
  unfold mn mx
  constructor
  · by_cases c : (b : Int) < (a : Int)
    · rw [decide_eq_true c, Nat.min_eq_right (by omega)]; rfl
    · rw [decide_eq_false c, Nat.min_eq_left (by omega)]; rfl
  · by_cases c : (a : Int) < (b : Int)
    · rw [decide_eq_true c, Nat.max_eq_right (by omega)]; rfl
    · rw [decide_eq_false c, Nat.max_eq_left (by omega)]; rfl
theorem mapR_getElem {h : List Int → List Int} {a b : Nat} {L : List (List Int)} (hab : a ≤ b) (hb : b < L.length) (i : Nat) (h1 : i < L.length) (h2 : i < (mapR h a b L).length) : (mapR h a b L)[i] = if a ≤ i ∧ i ≤ b then h L[i] else L[i] := by
  have e := mapR_get (h := h) hab hb i
  rw [List.getElem?_eq_getElem h2, List.getElem?_eq_getElem h1] at e
  by_cases c : a ≤ i ∧ i ≤ b
  · rw [if_pos c] at e ⊢
    injection e
  · rw [if_neg c] at e ⊢
    injection e
theorem line_le (t : List Int) : ∀ l ∈ lines_Split_F t, l.length ≤ t.length := fun l hl => splN_mem _ _ l hl
theorem shifts_raw (t : List Int) (q : Int × Int × Bool) (count : Int) (K : Res → List Cell → Prop) (hw : wfA qo_OperShifts_A (t, q, count, ())) (h : K (.one (.v .bool true)) []) : qo_OperShifts_raw t q count K := by
  have hq1 : -9223372036854775808 ≤ q.1 ∧ q.1 ≤ 9223372036854775807 := hw.2.1.1
  have hq2 : -9223372036854775808 ≤ q.2.1 ∧ q.2.1 ≤ 9223372036854775807 := hw.2.1.2.1
  have hq3 : -9223372036854775808 ≤ count ∧ count ≤ 9223372036854775807 := hw.2.2.1
  have hlim : lim = 1099511627776 := rfl
  have hcl := cnt_le t
  intro r1 h1 _
  have h1 : r1 = true := h1
  subst r1
  refine brn (fun _ => h) (fun hlen => ⟨Count_P t, fun r2 e2 _ => ?_⟩)
  have ht : t.length ≤ 4096 := by omega
  have e9 : IntKind.wrap .i64 (((8 : Nat) : Int) + 1) = 9 := by decide
  have p9 := place_P (i := count) (n := 8) (by decide)
  rw [e9] at p9
  obtain ⟨k, ek, hk8⟩ := place_F (i := count) (n := 8) (by decide) hq3.1 hq3.2
  rw [e9] at ek
  refine ⟨p9, fun r3 e3 _ => ?_⟩
  rw [ek] at e3
  subst e3
  have e2' : r2 = IntKind.wrap .i64 ((cnt t : Int) + 1) := e2
  subst r2
  obtain ⟨f, ef, hf⟩ := place_F (i := q.1) (n := cnt t) (by omega) hq1.1 hq1.2
  obtain ⟨g, eg, hgc⟩ := place_F (i := q.2.1) (n := cnt t) (by omega) hq2.1 hq2.2
  rw [count_eq]
  refine ⟨place_P (by omega), fun r4 e4 _ => ⟨place_P (by omega), fun r5 e5 _ => ?_⟩⟩
  rw [ef] at e4
  rw [eg] at e5
  subst r4 r5
  rw [mnmx'.1, mnmx'.2]
  have hab : min f g ≤ max f g := by omega
  have hbc : max f g ≤ cnt t := by omega
  generalize min f g = a at *
  generalize max f g = b at *
  obtain ⟨pa, hpa⟩ := begins_ex (t := t) (n := a) (by omega)
  have hst := start_at hpa
  obtain ⟨L1, L2, L3⟩ := split_ok t
  have hLn : lines_Split_F t ≠ [] := by intro e; rw [e] at L3; simp at L3
  obtain ⟨r, x, x1, x2, x3⟩ := in_do ht hab hbc hpa (k := k + 1) (by omega) (by omega)
  -- the text behind >
  have hu0 : mapR (inL (k + 1)) a b (lines_Split_F t) ≠ [] := by
    intro e
    have := mapR_length (h := inL (k + 1)) hab (L := lines_Split_F t) (by omega)
    rw [e, List.length_nil] at this
    omega
  have hun := mapR_no_ten (in_no_ten (k + 1)) (a := a) (b := b) L2
  have hus := split_unl hu0 hun
  have hul := mapR_length (h := inL (k + 1)) hab (L := lines_Split_F t) (by omega)
  have huc := cnt_unl hu0 hun
  have hulen := mapR_len (k := k + 1) hab (L := lines_Split_F t) (by omega)
  rw [L1, L3] at hulen
  have hk9 : (k + 1) * (cnt t + 1) ≤ 9 * 4097 := Nat.mul_le_mul (by omega) (by omega)
  have huw : (unl (mapR (inL (k + 1)) a b (lines_Split_F t))).length ≤ 65536 := by omega
  generalize hU : unl (mapR (inL (k + 1)) a b (lines_Split_F t)) = u at *
  obtain ⟨pu, hpu⟩ := begins_ex (t := u) (n := a) (by omega)
  have hsu := start_at hpu
  obtain ⟨s, y, y1, y2, y3⟩ := out_do huw hab (by omega) hpu (k := k + 1) (by omega) (by omega)
  have hback : mapR (outL (k + 1)) a b (lines_Split_F u) = lines_Split_F t := by
    rw [hus]
    apply List.ext_getElem
    · rw [mapR_length hab (by omega), hul]
    · intro i i1 i2
      rw [mapR_getElem hab (by omega) i (by omega) i1, mapR_getElem hab (by omega) i i2 (by omega)]
      by_cases c : a ≤ i ∧ i ≤ b
      · rw [if_pos c, if_pos c, out_in]
      · rw [if_neg c, if_neg c]
  rw [hback, L1] at y3
  have fx := (do_fine (t := t) (at_ := (pa : Int)) (op := [62]) (r := r) (count := ((k + 1 : Nat) : Int)) (by omega))
  have fy := (do_fine (t := u) (at_ := (pu : Int)) (op := [60]) (r := s) (count := ((k + 1 : Nat) : Int)) (by omega))
  rw [x2] at fx
  rw [y2] at fy
  have mx1 : massL x.1 ≤ 1073741824 := by
    rcases fx.2 with hh | hh
    · exact absurd rfl hh.1
    · exact hh.2.2
  have my1 : massL y.1 ≤ 1073741824 := by
    rcases fy.2 with hh | hh
    · exact absurd rfl hh.1
    · exact hh.2.2
  intro r6 e6 _ r7 e7 _
  rw [hst] at e6
  rw [x1] at e7
  subst r6 r7
  dsimp only
  rw [wrap_i64 (n := (k : Int) + 1) (by omega) (by omega), show (k : Int) + 1 = ((k + 1 : Nat) : Int) by omega]
  refine ⟨fx.1, fun r8 e8 _ => ?_⟩
  rw [x2] at e8
  subst r8
  refine ⟨apply_P' (by omega) mx1, fun r9 e9' _ => ?_⟩
  rw [x3] at e9'
  subst r9
  intro r10 e10 _ r11 e11 _
  dsimp only at e10 e11 ⊢
  rw [y1] at e10
  rw [hsu] at e11
  subst r10 r11
  dsimp only
  refine ⟨fy.1, fun r12 e12 _ => ?_⟩
  rw [y2] at e12
  subst r12
  refine ⟨apply_P' (by omega) my1, fun r13 e13 _ => ?_⟩
  rw [y3] at e13
  subst r13
  dsimp only
  refine brx (fun c => absurd rfl c) (fun _ => brx (fun c => absurd rfl c) (fun _ => brx (fun c => absurd rfl c) (fun _ => brx (fun c => absurd rfl c) (fun _ => brx (fun c => absurd rfl c) (fun _ => brx (fun c => absurd rfl c) (fun _ => brx (fun c => absurd rfl c) (fun _ => ?_)))))))
  refine ⟨by show t.length < lim; omega, fun r14 e14 _ => ⟨by show u.length < lim; omega, fun r15 e15 _ => ?_⟩⟩
  rw [hus] at e15
  subst r14 r15
  rw [wrap_i64 (n := (cnt t : Int) + 1) (by omega) (by omega), wrap_i64 (n := (cnt t : Int) + 1 - 1) (by omega) (by omega), wrap_i64 (n := (cnt t : Int) + 1 - 2) (by omega) (by omega)]
  refine brx (fun c => absurd (by rw [hul]) c) (fun _ => ?_)
  have hll : ∀ l ∈ lines_Split_F t, l.length ≤ 65536 := fun l hl => by have := line_le t l hl; omega
  have fin : ∀ last : Int, last ≤ (b : Int) → (∀ (i : Nat) (h : i < (lines_Split_F t).length), last < (i : Int) → (i : Int) ≤ (b : Int) → (lines_Split_F t)[i].length = 0) →
      qo_OperShifts_J2 (fun x6 => wfD qo_OperShifts_d2r (x6, ()) → K (.one (.v .bool x6)) []) ((k + 1 : Nat) : Int) (a : Int) (lines_Split_F t) (mapR (inL (k + 1)) a b (lines_Split_F t)) last := fun last h1 h2 => by
    refine shifts_J2 _ (fun _ => h) (k + 1) (by omega) (a : Int) last _ _ hul (by omega) hll (fun i i1 i2 => ?_)
    rw [mapR_getElem hab (by omega) i i1 i2]
    by_cases c : a ≤ i ∧ i ≤ b
    · rw [if_pos c]
      unfold inL
      by_cases c2 : 0 < (lines_Split_F t)[i].length
      · rw [if_pos c2]
        by_cases c3 : (i : Int) ≤ last
        · rw [if_pos ⟨by omega, c3, c2⟩]
        · have := h2 i i1 (by omega) (by omega)
          omega
      · rw [if_neg c2, if_neg (fun hh => c2 hh.2.2)]
    · rw [if_neg c, if_neg (by omega)]
  have last0 : qo_OperShifts_J2 (fun x6 => wfD qo_OperShifts_d2r (x6, ()) → K (.one (.v .bool x6)) []) ((k + 1 : Nat) : Int) (a : Int) (lines_Split_F t) (mapR (inL (k + 1)) a b (lines_Split_F t)) (b : Int) := fin (b : Int) (Int.le_refl _) (fun i _ h1 h2 => by omega)
  refine brn (fun c1 => brn (fun c2 => brn (fun c3 => asrt ⟨by omega, by omega⟩ (brn (fun c4 _ => ?_) (fun _ _ => last0))) (fun _ _ => last0)) (fun _ _ => last0)) (fun _ _ => last0)
  refine fin _ (by omega) (fun i i1 h1 h2 => ?_)
  have hi : i = cnt t := by omega
  subst hi
  rw [show (cnt t : Int) + 1 - 1 = ((cnt t : Nat) : Int) by omega, rd_nat _ _ _ i1] at c4
  omega
set_option maxRecDepth 20000 in
theorem shifts_law (v : valsA qo_OperShifts_A) (hw : wfA qo_OperShifts_A v) (_ : bulkA qo_OperShifts_A v ≤ 1048576) : qo_OperShifts_R (mkA qo_OperShifts_A v) (fun r _ => r = .one (.v .bool true)) := by
  obtain ⟨t, q, c, ⟨⟩⟩ := v
  exact (qo_OperShifts_walk t q c _).mpr (shifts_raw t q c _ hw rfl)
end Go.VE
