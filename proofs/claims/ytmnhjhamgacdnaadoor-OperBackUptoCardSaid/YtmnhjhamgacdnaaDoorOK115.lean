/- OperBack: whatever the input, up to the bulk that the statement names, the law answers true, and what was handed in reads as it did. Its conditions: the bound of the given statement and the tables that its card ties, no other. -/
import Derived.Test.YtmnhjhamgacdnaaDoorOK114
import Derived.MapKept
set_option linter.unusedVariables false
set_option linter.unusedSectionVars false
set_option linter.unusedSimpArgs false
namespace Go.VE
open Go Go.Proofs Go.RowKit Go.Lib Go.MapKept

/-- one map in a block of its own, behind all that was there -/
structure MapAt (w0 w : World) (es : Array MapEntry) : Prop where
  at_ : w.heap[w0.heap.size]? = some (.map es es.size)
  size : w.heap.size = w0.heap.size + 1
  old : ∀ b, b < w0.heap.size → w.heap[b]? = w0.heap[b]?
  os : w.os = w0.os
  tape : w.tape = w0.tape
  output : w.output = w0.output

theorem MapAt.made (w : World) : MapAt w (w.alloc (.map #[] 0)) #[] :=
  { at_ := by show (w.heap.push _)[w.heap.size]? = _; simp, size := by simp, old := fun b hb => (by show (w.heap.push _)[b]? = _; rw [Array.getElem?_push, if_neg (by omega)]), os := rfl, tape := rfl, output := rfl }

theorem MapAt.upd {P : Program} {t k e : TypeId} {w0 w : World} {es : Array MapEntry} (M : MapAt w0 w es) (hu : P.underlying t = some (.map k e)) (hk : P.underlying k = some .string) {s : ByteArray} {v : Value}
    (hf : Instr.findNow .string (.string s) es.toList 0 = some none) :
    ∃ w', (Instr.mapUpdate t (.map (some w0.heap.size)) (.string s) v).run P w = .ok () w' ∧ MapAt w0 w' (es.push { key := .string s, val := v, born := es.size }) := by
  refine ⟨{ w with heap := w.heap.setIfInBounds w0.heap.size (.map (es.push { key := .string s, val := v, born := es.size }) (es.size + 1)) }, ?_, ?_⟩
  · have h1 := run_checkKey (P := P) (w := w) (kt := k) (k := .string s) hk (by trivial) false 9999
    have h2 := run_findKey (P := P) (w := w) hk hf
    have h3 := MapKept.run_setObj_map (P := P) (.map (es.push { key := .string s, val := v, born := es.size }) (es.size + 1)) M.at_
    have h4 := MapKept.run_getObj_map (P := P) M.at_
    simp only [Instr.mapUpdate, Sem.run_bind, run_underlying hu, h4, Result.andThen_ok, h1, h2, h3]
  · have hs := M.size
    refine { at_ := ?_, size := by simpa using M.size, old := fun b hb => ?_, os := M.os, tape := M.tape, output := M.output }
    · simp [hs]
    · rw [← M.old b hb]
      exact Array.getElem?_setIfInBounds_ne (by omega)

/-! ### operations one behind the other -/
section
variable {P : Program} {ops : Array Oper} {Q : Exit → Act → World → Prop} {ix : List Nat} {j : Nat} {a : Act} {w w' : World} {v : Value}

theorem op_val {o : Oper} (hj : ops[j]? = some o) (hg : o.guard = none) (hr : (execOp a.eval o).run P w = .ok (.value v) w') (hn : wpOps P ops Q ix (a.put o.dst v) w') : wpOps P ops Q (j :: ix) a w := by
  simp only [wpOps, hj]
  rw [if_pos (by simp [Region.wanted, hg])]
  exact .inl (wp_val hr hn)

theorem op_skip {o : Oper} (hj : ops[j]? = some o) (hg : o.guard = none) (hr : (execOp a.eval o).run P w = .ok .skip w') (hn : wpOps P ops Q ix (a.put o.dst undef) w') : wpOps P ops Q (j :: ix) a w := by
  simp only [wpOps, hj]
  rw [if_pos (by simp [Region.wanted, hg])]
  refine .inl ?_
  unfold Oper.wp
  rw [hr]
  exact hn

theorem op_enter {o : Oper} {f : FuncId} {args : Array Value} (hj : ops[j]? = some o) (hg : o.guard = none) (hr : (execOp a.eval o).run P w = .ok (.enter f args) w)
    (h : Calls P f args w fun e w' => ∃ v, e = .returned v ∧ wpOps P ops Q ix (a.put o.dst v) w') : wpOps P ops Q (j :: ix) a w := by
  simp only [wpOps, hj]
  rw [if_pos (by simp [Region.wanted, hg])]
  refine .inl ?_
  unfold Oper.wp
  rw [hr]
  refine h.mono ?_
  rintro e w' ⟨v, rfl, hb⟩
  exact hb
end

def ent (k : ByteArray) (f i : Nat) : MapEntry := { key := .string k, val := .func (.func f) #[] #[], born := i }

def opsOf : Code → Array Oper
  | .region _ ops _ => ops
  | _ => #[]

section
variable {P : Program} {ops : Array Oper} {Q : Exit → Act → World → Prop} {ix : List Nat} {j : Nat} {a : Act} {w w' : World} {v : Value} {dst : Option Tmp}
theorem op_val' (op : Op) (hj : (ops[j]?).map (fun o => (o.op, o.dst, o.guard)) = some (op, dst, none)) (hr : ∀ o : Oper, o.op = op → o.dst = dst → (execOp a.eval o).run P w = .ok (.value v) w') (hn : wpOps P ops Q ix (a.put dst v) w') : wpOps P ops Q (j :: ix) a w := by
  cases ho : ops[j]? with
  | none => rw [ho] at hj; cases hj
  | some o =>
    rw [ho] at hj
    simp only [Option.map_some, Option.some.injEq, Prod.mk.injEq] at hj
    obtain ⟨h1, h2, h3⟩ := hj
    exact op_val ho h3 (hr o h1 h2) (by rw [h2]; exact hn)
theorem op_skip' (op : Op) (hj : (ops[j]?).map (fun o => (o.op, o.dst, o.guard)) = some (op, none, none)) (hr : ∀ o : Oper, o.op = op → o.dst = none → (execOp a.eval o).run P w = .ok .skip w') (hn : wpOps P ops Q ix a w') : wpOps P ops Q (j :: ix) a w := by
  cases ho : ops[j]? with
  | none => rw [ho] at hj; cases hj
  | some o =>
    rw [ho] at hj
    simp only [Option.map_some, Option.some.injEq, Prod.mk.injEq] at hj
    obtain ⟨h1, h2, h3⟩ := hj
    exact op_skip ho h3 (hr o h1 h2) (by rw [h2]; exact hn)
theorem op_enter' (op : Op) {f : FuncId} {args : Array Value} (hj : (ops[j]?).map (fun o => (o.op, o.dst, o.guard)) = some (op, dst, none)) (hr : ∀ o : Oper, o.op = op → o.dst = dst → (execOp a.eval o).run P w = .ok (.enter f args) w)
    (h : Calls P f args w fun e w' => ∃ v, e = .returned v ∧ wpOps P ops Q ix (a.put dst v) w') : wpOps P ops Q (j :: ix) a w := by
  cases ho : ops[j]? with
  | none => rw [ho] at hj; cases hj
  | some o =>
    rw [ho] at hj
    simp only [Option.map_some, Option.some.injEq, Prod.mk.injEq] at hj
    obtain ⟨h1, h2, h3⟩ := hj
    exact op_enter ho h3 (hr o h1 h2) (by rw [h2]; exact h)
/-- one entry more -/
theorem op_ins {t k e : TypeId} {w0 : World} {es : Array MapEntry} (T : Tmp) (M : MapAt w0 w es) (hu : P.underlying t = some (.map k e)) (hk : P.underlying k = some .string) (hT : a.eval (.tmp T) = .map (some w0.heap.size)) (s : ByteArray) (f : FuncId)
    (hj : (ops[j]?).map (fun o => (o.op, o.dst, o.guard)) = some (.insert t (.tmp T) (.const (.string s)) (.func f), none, none))
    (hf : Instr.findNow .string (.string s) es.toList 0 = some none) (hn : ∀ w', MapAt w0 w' (es.push (ent s f es.size)) → wpOps P ops Q ix a w') : wpOps P ops Q (j :: ix) a w := by
  obtain ⟨w', hr, M'⟩ := M.upd (v := .func (.func f) #[] #[]) hu hk hf
  refine op_skip' _ hj (fun o ho hd => ?_) (hn w' M')
  unfold execOp
  rw [ho]
  dsimp only
  rw [hT]
  show (Sem.run P (do Instr.mapUpdate t (.map (some w0.heap.size)) (.string s) (.func (.func f) #[] #[]); pure _) w) = _
  rw [Sem.run_bind, hr]
  rfl
end

def tabE : Array MapEntry := #[ent ⟨#[100]⟩ 103 0, ent ⟨#[99]⟩ 104 1, ent ⟨#[121]⟩ 105 2, ent ⟨#[62]⟩ 106 3, ent ⟨#[60]⟩ 107 4, ent ⟨#[103, 126]⟩ 108 5, ent ⟨#[103, 117]⟩ 110 6, ent ⟨#[103, 85]⟩ 111 7]

theorem tab_mt : Tryd.prog.underlying 108 = some (.map 9 106) := by kernel_rfl
theorem tab_kt : Tryd.prog.underlying 9 = some .string := by kernel_rfl
theorem operators_body : Tryd.f69.body = some (.seq (.region 0 (opsOf (at' (bodyOf Tryd.f69) [0])) false) (.seq (.region 1 (opsOf (at' (bodyOf Tryd.f69) [0, 1])) false) .ret)) := by kernel_rfl
theorem operators_run (w : World) : Calls Tryd.prog 69 #[] w fun e w' => e = .returned (.map (some w.heap.size)) ∧ MapAt w w' tabE := by
  refine calls_of_wp (fn := Tryd.f69) (by kernel_rfl) operators_body ?_
  refine wp_seq (wp_region ?_)
  rw [show List.range (opsOf (at' (bodyOf Tryd.f69) [0])).size = [0] by kernel_rfl]
  refine op_val' (.assign (.const (.map none))) (dst := some 0) (by kernel_rfl) (fun o ho hd => by unfold execOp; rw [ho]; rfl) ?_
  show Code.wp _ _ _ _ _
  refine wp_seq (wp_region ?_)
  rw [show List.range (opsOf (at' (bodyOf Tryd.f69) [0, 1])).size = [0, 1, 2, 3, 4, 5, 6, 7, 8, 9, 10] by kernel_rfl]
  refine op_val' (.makeMap 108 none) (dst := some 1) (by kernel_rfl) (fun o ho hd => by unfold execOp; rw [ho]; rfl) ?_
  have hT : ∀ (x y z : Value) (ds : List Deferred) (m : Value), (((Act.mk #[x, y, z] ds).put (some 1) m).eval (.tmp 1)) = m := fun _ _ _ _ _ => rfl
  refine op_ins 1 (MapAt.made w) tab_mt tab_kt rfl ⟨#[100]⟩ 103 (by kernel_rfl) (by kernel_rfl) fun w M => ?_
  refine op_ins 1 M tab_mt tab_kt rfl ⟨#[99]⟩ 104 (by kernel_rfl) (by kernel_rfl) fun w M => ?_
  refine op_ins 1 M tab_mt tab_kt rfl ⟨#[121]⟩ 105 (by kernel_rfl) (by kernel_rfl) fun w M => ?_
  refine op_ins 1 M tab_mt tab_kt rfl ⟨#[62]⟩ 106 (by kernel_rfl) (by kernel_rfl) fun w M => ?_
  refine op_ins 1 M tab_mt tab_kt rfl ⟨#[60]⟩ 107 (by kernel_rfl) (by kernel_rfl) fun w M => ?_
  refine op_ins 1 M tab_mt tab_kt rfl ⟨#[103, 126]⟩ 108 (by kernel_rfl) (by kernel_rfl) fun w M => ?_
  refine op_ins 1 M tab_mt tab_kt rfl ⟨#[103, 117]⟩ 110 (by kernel_rfl) (by kernel_rfl) fun w M => ?_
  refine op_ins 1 M tab_mt tab_kt rfl ⟨#[103, 85]⟩ 111 (by kernel_rfl) (by kernel_rfl) fun w M => ?_
  refine op_val' (.move (.tmp 1)) (dst := some 2) (by kernel_rfl) (fun o ho hd => by unfold execOp; rw [ho]; rfl) ?_
  refine op_val' (.assign (.tmp 2)) (dst := some 0) (by kernel_rfl) (fun o ho hd => by unfold execOp; rw [ho]; rfl) ?_
  refine wp_ret ?_
  refine ⟨rfl, _, ?_, rfl, M⟩
  rw [results_eq, show Tryd.f69.results = #[.tmp 0] by kernel_rfl]
  simp [resSem, Act.put]
  rfl

/-! ### what is found in it -/
theorem lookup_run {P : Program} {t k e : TypeId} (hu : P.underlying t = some (.map k e)) (hk : P.underlying k = some .string) {es : Array MapEntry} {c r i : Nat} {w : World} (hb : w.heap[r]? = some (.map es c)) {s : ByteArray} {v : Value}
    (hf : Instr.findNow .string (.string s) es.toList 0 = some (some (i, v))) : (Instr.lookup t (.map (some r)) (.string s) true).run P w = .ok (.tuple #[v, .bool true]) w := by
  have h1 := run_checkKey (P := P) (w := w) (kt := k) (k := .string s) hk (by trivial) es.isEmpty 9999
  have h2 := run_findKey (P := P) (w := w) hk hf
  have h4 := MapKept.run_getObj_map (P := P) hb
  simp [Instr.lookup, run_underlying hu, h4, h1, h2, Result.andThen]

theorem lookup_none {P : Program} {t k e : TypeId} (hu : P.underlying t = some (.map k e)) (hk : P.underlying k = some .string) {es : Array MapEntry} {c r : Nat} {w : World} (hb : w.heap[r]? = some (.map es c)) {s : ByteArray} {z : Value}
    (hz : (zeroValue e).run P w = .ok z w) (hf : Instr.findNow .string (.string s) es.toList 0 = some none) : (Instr.lookup t (.map (some r)) (.string s) true).run P w = .ok (.tuple #[z, .bool false]) w := by
  have h1 := run_checkKey (P := P) (w := w) (kt := k) (k := .string s) hk (by trivial) es.isEmpty 9999
  have h2 := run_findKey (P := P) (w := w) hk hf
  have h4 := MapKept.run_getObj_map (P := P) hb
  simp [Instr.lookup, run_underlying hu, h4, h1, h2, hz, Result.andThen]

/-- which operators the walk goes into, and with which functions -/
def goK : List (List Int × Nat) → List Int → (Nat → Prop) → Prop
  | [], _, _ => False
  | (a, f) :: r, x, k => bif decide (x = a) then k f else goK r x k

theorem goK_mem : ∀ {ks : List (List Int × Nat)} {x : List Int} {k : Nat → Prop}, goK ks x k → ∃ f, (x, f) ∈ ks ∧ k f
  | [], _, _, h => by cases h
  | (a, f) :: r, x, k, h => by
    unfold goK at h
    by_cases c : x = a
    · rw [decide_eq_true c] at h
      exact ⟨f, by rw [c]; exact List.mem_cons_self, h⟩
    · rw [decide_eq_false c] at h
      obtain ⟨f', h1, h2⟩ := goK_mem h
      exact ⟨f', List.mem_cons_of_mem _ h1, h2⟩

def tabKeys : List (List Int × Nat) := [([100], 103), ([103, 126], 108), ([103, 117], 110), ([103, 85], 111)]

theorem bytes_eq {s t : ByteArray} (h : bytesOf s = bytesOf t) : s = t := by
  have := bytesOf_inj h
  cases s; cases t
  simp only [ByteArray.mk.injEq]
  exact Array.ext' this

theorem tabE_find {x : List Int} {f : Nat} (h : (x, f) ∈ tabKeys) {s : ByteArray} (hs : bytesOf s = x) : ∃ i, Instr.findNow .string (.string s) tabE.toList 0 = some (some (i, .func (.func f) #[] #[])) := by
  have key : ∀ (t : ByteArray) (i : Nat), bytesOf t = x → Instr.findNow .string (.string t) tabE.toList 0 = some (some (i, .func (.func f) #[] #[])) → ∃ i, Instr.findNow .string (.string s) tabE.toList 0 = some (some (i, .func (.func f) #[] #[])) := fun t i ht hi => by
    rw [bytes_eq (hs.trans ht.symm)]; exact ⟨i, hi⟩
  simp only [tabKeys, List.mem_cons, Prod.mk.injEq, List.not_mem_nil, or_false] at h
  rcases h with ⟨rfl, rfl⟩ | ⟨rfl, rfl⟩ | ⟨rfl, rfl⟩ | ⟨rfl, rfl⟩
  · exact key ⟨#[100]⟩ 0 (by decide) (by kernel_rfl)
  · exact key ⟨#[103, 126]⟩ 5 (by decide) (by kernel_rfl)
  · exact key ⟨#[103, 117]⟩ 6 (by decide) (by kernel_rfl)
  · exact key ⟨#[103, 85]⟩ 7 (by decide) (by kernel_rfl)

def tabSt (st : St) (x : List Int) (f : Nat) : St :=
  (((((((st.put (some 18) .no).put (some 19) (.v .str x)).put (some 20) .no).put (some 17) .no).put (some 21) .no).put (some 22) .no).put (some 12) (.fn f [])).put (some 13) (.v .bool true)

/-- the piece that asks the table, and what comes behind it -/
def tabX (R : Pce) : Pce := fun st k => match st.ev (.tmp 2), Nat.beq st.tmps.length 77 with
  | .v .str x, true => goK tabKeys x fun f => R (tabSt st x f) k
  | _, _ => False

theorem Do_at : at' (bodyOf Tryd.f28) [1] = .seq (.region 1 (opsOf (at' (bodyOf Tryd.f28) [0, 1])) false) (at' (bodyOf Tryd.f28) [1, 1]) := by kernel_rfl

theorem wpOps_then {P : Program} {ops : Array Oper} {c : Code} {Q : Exit → Act → World → Prop} {a : Act} {w : World} (h : c.wp P Q a w) : wpOps P ops (Exit.then (c.wp P Q) Q) [] a w := h

set_option maxRecDepth 20000 in
theorem tabX_ok {R : Pce} (hR : SemOk Tryd.prog (at' (bodyOf Tryd.f28) [1, 1]) R) : SemOk Tryd.prog (at' (bodyOf Tryd.f28) [1]) (tabX R) := by
  intro w0 F Fn I0 W ds G I st tm w Q k hW hI hx hk
  unfold tabX at hx
  split at hx
  · rename_i x hev hlen
    obtain ⟨f, hf, hR'⟩ := goK_mem hx
    have hlen := Nat.eq_of_beq_eq_true hlen
    have hsz : tm.size = 77 := hI.size.trans hlen
    have h2 := hI.ev (.tmp 2) ds
    rw [hev] at h2
    obtain ⟨s, hs, hsx, hsl⟩ := RepV.str_eq h2
    obtain ⟨i, hfind⟩ := tabE_find hf hsx
    have hs2 : tm[2]? = some (.string s) := by
      have : tm.getD 2 undef = .string s := hs
      rw [Array.getD_eq_getD_getElem?] at this
      rw [Array.getElem?_eq_getElem (by omega)] at this ⊢
      exact congrArg some this
    rw [Do_at]
    refine wp_seq (wp_region ?_)
    rw [show List.range (opsOf (at' (bodyOf Tryd.f28) [0, 1])).size = [0, 1, 2, 3, 4, 5, 6, 7] by kernel_rfl]
    refine op_enter' (.call ⟨.value (.func 69), #[], #[]⟩) (f := 69) (args := #[]) (dst := some 18) (by kernel_rfl) (fun o ho hd => ?_) ((operators_run w).mono ?_)
    · have := enters_of (P := Tryd.prog) (f := 69) (fn := Tryd.f69) (by kernel_rfl) (by kernel_rfl) #[] w
      unfold execOp
      rw [ho]
      simp [Sem.run_bind, resolve, Act.eval, Deferred.ofValue, invoke, this]
    rintro e w' ⟨rfl, M⟩
    refine ⟨_, rfl, ?_⟩
    have hI1 := hI.grow (w' := w') (by rw [M.size]; omega) M.old M.os M.tape M.output
    refine op_val' (.move (.tmp 2)) (w' := w') (v := .string s) (dst := some 19) (by kernel_rfl) (fun o ho hd => ?_) ?_
    · unfold execOp; rw [ho]; simp [Act.eval, Act.put, hs2]
    refine op_val' (.lookup 108 (.tmp 18) (.tmp 19) true) (w' := w') (v := .tuple #[.func (.func f) #[] #[], .bool true]) (dst := some 20) (by kernel_rfl) (fun o ho hd => ?_) ?_
    · have hl := lookup_run tab_mt tab_kt M.at_ hfind
      unfold execOp
      rw [ho]
      simp [Act.eval, Act.put, hsz, hl]
    refine op_val' (.move (.tmp 20)) (w' := w') (v := .tuple #[.func (.func f) #[] #[], .bool true]) (dst := some 17) (by kernel_rfl) (fun o ho hd => ?_) ?_
    · unfold execOp; rw [ho]; simp [Act.eval, Act.put, hsz]
    refine op_val' (.extract (.tmp 17) 0) (w' := w') (v := .func (.func f) #[] #[]) (dst := some 21) (by kernel_rfl) (fun o ho hd => ?_) ?_
    · unfold execOp; rw [ho]; simp [Act.eval, Act.put, hsz, Instr.extract]
    refine op_val' (.extract (.tmp 17) 1) (w' := w') (v := .bool true) (dst := some 22) (by kernel_rfl) (fun o ho hd => ?_) ?_
    · unfold execOp; rw [ho]; simp [Act.eval, Act.put, hsz, Instr.extract]
    refine op_val' (.assign (.tmp 21)) (w' := w') (v := .func (.func f) #[] #[]) (dst := some 12) (by kernel_rfl) (fun o ho hd => ?_) ?_
    · unfold execOp; rw [ho]; simp [Act.eval, Act.put, hsz]
    refine op_val' (.assign (.tmp 22)) (w' := w') (v := .bool true) (dst := some 13) (by kernel_rfl) (fun o ho hd => ?_) ?_
    · unfold execOp; rw [ho]; simp [Act.eval, Act.put, hsz]
    refine wpOps_then ?_
    have hI2 := (hI1.put (some 18) (s := .no) (v := .map (some w.heap.size)) trivial).put (some 19) (s := .v .str x) (v := .string s) (by rw [← hsx]; exact RepV.str_mk hsl)
    have hI3 := ((hI2.put (some 20) (s := .no) (v := .tuple #[.func (.func f) #[] #[], .bool true]) trivial).put (some 17) (s := .no) (v := .tuple #[.func (.func f) #[] #[], .bool true]) trivial).put (some 21) (s := .no) (v := .func (.func f) #[] #[]) trivial
    have hI4 := ((hI3.put (some 22) (s := .no) (v := .bool true) trivial).put (some 12) (s := .fn f []) (v := .func (.func f) #[] #[]) ⟨[], rfl, rfl, fun i k u hk => by simp at hk⟩).put (some 13) (s := .v .bool true) (v := .bool true) RepV.bool_mk
    simp only [Act.put]
    exact hR Q k hW hI4 hR' hk
  · cases hx
end Go.VE
namespace Go.VE
open Go Go.Proofs
/-! ### quoin/oper.Do -/
def oper_Do_G : List (Nat × App) := [(59, oper_outside_S), (70, oper_spanned_S), (103, oper_job_deleted_S), (108, oper_operators_1_S), (110, oper_operators_2_S), (111, oper_operators_3_S)]
theorem oper_Do_Gok : GOk Tryd.prog (getG oper_Do_G) := GOk.cons oper_outside_ok (GOk.cons oper_spanned_ok (GOk.cons oper_job_deleted_ok (GOk.cons oper_operators_1_ok (GOk.cons oper_operators_2_ok (GOk.cons oper_operators_3_ok (GOk.nil))))))
theorem oper_Do_st : storesC (bodyOf Tryd.f28) = true := by kernel_rfl
def oper_Do_XT : Pce := tabX (ex tb (getG oper_Do_G) [] (at' (bodyOf Tryd.f28) [1, 1]) [1, 1])
set_option maxRecDepth 20000 in
theorem oper_Do_xT : SemOk Tryd.prog (at' (bodyOf Tryd.f28) [1]) oper_Do_XT := tabX_ok (ex_sound tb_M tb_ok oper_Do_Gok (LabsOk.nil) (at' (bodyOf Tryd.f28) [1, 1]) [1, 1] rfl (storesC_at oper_Do_st [1, 1]))
def oper_Do_BT : Labs := ([1], oper_Do_XT) :: []
theorem oper_Do_bT : LabsOk Tryd.prog (bodyOf Tryd.f28) oper_Do_BT := LabsOk.cons oper_Do_xT (LabsOk.nil)
def oper_Do_raw (t0 : List Int) (at1 : Int) (op2 : List Int) (rv3 : (Int × Int × Bool × Bool)) (count4 : Int) (K : Res → List Cell → Prop) : Prop :=
 bif (decide (op2 = ([100] : List Int))) then
 ∀ (r1 : Bool), r1 = oper_outside_F t0 at1 count4 (1 : Int) → (
 wfR (.one (.v (.bool) r1)) → (
 bif r1 then
 K (.tup [.v (.st (.pair (.sl (.st (.pair (.int .i64) (.pair (.sl (.int .u8)) (.sl (.int .u8)))))) (.pair (.int .i64) (.pair (.st (.pair (.bool) (.pair (.bool) (.sl (.int .u8))))) (.pair (.int .i64) (.bool)))))) (([] : List ((Int × List Int × List Int))), (0 : Int), (false, false, ([] : List Int)), (0 : Int), false), .v (.int .i64) (2 : Int)]) []
 else
 oper_spanned_P t0 at1 rv3 ∧ (
 ∀ (r2 : Int × Int × Bool), r2 = oper_spanned_F t0 at1 rv3 → (
 wfR (.tup [.v (.int .i64) r2.1, .v (.int .i64) r2.2.1, .v (.bool) r2.2.2]) → (
 bif (!r2.2.2) then
 K (.tup [.v (.st (.pair (.sl (.st (.pair (.int .i64) (.pair (.sl (.int .u8)) (.sl (.int .u8)))))) (.pair (.int .i64) (.pair (.st (.pair (.bool) (.pair (.bool) (.sl (.int .u8))))) (.pair (.int .i64) (.bool)))))) (([] : List ((Int × List Int × List Int))), (0 : Int), (false, false, ([] : List Int)), (0 : Int), false), .v (.int .i64) (2 : Int)]) []
 else
 bif (decide (rv3.1 = rv3.2.1)) then
 bif (!rv3.2.2.1) then
 bif (!decide (op2 = ([99] : List Int))) then
 K (.tup [.v (.st (.pair (.sl (.st (.pair (.int .i64) (.pair (.sl (.int .u8)) (.sl (.int .u8)))))) (.pair (.int .i64) (.pair (.st (.pair (.bool) (.pair (.bool) (.sl (.int .u8))))) (.pair (.int .i64) (.bool)))))) (([] : List ((Int × List Int × List Int))), (0 : Int), (false, false, ([] : List Int)), (0 : Int), false), .v (.int .i64) (190 : Int)]) []
 else
 bif rv3.2.2.1 then
 bif (decide (op2 = ([100] : List Int))) then
 K (.tup [.v (.st (.pair (.sl (.st (.pair (.int .i64) (.pair (.sl (.int .u8)) (.sl (.int .u8)))))) (.pair (.int .i64) (.pair (.st (.pair (.bool) (.pair (.bool) (.sl (.int .u8))))) (.pair (.int .i64) (.bool)))))) (([] : List ((Int × List Int × List Int))), (0 : Int), (false, false, ([] : List Int)), (0 : Int), false), .v (.int .i64) (190 : Int)]) []
 else
 oper_job_deleted_P (t0, at1, rv3, r2.1, r2.2.1, count4) ∧ (
 ∀ (r3 : (List ((Int × List Int × List Int)) × Int × (Bool × Bool × List Int) × Int × Bool) × Int), r3 = oper_job_deleted_F (t0, at1, rv3, r2.1, r2.2.1, count4) → (
 wfR (.tup [.v (.st (.pair (.sl (.st (.pair (.int .i64) (.pair (.sl (.int .u8)) (.sl (.int .u8)))))) (.pair (.int .i64) (.pair (.st (.pair (.bool) (.pair (.bool) (.sl (.int .u8))))) (.pair (.int .i64) (.bool)))))) r3.1, .v (.int .i64) r3.2]) → (
 K (.tup [.v (.st (.pair (.sl (.st (.pair (.int .i64) (.pair (.sl (.int .u8)) (.sl (.int .u8)))))) (.pair (.int .i64) (.pair (.st (.pair (.bool) (.pair (.bool) (.sl (.int .u8))))) (.pair (.int .i64) (.bool)))))) r3.1, .v (.int .i64) r3.2]) [])))
 else
 oper_job_deleted_P (t0, at1, rv3, r2.1, r2.2.1, count4) ∧ (
 ∀ (r4 : (List ((Int × List Int × List Int)) × Int × (Bool × Bool × List Int) × Int × Bool) × Int), r4 = oper_job_deleted_F (t0, at1, rv3, r2.1, r2.2.1, count4) → (
 wfR (.tup [.v (.st (.pair (.sl (.st (.pair (.int .i64) (.pair (.sl (.int .u8)) (.sl (.int .u8)))))) (.pair (.int .i64) (.pair (.st (.pair (.bool) (.pair (.bool) (.sl (.int .u8))))) (.pair (.int .i64) (.bool)))))) r4.1, .v (.int .i64) r4.2]) → (
 K (.tup [.v (.st (.pair (.sl (.st (.pair (.int .i64) (.pair (.sl (.int .u8)) (.sl (.int .u8)))))) (.pair (.int .i64) (.pair (.st (.pair (.bool) (.pair (.bool) (.sl (.int .u8))))) (.pair (.int .i64) (.bool)))))) r4.1, .v (.int .i64) r4.2]) [])))
 else
 bif rv3.2.2.1 then
 bif (decide (op2 = ([100] : List Int))) then
 K (.tup [.v (.st (.pair (.sl (.st (.pair (.int .i64) (.pair (.sl (.int .u8)) (.sl (.int .u8)))))) (.pair (.int .i64) (.pair (.st (.pair (.bool) (.pair (.bool) (.sl (.int .u8))))) (.pair (.int .i64) (.bool)))))) (([] : List ((Int × List Int × List Int))), (0 : Int), (false, false, ([] : List Int)), (0 : Int), false), .v (.int .i64) (190 : Int)]) []
 else
 oper_job_deleted_P (t0, at1, rv3, r2.1, r2.2.1, count4) ∧ (
 ∀ (r5 : (List ((Int × List Int × List Int)) × Int × (Bool × Bool × List Int) × Int × Bool) × Int), r5 = oper_job_deleted_F (t0, at1, rv3, r2.1, r2.2.1, count4) → (
 wfR (.tup [.v (.st (.pair (.sl (.st (.pair (.int .i64) (.pair (.sl (.int .u8)) (.sl (.int .u8)))))) (.pair (.int .i64) (.pair (.st (.pair (.bool) (.pair (.bool) (.sl (.int .u8))))) (.pair (.int .i64) (.bool)))))) r5.1, .v (.int .i64) r5.2]) → (
 K (.tup [.v (.st (.pair (.sl (.st (.pair (.int .i64) (.pair (.sl (.int .u8)) (.sl (.int .u8)))))) (.pair (.int .i64) (.pair (.st (.pair (.bool) (.pair (.bool) (.sl (.int .u8))))) (.pair (.int .i64) (.bool)))))) r5.1, .v (.int .i64) r5.2]) [])))
 else
 oper_job_deleted_P (t0, at1, rv3, r2.1, r2.2.1, count4) ∧ (
 ∀ (r6 : (List ((Int × List Int × List Int)) × Int × (Bool × Bool × List Int) × Int × Bool) × Int), r6 = oper_job_deleted_F (t0, at1, rv3, r2.1, r2.2.1, count4) → (
 wfR (.tup [.v (.st (.pair (.sl (.st (.pair (.int .i64) (.pair (.sl (.int .u8)) (.sl (.int .u8)))))) (.pair (.int .i64) (.pair (.st (.pair (.bool) (.pair (.bool) (.sl (.int .u8))))) (.pair (.int .i64) (.bool)))))) r6.1, .v (.int .i64) r6.2]) → (
 K (.tup [.v (.st (.pair (.sl (.st (.pair (.int .i64) (.pair (.sl (.int .u8)) (.sl (.int .u8)))))) (.pair (.int .i64) (.pair (.st (.pair (.bool) (.pair (.bool) (.sl (.int .u8))))) (.pair (.int .i64) (.bool)))))) r6.1, .v (.int .i64) r6.2]) [])))
 else
 oper_job_deleted_P (t0, at1, rv3, r2.1, r2.2.1, count4) ∧ (
 ∀ (r7 : (List ((Int × List Int × List Int)) × Int × (Bool × Bool × List Int) × Int × Bool) × Int), r7 = oper_job_deleted_F (t0, at1, rv3, r2.1, r2.2.1, count4) → (
 wfR (.tup [.v (.st (.pair (.sl (.st (.pair (.int .i64) (.pair (.sl (.int .u8)) (.sl (.int .u8)))))) (.pair (.int .i64) (.pair (.st (.pair (.bool) (.pair (.bool) (.sl (.int .u8))))) (.pair (.int .i64) (.bool)))))) r7.1, .v (.int .i64) r7.2]) → (
 K (.tup [.v (.st (.pair (.sl (.st (.pair (.int .i64) (.pair (.sl (.int .u8)) (.sl (.int .u8)))))) (.pair (.int .i64) (.pair (.st (.pair (.bool) (.pair (.bool) (.sl (.int .u8))))) (.pair (.int .i64) (.bool)))))) r7.1, .v (.int .i64) r7.2]) []))))))))
 else
 bif (decide (op2 = ([103, 126] : List Int))) then
 ∀ (r8 : Bool), r8 = oper_outside_F t0 at1 count4 (1 : Int) → (
 wfR (.one (.v (.bool) r8)) → (
 bif r8 then
 K (.tup [.v (.st (.pair (.sl (.st (.pair (.int .i64) (.pair (.sl (.int .u8)) (.sl (.int .u8)))))) (.pair (.int .i64) (.pair (.st (.pair (.bool) (.pair (.bool) (.sl (.int .u8))))) (.pair (.int .i64) (.bool)))))) (([] : List ((Int × List Int × List Int))), (0 : Int), (false, false, ([] : List Int)), (0 : Int), false), .v (.int .i64) (2 : Int)]) []
 else
 oper_spanned_P t0 at1 rv3 ∧ (
 ∀ (r9 : Int × Int × Bool), r9 = oper_spanned_F t0 at1 rv3 → (
 wfR (.tup [.v (.int .i64) r9.1, .v (.int .i64) r9.2.1, .v (.bool) r9.2.2]) → (
 bif (!r9.2.2) then
 K (.tup [.v (.st (.pair (.sl (.st (.pair (.int .i64) (.pair (.sl (.int .u8)) (.sl (.int .u8)))))) (.pair (.int .i64) (.pair (.st (.pair (.bool) (.pair (.bool) (.sl (.int .u8))))) (.pair (.int .i64) (.bool)))))) (([] : List ((Int × List Int × List Int))), (0 : Int), (false, false, ([] : List Int)), (0 : Int), false), .v (.int .i64) (2 : Int)]) []
 else
 bif (decide (rv3.1 = rv3.2.1)) then
 bif (!rv3.2.2.1) then
 bif (!decide (op2 = ([99] : List Int))) then
 K (.tup [.v (.st (.pair (.sl (.st (.pair (.int .i64) (.pair (.sl (.int .u8)) (.sl (.int .u8)))))) (.pair (.int .i64) (.pair (.st (.pair (.bool) (.pair (.bool) (.sl (.int .u8))))) (.pair (.int .i64) (.bool)))))) (([] : List ((Int × List Int × List Int))), (0 : Int), (false, false, ([] : List Int)), (0 : Int), false), .v (.int .i64) (190 : Int)]) []
 else
 bif rv3.2.2.1 then
 bif (decide (op2 = ([100] : List Int))) then
 K (.tup [.v (.st (.pair (.sl (.st (.pair (.int .i64) (.pair (.sl (.int .u8)) (.sl (.int .u8)))))) (.pair (.int .i64) (.pair (.st (.pair (.bool) (.pair (.bool) (.sl (.int .u8))))) (.pair (.int .i64) (.bool)))))) (([] : List ((Int × List Int × List Int))), (0 : Int), (false, false, ([] : List Int)), (0 : Int), false), .v (.int .i64) (190 : Int)]) []
 else
 oper_operators_1_P (t0, at1, rv3, r9.1, r9.2.1, count4) ∧ (
 ∀ (r10 : (List ((Int × List Int × List Int)) × Int × (Bool × Bool × List Int) × Int × Bool) × Int), r10 = oper_operators_1_F (t0, at1, rv3, r9.1, r9.2.1, count4) → (
 wfR (.tup [.v (.st (.pair (.sl (.st (.pair (.int .i64) (.pair (.sl (.int .u8)) (.sl (.int .u8)))))) (.pair (.int .i64) (.pair (.st (.pair (.bool) (.pair (.bool) (.sl (.int .u8))))) (.pair (.int .i64) (.bool)))))) r10.1, .v (.int .i64) r10.2]) → (
 K (.tup [.v (.st (.pair (.sl (.st (.pair (.int .i64) (.pair (.sl (.int .u8)) (.sl (.int .u8)))))) (.pair (.int .i64) (.pair (.st (.pair (.bool) (.pair (.bool) (.sl (.int .u8))))) (.pair (.int .i64) (.bool)))))) r10.1, .v (.int .i64) r10.2]) [])))
 else
 oper_operators_1_P (t0, at1, rv3, r9.1, r9.2.1, count4) ∧ (
 ∀ (r11 : (List ((Int × List Int × List Int)) × Int × (Bool × Bool × List Int) × Int × Bool) × Int), r11 = oper_operators_1_F (t0, at1, rv3, r9.1, r9.2.1, count4) → (
 wfR (.tup [.v (.st (.pair (.sl (.st (.pair (.int .i64) (.pair (.sl (.int .u8)) (.sl (.int .u8)))))) (.pair (.int .i64) (.pair (.st (.pair (.bool) (.pair (.bool) (.sl (.int .u8))))) (.pair (.int .i64) (.bool)))))) r11.1, .v (.int .i64) r11.2]) → (
 K (.tup [.v (.st (.pair (.sl (.st (.pair (.int .i64) (.pair (.sl (.int .u8)) (.sl (.int .u8)))))) (.pair (.int .i64) (.pair (.st (.pair (.bool) (.pair (.bool) (.sl (.int .u8))))) (.pair (.int .i64) (.bool)))))) r11.1, .v (.int .i64) r11.2]) [])))
 else
 bif rv3.2.2.1 then
 bif (decide (op2 = ([100] : List Int))) then
 K (.tup [.v (.st (.pair (.sl (.st (.pair (.int .i64) (.pair (.sl (.int .u8)) (.sl (.int .u8)))))) (.pair (.int .i64) (.pair (.st (.pair (.bool) (.pair (.bool) (.sl (.int .u8))))) (.pair (.int .i64) (.bool)))))) (([] : List ((Int × List Int × List Int))), (0 : Int), (false, false, ([] : List Int)), (0 : Int), false), .v (.int .i64) (190 : Int)]) []
 else
 oper_operators_1_P (t0, at1, rv3, r9.1, r9.2.1, count4) ∧ (
 ∀ (r12 : (List ((Int × List Int × List Int)) × Int × (Bool × Bool × List Int) × Int × Bool) × Int), r12 = oper_operators_1_F (t0, at1, rv3, r9.1, r9.2.1, count4) → (
 wfR (.tup [.v (.st (.pair (.sl (.st (.pair (.int .i64) (.pair (.sl (.int .u8)) (.sl (.int .u8)))))) (.pair (.int .i64) (.pair (.st (.pair (.bool) (.pair (.bool) (.sl (.int .u8))))) (.pair (.int .i64) (.bool)))))) r12.1, .v (.int .i64) r12.2]) → (
 K (.tup [.v (.st (.pair (.sl (.st (.pair (.int .i64) (.pair (.sl (.int .u8)) (.sl (.int .u8)))))) (.pair (.int .i64) (.pair (.st (.pair (.bool) (.pair (.bool) (.sl (.int .u8))))) (.pair (.int .i64) (.bool)))))) r12.1, .v (.int .i64) r12.2]) [])))
 else
 oper_operators_1_P (t0, at1, rv3, r9.1, r9.2.1, count4) ∧ (
 ∀ (r13 : (List ((Int × List Int × List Int)) × Int × (Bool × Bool × List Int) × Int × Bool) × Int), r13 = oper_operators_1_F (t0, at1, rv3, r9.1, r9.2.1, count4) → (
 wfR (.tup [.v (.st (.pair (.sl (.st (.pair (.int .i64) (.pair (.sl (.int .u8)) (.sl (.int .u8)))))) (.pair (.int .i64) (.pair (.st (.pair (.bool) (.pair (.bool) (.sl (.int .u8))))) (.pair (.int .i64) (.bool)))))) r13.1, .v (.int .i64) r13.2]) → (
 K (.tup [.v (.st (.pair (.sl (.st (.pair (.int .i64) (.pair (.sl (.int .u8)) (.sl (.int .u8)))))) (.pair (.int .i64) (.pair (.st (.pair (.bool) (.pair (.bool) (.sl (.int .u8))))) (.pair (.int .i64) (.bool)))))) r13.1, .v (.int .i64) r13.2]) [])))
 else
 oper_operators_1_P (t0, at1, rv3, r9.1, r9.2.1, count4) ∧ (
 ∀ (r14 : (List ((Int × List Int × List Int)) × Int × (Bool × Bool × List Int) × Int × Bool) × Int), r14 = oper_operators_1_F (t0, at1, rv3, r9.1, r9.2.1, count4) → (
 wfR (.tup [.v (.st (.pair (.sl (.st (.pair (.int .i64) (.pair (.sl (.int .u8)) (.sl (.int .u8)))))) (.pair (.int .i64) (.pair (.st (.pair (.bool) (.pair (.bool) (.sl (.int .u8))))) (.pair (.int .i64) (.bool)))))) r14.1, .v (.int .i64) r14.2]) → (
 K (.tup [.v (.st (.pair (.sl (.st (.pair (.int .i64) (.pair (.sl (.int .u8)) (.sl (.int .u8)))))) (.pair (.int .i64) (.pair (.st (.pair (.bool) (.pair (.bool) (.sl (.int .u8))))) (.pair (.int .i64) (.bool)))))) r14.1, .v (.int .i64) r14.2]) []))))))))
 else
 bif (decide (op2 = ([103, 117] : List Int))) then
 ∀ (r15 : Bool), r15 = oper_outside_F t0 at1 count4 (1 : Int) → (
 wfR (.one (.v (.bool) r15)) → (
 bif r15 then
 K (.tup [.v (.st (.pair (.sl (.st (.pair (.int .i64) (.pair (.sl (.int .u8)) (.sl (.int .u8)))))) (.pair (.int .i64) (.pair (.st (.pair (.bool) (.pair (.bool) (.sl (.int .u8))))) (.pair (.int .i64) (.bool)))))) (([] : List ((Int × List Int × List Int))), (0 : Int), (false, false, ([] : List Int)), (0 : Int), false), .v (.int .i64) (2 : Int)]) []
 else
 oper_spanned_P t0 at1 rv3 ∧ (
 ∀ (r16 : Int × Int × Bool), r16 = oper_spanned_F t0 at1 rv3 → (
 wfR (.tup [.v (.int .i64) r16.1, .v (.int .i64) r16.2.1, .v (.bool) r16.2.2]) → (
 bif (!r16.2.2) then
 K (.tup [.v (.st (.pair (.sl (.st (.pair (.int .i64) (.pair (.sl (.int .u8)) (.sl (.int .u8)))))) (.pair (.int .i64) (.pair (.st (.pair (.bool) (.pair (.bool) (.sl (.int .u8))))) (.pair (.int .i64) (.bool)))))) (([] : List ((Int × List Int × List Int))), (0 : Int), (false, false, ([] : List Int)), (0 : Int), false), .v (.int .i64) (2 : Int)]) []
 else
 bif (decide (rv3.1 = rv3.2.1)) then
 bif (!rv3.2.2.1) then
 bif (!decide (op2 = ([99] : List Int))) then
 K (.tup [.v (.st (.pair (.sl (.st (.pair (.int .i64) (.pair (.sl (.int .u8)) (.sl (.int .u8)))))) (.pair (.int .i64) (.pair (.st (.pair (.bool) (.pair (.bool) (.sl (.int .u8))))) (.pair (.int .i64) (.bool)))))) (([] : List ((Int × List Int × List Int))), (0 : Int), (false, false, ([] : List Int)), (0 : Int), false), .v (.int .i64) (190 : Int)]) []
 else
 bif rv3.2.2.1 then
 bif (decide (op2 = ([100] : List Int))) then
 K (.tup [.v (.st (.pair (.sl (.st (.pair (.int .i64) (.pair (.sl (.int .u8)) (.sl (.int .u8)))))) (.pair (.int .i64) (.pair (.st (.pair (.bool) (.pair (.bool) (.sl (.int .u8))))) (.pair (.int .i64) (.bool)))))) (([] : List ((Int × List Int × List Int))), (0 : Int), (false, false, ([] : List Int)), (0 : Int), false), .v (.int .i64) (190 : Int)]) []
 else
 oper_operators_2_P (t0, at1, rv3, r16.1, r16.2.1, count4) ∧ (
 ∀ (r17 : (List ((Int × List Int × List Int)) × Int × (Bool × Bool × List Int) × Int × Bool) × Int), r17 = oper_operators_2_F (t0, at1, rv3, r16.1, r16.2.1, count4) → (
 wfR (.tup [.v (.st (.pair (.sl (.st (.pair (.int .i64) (.pair (.sl (.int .u8)) (.sl (.int .u8)))))) (.pair (.int .i64) (.pair (.st (.pair (.bool) (.pair (.bool) (.sl (.int .u8))))) (.pair (.int .i64) (.bool)))))) r17.1, .v (.int .i64) r17.2]) → (
 K (.tup [.v (.st (.pair (.sl (.st (.pair (.int .i64) (.pair (.sl (.int .u8)) (.sl (.int .u8)))))) (.pair (.int .i64) (.pair (.st (.pair (.bool) (.pair (.bool) (.sl (.int .u8))))) (.pair (.int .i64) (.bool)))))) r17.1, .v (.int .i64) r17.2]) [])))
 else
 oper_operators_2_P (t0, at1, rv3, r16.1, r16.2.1, count4) ∧ (
 ∀ (r18 : (List ((Int × List Int × List Int)) × Int × (Bool × Bool × List Int) × Int × Bool) × Int), r18 = oper_operators_2_F (t0, at1, rv3, r16.1, r16.2.1, count4) → (
 wfR (.tup [.v (.st (.pair (.sl (.st (.pair (.int .i64) (.pair (.sl (.int .u8)) (.sl (.int .u8)))))) (.pair (.int .i64) (.pair (.st (.pair (.bool) (.pair (.bool) (.sl (.int .u8))))) (.pair (.int .i64) (.bool)))))) r18.1, .v (.int .i64) r18.2]) → (
 K (.tup [.v (.st (.pair (.sl (.st (.pair (.int .i64) (.pair (.sl (.int .u8)) (.sl (.int .u8)))))) (.pair (.int .i64) (.pair (.st (.pair (.bool) (.pair (.bool) (.sl (.int .u8))))) (.pair (.int .i64) (.bool)))))) r18.1, .v (.int .i64) r18.2]) [])))
 else
 bif rv3.2.2.1 then
 bif (decide (op2 = ([100] : List Int))) then
 K (.tup [.v (.st (.pair (.sl (.st (.pair (.int .i64) (.pair (.sl (.int .u8)) (.sl (.int .u8)))))) (.pair (.int .i64) (.pair (.st (.pair (.bool) (.pair (.bool) (.sl (.int .u8))))) (.pair (.int .i64) (.bool)))))) (([] : List ((Int × List Int × List Int))), (0 : Int), (false, false, ([] : List Int)), (0 : Int), false), .v (.int .i64) (190 : Int)]) []
 else
 oper_operators_2_P (t0, at1, rv3, r16.1, r16.2.1, count4) ∧ (
 ∀ (r19 : (List ((Int × List Int × List Int)) × Int × (Bool × Bool × List Int) × Int × Bool) × Int), r19 = oper_operators_2_F (t0, at1, rv3, r16.1, r16.2.1, count4) → (
 wfR (.tup [.v (.st (.pair (.sl (.st (.pair (.int .i64) (.pair (.sl (.int .u8)) (.sl (.int .u8)))))) (.pair (.int .i64) (.pair (.st (.pair (.bool) (.pair (.bool) (.sl (.int .u8))))) (.pair (.int .i64) (.bool)))))) r19.1, .v (.int .i64) r19.2]) → (
 K (.tup [.v (.st (.pair (.sl (.st (.pair (.int .i64) (.pair (.sl (.int .u8)) (.sl (.int .u8)))))) (.pair (.int .i64) (.pair (.st (.pair (.bool) (.pair (.bool) (.sl (.int .u8))))) (.pair (.int .i64) (.bool)))))) r19.1, .v (.int .i64) r19.2]) [])))
 else
 oper_operators_2_P (t0, at1, rv3, r16.1, r16.2.1, count4) ∧ (
 ∀ (r20 : (List ((Int × List Int × List Int)) × Int × (Bool × Bool × List Int) × Int × Bool) × Int), r20 = oper_operators_2_F (t0, at1, rv3, r16.1, r16.2.1, count4) → (
 wfR (.tup [.v (.st (.pair (.sl (.st (.pair (.int .i64) (.pair (.sl (.int .u8)) (.sl (.int .u8)))))) (.pair (.int .i64) (.pair (.st (.pair (.bool) (.pair (.bool) (.sl (.int .u8))))) (.pair (.int .i64) (.bool)))))) r20.1, .v (.int .i64) r20.2]) → (
 K (.tup [.v (.st (.pair (.sl (.st (.pair (.int .i64) (.pair (.sl (.int .u8)) (.sl (.int .u8)))))) (.pair (.int .i64) (.pair (.st (.pair (.bool) (.pair (.bool) (.sl (.int .u8))))) (.pair (.int .i64) (.bool)))))) r20.1, .v (.int .i64) r20.2]) [])))
 else
 oper_operators_2_P (t0, at1, rv3, r16.1, r16.2.1, count4) ∧ (
 ∀ (r21 : (List ((Int × List Int × List Int)) × Int × (Bool × Bool × List Int) × Int × Bool) × Int), r21 = oper_operators_2_F (t0, at1, rv3, r16.1, r16.2.1, count4) → (
 wfR (.tup [.v (.st (.pair (.sl (.st (.pair (.int .i64) (.pair (.sl (.int .u8)) (.sl (.int .u8)))))) (.pair (.int .i64) (.pair (.st (.pair (.bool) (.pair (.bool) (.sl (.int .u8))))) (.pair (.int .i64) (.bool)))))) r21.1, .v (.int .i64) r21.2]) → (
 K (.tup [.v (.st (.pair (.sl (.st (.pair (.int .i64) (.pair (.sl (.int .u8)) (.sl (.int .u8)))))) (.pair (.int .i64) (.pair (.st (.pair (.bool) (.pair (.bool) (.sl (.int .u8))))) (.pair (.int .i64) (.bool)))))) r21.1, .v (.int .i64) r21.2]) []))))))))
 else
 bif (decide (op2 = ([103, 85] : List Int))) then
 ∀ (r22 : Bool), r22 = oper_outside_F t0 at1 count4 (1 : Int) → (
 wfR (.one (.v (.bool) r22)) → (
 bif r22 then
 K (.tup [.v (.st (.pair (.sl (.st (.pair (.int .i64) (.pair (.sl (.int .u8)) (.sl (.int .u8)))))) (.pair (.int .i64) (.pair (.st (.pair (.bool) (.pair (.bool) (.sl (.int .u8))))) (.pair (.int .i64) (.bool)))))) (([] : List ((Int × List Int × List Int))), (0 : Int), (false, false, ([] : List Int)), (0 : Int), false), .v (.int .i64) (2 : Int)]) []
 else
 oper_spanned_P t0 at1 rv3 ∧ (
 ∀ (r23 : Int × Int × Bool), r23 = oper_spanned_F t0 at1 rv3 → (
 wfR (.tup [.v (.int .i64) r23.1, .v (.int .i64) r23.2.1, .v (.bool) r23.2.2]) → (
 bif (!r23.2.2) then
 K (.tup [.v (.st (.pair (.sl (.st (.pair (.int .i64) (.pair (.sl (.int .u8)) (.sl (.int .u8)))))) (.pair (.int .i64) (.pair (.st (.pair (.bool) (.pair (.bool) (.sl (.int .u8))))) (.pair (.int .i64) (.bool)))))) (([] : List ((Int × List Int × List Int))), (0 : Int), (false, false, ([] : List Int)), (0 : Int), false), .v (.int .i64) (2 : Int)]) []
 else
 bif (decide (rv3.1 = rv3.2.1)) then
 bif (!rv3.2.2.1) then
 bif (!decide (op2 = ([99] : List Int))) then
 K (.tup [.v (.st (.pair (.sl (.st (.pair (.int .i64) (.pair (.sl (.int .u8)) (.sl (.int .u8)))))) (.pair (.int .i64) (.pair (.st (.pair (.bool) (.pair (.bool) (.sl (.int .u8))))) (.pair (.int .i64) (.bool)))))) (([] : List ((Int × List Int × List Int))), (0 : Int), (false, false, ([] : List Int)), (0 : Int), false), .v (.int .i64) (190 : Int)]) []
 else
 bif rv3.2.2.1 then
 bif (decide (op2 = ([100] : List Int))) then
 K (.tup [.v (.st (.pair (.sl (.st (.pair (.int .i64) (.pair (.sl (.int .u8)) (.sl (.int .u8)))))) (.pair (.int .i64) (.pair (.st (.pair (.bool) (.pair (.bool) (.sl (.int .u8))))) (.pair (.int .i64) (.bool)))))) (([] : List ((Int × List Int × List Int))), (0 : Int), (false, false, ([] : List Int)), (0 : Int), false), .v (.int .i64) (190 : Int)]) []
 else
 oper_operators_3_P (t0, at1, rv3, r23.1, r23.2.1, count4) ∧ (
 ∀ (r24 : (List ((Int × List Int × List Int)) × Int × (Bool × Bool × List Int) × Int × Bool) × Int), r24 = oper_operators_3_F (t0, at1, rv3, r23.1, r23.2.1, count4) → (
 wfR (.tup [.v (.st (.pair (.sl (.st (.pair (.int .i64) (.pair (.sl (.int .u8)) (.sl (.int .u8)))))) (.pair (.int .i64) (.pair (.st (.pair (.bool) (.pair (.bool) (.sl (.int .u8))))) (.pair (.int .i64) (.bool)))))) r24.1, .v (.int .i64) r24.2]) → (
 K (.tup [.v (.st (.pair (.sl (.st (.pair (.int .i64) (.pair (.sl (.int .u8)) (.sl (.int .u8)))))) (.pair (.int .i64) (.pair (.st (.pair (.bool) (.pair (.bool) (.sl (.int .u8))))) (.pair (.int .i64) (.bool)))))) r24.1, .v (.int .i64) r24.2]) [])))
 else
 oper_operators_3_P (t0, at1, rv3, r23.1, r23.2.1, count4) ∧ (
 ∀ (r25 : (List ((Int × List Int × List Int)) × Int × (Bool × Bool × List Int) × Int × Bool) × Int), r25 = oper_operators_3_F (t0, at1, rv3, r23.1, r23.2.1, count4) → (
 wfR (.tup [.v (.st (.pair (.sl (.st (.pair (.int .i64) (.pair (.sl (.int .u8)) (.sl (.int .u8)))))) (.pair (.int .i64) (.pair (.st (.pair (.bool) (.pair (.bool) (.sl (.int .u8))))) (.pair (.int .i64) (.bool)))))) r25.1, .v (.int .i64) r25.2]) → (
 K (.tup [.v (.st (.pair (.sl (.st (.pair (.int .i64) (.pair (.sl (.int .u8)) (.sl (.int .u8)))))) (.pair (.int .i64) (.pair (.st (.pair (.bool) (.pair (.bool) (.sl (.int .u8))))) (.pair (.int .i64) (.bool)))))) r25.1, .v (.int .i64) r25.2]) [])))
 else
 bif rv3.2.2.1 then
 bif (decide (op2 = ([100] : List Int))) then
 K (.tup [.v (.st (.pair (.sl (.st (.pair (.int .i64) (.pair (.sl (.int .u8)) (.sl (.int .u8)))))) (.pair (.int .i64) (.pair (.st (.pair (.bool) (.pair (.bool) (.sl (.int .u8))))) (.pair (.int .i64) (.bool)))))) (([] : List ((Int × List Int × List Int))), (0 : Int), (false, false, ([] : List Int)), (0 : Int), false), .v (.int .i64) (190 : Int)]) []
 else
 oper_operators_3_P (t0, at1, rv3, r23.1, r23.2.1, count4) ∧ (
 ∀ (r26 : (List ((Int × List Int × List Int)) × Int × (Bool × Bool × List Int) × Int × Bool) × Int), r26 = oper_operators_3_F (t0, at1, rv3, r23.1, r23.2.1, count4) → (
 wfR (.tup [.v (.st (.pair (.sl (.st (.pair (.int .i64) (.pair (.sl (.int .u8)) (.sl (.int .u8)))))) (.pair (.int .i64) (.pair (.st (.pair (.bool) (.pair (.bool) (.sl (.int .u8))))) (.pair (.int .i64) (.bool)))))) r26.1, .v (.int .i64) r26.2]) → (
 K (.tup [.v (.st (.pair (.sl (.st (.pair (.int .i64) (.pair (.sl (.int .u8)) (.sl (.int .u8)))))) (.pair (.int .i64) (.pair (.st (.pair (.bool) (.pair (.bool) (.sl (.int .u8))))) (.pair (.int .i64) (.bool)))))) r26.1, .v (.int .i64) r26.2]) [])))
 else
 oper_operators_3_P (t0, at1, rv3, r23.1, r23.2.1, count4) ∧ (
 ∀ (r27 : (List ((Int × List Int × List Int)) × Int × (Bool × Bool × List Int) × Int × Bool) × Int), r27 = oper_operators_3_F (t0, at1, rv3, r23.1, r23.2.1, count4) → (
 wfR (.tup [.v (.st (.pair (.sl (.st (.pair (.int .i64) (.pair (.sl (.int .u8)) (.sl (.int .u8)))))) (.pair (.int .i64) (.pair (.st (.pair (.bool) (.pair (.bool) (.sl (.int .u8))))) (.pair (.int .i64) (.bool)))))) r27.1, .v (.int .i64) r27.2]) → (
 K (.tup [.v (.st (.pair (.sl (.st (.pair (.int .i64) (.pair (.sl (.int .u8)) (.sl (.int .u8)))))) (.pair (.int .i64) (.pair (.st (.pair (.bool) (.pair (.bool) (.sl (.int .u8))))) (.pair (.int .i64) (.bool)))))) r27.1, .v (.int .i64) r27.2]) [])))
 else
 oper_operators_3_P (t0, at1, rv3, r23.1, r23.2.1, count4) ∧ (
 ∀ (r28 : (List ((Int × List Int × List Int)) × Int × (Bool × Bool × List Int) × Int × Bool) × Int), r28 = oper_operators_3_F (t0, at1, rv3, r23.1, r23.2.1, count4) → (
 wfR (.tup [.v (.st (.pair (.sl (.st (.pair (.int .i64) (.pair (.sl (.int .u8)) (.sl (.int .u8)))))) (.pair (.int .i64) (.pair (.st (.pair (.bool) (.pair (.bool) (.sl (.int .u8))))) (.pair (.int .i64) (.bool)))))) r28.1, .v (.int .i64) r28.2]) → (
 K (.tup [.v (.st (.pair (.sl (.st (.pair (.int .i64) (.pair (.sl (.int .u8)) (.sl (.int .u8)))))) (.pair (.int .i64) (.pair (.st (.pair (.bool) (.pair (.bool) (.sl (.int .u8))))) (.pair (.int .i64) (.bool)))))) r28.1, .v (.int .i64) r28.2]) []))))))))
 else
 False
def oper_Do_A : List AS := [.v (.sl (.int .u8)), .v (.int .i64), .v (.str), .v (.st (.pair (.int .i64) (.pair (.int .i64) (.pair (.bool) (.bool))))), .v (.int .i64)]
theorem oper_Do_walk (t0 : List Int) (at1 : Int) (op2 : List Int) (rv3 : (Int × Int × Bool × Bool)) (count4 : Int) (K : Res → List Cell → Prop) : runF tb (getG oper_Do_G) oper_Do_BT Tryd.f28 [true, true] (mkA oper_Do_A (t0, at1, op2, rv3, count4, ())) K = oper_Do_raw t0 at1 op2 rv3 count4 K := by kernel_rfl
--! import OM
--! cut 9999
--! pre 1
--! tab 100:103 103,126:108 103,117:110 103,85:111
abbrev Eff := List (Int × List Int × List Int) × Int × (Bool × Bool × List Int) × Int × Bool
abbrev Job := List Int × Int × (Int × Int × Bool × Bool) × Int × Int × Int
/-- the one branch of Do, whatever the operator -/
def doBr (JP : Job → Prop) (JF : Job → Eff × Int) (t0 : List Int) (at1 : Int) (op2 : List Int) (rv3 : (Int × Int × Bool × Bool)) (count4 : Int) (K : Res → List Cell → Prop) : Prop :=
  ∀ (r1 : Bool), r1 = oper_outside_F t0 at1 count4 (1 : Int) → (
  wfR (.one (.v (.bool) r1)) → (
  bif r1 then
    K (.tup [.v (.st (.pair (.sl (.st (.pair (.int .i64) (.pair (.sl (.int .u8)) (.sl (.int .u8)))))) (.pair (.int .i64) (.pair (.st (.pair (.bool) (.pair (.bool) (.sl (.int .u8))))) (.pair (.int .i64) (.bool)))))) (([] : List ((Int × List Int × List Int))), (0 : Int), (false, false, ([] : List Int)), (0 : Int), false), .v (.int .i64) (2 : Int)]) []
  else
    oper_spanned_P t0 at1 rv3 ∧ (
    ∀ (r2 : Int × Int × Bool), r2 = oper_spanned_F t0 at1 rv3 → (
    wfR (.tup [.v (.int .i64) r2.1, .v (.int .i64) r2.2.1, .v (.bool) r2.2.2]) → (
    bif (!r2.2.2) then
      K (.tup [.v (.st (.pair (.sl (.st (.pair (.int .i64) (.pair (.sl (.int .u8)) (.sl (.int .u8)))))) (.pair (.int .i64) (.pair (.st (.pair (.bool) (.pair (.bool) (.sl (.int .u8))))) (.pair (.int .i64) (.bool)))))) (([] : List ((Int × List Int × List Int))), (0 : Int), (false, false, ([] : List Int)), (0 : Int), false), .v (.int .i64) (2 : Int)]) []
    else
    bif (decide (rv3.1 = rv3.2.1)) then
      bif (!rv3.2.2.1) then
        bif (!decide (op2 = ([99] : List Int))) then
          K (.tup [.v (.st (.pair (.sl (.st (.pair (.int .i64) (.pair (.sl (.int .u8)) (.sl (.int .u8)))))) (.pair (.int .i64) (.pair (.st (.pair (.bool) (.pair (.bool) (.sl (.int .u8))))) (.pair (.int .i64) (.bool)))))) (([] : List ((Int × List Int × List Int))), (0 : Int), (false, false, ([] : List Int)), (0 : Int), false), .v (.int .i64) (190 : Int)]) []
        else
        bif rv3.2.2.1 then
          bif (decide (op2 = ([100] : List Int))) then
            K (.tup [.v (.st (.pair (.sl (.st (.pair (.int .i64) (.pair (.sl (.int .u8)) (.sl (.int .u8)))))) (.pair (.int .i64) (.pair (.st (.pair (.bool) (.pair (.bool) (.sl (.int .u8))))) (.pair (.int .i64) (.bool)))))) (([] : List ((Int × List Int × List Int))), (0 : Int), (false, false, ([] : List Int)), (0 : Int), false), .v (.int .i64) (190 : Int)]) []
          else
            JP (t0, at1, rv3, r2.1, r2.2.1, count4) ∧ (
            ∀ (r3 : (List ((Int × List Int × List Int)) × Int × (Bool × Bool × List Int) × Int × Bool) × Int), r3 = JF (t0, at1, rv3, r2.1, r2.2.1, count4) → (
            wfR (.tup [.v (.st (.pair (.sl (.st (.pair (.int .i64) (.pair (.sl (.int .u8)) (.sl (.int .u8)))))) (.pair (.int .i64) (.pair (.st (.pair (.bool) (.pair (.bool) (.sl (.int .u8))))) (.pair (.int .i64) (.bool)))))) r3.1, .v (.int .i64) r3.2]) → (
            K (.tup [.v (.st (.pair (.sl (.st (.pair (.int .i64) (.pair (.sl (.int .u8)) (.sl (.int .u8)))))) (.pair (.int .i64) (.pair (.st (.pair (.bool) (.pair (.bool) (.sl (.int .u8))))) (.pair (.int .i64) (.bool)))))) r3.1, .v (.int .i64) r3.2]) [])))
        else
          JP (t0, at1, rv3, r2.1, r2.2.1, count4) ∧ (
          ∀ (r4 : (List ((Int × List Int × List Int)) × Int × (Bool × Bool × List Int) × Int × Bool) × Int), r4 = JF (t0, at1, rv3, r2.1, r2.2.1, count4) → (
          wfR (.tup [.v (.st (.pair (.sl (.st (.pair (.int .i64) (.pair (.sl (.int .u8)) (.sl (.int .u8)))))) (.pair (.int .i64) (.pair (.st (.pair (.bool) (.pair (.bool) (.sl (.int .u8))))) (.pair (.int .i64) (.bool)))))) r4.1, .v (.int .i64) r4.2]) → (
          K (.tup [.v (.st (.pair (.sl (.st (.pair (.int .i64) (.pair (.sl (.int .u8)) (.sl (.int .u8)))))) (.pair (.int .i64) (.pair (.st (.pair (.bool) (.pair (.bool) (.sl (.int .u8))))) (.pair (.int .i64) (.bool)))))) r4.1, .v (.int .i64) r4.2]) [])))
      else
      bif rv3.2.2.1 then
        bif (decide (op2 = ([100] : List Int))) then
          K (.tup [.v (.st (.pair (.sl (.st (.pair (.int .i64) (.pair (.sl (.int .u8)) (.sl (.int .u8)))))) (.pair (.int .i64) (.pair (.st (.pair (.bool) (.pair (.bool) (.sl (.int .u8))))) (.pair (.int .i64) (.bool)))))) (([] : List ((Int × List Int × List Int))), (0 : Int), (false, false, ([] : List Int)), (0 : Int), false), .v (.int .i64) (190 : Int)]) []
        else
          JP (t0, at1, rv3, r2.1, r2.2.1, count4) ∧ (
          ∀ (r5 : (List ((Int × List Int × List Int)) × Int × (Bool × Bool × List Int) × Int × Bool) × Int), r5 = JF (t0, at1, rv3, r2.1, r2.2.1, count4) → (
          wfR (.tup [.v (.st (.pair (.sl (.st (.pair (.int .i64) (.pair (.sl (.int .u8)) (.sl (.int .u8)))))) (.pair (.int .i64) (.pair (.st (.pair (.bool) (.pair (.bool) (.sl (.int .u8))))) (.pair (.int .i64) (.bool)))))) r5.1, .v (.int .i64) r5.2]) → (
          K (.tup [.v (.st (.pair (.sl (.st (.pair (.int .i64) (.pair (.sl (.int .u8)) (.sl (.int .u8)))))) (.pair (.int .i64) (.pair (.st (.pair (.bool) (.pair (.bool) (.sl (.int .u8))))) (.pair (.int .i64) (.bool)))))) r5.1, .v (.int .i64) r5.2]) [])))
      else
        JP (t0, at1, rv3, r2.1, r2.2.1, count4) ∧ (
        ∀ (r6 : (List ((Int × List Int × List Int)) × Int × (Bool × Bool × List Int) × Int × Bool) × Int), r6 = JF (t0, at1, rv3, r2.1, r2.2.1, count4) → (
        wfR (.tup [.v (.st (.pair (.sl (.st (.pair (.int .i64) (.pair (.sl (.int .u8)) (.sl (.int .u8)))))) (.pair (.int .i64) (.pair (.st (.pair (.bool) (.pair (.bool) (.sl (.int .u8))))) (.pair (.int .i64) (.bool)))))) r6.1, .v (.int .i64) r6.2]) → (
        K (.tup [.v (.st (.pair (.sl (.st (.pair (.int .i64) (.pair (.sl (.int .u8)) (.sl (.int .u8)))))) (.pair (.int .i64) (.pair (.st (.pair (.bool) (.pair (.bool) (.sl (.int .u8))))) (.pair (.int .i64) (.bool)))))) r6.1, .v (.int .i64) r6.2]) [])))
    else
      JP (t0, at1, rv3, r2.1, r2.2.1, count4) ∧ (
      ∀ (r7 : (List ((Int × List Int × List Int)) × Int × (Bool × Bool × List Int) × Int × Bool) × Int), r7 = JF (t0, at1, rv3, r2.1, r2.2.1, count4) → (
      wfR (.tup [.v (.st (.pair (.sl (.st (.pair (.int .i64) (.pair (.sl (.int .u8)) (.sl (.int .u8)))))) (.pair (.int .i64) (.pair (.st (.pair (.bool) (.pair (.bool) (.sl (.int .u8))))) (.pair (.int .i64) (.bool)))))) r7.1, .v (.int .i64) r7.2]) → (
      K (.tup [.v (.st (.pair (.sl (.st (.pair (.int .i64) (.pair (.sl (.int .u8)) (.sl (.int .u8)))))) (.pair (.int .i64) (.pair (.st (.pair (.bool) (.pair (.bool) (.sl (.int .u8))))) (.pair (.int .i64) (.bool)))))) r7.1, .v (.int .i64) r7.2]) []))))))))
def doF (JF : Job → Eff × Int) (t : List Int) (at_ : Int) (op : List Int) (r : Int × Int × Bool × Bool) (count : Int) : Eff × Int :=
  if oper_outside_F t at_ count 1 = true then (([], 0, (false, false, []), 0, false), 2)
  else if (oper_spanned_F t at_ r).2.2 = false then (([], 0, (false, false, []), 0, false), 2)
  else if r.1 = r.2.1 ∧ (r.2.2.1 = false ∧ op ≠ [99] ∨ r.2.2.1 = true ∧ op = [100]) then (([], 0, (false, false, []), 0, false), 190)
  else JF (t, at_, r, (oper_spanned_F t at_ r).1, (oper_spanned_F t at_ r).2.1, count)
theorem doBr_of (JP : Job → Prop) (JF : Job → Eff × Int) (t : List Int) (at_ : Int) (op : List Int) (r : Int × Int × Bool × Bool) (count : Int) (K : Res → List Cell → Prop)
    (hp : oper_outside_F t at_ count 1 = false → oper_spanned_P t at_ r ∧ ((oper_spanned_F t at_ r).2.2 = true → JP (t, at_, r, (oper_spanned_F t at_ r).1, (oper_spanned_F t at_ r).2.1, count)))
    (h : ∀ r' : Eff × Int, r' = doF JF t at_ op r count → K (.tup [.v (.st (.pair (.sl (.st (.pair (.int .i64) (.pair (.sl (.int .u8)) (.sl (.int .u8)))))) (.pair (.int .i64) (.pair (.st (.pair (.bool) (.pair (.bool) (.sl (.int .u8))))) (.pair (.int .i64) (.bool)))))) r'.1, .v (.int .i64) r'.2]) []) : doBr JP JF t at_ op r count K := by
  unfold doBr
  intro r1 h1 _
  refine brb (fun c => h (_, _) (by unfold doF; rw [if_pos (h1.symm.trans c)])) (fun c => ?_)
  have c := h1.symm.trans c
  obtain ⟨hp1, hp2⟩ := hp c
  refine ⟨hp1, fun r2 h2 _ => ?_⟩
  have hc : ¬ oper_outside_F t at_ count 1 = true := by rw [c]; simp
  subst h2
  refine brb (fun c2 => h (_, _) (by unfold doF; rw [if_neg hc, if_pos (by simpa using c2)])) (fun c2 => ?_)
  have c2 : (oper_spanned_F t at_ r).2.2 = true := by simpa using c2
  have hc2 : ¬ (oper_spanned_F t at_ r).2.2 = false := by rw [c2]; simp
  have hj := hp2 c2
  have fin : ¬ (r.1 = r.2.1 ∧ (r.2.2.1 = false ∧ op ≠ [99] ∨ r.2.2.1 = true ∧ op = [100])) → ∀ (r3 : Eff × Int), r3 = JF (t, at_, r, (oper_spanned_F t at_ r).1, (oper_spanned_F t at_ r).2.1, count) → K (.tup [.v (.st (.pair (.sl (.st (.pair (.int .i64) (.pair (.sl (.int .u8)) (.sl (.int .u8)))))) (.pair (.int .i64) (.pair (.st (.pair (.bool) (.pair (.bool) (.sl (.int .u8))))) (.pair (.int .i64) (.bool)))))) r3.1, .v (.int .i64) r3.2]) [] := fun hn r3 h3 => h r3 (by unfold doF; rw [if_neg hc, if_neg hc2, if_neg hn, h3])
  have bad : (r.1 = r.2.1 ∧ (r.2.2.1 = false ∧ op ≠ [99] ∨ r.2.2.1 = true ∧ op = [100])) → K (.tup [.v (.st (.pair (.sl (.st (.pair (.int .i64) (.pair (.sl (.int .u8)) (.sl (.int .u8)))))) (.pair (.int .i64) (.pair (.st (.pair (.bool) (.pair (.bool) (.sl (.int .u8))))) (.pair (.int .i64) (.bool)))))) (([], 0, (false, false, []), 0, false) : Eff), .v (.int .i64) (190 : Int)]) [] := fun hn => h (_, _) (by unfold doF; rw [if_neg hc, if_neg hc2, if_pos hn])
  refine brn (fun d1 => ?_) (fun d1 => ⟨hj, fun r3 h3 _ => fin (fun hn => d1 hn.1) r3 h3⟩)
  refine brb (fun d2 => ?_) (fun d2 => ?_)
  · have d2 : r.2.2.1 = false := by simpa using d2
    refine brx (fun d3 => bad ⟨d1, .inl ⟨d2, d3⟩⟩) (fun d3 => ?_)
    refine brb (fun d4 => by rw [d2] at d4; cases d4) (fun _ => ⟨hj, fun r3 h3 _ => fin (fun hn => ?_) r3 h3⟩)
    rcases hn.2 with hh | hh
    · exact hh.2 d3
    · rw [d2] at hh; cases hh.1
  · have d2 : r.2.2.1 = true := by simpa using d2
    refine brb (fun _ => brn (fun d3 => bad ⟨d1, .inr ⟨d2, d3⟩⟩) (fun d3 => ⟨hj, fun r3 h3 _ => fin (fun hn => ?_) r3 h3⟩)) (fun d4 => by rw [d2] at d4; cases d4)
    rcases hn.2 with hh | hh
    · rw [d2] at hh; cases hh.1
    · exact d3 hh.2
/-- the operators that are gone into -/
def opP (op : List Int) : Job → Prop :=
  if op = [100] then oper_job_deleted_P else if op = [103, 126] then oper_operators_1_P else if op = [103, 117] then oper_operators_2_P else if op = [103, 85] then oper_operators_3_P else fun _ => False
def opF (op : List Int) : Job → Eff × Int :=
  if op = [100] then oper_job_deleted_F else if op = [103, 126] then oper_operators_1_F else if op = [103, 117] then oper_operators_2_F else oper_operators_3_F
def oper_Do_P (t : List Int) (at_ : Int) (op : List Int) (r : Int × Int × Bool × Bool) (count : Int) : Prop :=
 (op = [100] ∨ op = [103, 126] ∨ op = [103, 117] ∨ op = [103, 85]) ∧ (oper_outside_F t at_ count 1 = false → oper_spanned_P t at_ r ∧ ((oper_spanned_F t at_ r).2.2 = true → opP op (t, at_, r, (oper_spanned_F t at_ r).1, (oper_spanned_F t at_ r).2.1, count)))
def oper_Do_F (t : List Int) (at_ : Int) (op : List Int) (r : Int × Int × Bool × Bool) (count : Int) : Eff × Int := doF (opF op) t at_ op r count
theorem oper_Do_sp (t : List Int) (at_ : Int) (op : List Int) (r : Int × Int × Bool × Bool) (count : Int) (K : Res → List Cell → Prop) (_ : wfA oper_Do_A (t, at_, op, r, count, ())) (hp : oper_Do_P t at_ op r count)
    (h : ∀ r' : Eff × Int, r' = oper_Do_F t at_ op r count → K (.tup [.v (.st (.pair (.sl (.st (.pair (.int .i64) (.pair (.sl (.int .u8)) (.sl (.int .u8)))))) (.pair (.int .i64) (.pair (.st (.pair (.bool) (.pair (.bool) (.sl (.int .u8))))) (.pair (.int .i64) (.bool)))))) r'.1, .v (.int .i64) r'.2]) []) : oper_Do_raw t at_ op r count K := by
  obtain ⟨hop, hp⟩ := hp
  have key : ∀ JP JF, opP op = JP → opF op = JF → doBr JP JF t at_ op r count K := fun JP JF e1 e2 => by
    subst e1; subst e2
    exact doBr_of _ _ t at_ op r count K hp h
  unfold oper_Do_raw
  refine brn (fun c => key oper_job_deleted_P oper_job_deleted_F (by unfold opP; rw [if_pos c]) (by unfold opF; rw [if_pos c])) (fun c => ?_)
  refine brn (fun c2 => key oper_operators_1_P oper_operators_1_F (by unfold opP; rw [if_neg c, if_pos c2]) (by unfold opF; rw [if_neg c, if_pos c2])) (fun c2 => ?_)
  refine brn (fun c3 => key oper_operators_2_P oper_operators_2_F (by unfold opP; rw [if_neg c, if_neg c2, if_pos c3]) (by unfold opF; rw [if_neg c, if_neg c2, if_pos c3])) (fun c3 => ?_)
  refine brn (fun c4 => key oper_operators_3_P oper_operators_3_F (by unfold opP; rw [if_neg c, if_neg c2, if_neg c3, if_pos c4]) (by unfold opF; rw [if_neg c, if_neg c2, if_neg c3])) (fun c4 => ?_)
  rcases hop with e | e | e | e <;> contradiction

def oper_Do_C (v : valsA oper_Do_A) (K : Res → List Cell → Prop) : Prop := oper_Do_P v.1 v.2.1 v.2.2.1 v.2.2.2.1 v.2.2.2.2.1 ∧ ∀ r : (List ((Int × List Int × List Int)) × Int × (Bool × Bool × List Int) × Int × Bool) × Int, r = oper_Do_F v.1 v.2.1 v.2.2.1 v.2.2.2.1 v.2.2.2.2.1 → K (.tup [.v (.st (.pair (.sl (.st (.pair (.int .i64) (.pair (.sl (.int .u8)) (.sl (.int .u8)))))) (.pair (.int .i64) (.pair (.st (.pair (.bool) (.pair (.bool) (.sl (.int .u8))))) (.pair (.int .i64) (.bool)))))) r.1, .v (.int .i64) r.2]) []
def oper_Do_S : App := specW oper_Do_A oper_Do_C
theorem oper_Do_wv (K : Res → List Cell → Prop) : ∀ v : valsA oper_Do_A, runF tb (getG oper_Do_G) oper_Do_BT Tryd.f28 [true, true] (mkA oper_Do_A v) K = oper_Do_raw v.1 v.2.1 v.2.2.1 v.2.2.2.1 v.2.2.2.2.1 K
  | (t0, at1, op2, rv3, count4, ()) => oper_Do_walk t0 at1 op2 rv3 count4 K
set_option maxRecDepth 20000 in
theorem oper_Do_ok : AppOk Tryd.prog 28 oper_Do_S :=
  AppOk.specW (spec_ok ((runF_ok tb_M tb_ok oper_Do_Gok (oper_Do_bT) (f := 28) (fn := Tryd.f28) (by kernel_rfl) (by kernel_rfl) oper_Do_st [true, true])) fun v K hw h => (oper_Do_wv K v).mpr (oper_Do_sp v.1 v.2.1 v.2.2.1 v.2.2.2.1 v.2.2.2.2.1 K hw h.1 h.2))

end Go.VE
namespace Go.VE
open Go Go.Proofs
/-! ### bytes.HasSuffix -/
def bytes_HasSuffix_G : List (Nat × App) := [(95, bytes_Equal_S)]
theorem bytes_HasSuffix_Gok : GOk Tryd.prog (getG bytes_HasSuffix_G) := GOk.cons bytes_Equal_ok (GOk.nil)
def bytes_HasSuffix_raw (s0 : List Int) (suffix1 : List Int) (K : Res → List Cell → Prop) : Prop :=
 bif (decide ((List.length suffix1 : Int) ≤ (List.length s0 : Int))) then
 bif decide (0 ≤ (IntKind.wrap .i64 ((List.length s0 : Int) - (List.length suffix1 : Int))) ∧ (IntKind.wrap .i64 ((List.length s0 : Int) - (List.length suffix1 : Int))) ≤ (List.length s0 : Int)) then
 ∀ (r1 : Bool), r1 = bytes_Equal_F (List.drop (Int.toNat (IntKind.wrap .i64 ((List.length s0 : Int) - (List.length suffix1 : Int)))) s0) suffix1 → (
 wfR (.one (.v (.bool) r1)) → (
 K (.one (.v (.bool) r1)) []))
 else False
 else
 K (.one (.v (.bool) false)) []
def bytes_HasSuffix_A : List AS := [.v (.sl (.int .u8)), .v (.sl (.int .u8))]
theorem bytes_HasSuffix_walk (s0 : List Int) (suffix1 : List Int) (K : Res → List Cell → Prop) : runF tb (getG bytes_HasSuffix_G) [] Tryd.f61 [true] (mkA bytes_HasSuffix_A (s0, suffix1, ())) K = bytes_HasSuffix_raw s0 suffix1 K := by kernel_rfl

def bytes_HasSuffix_P (s0 : List Int) (suffix1 : List Int) : Prop :=
 bif (decide ((List.length suffix1 : Int) ≤ (List.length s0 : Int))) then
 (0 ≤ (IntKind.wrap .i64 ((List.length s0 : Int) - (List.length suffix1 : Int))) ∧ (IntKind.wrap .i64 ((List.length s0 : Int) - (List.length suffix1 : Int))) ≤ (List.length s0 : Int))
 else
 True
def bytes_HasSuffix_F (s0 : List Int) (suffix1 : List Int) : Bool :=
 bif (decide ((List.length suffix1 : Int) ≤ (List.length s0 : Int))) then
 let r1 : Bool := bytes_Equal_F (List.drop (Int.toNat (IntKind.wrap .i64 ((List.length s0 : Int) - (List.length suffix1 : Int)))) s0) suffix1
 r1
 else
 false
set_option maxRecDepth 20000 in
theorem bytes_HasSuffix_sp (s0 : List Int) (suffix1 : List Int) (K : Res → List Cell → Prop) (_ : wfA bytes_HasSuffix_A (s0, suffix1, ())) (hp : bytes_HasSuffix_P s0 suffix1) (h : ∀ r : Bool, r = bytes_HasSuffix_F s0 suffix1 → K (.one (.v (.bool) r)) []) : bytes_HasSuffix_raw s0 suffix1 K := by
  unfold bytes_HasSuffix_raw
  unfold bytes_HasSuffix_P at hp
  refine brb (fun c_1 => ?_) (fun c_1 => ?_)
  ·
    replace hp := cT c_1 hp
    refine asrt hp ?_
    intro r1 hr1
    subst r1
    intro _
    exact h _ ((ctrue c_1) : bytes_HasSuffix_F s0 suffix1 = _).symm
  ·
    clear hp
    exact h _ ((cfalse c_1) : bytes_HasSuffix_F s0 suffix1 = _).symm
def bytes_HasSuffix_C (v : valsA bytes_HasSuffix_A) (K : Res → List Cell → Prop) : Prop := bytes_HasSuffix_P v.1 v.2.1 ∧ ∀ r : Bool, r = bytes_HasSuffix_F v.1 v.2.1 → K (.one (.v (.bool) r)) []
def bytes_HasSuffix_S : App := specW bytes_HasSuffix_A bytes_HasSuffix_C
theorem bytes_HasSuffix_wv (K : Res → List Cell → Prop) : ∀ v : valsA bytes_HasSuffix_A, runF tb (getG bytes_HasSuffix_G) [] Tryd.f61 [true] (mkA bytes_HasSuffix_A v) K = bytes_HasSuffix_raw v.1 v.2.1 K
  | (s0, suffix1, ()) => bytes_HasSuffix_walk s0 suffix1 K
set_option maxRecDepth 20000 in
theorem bytes_HasSuffix_ok : AppOk Tryd.prog 61 bytes_HasSuffix_S :=
  AppOk.specW (spec_ok ((runF_ok tb_M tb_ok bytes_HasSuffix_Gok (LabsOk.nil) (f := 61) (fn := Tryd.f61) (by kernel_rfl) (by kernel_rfl) (by kernel_rfl) [true])) fun v K hw h => (bytes_HasSuffix_wv K v).mpr (bytes_HasSuffix_sp v.1 v.2.1 K hw h.1 h.2))

end Go.VE
namespace Go.VE
open Go Go.Proofs
/-! ### math/bits.Mul64 -/
def math_bits_Mul64_G : List (Nat × App) := []
theorem math_bits_Mul64_Gok : GOk Tryd.prog (getG math_bits_Mul64_G) := GOk.nil
def math_bits_Mul64_raw (x0 : Int) (y1 : Int) (K : Res → List Cell → Prop) : Prop :=
 K (.tup [.v (.int .u64) (IntKind.wrap .u64 ((IntKind.wrap .u64 ((IntKind.wrap .u64 ((Int.fdiv x0 (2 ^ (min (Int.toNat (32 : Int)) (IntKind.bits .u64)))) * (Int.fdiv y1 (2 ^ (min (Int.toNat (32 : Int)) (IntKind.bits .u64)))))) + (Int.fdiv (IntKind.wrap .u64 ((IntKind.wrap .u64 ((Int.fdiv x0 (2 ^ (min (Int.toNat (32 : Int)) (IntKind.bits .u64)))) * (ibits .and .u64 y1 (4294967295 : Int)))) + (Int.fdiv (IntKind.wrap .u64 ((ibits .and .u64 x0 (4294967295 : Int)) * (ibits .and .u64 y1 (4294967295 : Int)))) (2 ^ (min (Int.toNat (32 : Int)) (IntKind.bits .u64)))))) (2 ^ (min (Int.toNat (32 : Int)) (IntKind.bits .u64)))))) + (Int.fdiv (IntKind.wrap .u64 ((ibits .and .u64 (IntKind.wrap .u64 ((IntKind.wrap .u64 ((Int.fdiv x0 (2 ^ (min (Int.toNat (32 : Int)) (IntKind.bits .u64)))) * (ibits .and .u64 y1 (4294967295 : Int)))) + (Int.fdiv (IntKind.wrap .u64 ((ibits .and .u64 x0 (4294967295 : Int)) * (ibits .and .u64 y1 (4294967295 : Int)))) (2 ^ (min (Int.toNat (32 : Int)) (IntKind.bits .u64)))))) (4294967295 : Int)) + (IntKind.wrap .u64 ((ibits .and .u64 x0 (4294967295 : Int)) * (Int.fdiv y1 (2 ^ (min (Int.toNat (32 : Int)) (IntKind.bits .u64)))))))) (2 ^ (min (Int.toNat (32 : Int)) (IntKind.bits .u64)))))), .v (.int .u64) (IntKind.wrap .u64 (x0 * y1))]) []
def math_bits_Mul64_A : List AS := [.v (.int .u64), .v (.int .u64)]
theorem math_bits_Mul64_walk (x0 : Int) (y1 : Int) (K : Res → List Cell → Prop) : runF tb (getG math_bits_Mul64_G) [] Tryd.f132 [true, true] (mkA math_bits_Mul64_A (x0, y1, ())) K = math_bits_Mul64_raw x0 y1 K := by kernel_rfl

def math_bits_Mul64_F (x0 : Int) (y1 : Int) : Int × Int :=
 ((IntKind.wrap .u64 ((IntKind.wrap .u64 ((IntKind.wrap .u64 ((Int.fdiv x0 (2 ^ (min (Int.toNat (32 : Int)) (IntKind.bits .u64)))) * (Int.fdiv y1 (2 ^ (min (Int.toNat (32 : Int)) (IntKind.bits .u64)))))) + (Int.fdiv (IntKind.wrap .u64 ((IntKind.wrap .u64 ((Int.fdiv x0 (2 ^ (min (Int.toNat (32 : Int)) (IntKind.bits .u64)))) * (ibits .and .u64 y1 (4294967295 : Int)))) + (Int.fdiv (IntKind.wrap .u64 ((ibits .and .u64 x0 (4294967295 : Int)) * (ibits .and .u64 y1 (4294967295 : Int)))) (2 ^ (min (Int.toNat (32 : Int)) (IntKind.bits .u64)))))) (2 ^ (min (Int.toNat (32 : Int)) (IntKind.bits .u64)))))) + (Int.fdiv (IntKind.wrap .u64 ((ibits .and .u64 (IntKind.wrap .u64 ((IntKind.wrap .u64 ((Int.fdiv x0 (2 ^ (min (Int.toNat (32 : Int)) (IntKind.bits .u64)))) * (ibits .and .u64 y1 (4294967295 : Int)))) + (Int.fdiv (IntKind.wrap .u64 ((ibits .and .u64 x0 (4294967295 : Int)) * (ibits .and .u64 y1 (4294967295 : Int)))) (2 ^ (min (Int.toNat (32 : Int)) (IntKind.bits .u64)))))) (4294967295 : Int)) + (IntKind.wrap .u64 ((ibits .and .u64 x0 (4294967295 : Int)) * (Int.fdiv y1 (2 ^ (min (Int.toNat (32 : Int)) (IntKind.bits .u64)))))))) (2 ^ (min (Int.toNat (32 : Int)) (IntKind.bits .u64)))))), (IntKind.wrap .u64 (x0 * y1)))
set_option maxRecDepth 20000 in
theorem math_bits_Mul64_sp (x0 : Int) (y1 : Int) (K : Res → List Cell → Prop) (_ : wfA math_bits_Mul64_A (x0, y1, ())) (h : ∀ r : Int × Int, r = math_bits_Mul64_F x0 y1 → K (.tup [.v (.int .u64) r.1, .v (.int .u64) r.2]) []) : math_bits_Mul64_raw x0 y1 K := by
  unfold math_bits_Mul64_raw
  exact h _ rfl
def math_bits_Mul64_C (v : valsA math_bits_Mul64_A) (K : Res → List Cell → Prop) : Prop := ∀ r : Int × Int, r = math_bits_Mul64_F v.1 v.2.1 → K (.tup [.v (.int .u64) r.1, .v (.int .u64) r.2]) []
def math_bits_Mul64_S : App := specW math_bits_Mul64_A math_bits_Mul64_C
theorem math_bits_Mul64_wv (K : Res → List Cell → Prop) : ∀ v : valsA math_bits_Mul64_A, runF tb (getG math_bits_Mul64_G) [] Tryd.f132 [true, true] (mkA math_bits_Mul64_A v) K = math_bits_Mul64_raw v.1 v.2.1 K
  | (x0, y1, ()) => math_bits_Mul64_walk x0 y1 K
set_option maxRecDepth 20000 in
theorem math_bits_Mul64_ok : AppOk Tryd.prog 132 math_bits_Mul64_S :=
  AppOk.specW (spec_ok ((runF_ok tb_M tb_ok math_bits_Mul64_Gok (LabsOk.nil) (f := 132) (fn := Tryd.f132) (by kernel_rfl) (by kernel_rfl) (by kernel_rfl) [true, true])) fun v K hw h => (math_bits_Mul64_wv K v).mpr (math_bits_Mul64_sp v.1 v.2.1 K hw h))
theorem and_mask {a : Int} (h0 : 0 ≤ a) (h1 : a < 18446744073709551616) : ibits .and .u64 a (4294967295 : Int) = a % 4294967296 := by
  obtain ⟨n, rfl⟩ := Int.eq_ofNat_of_zero_le h0
  have hn : n < 18446744073709551616 := by omega
  have e : (BitVec.ofInt 64 (n : Int) &&& BitVec.ofInt 64 4294967295).toNat = n % 4294967296 := by
    rw [BitVec.toNat_and]
    have e1 : (BitVec.ofInt 64 (n : Int)).toNat = n := by rw [BitVec.ofInt_natCast, BitVec.toNat_ofNat]; exact Nat.mod_eq_of_lt hn
    have e2 : (BitVec.ofInt 64 4294967295).toNat = 2 ^ 32 - 1 := by decide
    rw [e1, e2, Nat.and_two_pow_sub_one_eq_mod]
  show IntKind.wrap .u64 ((BitVec.ofInt 64 (n : Int) &&& BitVec.ofInt 64 4294967295).toNat : Int) = _
  rw [e, wrap_u64 (by omega) (by omega)]
  omega
theorem shr32 (a : Int) : Int.fdiv a (2 ^ (min (Int.toNat (32 : Int)) (IntKind.bits .u64))) = a / 4294967296 := by
  have e : (2 ^ (min (Int.toNat (32 : Int)) (IntKind.bits .u64)) : Int) = 4294967296 := by decide
  rw [e, Int.fdiv_eq_ediv_of_nonneg _ (by omega)]
theorem mul_small {a b : Int} (ha : 0 ≤ a) (ha' : a < 4294967296) (hb : 0 ≤ b) (hb' : b < 4294967296) : math_bits_Mul64_F a b = (0, a * b) := by
  have hab : 0 ≤ a * b := Int.mul_nonneg ha hb
  have hab' : a * b ≤ 4294967295 * 4294967295 := Int.le_trans (Int.mul_le_mul_of_nonneg_right (by omega) hb) (Int.mul_le_mul_of_nonneg_left (by omega) (by omega))
  unfold math_bits_Mul64_F
  simp only [shr32]
  have e1 : a / 4294967296 = 0 := by omega
  have e2 : b / 4294967296 = 0 := by omega
  have e3 : ibits .and .u64 a (4294967295 : Int) = a := by rw [and_mask ha (by omega)]; omega
  have e4 : ibits .and .u64 b (4294967295 : Int) = b := by rw [and_mask hb (by omega)]; omega
  rw [e1, e2, e3, e4, wrap_u64 (n := a * b) hab (by omega)]
  have e5 : IntKind.wrap .u64 (0 * b) = 0 := by rw [Int.zero_mul]; exact wrap_u64 (by omega) (by omega)
  have e6 : IntKind.wrap .u64 (a * 0) = 0 := by rw [Int.mul_zero]; exact wrap_u64 (by omega) (by omega)
  have e7 : IntKind.wrap .u64 (0 * 0) = 0 := by rw [Int.mul_zero]; exact wrap_u64 (by omega) (by omega)
  rw [e5, e6, e7]
  simp only [Int.zero_add, Int.add_zero]
  rw [wrap_u64 (n := a * b / 4294967296) (by omega) (by omega), and_mask (by omega) (by omega)]
  have e8 : a * b / 4294967296 / 4294967296 = 0 := by omega
  have e9 : a * b / 4294967296 % 4294967296 / 4294967296 = 0 := by omega
  rw [e8, wrap_u64 (n := a * b / 4294967296 % 4294967296) (by omega) (by omega), wrap_u64 (n := (0 : Int)) (by omega) (by omega), e9, wrap_u64 (by omega) (by omega)]
  rfl

end Go.VE
namespace Go.VE
open Go Go.Proofs
/-! ### math/bits.Mul -/
def math_bits_Mul_G : List (Nat × App) := [(132, math_bits_Mul64_S)]
theorem math_bits_Mul_Gok : GOk Tryd.prog (getG math_bits_Mul_G) := GOk.cons math_bits_Mul64_ok (GOk.nil)
def math_bits_Mul_raw (x0 : Int) (y1 : Int) (K : Res → List Cell → Prop) : Prop :=
 ∀ (r1 : Int × Int), r1 = math_bits_Mul64_F x0 y1 → (
 wfR (.tup [.v (.int .u64) r1.1, .v (.int .u64) r1.2]) → (
 K (.tup [.v (.int .u64) r1.1, .v (.int .u64) r1.2]) []))
def math_bits_Mul_A : List AS := [.v (.int .u64), .v (.int .u64)]
theorem math_bits_Mul_walk (x0 : Int) (y1 : Int) (K : Res → List Cell → Prop) : runF tb (getG math_bits_Mul_G) [] Tryd.f96 [true, true] (mkA math_bits_Mul_A (x0, y1, ())) K = math_bits_Mul_raw x0 y1 K := by kernel_rfl

def math_bits_Mul_F (x0 : Int) (y1 : Int) : Int × Int :=
 let r1 : Int × Int := math_bits_Mul64_F x0 y1
 (r1.1, r1.2)
set_option maxRecDepth 20000 in
theorem math_bits_Mul_sp (x0 : Int) (y1 : Int) (K : Res → List Cell → Prop) (_ : wfA math_bits_Mul_A (x0, y1, ())) (h : ∀ r : Int × Int, r = math_bits_Mul_F x0 y1 → K (.tup [.v (.int .u64) r.1, .v (.int .u64) r.2]) []) : math_bits_Mul_raw x0 y1 K := by
  unfold math_bits_Mul_raw
  intro r1 hr1
  subst r1
  intro _
  exact h _ rfl
def math_bits_Mul_C (v : valsA math_bits_Mul_A) (K : Res → List Cell → Prop) : Prop := ∀ r : Int × Int, r = math_bits_Mul_F v.1 v.2.1 → K (.tup [.v (.int .u64) r.1, .v (.int .u64) r.2]) []
def math_bits_Mul_S : App := specW math_bits_Mul_A math_bits_Mul_C
theorem math_bits_Mul_wv (K : Res → List Cell → Prop) : ∀ v : valsA math_bits_Mul_A, runF tb (getG math_bits_Mul_G) [] Tryd.f96 [true, true] (mkA math_bits_Mul_A v) K = math_bits_Mul_raw v.1 v.2.1 K
  | (x0, y1, ()) => math_bits_Mul_walk x0 y1 K
set_option maxRecDepth 20000 in
theorem math_bits_Mul_ok : AppOk Tryd.prog 96 math_bits_Mul_S :=
  AppOk.specW (spec_ok ((runF_ok tb_M tb_ok math_bits_Mul_Gok (LabsOk.nil) (f := 96) (fn := Tryd.f96) (by kernel_rfl) (by kernel_rfl) (by kernel_rfl) [true, true])) fun v K hw h => (math_bits_Mul_wv K v).mpr (math_bits_Mul_sp v.1 v.2.1 K hw h))

end Go.VE
namespace Go.VE
open Go Go.Proofs
--! external 1
--! args I
--! res fr:B
--! pre 1
--! rel 1
--! import VEu
def internal_bytealg_MakeNoZero_P (n : Int) : Prop := room_P n
def internal_bytealg_MakeNoZero_R (n : Int) (r : List Int) : Prop := room_R n r
def internal_bytealg_MakeNoZero_S : App := specW [.v (.int .i64)] fun v K => internal_bytealg_MakeNoZero_P v.1 ∧ ∀ r : List Int, internal_bytealg_MakeNoZero_R v.1 r → K (.one (.fr 5 (.int .u8) r)) []
theorem internal_bytealg_MakeNoZero_ok : AppOk Tryd.prog 97 internal_bytealg_MakeNoZero_S :=
  ext_room tb_ok (t := 22) (ps := #[3]) (fn := Tryd.f97) rfl rfl (by kernel_rfl) (by kernel_rfl) (by kernel_rfl) (by kernel_rfl) (by kernel_rfl) rfl

end Go.VE
namespace Go.VE
open Go Go.Proofs
/-! ### bytes.Repeat -/
def bytes_Repeat_G : List (Nat × App) := [(96, math_bits_Mul_S), (97, internal_bytealg_MakeNoZero_S)]
theorem bytes_Repeat_Gok : GOk Tryd.prog (getG bytes_Repeat_G) := GOk.cons math_bits_Mul_ok (GOk.cons internal_bytealg_MakeNoZero_ok (GOk.nil))
theorem bytes_Repeat_st : storesC (bodyOf Tryd.f62) = true := by kernel_rfl
def bytes_Repeat_d0 : List LS := [.v 7 (.int .i64), .v 8 (.int .i64), .o 9 77 5 (.int .u8), .v 10 (.int .i64)]
def bytes_Repeat_d0x0 : List LS := [.o 9 77 5 (.int .u8)]
def bytes_Repeat_dx0 : DX := ⟨none, none, [(0, bytes_Repeat_d0x0)]⟩
def bytes_Repeat_T0 (Y : Int → Int → List Int → Int → Prop) (kx0 : List Int → Prop) (n7 : Int) (chunkMax8 : Int) (nb9 : List Int) (bp10 : Int) : Prop :=
 bif (decide (bp10 < n7)) then
 (
 bif decide (0 ≤ bp10 ∧ bp10 ≤ (List.length nb9 : Int)) then
 bif decide (0 ≤ (mn bp10 chunkMax8) ∧ (mn bp10 chunkMax8) ≤ (List.length nb9 : Int)) then
 Y n7 chunkMax8 (ovr (Int.toNat bp10) (List.take (List.length (List.drop (Int.toNat bp10) nb9)) (List.take (Int.toNat (mn bp10 chunkMax8)) nb9)) nb9) (IntKind.wrap .i64 (bp10 + (mn (List.length (List.take (Int.toNat (mn bp10 chunkMax8)) nb9) : Int) (List.length (List.drop (Int.toNat bp10) nb9) : Int))))
 else False
 else False) ∧ (
 bif decide (0 ≤ (mn bp10 chunkMax8) ∧ (mn bp10 chunkMax8) ≤ (List.length nb9 : Int)) then
 bif decide (0 ≤ bp10 ∧ bp10 ≤ (List.length nb9 : Int)) then
 Y n7 chunkMax8 (ovr (Int.toNat bp10) (List.take (List.length (List.drop (Int.toNat bp10) nb9)) (List.take (Int.toNat (mn bp10 chunkMax8)) nb9)) nb9) (IntKind.wrap .i64 (bp10 + (mn (List.length (List.take (Int.toNat (mn bp10 chunkMax8)) nb9) : Int) (List.length (List.drop (Int.toNat bp10) nb9) : Int))))
 else False
 else False) ∧ True
 else
 kx0 nb9
def bytes_Repeat_L0 (kx0 : List Int → Prop) : Nat → Int → Int → List Int → Int → Prop
  | 0, _, _, _, _ => False
  | n + 1, n7, chunkMax8, nb9, bp10 => wfD bytes_Repeat_d0 (n7, chunkMax8, nb9, bp10, ()) → bytes_Repeat_T0 (bytes_Repeat_L0 kx0 n) kx0 n7 chunkMax8 nb9 bp10
theorem bytes_Repeat_s0 (k : Ex → St → Prop) (Y : vals bytes_Repeat_d0 → Prop) (n7 : Int) (chunkMax8 : Int) (nb9 : List Int) (bp10 : Int) :
    ex tb (getG bytes_Repeat_G) [] (at' (bodyOf Tryd.f62) [0, 0, 0, 1, 1, 1, 1, 1, 1, 1, 1, 1, 1, 1]) [0, 0, 0, 1, 1, 1, 1, 1, 1, 1, 1, 1, 1, 1] (mkD 77 bytes_Repeat_d0 (n7, chunkMax8, nb9, bp10, ())) (lpK 77 bytes_Repeat_d0 bytes_Repeat_dx0 k Y) =
    bytes_Repeat_T0 (fun n7 chunkMax8 nb9 bp10 => Y (n7, chunkMax8, nb9, bp10, ())) (fun nb9 => wfD bytes_Repeat_d0x0 (nb9, ()) → k (.exit 0) (mkD 77 bytes_Repeat_d0x0 (nb9, ()))) n7 chunkMax8 nb9 bp10 := by kernel_rfl
theorem bytes_Repeat_e0 (k : Ex → St → Prop) : ∀ (n : Nat) (n7 : Int) (chunkMax8 : Int) (nb9 : List Int) (bp10 : Int), lpD 77 bytes_Repeat_d0 bytes_Repeat_dx0 (ex tb (getG bytes_Repeat_G) [] (at' (bodyOf Tryd.f62) [0, 0, 0, 1, 1, 1, 1, 1, 1, 1, 1, 1, 1, 1]) [0, 0, 0, 1, 1, 1, 1, 1, 1, 1, 1, 1, 1, 1]) k n (n7, chunkMax8, nb9, bp10, ()) = bytes_Repeat_L0 (fun nb9 => wfD bytes_Repeat_d0x0 (nb9, ()) → k (.exit 0) (mkD 77 bytes_Repeat_d0x0 (nb9, ()))) n n7 chunkMax8 nb9 bp10
  | 0, _, _, _, _ => rfl
  | n + 1, n7, chunkMax8, nb9, bp10 => congrArg (fun Z : Prop => wfD bytes_Repeat_d0 (n7, chunkMax8, nb9, bp10, ()) → Z) ((bytes_Repeat_s0 k (lpD 77 bytes_Repeat_d0 bytes_Repeat_dx0 (ex tb (getG bytes_Repeat_G) [] (at' (bodyOf Tryd.f62) [0, 0, 0, 1, 1, 1, 1, 1, 1, 1, 1, 1, 1, 1]) [0, 0, 0, 1, 1, 1, 1, 1, 1, 1, 1, 1, 1, 1]) k n) n7 chunkMax8 nb9 bp10).trans (congrArg (fun Y => bytes_Repeat_T0 Y (fun nb9 => wfD bytes_Repeat_d0x0 (nb9, ()) → k (.exit 0) (mkD 77 bytes_Repeat_d0x0 (nb9, ()))) n7 chunkMax8 nb9 bp10) (funext fun n7 => funext fun chunkMax8 => funext fun nb9 => funext fun bp10 => bytes_Repeat_e0 k n n7 chunkMax8 nb9 bp10)))
theorem bytes_Repeat_v0 (k : Ex → St → Prop) (n : Nat) : ∀ v : vals bytes_Repeat_d0, lpD 77 bytes_Repeat_d0 bytes_Repeat_dx0 (ex tb (getG bytes_Repeat_G) [] (at' (bodyOf Tryd.f62) [0, 0, 0, 1, 1, 1, 1, 1, 1, 1, 1, 1, 1, 1]) [0, 0, 0, 1, 1, 1, 1, 1, 1, 1, 1, 1, 1, 1]) k n v = bytes_Repeat_L0 (fun nb9 => wfD bytes_Repeat_d0x0 (nb9, ()) → k (.exit 0) (mkD 77 bytes_Repeat_d0x0 (nb9, ()))) n v.1 v.2.1 v.2.2.1 v.2.2.2.1
  | (n7, chunkMax8, nb9, bp10, ()) => bytes_Repeat_e0 k n n7 chunkMax8 nb9 bp10
def bytes_Repeat_X0 : Pce := fun st k => ckD 77 bytes_Repeat_d0 st fun v => wfD bytes_Repeat_d0 v → ∃ n, bytes_Repeat_L0 (fun nb9 => wfD bytes_Repeat_d0x0 (nb9, ()) → k (.exit 0) (mkD 77 bytes_Repeat_d0x0 (nb9, ()))) n v.1 v.2.1 v.2.2.1 v.2.2.2.1
set_option maxRecDepth 20000 in
theorem bytes_Repeat_x0 : SemOk Tryd.prog (at' (bodyOf Tryd.f62) [0, 0, 1, 1, 1, 1, 1, 1, 1, 1, 1, 1, 1]) bytes_Repeat_X0 :=
  (SemOk.loop (ex_sound tb_M tb_ok bytes_Repeat_Gok (LabsOk.nil) (at' (bodyOf Tryd.f62) [0, 0, 0, 1, 1, 1, 1, 1, 1, 1, 1, 1, 1, 1]) [0, 0, 0, 1, 1, 1, 1, 1, 1, 1, 1, 1, 1, 1] rfl (storesC_at bytes_Repeat_st [0, 0, 0, 1, 1, 1, 1, 1, 1, 1, 1, 1, 1, 1])) 77 bytes_Repeat_d0 bytes_Repeat_dx0).mono fun st k h => ckD_mono h fun v hv hw => (hv hw).elim fun n hn => ⟨n, Eq.mpr (bytes_Repeat_v0 k n v) hn⟩
def bytes_Repeat_B0 : Labs := ([0, 0, 1, 1, 1, 1, 1, 1, 1, 1, 1, 1, 1], bytes_Repeat_X0) :: []
theorem bytes_Repeat_b0 : LabsOk Tryd.prog (bodyOf Tryd.f62) bytes_Repeat_B0 := LabsOk.cons bytes_Repeat_x0 (LabsOk.nil)
def bytes_Repeat_d1 : List LS := [.v 0 (.sl (.int .u8)), .v 7 (.int .i64), .v 8 (.int .i64)]
def bytes_Repeat_d1r : List LS := [.o 4 37 5 (.int .u8)]
def bytes_Repeat_dx1 : DX := ⟨none, some bytes_Repeat_d1r, []⟩
def bytes_Repeat_J1 (kr : List Int → Prop) (b0 : List Int) (n7 : Int) (chunkMax8 : Int) : Prop :=
 internal_bytealg_MakeNoZero_P n7 ∧ (
 ∀ (r2 : List Int), internal_bytealg_MakeNoZero_R n7 r2 → (
 wfR (.one (.fr 5 (.int .u8) r2)) → (
 bif decide (0 ≤ n7 ∧ n7 ≤ n7 ∧ n7 ≤ (List.length r2 : Int)) then
 (wfD bytes_Repeat_d0 (n7, chunkMax8, (ovr 0 (List.take (List.length (List.take (Int.toNat n7) r2)) b0) (List.take (Int.toNat n7) r2)), (mn (List.length b0 : Int) (List.length (List.take (Int.toNat n7) r2) : Int)), ()) → ∃ n, bytes_Repeat_L0 (fun (nb9 : List Int) => wfD bytes_Repeat_d0x0 (nb9, ()) → (
 kr nb9)) n n7 chunkMax8 (ovr 0 (List.take (List.length (List.take (Int.toNat n7) r2)) b0) (List.take (Int.toNat n7) r2)) (mn (List.length b0 : Int) (List.length (List.take (Int.toNat n7) r2) : Int)))
 else False)))
theorem bytes_Repeat_s1 (k : Ex → St → Prop) (b0 : List Int) (n7 : Int) (chunkMax8 : Int) :
    ex tb (getG bytes_Repeat_G) bytes_Repeat_B0 (at' (bodyOf Tryd.f62) [1, 1, 1, 1, 1, 1, 1, 1, 1]) [1, 1, 1, 1, 1, 1, 1, 1, 1] (mkD 77 bytes_Repeat_d1 (b0, n7, chunkMax8, ())) (wk 77 bytes_Repeat_dx1 k) =
    bytes_Repeat_J1 (fun x4 => wfD bytes_Repeat_d1r (x4, ()) → k .ret (mkD 77 bytes_Repeat_d1r (x4, ()))) b0 n7 chunkMax8 := by kernel_rfl
theorem bytes_Repeat_v1 (k : Ex → St → Prop) : ∀ v : vals bytes_Repeat_d1, ex tb (getG bytes_Repeat_G) bytes_Repeat_B0 (at' (bodyOf Tryd.f62) [1, 1, 1, 1, 1, 1, 1, 1, 1]) [1, 1, 1, 1, 1, 1, 1, 1, 1] (mkD 77 bytes_Repeat_d1 v) (wk 77 bytes_Repeat_dx1 k) = bytes_Repeat_J1 (fun x4 => wfD bytes_Repeat_d1r (x4, ()) → k .ret (mkD 77 bytes_Repeat_d1r (x4, ()))) v.1 v.2.1 v.2.2.1
  | (b0, n7, chunkMax8, ()) => bytes_Repeat_s1 k b0 n7 chunkMax8
def bytes_Repeat_X1 : Pce := fun st k => ckD 77 bytes_Repeat_d1 st fun v => wfD bytes_Repeat_d1 v → bytes_Repeat_J1 (fun x4 => wfD bytes_Repeat_d1r (x4, ()) → k .ret (mkD 77 bytes_Repeat_d1r (x4, ()))) v.1 v.2.1 v.2.2.1
set_option maxRecDepth 20000 in
theorem bytes_Repeat_x1 : SemOk Tryd.prog (at' (bodyOf Tryd.f62) [1, 1, 1, 1, 1, 1, 1, 1, 1]) bytes_Repeat_X1 :=
  (SemOk.wk (N := 77) (ds := bytes_Repeat_d1) (dx := bytes_Repeat_dx1) (ex_sound tb_M tb_ok bytes_Repeat_Gok (bytes_Repeat_b0) (at' (bodyOf Tryd.f62) [1, 1, 1, 1, 1, 1, 1, 1, 1]) [1, 1, 1, 1, 1, 1, 1, 1, 1] rfl (storesC_at bytes_Repeat_st [1, 1, 1, 1, 1, 1, 1, 1, 1]))).mono fun st k h => ckD_mono h fun v hv hw => Eq.mpr (bytes_Repeat_v1 k v) (hv hw)
def bytes_Repeat_B1 : Labs := ([1, 1, 1, 1, 1, 1, 1, 1, 1], bytes_Repeat_X1) :: bytes_Repeat_B0
theorem bytes_Repeat_b1 : LabsOk Tryd.prog (bodyOf Tryd.f62) bytes_Repeat_B1 := LabsOk.cons bytes_Repeat_x1 (bytes_Repeat_b0)
def bytes_Repeat_d2 : List LS := [.v 0 (.sl (.int .u8)), .v 6 (.int .u64)]
def bytes_Repeat_d2r : List LS := [.o 4 37 5 (.int .u8)]
def bytes_Repeat_dx2 : DX := ⟨none, some bytes_Repeat_d2r, []⟩
def bytes_Repeat_J2 (kr : List Int → Prop) (b0 : List Int) (lo6 : Int) : Prop :=
 bif (decide ((List.length b0 : Int) = (0 : Int))) then
 kr ([] : List Int)
 else
 bif (decide ((8192 : Int) < (IntKind.wrap .i64 lo6))) then
 bif decide ((List.length b0 : Int) ≠ 0) then
 bif (decide ((IntKind.wrap .i64 ((IntKind.wrap .i64 (Int.tdiv (8192 : Int) (List.length b0 : Int))) * (List.length b0 : Int))) = (0 : Int))) then
 (wfD bytes_Repeat_d1 (b0, (IntKind.wrap .i64 lo6), (List.length b0 : Int), ()) → bytes_Repeat_J1 (fun (x4 : List Int) => wfD bytes_Repeat_d1r (x4, ()) → (
 kr x4)) b0 (IntKind.wrap .i64 lo6) (List.length b0 : Int))
 else
 (wfD bytes_Repeat_d1 (b0, (IntKind.wrap .i64 lo6), (IntKind.wrap .i64 ((IntKind.wrap .i64 (Int.tdiv (8192 : Int) (List.length b0 : Int))) * (List.length b0 : Int))), ()) → bytes_Repeat_J1 (fun (x4 : List Int) => wfD bytes_Repeat_d1r (x4, ()) → (
 kr x4)) b0 (IntKind.wrap .i64 lo6) (IntKind.wrap .i64 ((IntKind.wrap .i64 (Int.tdiv (8192 : Int) (List.length b0 : Int))) * (List.length b0 : Int))))
 else False
 else
 (wfD bytes_Repeat_d1 (b0, (IntKind.wrap .i64 lo6), (IntKind.wrap .i64 lo6), ()) → bytes_Repeat_J1 (fun (x4 : List Int) => wfD bytes_Repeat_d1r (x4, ()) → (
 kr x4)) b0 (IntKind.wrap .i64 lo6) (IntKind.wrap .i64 lo6))
theorem bytes_Repeat_s2 (k : Ex → St → Prop) (b0 : List Int) (lo6 : Int) :
    ex tb (getG bytes_Repeat_G) bytes_Repeat_B1 (at' (bodyOf Tryd.f62) [1, 1, 1, 1, 1]) [1, 1, 1, 1, 1] (mkD 77 bytes_Repeat_d2 (b0, lo6, ())) (wk 77 bytes_Repeat_dx2 k) =
    bytes_Repeat_J2 (fun x4 => wfD bytes_Repeat_d2r (x4, ()) → k .ret (mkD 77 bytes_Repeat_d2r (x4, ()))) b0 lo6 := by kernel_rfl
theorem bytes_Repeat_v2 (k : Ex → St → Prop) : ∀ v : vals bytes_Repeat_d2, ex tb (getG bytes_Repeat_G) bytes_Repeat_B1 (at' (bodyOf Tryd.f62) [1, 1, 1, 1, 1]) [1, 1, 1, 1, 1] (mkD 77 bytes_Repeat_d2 v) (wk 77 bytes_Repeat_dx2 k) = bytes_Repeat_J2 (fun x4 => wfD bytes_Repeat_d2r (x4, ()) → k .ret (mkD 77 bytes_Repeat_d2r (x4, ()))) v.1 v.2.1
  | (b0, lo6, ()) => bytes_Repeat_s2 k b0 lo6
def bytes_Repeat_X2 : Pce := fun st k => ckD 77 bytes_Repeat_d2 st fun v => wfD bytes_Repeat_d2 v → bytes_Repeat_J2 (fun x4 => wfD bytes_Repeat_d2r (x4, ()) → k .ret (mkD 77 bytes_Repeat_d2r (x4, ()))) v.1 v.2.1
set_option maxRecDepth 20000 in
theorem bytes_Repeat_x2 : SemOk Tryd.prog (at' (bodyOf Tryd.f62) [1, 1, 1, 1, 1]) bytes_Repeat_X2 :=
  (SemOk.wk (N := 77) (ds := bytes_Repeat_d2) (dx := bytes_Repeat_dx2) (ex_sound tb_M tb_ok bytes_Repeat_Gok (bytes_Repeat_b1) (at' (bodyOf Tryd.f62) [1, 1, 1, 1, 1]) [1, 1, 1, 1, 1] rfl (storesC_at bytes_Repeat_st [1, 1, 1, 1, 1]))).mono fun st k h => ckD_mono h fun v hv hw => Eq.mpr (bytes_Repeat_v2 k v) (hv hw)
def bytes_Repeat_B2 : Labs := ([1, 1, 1, 1, 1], bytes_Repeat_X2) :: bytes_Repeat_B1
theorem bytes_Repeat_b2 : LabsOk Tryd.prog (bodyOf Tryd.f62) bytes_Repeat_B2 := LabsOk.cons bytes_Repeat_x2 (bytes_Repeat_b1)
def bytes_Repeat_d3 : List LS := [.v 0 (.sl (.int .u8)), .v 1 (.int .i64)]
def bytes_Repeat_d3r : List LS := [.o 4 37 5 (.int .u8)]
def bytes_Repeat_dx3 : DX := ⟨none, some bytes_Repeat_d3r, []⟩
def bytes_Repeat_J3 (kr : List Int → Prop) (b0 : List Int) (count1 : Int) : Prop :=
 ∀ (r1 : Int × Int), r1 = math_bits_Mul_F (IntKind.wrap .u64 (List.length b0 : Int)) (IntKind.wrap .u64 count1) → (
 wfR (.tup [.v (.int .u64) r1.1, .v (.int .u64) r1.2]) → (
 bif (decide ((0 : Int) < r1.1)) then
 False
 else
 bif (decide ((9223372036854775807 : Int) < r1.2)) then
 False
 else
 (wfD bytes_Repeat_d2 (b0, r1.2, ()) → bytes_Repeat_J2 (fun (x4 : List Int) => wfD bytes_Repeat_d2r (x4, ()) → (
 kr x4)) b0 r1.2)))
theorem bytes_Repeat_s3 (k : Ex → St → Prop) (b0 : List Int) (count1 : Int) :
    ex tb (getG bytes_Repeat_G) bytes_Repeat_B2 (at' (bodyOf Tryd.f62) [1, 1, 1]) [1, 1, 1] (mkD 77 bytes_Repeat_d3 (b0, count1, ())) (wk 77 bytes_Repeat_dx3 k) =
    bytes_Repeat_J3 (fun x4 => wfD bytes_Repeat_d3r (x4, ()) → k .ret (mkD 77 bytes_Repeat_d3r (x4, ()))) b0 count1 := by kernel_rfl
theorem bytes_Repeat_v3 (k : Ex → St → Prop) : ∀ v : vals bytes_Repeat_d3, ex tb (getG bytes_Repeat_G) bytes_Repeat_B2 (at' (bodyOf Tryd.f62) [1, 1, 1]) [1, 1, 1] (mkD 77 bytes_Repeat_d3 v) (wk 77 bytes_Repeat_dx3 k) = bytes_Repeat_J3 (fun x4 => wfD bytes_Repeat_d3r (x4, ()) → k .ret (mkD 77 bytes_Repeat_d3r (x4, ()))) v.1 v.2.1
  | (b0, count1, ()) => bytes_Repeat_s3 k b0 count1
def bytes_Repeat_X3 : Pce := fun st k => ckD 77 bytes_Repeat_d3 st fun v => wfD bytes_Repeat_d3 v → bytes_Repeat_J3 (fun x4 => wfD bytes_Repeat_d3r (x4, ()) → k .ret (mkD 77 bytes_Repeat_d3r (x4, ()))) v.1 v.2.1
set_option maxRecDepth 20000 in
theorem bytes_Repeat_x3 : SemOk Tryd.prog (at' (bodyOf Tryd.f62) [1, 1, 1]) bytes_Repeat_X3 :=
  (SemOk.wk (N := 77) (ds := bytes_Repeat_d3) (dx := bytes_Repeat_dx3) (ex_sound tb_M tb_ok bytes_Repeat_Gok (bytes_Repeat_b2) (at' (bodyOf Tryd.f62) [1, 1, 1]) [1, 1, 1] rfl (storesC_at bytes_Repeat_st [1, 1, 1]))).mono fun st k h => ckD_mono h fun v hv hw => Eq.mpr (bytes_Repeat_v3 k v) (hv hw)
def bytes_Repeat_B3 : Labs := ([1, 1, 1], bytes_Repeat_X3) :: bytes_Repeat_B2
theorem bytes_Repeat_b3 : LabsOk Tryd.prog (bodyOf Tryd.f62) bytes_Repeat_B3 := LabsOk.cons bytes_Repeat_x3 (bytes_Repeat_b2)
def bytes_Repeat_raw (b0 : List Int) (count1 : Int) (K : Res → List Cell → Prop) : Prop :=
 bif (decide (count1 = (0 : Int))) then
 K (.one (.fr 5 (.int .u8) ([] : List Int))) []
 else
 bif (decide (count1 < (0 : Int))) then
 False
 else
 (wfD bytes_Repeat_d3 (b0, count1, ()) → bytes_Repeat_J3 (fun (x4 : List Int) => wfD bytes_Repeat_d3r (x4, ()) → (
 K (.one (.fr 5 (.int .u8) x4)) [])) b0 count1)
def bytes_Repeat_A : List AS := [.v (.sl (.int .u8)), .v (.int .i64)]
theorem bytes_Repeat_walk (b0 : List Int) (count1 : Int) (K : Res → List Cell → Prop) : runF tb (getG bytes_Repeat_G) bytes_Repeat_B3 Tryd.f62 [true] (mkA bytes_Repeat_A (b0, count1, ())) K = bytes_Repeat_raw b0 count1 K := by kernel_rfl
--! pre 1
def repB (b : List Int) : Nat → List Int
  | 0 => []
  | n + 1 => b ++ repB b n
theorem repB_length (b : List Int) : ∀ n, (repB b n).length = n * b.length
  | 0 => by simp [repB]
  | n + 1 => by rw [repB, List.length_append, repB_length b n, Nat.succ_mul]; omega
theorem repB_get (b : List Int) : ∀ (n i : Nat), i < n * b.length → (repB b n)[i]? = b[i % b.length]?
  | 0, i, h => by simp at h
  | n + 1, i, h => by
    rw [repB]
    by_cases hi : i < b.length
    · rw [List.getElem?_append_left hi, Nat.mod_eq_of_lt hi]
    · rw [List.getElem?_append_right (by omega), repB_get b n _ (by rw [Nat.succ_mul] at h; omega)]
      congr 1
      exact (Nat.mod_eq_sub_mod (by omega)).symm
def bytes_Repeat_P (b : List Int) (count : Int) : Prop := 0 ≤ count ∧ count < 4294967296 ∧ b.length < 4294967296 ∧ (b.length : Int) * count ≤ (lim : Int)
def bytes_Repeat_F (b : List Int) (count : Int) : List Int := repB b count.toNat
/-- so much of it is written -/
def RInv (b nb : List Int) (n bp : Nat) : Prop := nb.length = n ∧ ∀ i, i < bp → nb[i]? = b[i % b.length]?
theorem rinv_step {b nb : List Int} {n bp c : Nat} (hb : 0 < b.length) (hi : RInv b nb n bp) (hd : b.length ∣ bp) (hc : c ≤ bp) (hn : bp + c ≤ n) : RInv b (ovr bp (nb.take c) nb) n (bp + c) := by
  have hl : (nb.take c).length = c := by rw [List.length_take, hi.1]; omega
  refine ⟨by rw [ovr_length]; exact hi.1, fun i hlt => ?_⟩
  rw [ovr_get _ _ _ _ (by rw [hi.1]; omega), hl]
  by_cases h : bp ≤ i
  · rw [if_pos ⟨h, hlt⟩, List.getElem?_take, if_pos (by omega), hi.2 _ (by omega)]
    congr 1
    obtain ⟨q, rfl⟩ := hd
    have e : i = (i - b.length * q) + b.length * q := by omega
    conv => rhs; rw [e, Nat.add_mul_mod_self_left]
  · rw [if_neg (by omega)]; exact hi.2 i (by omega)
theorem bytes_Repeat_l0 (kx0 : List Int → Prop) (b : List Int) (hb : 0 < b.length) (n cm : Nat) (hn : n ≤ lim) (hnd : b.length ∣ n) (hcm : 0 < cm) (hcd : b.length ∣ cm) (hk : ∀ nb, RInv b nb n n → kx0 nb) :
    ∀ (m bp : Nat) (nb : List Int), n < m + bp → 0 < bp → b.length ∣ bp → bp ≤ n → RInv b nb n bp → bytes_Repeat_L0 kx0 m (n : Int) (cm : Int) nb (bp : Int)
  | 0, bp, nb, h, h2, h3, h4, h5 => by omega
  | m + 1, bp, nb, h, h2, h3, h4, h5 => by
    intro _
    unfold bytes_Repeat_T0
    refine brn (fun hlt => ?_) (fun hge => ?_)
    · have hlt : bp < n := by omega
      have hmn : mn (bp : Int) (cm : Int) = ((min bp cm : Nat) : Int) := by
        unfold mn
        by_cases hc : (cm : Int) < bp
        · simp only [hc, decide_true, cond_true]; omega
        · simp only [hc, decide_false, cond_false]; omega
      have hmd : b.length ∣ min bp cm := by
        rcases Nat.le_total bp cm with h | h
        · rw [Nat.min_eq_left h]; exact h3
        · rw [Nat.min_eq_right h]; exact hcd
      -- so much is copied
      have hcl : (List.take (Int.toNat (mn (bp : Int) (cm : Int))) nb).length = min bp cm := by rw [hmn, Int.toNat_natCast, List.length_take, h5.1]; omega
      have hdl : (List.drop (Int.toNat (bp : Int)) nb).length = n - bp := by rw [Int.toNat_natCast, List.length_drop, h5.1]
      have hc2 : mn (List.length (List.take (Int.toNat (mn (bp : Int) (cm : Int))) nb) : Int) (List.length (List.drop (Int.toNat (bp : Int)) nb) : Int) = ((min (min bp cm) (n - bp) : Nat) : Int) := by
        rw [hcl, hdl]
        unfold mn
        by_cases hc : ((n - bp : Nat) : Int) < ((min bp cm : Nat) : Int)
        · simp only [hc, decide_true, cond_true]; omega
        · simp only [hc, decide_false, cond_false]; omega
      have key : bytes_Repeat_L0 kx0 m (n : Int) (cm : Int) (ovr (Int.toNat (bp : Int)) (List.take (List.length (List.drop (Int.toNat (bp : Int)) nb)) (List.take (Int.toNat (mn (bp : Int) (cm : Int))) nb)) nb) (IntKind.wrap .i64 ((bp : Int) + (mn (List.length (List.take (Int.toNat (mn (bp : Int) (cm : Int))) nb) : Int) (List.length (List.drop (Int.toNat (bp : Int)) nb) : Int)))) := by
        have hlim : n ≤ 1099511627776 := hn
        rw [hc2, hdl, hmn, Int.toNat_natCast, Int.toNat_natCast, List.take_take, wrap_i64 (by omega) (by omega), show min (n - bp) (min bp cm) = min (min bp cm) (n - bp) from Nat.min_comm _ _]
        have hdvd : b.length ∣ min (min bp cm) (n - bp) := by
          rcases Nat.le_total (min bp cm) (n - bp) with h | h
          · rw [Nat.min_eq_left h]; exact hmd
          · rw [Nat.min_eq_right h]; exact Nat.dvd_sub hnd h3
        have hpos : 0 < min (min bp cm) (n - bp) := by omega
        have := bytes_Repeat_l0 kx0 b hb n cm hn hnd hcm hcd hk m (bp + min (min bp cm) (n - bp)) _ (by omega) (by omega) (Nat.dvd_add h3 hdvd) (by omega) (rinv_step hb h5 h3 (by omega) (by omega))
        simpa using this
      have a1 : 0 ≤ (bp : Int) ∧ (bp : Int) ≤ (List.length nb : Int) := by rw [h5.1]; omega
      have a2 : 0 ≤ mn (bp : Int) (cm : Int) ∧ mn (bp : Int) (cm : Int) ≤ (List.length nb : Int) := by rw [h5.1, hmn]; omega
      exact ⟨asrt a1 (asrt a2 key), asrt a2 (asrt a1 key), trivial⟩
    · obtain rfl : bp = n := by omega
      exact hk nb h5
theorem bytes_Repeat_sp (b : List Int) (count : Int) (K : Res → List Cell → Prop) (hw : wfA bytes_Repeat_A (b, count, ())) (hp : bytes_Repeat_P b count) (h : ∀ r : List Int, r = bytes_Repeat_F b count → K (.one (.fr 5 (.int .u8) r)) []) : bytes_Repeat_raw b count K := by
  obtain ⟨h0, h1, h2, h3⟩ := hp
  obtain ⟨c, rfl⟩ := Int.eq_ofNat_of_zero_le h0
  unfold bytes_Repeat_F at h
  rw [Int.toNat_natCast] at h
  unfold bytes_Repeat_raw
  refine brn (fun hz => h _ ?_) (fun hz => brn (fun hn => absurd hn (by omega)) (fun _ _ => ?_))
  · obtain rfl : c = 0 := by omega
    rfl
  unfold bytes_Repeat_J3
  intro r1 hr1 _
  have hmul : r1 = (0, (b.length : Int) * (c : Int)) := by
    rw [hr1, wrap_u64 (by omega) (by omega), wrap_u64 (by omega) (by omega)]
    exact mul_small (by omega) (by omega) (by omega) (by omega)
  have hlc : (b.length : Int) * (c : Int) = ((c * b.length : Nat) : Int) := by rw [Int.mul_comm]; simp
  have hlim : ((c * b.length : Nat) : Int) ≤ 1099511627776 := by rw [← hlc]; exact h3
  rw [hmul, hlc]
  refine brn (fun hn => absurd hn (by simp)) (fun _ => brn (fun hn => absurd hn (by show ¬ (9223372036854775807 : Int) < ((c * b.length : Nat) : Int); omega)) (fun _ _ => ?_))
  show bytes_Repeat_J2 _ b ((c * b.length : Nat) : Int)
  unfold bytes_Repeat_J2
  refine brn (fun hz => ?_) (fun hz => ?_)
  · intro _ _
    refine h _ ?_
    have hb : b = [] := List.eq_nil_of_length_eq_zero (by omega)
    subst hb
    clear h hlc hlim hmul hr1 hw h3
    have : ∀ n, repB [] n = [] := fun n => List.eq_nil_of_length_eq_zero (by rw [repB_length]; simp)
    exact (this c).symm
  have hb : 0 < b.length := by omega
  have hge : b.length ≤ c * b.length := Nat.le_mul_of_pos_left _ (by omega)
  rw [wrap_i64 (n := ((c * b.length : Nat) : Int)) (by omega) (by omega)]
  have main : ∀ (cm : Nat), 0 < cm → b.length ∣ cm → bytes_Repeat_J1 (fun (x4 : List Int) => wfD bytes_Repeat_d1r (x4, ()) → wfD bytes_Repeat_d2r (x4, ()) → wfD bytes_Repeat_d3r (x4, ()) → K (.one (.fr 5 (.int .u8) x4)) []) b ((c * b.length : Nat) : Int) (cm : Int) := by
    intro cm hcm hcd
    unfold bytes_Repeat_J1
    refine ⟨⟨by omega, hlim⟩, fun r2 hr2 _ => asrt ?_ fun _ => ?_⟩
    · have : r2.length = c * b.length := hr2
      rw [this]; omega
    have hr2 : r2.length = c * b.length := hr2
    have htk : List.take (Int.toNat ((c * b.length : Nat) : Int)) r2 = r2 := by rw [Int.toNat_natCast, ← hr2, List.take_length]
    have hmn : mn (List.length b : Int) (List.length r2 : Int) = (b.length : Int) := by
      unfold mn
      have : ¬ ((r2.length : Int) < b.length) := by rw [hr2]; omega
      simp only [this, decide_false, cond_false]
    rw [htk, hmn]
    refine ⟨c * b.length + 1, bytes_Repeat_l0 _ b hb (c * b.length) cm (by show _ ≤ 1099511627776; omega) ⟨c, Nat.mul_comm _ _⟩ hcm hcd (fun nb hnb _ h1 h2 h3 => h nb ?_) _ _ _ (by omega) hb (Nat.dvd_refl _) hge ⟨?_, fun i hi => ?_⟩⟩
    · refine List.ext_getElem? fun i => ?_
      by_cases hi : i < c * b.length
      · rw [hnb.2 i hi, repB_get b c i hi]
      · rw [List.getElem?_eq_none (by rw [hnb.1]; omega), List.getElem?_eq_none (by rw [repB_length]; omega)]
    · rw [ovr_length, hr2]
    · rw [ovr_get _ _ _ _ (by rw [hr2]; omega), List.take_of_length_le (by rw [hr2]; exact hge), if_pos (by omega), Nat.sub_zero, Nat.mod_eq_of_lt hi]
  refine brn (fun hbig => asrt (by omega) ?_) (fun hsm _ => main (c * b.length) (by omega) ⟨c, Nat.mul_comm _ _⟩)
  have hq : Int.tdiv (8192 : Int) (List.length b : Int) = ((8192 / b.length : Nat) : Int) := by
    rw [Int.tdiv_eq_ediv_of_nonneg (by omega)]; rfl
  have hq2 : 8192 / b.length ≤ 8192 := Nat.div_le_self _ _
  have hq3 : 8192 / b.length * b.length ≤ 8192 := Nat.div_mul_le_self _ _
  rw [hq]
  generalize 8192 / b.length = q at hq2 hq3 ⊢
  have hq4 : (q : Int) * (b.length : Int) = ((q * b.length : Nat) : Int) := by simp
  rw [wrap_i64 (n := (q : Int)) (by omega) (by omega), hq4]
  generalize hql : q * b.length = ql at hq3 ⊢
  rw [wrap_i64 (n := (ql : Int)) (by omega) (by omega)]
  refine brn (fun hz _ => main b.length hb (Nat.dvd_refl _)) (fun hz _ => main ql (by omega) ⟨q, by rw [← hql]; exact Nat.mul_comm _ _⟩)

def bytes_Repeat_C (v : valsA bytes_Repeat_A) (K : Res → List Cell → Prop) : Prop := bytes_Repeat_P v.1 v.2.1 ∧ ∀ r : List Int, r = bytes_Repeat_F v.1 v.2.1 → K (.one (.fr 5 (.int .u8) r)) []
def bytes_Repeat_S : App := specW bytes_Repeat_A bytes_Repeat_C
theorem bytes_Repeat_wv (K : Res → List Cell → Prop) : ∀ v : valsA bytes_Repeat_A, runF tb (getG bytes_Repeat_G) bytes_Repeat_B3 Tryd.f62 [true] (mkA bytes_Repeat_A v) K = bytes_Repeat_raw v.1 v.2.1 K
  | (b0, count1, ()) => bytes_Repeat_walk b0 count1 K
set_option maxRecDepth 20000 in
theorem bytes_Repeat_ok : AppOk Tryd.prog 62 bytes_Repeat_S :=
  AppOk.specW (spec_ok ((runF_ok tb_M tb_ok bytes_Repeat_Gok (bytes_Repeat_b3) (f := 62) (fn := Tryd.f62) (by kernel_rfl) (by kernel_rfl) bytes_Repeat_st [true])) fun v K hw h => (bytes_Repeat_wv K v).mpr (bytes_Repeat_sp v.1 v.2.1 K hw h.1 h.2))

end Go.VE
namespace Go.VE
open Go Go.Proofs
/-! ### quoin/oper.within -/
def oper_within_G : List (Nat × App) := []
theorem oper_within_Gok : GOk Tryd.prog (getG oper_within_G) := GOk.nil
def oper_within_raw (t0 : List Int) (at1 : Int) (K : Res → List Cell → Prop) : Prop :=
 bif (decide (at1 < (List.length t0 : Int))) then
 bif decide (0 ≤ at1 ∧ at1 < (List.length t0 : Int)) then
 K (.one (.v (.bool) (!decide ((rd (0 : Int) t0 at1) = (10 : Int))))) []
 else False
 else
 K (.one (.v (.bool) false)) []
def oper_within_A : List AS := [.v (.sl (.int .u8)), .v (.int .i64)]
theorem oper_within_walk (t0 : List Int) (at1 : Int) (K : Res → List Cell → Prop) : runF tb (getG oper_within_G) [] Tryd.f63 [true] (mkA oper_within_A (t0, at1, ())) K = oper_within_raw t0 at1 K := by kernel_rfl

def oper_within_P (t0 : List Int) (at1 : Int) : Prop :=
 bif (decide (at1 < (List.length t0 : Int))) then
 (0 ≤ at1 ∧ at1 < (List.length t0 : Int))
 else
 True
def oper_within_F (t0 : List Int) (at1 : Int) : Bool :=
 bif (decide (at1 < (List.length t0 : Int))) then
 (!decide ((rd (0 : Int) t0 at1) = (10 : Int)))
 else
 false
set_option maxRecDepth 20000 in
theorem oper_within_sp (t0 : List Int) (at1 : Int) (K : Res → List Cell → Prop) (_ : wfA oper_within_A (t0, at1, ())) (hp : oper_within_P t0 at1) (h : ∀ r : Bool, r = oper_within_F t0 at1 → K (.one (.v (.bool) r)) []) : oper_within_raw t0 at1 K := by
  unfold oper_within_raw
  unfold oper_within_P at hp
  refine brb (fun c_1 => ?_) (fun c_1 => ?_)
  ·
    replace hp := cT c_1 hp
    refine asrt hp ?_
    exact h _ ((ctrue c_1) : oper_within_F t0 at1 = _).symm
  ·
    clear hp
    exact h _ ((cfalse c_1) : oper_within_F t0 at1 = _).symm
def oper_within_C (v : valsA oper_within_A) (K : Res → List Cell → Prop) : Prop := oper_within_P v.1 v.2.1 ∧ ∀ r : Bool, r = oper_within_F v.1 v.2.1 → K (.one (.v (.bool) r)) []
def oper_within_S : App := specW oper_within_A oper_within_C
theorem oper_within_wv (K : Res → List Cell → Prop) : ∀ v : valsA oper_within_A, runF tb (getG oper_within_G) [] Tryd.f63 [true] (mkA oper_within_A v) K = oper_within_raw v.1 v.2.1 K
  | (t0, at1, ()) => oper_within_walk t0 at1 K
set_option maxRecDepth 20000 in
theorem oper_within_ok : AppOk Tryd.prog 63 oper_within_S :=
  AppOk.specW (spec_ok ((runF_ok tb_M tb_ok oper_within_Gok (LabsOk.nil) (f := 63) (fn := Tryd.f63) (by kernel_rfl) (by kernel_rfl) (by kernel_rfl) [true])) fun v K hw h => (oper_within_wv K v).mpr (oper_within_sp v.1 v.2.1 K hw h.1 h.2))

end Go.VE
namespace Go.VE
open Go Go.Proofs
/-! ### quoin/oper.Put -/
def oper_Put_G : List (Nat × App) := [(59, oper_outside_S), (60, bytes_Clone_S), (61, bytes_HasSuffix_S), (62, bytes_Repeat_S), (63, oper_within_S), (64, oper_edited_S), (43, bytes_IndexByte_S), (65, lines_Of_S), (31, lines_Start_S), (67, oper_with_S), (66, lines_First_S)]
theorem oper_Put_Gok : GOk Tryd.prog (getG oper_Put_G) := GOk.cons oper_outside_ok (GOk.cons bytes_Clone_ok (GOk.cons bytes_HasSuffix_ok (GOk.cons bytes_Repeat_ok (GOk.cons oper_within_ok (GOk.cons oper_edited_ok (GOk.cons bytes_IndexByte_ok (GOk.cons lines_Of_ok (GOk.cons lines_Start_ok (GOk.cons oper_with_ok (GOk.cons lines_First_ok (GOk.nil)))))))))))
theorem oper_Put_st : storesC (bodyOf Tryd.f21) = true := by kernel_rfl
def oper_Put_d0 : List LS := [.v 0 (.sl (.int .u8)), .v 1 (.int .i64), .b 10 80 [], .o 12 101 5 (.int .u8), .o 13 109 5 (.int .u8), .c 80 (.st (.pair (.sl (.st (.pair (.int .i64) (.pair (.sl (.int .u8)) (.sl (.int .u8)))))) (.pair (.int .i64) (.pair (.st (.pair (.bool) (.pair (.bool) (.sl (.int .u8))))) (.pair (.int .i64) (.bool))))))]
def oper_Put_d0r : List LS := [.b 10 80 [], .v 11 (.int .i64), .c 80 (.st (.pair (.sl (.st (.pair (.int .i64) (.pair (.sl (.int .u8)) (.sl (.int .u8)))))) (.pair (.int .i64) (.pair (.st (.pair (.bool) (.pair (.bool) (.sl (.int .u8))))) (.pair (.int .i64) (.bool))))))]
def oper_Put_dx0 : DX := ⟨none, some oper_Put_d0r, []⟩
def oper_Put_J0 (kr : Int → (List ((Int × List Int × List Int)) × Int × (Bool × Bool × List Int) × Int × Bool) → Prop) (t0 : List Int) (at1 : Int) (p12 : List Int) (all13 : List Int) (x10b : (List ((Int × List Int × List Int)) × Int × (Bool × Bool × List Int) × Int × Bool)) : Prop :=
 oper_edited_P t0 at1 at1 all13 ∧ (
 ∀ (r6 : List ((Int × List Int × List Int))), r6 = oper_edited_F t0 at1 at1 all13 → (
 wfR (.one (.fr 95 (.st (.pair (.int .i64) (.pair (.sl (.int .u8)) (.sl (.int .u8))))) r6)) → (
 ∀ (r7 : Int), r7 = bytes_IndexByte_F p12 (10 : Int) → (
 wfR (.one (.v (.int .i64) r7)) → (
 bif (decide ((0 : Int) ≤ r7)) then
 kr (0 : Int) (r6, at1, (false, false, ([] : List Int)), (0 : Int), false)
 else
 kr (0 : Int) (r6, (IntKind.wrap .i64 ((IntKind.wrap .i64 (at1 + (List.length all13 : Int))) - (1 : Int))), (false, false, ([] : List Int)), (0 : Int), false))))))
theorem oper_Put_s0 (k : Ex → St → Prop) (t0 : List Int) (at1 : Int) (p12 : List Int) (all13 : List Int) (x10b : (List ((Int × List Int × List Int)) × Int × (Bool × Bool × List Int) × Int × Bool)) :
    ex tb (getG oper_Put_G) [] (at' (bodyOf Tryd.f21) [1, 1, 0, 1, 0, 1, 1, 1, 1, 1, 1, 1]) [1, 1, 0, 1, 0, 1, 1, 1, 1, 1, 1, 1] (mkD 130 oper_Put_d0 (t0, at1, p12, all13, x10b, ())) (wk 130 oper_Put_dx0 k) =
    oper_Put_J0 (fun x11 x10b => wfD oper_Put_d0r (x11, x10b, ()) → k .ret (mkD 130 oper_Put_d0r (x11, x10b, ()))) t0 at1 p12 all13 x10b := by kernel_rfl
theorem oper_Put_v0 (k : Ex → St → Prop) : ∀ v : vals oper_Put_d0, ex tb (getG oper_Put_G) [] (at' (bodyOf Tryd.f21) [1, 1, 0, 1, 0, 1, 1, 1, 1, 1, 1, 1]) [1, 1, 0, 1, 0, 1, 1, 1, 1, 1, 1, 1] (mkD 130 oper_Put_d0 v) (wk 130 oper_Put_dx0 k) = oper_Put_J0 (fun x11 x10b => wfD oper_Put_d0r (x11, x10b, ()) → k .ret (mkD 130 oper_Put_d0r (x11, x10b, ()))) v.1 v.2.1 v.2.2.1 v.2.2.2.1 v.2.2.2.2.1
  | (t0, at1, p12, all13, x10b, ()) => oper_Put_s0 k t0 at1 p12 all13 x10b
def oper_Put_X0 : Pce := fun st k => ckD 130 oper_Put_d0 st fun v => wfD oper_Put_d0 v → oper_Put_J0 (fun x11 x10b => wfD oper_Put_d0r (x11, x10b, ()) → k .ret (mkD 130 oper_Put_d0r (x11, x10b, ()))) v.1 v.2.1 v.2.2.1 v.2.2.2.1 v.2.2.2.2.1
set_option maxRecDepth 20000 in
theorem oper_Put_x0 : SemOk Tryd.prog (at' (bodyOf Tryd.f21) [1, 1, 0, 1, 0, 1, 1, 1, 1, 1, 1, 1]) oper_Put_X0 :=
  (SemOk.wk (N := 130) (ds := oper_Put_d0) (dx := oper_Put_dx0) (ex_sound tb_M tb_ok oper_Put_Gok (LabsOk.nil) (at' (bodyOf Tryd.f21) [1, 1, 0, 1, 0, 1, 1, 1, 1, 1, 1, 1]) [1, 1, 0, 1, 0, 1, 1, 1, 1, 1, 1, 1] rfl (storesC_at oper_Put_st [1, 1, 0, 1, 0, 1, 1, 1, 1, 1, 1, 1]))).mono fun st k h => ckD_mono h fun v hv hw => Eq.mpr (oper_Put_v0 k v) (hv hw)
def oper_Put_B0 : Labs := ([1, 1, 0, 1, 0, 1, 1, 1, 1, 1, 1, 1], oper_Put_X0) :: []
theorem oper_Put_b0 : LabsOk Tryd.prog (bodyOf Tryd.f21) oper_Put_B0 := LabsOk.cons oper_Put_x0 (LabsOk.nil)
def oper_Put_d1 : List LS := [.v 0 (.sl (.int .u8)), .b 10 80 [], .o 13 109 5 (.int .u8), .v 15 (.int .i64), .v 17 (.int .i64), .c 80 (.st (.pair (.sl (.st (.pair (.int .i64) (.pair (.sl (.int .u8)) (.sl (.int .u8)))))) (.pair (.int .i64) (.pair (.st (.pair (.bool) (.pair (.bool) (.sl (.int .u8))))) (.pair (.int .i64) (.bool))))))]
def oper_Put_d1r : List LS := [.b 10 80 [], .v 11 (.int .i64), .c 80 (.st (.pair (.sl (.st (.pair (.int .i64) (.pair (.sl (.int .u8)) (.sl (.int .u8)))))) (.pair (.int .i64) (.pair (.st (.pair (.bool) (.pair (.bool) (.sl (.int .u8))))) (.pair (.int .i64) (.bool))))))]
def oper_Put_dx1 : DX := ⟨none, some oper_Put_d1r, []⟩
def oper_Put_J1 (kr : Int → (List ((Int × List Int × List Int)) × Int × (Bool × Bool × List Int) × Int × Bool) → Prop) (t0 : List Int) (all13 : List Int) (line15 : Int) (place17 : Int) (x10b : (List ((Int × List Int × List Int)) × Int × (Bool × Bool × List Int) × Int × Bool)) : Prop :=
 oper_edited_P t0 place17 place17 all13 ∧ (
 ∀ (r10 : List ((Int × List Int × List Int))), r10 = oper_edited_F t0 place17 place17 all13 → (
 wfR (.one (.fr 95 (.st (.pair (.int .i64) (.pair (.sl (.int .u8)) (.sl (.int .u8))))) r10)) → (
 oper_with_P t0 r10 ∧ (
 ∀ (r11 : List Int), r11 = oper_with_F t0 r10 → (
 wfR (.one (.fr 5 (.int .u8) r11)) → (
 ∀ (r12 : Int × Int), r12 = lines_First_F r11 line15 → (
 wfR (.tup [.v (.int .i64) r12.1, .v (.int .i64) r12.2]) → (
 kr (0 : Int) (r10, r12.1, (false, false, ([] : List Int)), (0 : Int), false)))))))))
theorem oper_Put_s1 (k : Ex → St → Prop) (t0 : List Int) (all13 : List Int) (line15 : Int) (place17 : Int) (x10b : (List ((Int × List Int × List Int)) × Int × (Bool × Bool × List Int) × Int × Bool)) :
    ex tb (getG oper_Put_G) oper_Put_B0 (at' (bodyOf Tryd.f21) [1, 1, 1, 1, 1, 1, 1, 1, 1, 1, 1, 1]) [1, 1, 1, 1, 1, 1, 1, 1, 1, 1, 1, 1] (mkD 130 oper_Put_d1 (t0, all13, line15, place17, x10b, ())) (wk 130 oper_Put_dx1 k) =
    oper_Put_J1 (fun x11 x10b => wfD oper_Put_d1r (x11, x10b, ()) → k .ret (mkD 130 oper_Put_d1r (x11, x10b, ()))) t0 all13 line15 place17 x10b := by kernel_rfl
theorem oper_Put_v1 (k : Ex → St → Prop) : ∀ v : vals oper_Put_d1, ex tb (getG oper_Put_G) oper_Put_B0 (at' (bodyOf Tryd.f21) [1, 1, 1, 1, 1, 1, 1, 1, 1, 1, 1, 1]) [1, 1, 1, 1, 1, 1, 1, 1, 1, 1, 1, 1] (mkD 130 oper_Put_d1 v) (wk 130 oper_Put_dx1 k) = oper_Put_J1 (fun x11 x10b => wfD oper_Put_d1r (x11, x10b, ()) → k .ret (mkD 130 oper_Put_d1r (x11, x10b, ()))) v.1 v.2.1 v.2.2.1 v.2.2.2.1 v.2.2.2.2.1
  | (t0, all13, line15, place17, x10b, ()) => oper_Put_s1 k t0 all13 line15 place17 x10b
def oper_Put_X1 : Pce := fun st k => ckD 130 oper_Put_d1 st fun v => wfD oper_Put_d1 v → oper_Put_J1 (fun x11 x10b => wfD oper_Put_d1r (x11, x10b, ()) → k .ret (mkD 130 oper_Put_d1r (x11, x10b, ()))) v.1 v.2.1 v.2.2.1 v.2.2.2.1 v.2.2.2.2.1
set_option maxRecDepth 20000 in
theorem oper_Put_x1 : SemOk Tryd.prog (at' (bodyOf Tryd.f21) [1, 1, 1, 1, 1, 1, 1, 1, 1, 1, 1, 1]) oper_Put_X1 :=
  (SemOk.wk (N := 130) (ds := oper_Put_d1) (dx := oper_Put_dx1) (ex_sound tb_M tb_ok oper_Put_Gok (oper_Put_b0) (at' (bodyOf Tryd.f21) [1, 1, 1, 1, 1, 1, 1, 1, 1, 1, 1, 1]) [1, 1, 1, 1, 1, 1, 1, 1, 1, 1, 1, 1] rfl (storesC_at oper_Put_st [1, 1, 1, 1, 1, 1, 1, 1, 1, 1, 1, 1]))).mono fun st k h => ckD_mono h fun v hv hw => Eq.mpr (oper_Put_v1 k v) (hv hw)
def oper_Put_B1 : Labs := ([1, 1, 1, 1, 1, 1, 1, 1, 1, 1, 1, 1], oper_Put_X1) :: oper_Put_B0
theorem oper_Put_b1 : LabsOk Tryd.prog (bodyOf Tryd.f21) oper_Put_B1 := LabsOk.cons oper_Put_x1 (oper_Put_b0)
def oper_Put_d2 : List LS := [.v 0 (.sl (.int .u8)), .b 10 80 [], .o 13 109 5 (.int .u8), .v 15 (.int .i64), .c 80 (.st (.pair (.sl (.st (.pair (.int .i64) (.pair (.sl (.int .u8)) (.sl (.int .u8)))))) (.pair (.int .i64) (.pair (.st (.pair (.bool) (.pair (.bool) (.sl (.int .u8))))) (.pair (.int .i64) (.bool))))))]
def oper_Put_d2r : List LS := [.b 10 80 [], .v 11 (.int .i64), .c 80 (.st (.pair (.sl (.st (.pair (.int .i64) (.pair (.sl (.int .u8)) (.sl (.int .u8)))))) (.pair (.int .i64) (.pair (.st (.pair (.bool) (.pair (.bool) (.sl (.int .u8))))) (.pair (.int .i64) (.bool))))))]
def oper_Put_dx2 : DX := ⟨none, some oper_Put_d2r, []⟩
def oper_Put_J2 (kr : Int → (List ((Int × List Int × List Int)) × Int × (Bool × Bool × List Int) × Int × Bool) → Prop) (t0 : List Int) (all13 : List Int) (line15 : Int) (x10b : (List ((Int × List Int × List Int)) × Int × (Bool × Bool × List Int) × Int × Bool)) : Prop :=
 ∀ (r9 : Int × Int), r9 = lines_Start_F t0 line15 → (
 wfR (.tup [.v (.int .i64) r9.1, .v (.int .i64) r9.2]) → (
 bif (!decide (r9.2 = (0 : Int))) then
 bif decide (0 ≤ (IntKind.wrap .i64 ((List.length all13 : Int) - (1 : Int))) ∧ (IntKind.wrap .i64 ((List.length all13 : Int) - (1 : Int))) ≤ (List.length all13 : Int)) then
 bif decide (List.length ([(10 : Int)] : List Int) + List.length (List.take (Int.toNat (IntKind.wrap .i64 ((List.length all13 : Int) - (1 : Int)))) all13) ≤ lim) then
 (wfD oper_Put_d1 (t0, (([(10 : Int)] : List Int) ++ (List.take (Int.toNat (IntKind.wrap .i64 ((List.length all13 : Int) - (1 : Int)))) all13)), line15, (List.length t0 : Int), x10b, ()) → oper_Put_J1 (fun (x11 : Int) (x10b : (List ((Int × List Int × List Int)) × Int × (Bool × Bool × List Int) × Int × Bool)) => wfD oper_Put_d1r (x11, x10b, ()) → (
 kr x11 x10b)) t0 (([(10 : Int)] : List Int) ++ (List.take (Int.toNat (IntKind.wrap .i64 ((List.length all13 : Int) - (1 : Int)))) all13)) line15 (List.length t0 : Int) x10b)
 else False
 else False
 else
 (wfD oper_Put_d1 (t0, all13, line15, r9.1, x10b, ()) → oper_Put_J1 (fun (x11 : Int) (x10b : (List ((Int × List Int × List Int)) × Int × (Bool × Bool × List Int) × Int × Bool)) => wfD oper_Put_d1r (x11, x10b, ()) → (
 kr x11 x10b)) t0 all13 line15 r9.1 x10b)))
theorem oper_Put_s2 (k : Ex → St → Prop) (t0 : List Int) (all13 : List Int) (line15 : Int) (x10b : (List ((Int × List Int × List Int)) × Int × (Bool × Bool × List Int) × Int × Bool)) :
    ex tb (getG oper_Put_G) oper_Put_B1 (at' (bodyOf Tryd.f21) [1, 1, 1, 1, 1, 1, 1, 1, 1, 1]) [1, 1, 1, 1, 1, 1, 1, 1, 1, 1] (mkD 130 oper_Put_d2 (t0, all13, line15, x10b, ())) (wk 130 oper_Put_dx2 k) =
    oper_Put_J2 (fun x11 x10b => wfD oper_Put_d2r (x11, x10b, ()) → k .ret (mkD 130 oper_Put_d2r (x11, x10b, ()))) t0 all13 line15 x10b := by kernel_rfl
theorem oper_Put_v2 (k : Ex → St → Prop) : ∀ v : vals oper_Put_d2, ex tb (getG oper_Put_G) oper_Put_B1 (at' (bodyOf Tryd.f21) [1, 1, 1, 1, 1, 1, 1, 1, 1, 1]) [1, 1, 1, 1, 1, 1, 1, 1, 1, 1] (mkD 130 oper_Put_d2 v) (wk 130 oper_Put_dx2 k) = oper_Put_J2 (fun x11 x10b => wfD oper_Put_d2r (x11, x10b, ()) → k .ret (mkD 130 oper_Put_d2r (x11, x10b, ()))) v.1 v.2.1 v.2.2.1 v.2.2.2.1
  | (t0, all13, line15, x10b, ()) => oper_Put_s2 k t0 all13 line15 x10b
def oper_Put_X2 : Pce := fun st k => ckD 130 oper_Put_d2 st fun v => wfD oper_Put_d2 v → oper_Put_J2 (fun x11 x10b => wfD oper_Put_d2r (x11, x10b, ()) → k .ret (mkD 130 oper_Put_d2r (x11, x10b, ()))) v.1 v.2.1 v.2.2.1 v.2.2.2.1
set_option maxRecDepth 20000 in
theorem oper_Put_x2 : SemOk Tryd.prog (at' (bodyOf Tryd.f21) [1, 1, 1, 1, 1, 1, 1, 1, 1, 1]) oper_Put_X2 :=
  (SemOk.wk (N := 130) (ds := oper_Put_d2) (dx := oper_Put_dx2) (ex_sound tb_M tb_ok oper_Put_Gok (oper_Put_b1) (at' (bodyOf Tryd.f21) [1, 1, 1, 1, 1, 1, 1, 1, 1, 1]) [1, 1, 1, 1, 1, 1, 1, 1, 1, 1] rfl (storesC_at oper_Put_st [1, 1, 1, 1, 1, 1, 1, 1, 1, 1]))).mono fun st k h => ckD_mono h fun v hv hw => Eq.mpr (oper_Put_v2 k v) (hv hw)
def oper_Put_B2 : Labs := ([1, 1, 1, 1, 1, 1, 1, 1, 1, 1], oper_Put_X2) :: oper_Put_B1
theorem oper_Put_b2 : LabsOk Tryd.prog (bodyOf Tryd.f21) oper_Put_B2 := LabsOk.cons oper_Put_x2 (oper_Put_b1)
def oper_Put_d3 : List LS := [.v 0 (.sl (.int .u8)), .v 1 (.int .i64), .v 2 (.int .i64), .v 4 (.bool), .b 8 64 [], .b 10 80 [], .o 12 101 5 (.int .u8), .c 64 (.st (.pair (.bool) (.pair (.bool) (.sl (.int .u8))))), .c 80 (.st (.pair (.sl (.st (.pair (.int .i64) (.pair (.sl (.int .u8)) (.sl (.int .u8)))))) (.pair (.int .i64) (.pair (.st (.pair (.bool) (.pair (.bool) (.sl (.int .u8))))) (.pair (.int .i64) (.bool))))))]
def oper_Put_d3r : List LS := [.b 10 80 [], .v 11 (.int .i64), .c 80 (.st (.pair (.sl (.st (.pair (.int .i64) (.pair (.sl (.int .u8)) (.sl (.int .u8)))))) (.pair (.int .i64) (.pair (.st (.pair (.bool) (.pair (.bool) (.sl (.int .u8))))) (.pair (.int .i64) (.bool))))))]
def oper_Put_dx3 : DX := ⟨none, some oper_Put_d3r, []⟩
def oper_Put_J3 (kr : Int → (List ((Int × List Int × List Int)) × Int × (Bool × Bool × List Int) × Int × Bool) → Prop) (t0 : List Int) (at1 : Int) (count2 : Int) (ahead4 : Bool) (p12 : List Int) (rv8b : (Bool × Bool × List Int)) (x10b : (List ((Int × List Int × List Int)) × Int × (Bool × Bool × List Int) × Int × Bool)) : Prop :=
 bif (decide ((65536 : Int) < (IntKind.wrap .i64 ((List.length p12 : Int) * count2)))) then
 kr (1 : Int) (([] : List ((Int × List Int × List Int))), (0 : Int), (false, false, ([] : List Int)), (0 : Int), false)
 else
 bytes_Repeat_P p12 count2 ∧ (
 ∀ (r4 : List Int), r4 = bytes_Repeat_F p12 count2 → (
 wfR (.one (.fr 5 (.int .u8) r4)) → (
 bif (!rv8b.2.1) then
 bif (decide ((List.length r4 : Int) = (0 : Int))) then
 kr (0 : Int) (([] : List ((Int × List Int × List Int))), at1, (false, false, ([] : List Int)), (0 : Int), false)
 else
 bif (!ahead4) then
 oper_within_P t0 at1 ∧ (
 ∀ (r5 : Bool), r5 = oper_within_F t0 at1 → (
 wfR (.one (.v (.bool) r5)) → (
 bif r5 then
 (wfD oper_Put_d0 (t0, (IntKind.wrap .i64 (at1 + (1 : Int))), p12, r4, x10b, ()) → oper_Put_J0 (fun (x11 : Int) (x10b : (List ((Int × List Int × List Int)) × Int × (Bool × Bool × List Int) × Int × Bool)) => wfD oper_Put_d0r (x11, x10b, ()) → (
 kr x11 x10b)) t0 (IntKind.wrap .i64 (at1 + (1 : Int))) p12 r4 x10b)
 else
 (wfD oper_Put_d0 (t0, at1, p12, r4, x10b, ()) → oper_Put_J0 (fun (x11 : Int) (x10b : (List ((Int × List Int × List Int)) × Int × (Bool × Bool × List Int) × Int × Bool)) => wfD oper_Put_d0r (x11, x10b, ()) → (
 kr x11 x10b)) t0 at1 p12 r4 x10b))))
 else
 (wfD oper_Put_d0 (t0, at1, p12, r4, x10b, ()) → oper_Put_J0 (fun (x11 : Int) (x10b : (List ((Int × List Int × List Int)) × Int × (Bool × Bool × List Int) × Int × Bool)) => wfD oper_Put_d0r (x11, x10b, ()) → (
 kr x11 x10b)) t0 at1 p12 r4 x10b)
 else
 lines_Of_P t0 at1 ∧ (
 ∀ (r8 : Int × Int), r8 = lines_Of_F t0 at1 → (
 wfR (.tup [.v (.int .i64) r8.1, .v (.int .i64) r8.2]) → (
 bif (!ahead4) then
 (wfD oper_Put_d2 (t0, r4, (IntKind.wrap .i64 (r8.1 + (1 : Int))), x10b, ()) → oper_Put_J2 (fun (x11 : Int) (x10b : (List ((Int × List Int × List Int)) × Int × (Bool × Bool × List Int) × Int × Bool)) => wfD oper_Put_d2r (x11, x10b, ()) → (
 kr x11 x10b)) t0 r4 (IntKind.wrap .i64 (r8.1 + (1 : Int))) x10b)
 else
 (wfD oper_Put_d2 (t0, r4, r8.1, x10b, ()) → oper_Put_J2 (fun (x11 : Int) (x10b : (List ((Int × List Int × List Int)) × Int × (Bool × Bool × List Int) × Int × Bool)) => wfD oper_Put_d2r (x11, x10b, ()) → (
 kr x11 x10b)) t0 r4 r8.1 x10b)))))))
theorem oper_Put_s3 (k : Ex → St → Prop) (t0 : List Int) (at1 : Int) (count2 : Int) (ahead4 : Bool) (p12 : List Int) (rv8b : (Bool × Bool × List Int)) (x10b : (List ((Int × List Int × List Int)) × Int × (Bool × Bool × List Int) × Int × Bool)) :
    ex tb (getG oper_Put_G) oper_Put_B2 (at' (bodyOf Tryd.f21) [1, 1, 1, 1, 1]) [1, 1, 1, 1, 1] (mkD 130 oper_Put_d3 (t0, at1, count2, ahead4, p12, rv8b, x10b, ())) (wk 130 oper_Put_dx3 k) =
    oper_Put_J3 (fun x11 x10b => wfD oper_Put_d3r (x11, x10b, ()) → k .ret (mkD 130 oper_Put_d3r (x11, x10b, ()))) t0 at1 count2 ahead4 p12 rv8b x10b := by kernel_rfl
theorem oper_Put_v3 (k : Ex → St → Prop) : ∀ v : vals oper_Put_d3, ex tb (getG oper_Put_G) oper_Put_B2 (at' (bodyOf Tryd.f21) [1, 1, 1, 1, 1]) [1, 1, 1, 1, 1] (mkD 130 oper_Put_d3 v) (wk 130 oper_Put_dx3 k) = oper_Put_J3 (fun x11 x10b => wfD oper_Put_d3r (x11, x10b, ()) → k .ret (mkD 130 oper_Put_d3r (x11, x10b, ()))) v.1 v.2.1 v.2.2.1 v.2.2.2.1 v.2.2.2.2.1 v.2.2.2.2.2.1 v.2.2.2.2.2.2.1
  | (t0, at1, count2, ahead4, p12, rv8b, x10b, ()) => oper_Put_s3 k t0 at1 count2 ahead4 p12 rv8b x10b
def oper_Put_X3 : Pce := fun st k => ckD 130 oper_Put_d3 st fun v => wfD oper_Put_d3 v → oper_Put_J3 (fun x11 x10b => wfD oper_Put_d3r (x11, x10b, ()) → k .ret (mkD 130 oper_Put_d3r (x11, x10b, ()))) v.1 v.2.1 v.2.2.1 v.2.2.2.1 v.2.2.2.2.1 v.2.2.2.2.2.1 v.2.2.2.2.2.2.1
set_option maxRecDepth 20000 in
theorem oper_Put_x3 : SemOk Tryd.prog (at' (bodyOf Tryd.f21) [1, 1, 1, 1, 1]) oper_Put_X3 :=
  (SemOk.wk (N := 130) (ds := oper_Put_d3) (dx := oper_Put_dx3) (ex_sound tb_M tb_ok oper_Put_Gok (oper_Put_b2) (at' (bodyOf Tryd.f21) [1, 1, 1, 1, 1]) [1, 1, 1, 1, 1] rfl (storesC_at oper_Put_st [1, 1, 1, 1, 1]))).mono fun st k h => ckD_mono h fun v hv hw => Eq.mpr (oper_Put_v3 k v) (hv hw)
def oper_Put_B3 : Labs := ([1, 1, 1, 1, 1], oper_Put_X3) :: oper_Put_B2
theorem oper_Put_b3 : LabsOk Tryd.prog (bodyOf Tryd.f21) oper_Put_B3 := LabsOk.cons oper_Put_x3 (oper_Put_b2)
def oper_Put_raw (t0 : List Int) (at1 : Int) (count2 : Int) (rv3 : (Bool × Bool × List Int)) (ahead4 : Bool) (K : Res → List Cell → Prop) : Prop :=
 ∀ (r1 : Bool), r1 = oper_outside_F t0 at1 count2 (1 : Int) → (
 wfR (.one (.v (.bool) r1)) → (
 bif r1 then
 K (.tup [.v (.st (.pair (.sl (.st (.pair (.int .i64) (.pair (.sl (.int .u8)) (.sl (.int .u8)))))) (.pair (.int .i64) (.pair (.st (.pair (.bool) (.pair (.bool) (.sl (.int .u8))))) (.pair (.int .i64) (.bool)))))) (([] : List ((Int × List Int × List Int))), (0 : Int), (false, false, ([] : List Int)), (0 : Int), false), .v (.int .i64) (2 : Int)]) []
 else
 bif (!rv3.1) then
 K (.tup [.v (.st (.pair (.sl (.st (.pair (.int .i64) (.pair (.sl (.int .u8)) (.sl (.int .u8)))))) (.pair (.int .i64) (.pair (.st (.pair (.bool) (.pair (.bool) (.sl (.int .u8))))) (.pair (.int .i64) (.bool)))))) (([] : List ((Int × List Int × List Int))), (0 : Int), (false, false, ([] : List Int)), (0 : Int), false), .v (.int .i64) (151 : Int)]) []
 else
 bytes_Clone_P rv3.2.2 ∧ (
 ∀ (r2 : List Int), r2 = bytes_Clone_F rv3.2.2 → (
 wfR (.one (.fr 5 (.int .u8) r2)) → (
 bif rv3.2.1 then
 bytes_HasSuffix_P r2 ([(10 : Int)] : List Int) ∧ (
 ∀ (r3 : Bool), r3 = bytes_HasSuffix_F r2 ([(10 : Int)] : List Int) → (
 wfR (.one (.v (.bool) r3)) → (
 bif (!r3) then
 bif decide (List.length r2 + List.length ([(10 : Int)] : List Int) ≤ lim) then
 (wfD oper_Put_d3 (t0, at1, count2, ahead4, (r2 ++ ([(10 : Int)] : List Int)), rv3, (([] : List ((Int × List Int × List Int))), (0 : Int), (false, false, ([] : List Int)), (0 : Int), false), ()) → oper_Put_J3 (fun (x11 : Int) (x10b : (List ((Int × List Int × List Int)) × Int × (Bool × Bool × List Int) × Int × Bool)) => wfD oper_Put_d3r (x11, x10b, ()) → (
 K (.tup [.v (.st (.pair (.sl (.st (.pair (.int .i64) (.pair (.sl (.int .u8)) (.sl (.int .u8)))))) (.pair (.int .i64) (.pair (.st (.pair (.bool) (.pair (.bool) (.sl (.int .u8))))) (.pair (.int .i64) (.bool)))))) x10b, .v (.int .i64) x11]) [])) t0 at1 count2 ahead4 (r2 ++ ([(10 : Int)] : List Int)) rv3 (([] : List ((Int × List Int × List Int))), (0 : Int), (false, false, ([] : List Int)), (0 : Int), false))
 else False
 else
 (wfD oper_Put_d3 (t0, at1, count2, ahead4, r2, rv3, (([] : List ((Int × List Int × List Int))), (0 : Int), (false, false, ([] : List Int)), (0 : Int), false), ()) → oper_Put_J3 (fun (x11 : Int) (x10b : (List ((Int × List Int × List Int)) × Int × (Bool × Bool × List Int) × Int × Bool)) => wfD oper_Put_d3r (x11, x10b, ()) → (
 K (.tup [.v (.st (.pair (.sl (.st (.pair (.int .i64) (.pair (.sl (.int .u8)) (.sl (.int .u8)))))) (.pair (.int .i64) (.pair (.st (.pair (.bool) (.pair (.bool) (.sl (.int .u8))))) (.pair (.int .i64) (.bool)))))) x10b, .v (.int .i64) x11]) [])) t0 at1 count2 ahead4 r2 rv3 (([] : List ((Int × List Int × List Int))), (0 : Int), (false, false, ([] : List Int)), (0 : Int), false)))))
 else
 (wfD oper_Put_d3 (t0, at1, count2, ahead4, r2, rv3, (([] : List ((Int × List Int × List Int))), (0 : Int), (false, false, ([] : List Int)), (0 : Int), false), ()) → oper_Put_J3 (fun (x11 : Int) (x10b : (List ((Int × List Int × List Int)) × Int × (Bool × Bool × List Int) × Int × Bool)) => wfD oper_Put_d3r (x11, x10b, ()) → (
 K (.tup [.v (.st (.pair (.sl (.st (.pair (.int .i64) (.pair (.sl (.int .u8)) (.sl (.int .u8)))))) (.pair (.int .i64) (.pair (.st (.pair (.bool) (.pair (.bool) (.sl (.int .u8))))) (.pair (.int .i64) (.bool)))))) x10b, .v (.int .i64) x11]) [])) t0 at1 count2 ahead4 r2 rv3 (([] : List ((Int × List Int × List Int))), (0 : Int), (false, false, ([] : List Int)), (0 : Int), false)))))))
def oper_Put_A : List AS := [.v (.sl (.int .u8)), .v (.int .i64), .v (.int .i64), .v (.st (.pair (.bool) (.pair (.bool) (.sl (.int .u8))))), .v (.bool)]
theorem oper_Put_walk (t0 : List Int) (at1 : Int) (count2 : Int) (rv3 : (Bool × Bool × List Int)) (ahead4 : Bool) (K : Res → List Cell → Prop) : runF tb (getG oper_Put_G) oper_Put_B3 Tryd.f21 [true, true] (mkA oper_Put_A (t0, at1, count2, rv3, ahead4, ())) K = oper_Put_raw t0 at1 count2 rv3 ahead4 K := by kernel_rfl

def oper_Put_J0_P (t0 : List Int) (at1 : Int) (p12 : List Int) (all13 : List Int) (x10b : (List ((Int × List Int × List Int)) × Int × (Bool × Bool × List Int) × Int × Bool)) : Prop :=
 oper_edited_P t0 at1 at1 all13
def oper_Put_J0_F (t0 : List Int) (at1 : Int) (p12 : List Int) (all13 : List Int) (x10b : (List ((Int × List Int × List Int)) × Int × (Bool × Bool × List Int) × Int × Bool)) : Int × (List ((Int × List Int × List Int)) × Int × (Bool × Bool × List Int) × Int × Bool) :=
 let r6 : List ((Int × List Int × List Int)) := oper_edited_F t0 at1 at1 all13
 let r7 : Int := bytes_IndexByte_F p12 (10 : Int)
 bif (decide ((0 : Int) ≤ r7)) then
 ((0 : Int), (r6, at1, (false, false, ([] : List Int)), (0 : Int), false))
 else
 ((0 : Int), (r6, (IntKind.wrap .i64 ((IntKind.wrap .i64 (at1 + (List.length all13 : Int))) - (1 : Int))), (false, false, ([] : List Int)), (0 : Int), false))
set_option maxRecDepth 20000 in
theorem oper_Put_J0_sp (kr : Int → (List ((Int × List Int × List Int)) × Int × (Bool × Bool × List Int) × Int × Bool) → Prop) (t0 : List Int) (at1 : Int) (p12 : List Int) (all13 : List Int) (x10b : (List ((Int × List Int × List Int)) × Int × (Bool × Bool × List Int) × Int × Bool)) (hp : oper_Put_J0_P t0 at1 p12 all13 x10b) (hr : ∀ q : Int × (List ((Int × List Int × List Int)) × Int × (Bool × Bool × List Int) × Int × Bool), q = oper_Put_J0_F t0 at1 p12 all13 x10b → kr q.1 q.2) : oper_Put_J0 kr t0 at1 p12 all13 x10b := by
  unfold oper_Put_J0
  unfold oper_Put_J0_P at hp
  refine ⟨hp, ?_⟩
  intro r6 hr6
  subst r6
  intro _
  intro r7 hr7
  subst r7
  intro _
  refine brb (fun c_1 => ?_) (fun c_1 => ?_)
  ·
    have e := hr _ ((ctrue c_1) : oper_Put_J0_F t0 at1 p12 all13 x10b = _).symm
    exact e
  ·
    have e := hr _ ((cfalse c_1) : oper_Put_J0_F t0 at1 p12 all13 x10b = _).symm
    exact e
def oper_Put_J1_P (t0 : List Int) (all13 : List Int) (line15 : Int) (place17 : Int) (x10b : (List ((Int × List Int × List Int)) × Int × (Bool × Bool × List Int) × Int × Bool)) : Prop :=
 oper_edited_P t0 place17 place17 all13 ∧ (
 let r10 : List ((Int × List Int × List Int)) := oper_edited_F t0 place17 place17 all13
 oper_with_P t0 r10)
def oper_Put_J1_F (t0 : List Int) (all13 : List Int) (line15 : Int) (place17 : Int) (x10b : (List ((Int × List Int × List Int)) × Int × (Bool × Bool × List Int) × Int × Bool)) : Int × (List ((Int × List Int × List Int)) × Int × (Bool × Bool × List Int) × Int × Bool) :=
 let r10 : List ((Int × List Int × List Int)) := oper_edited_F t0 place17 place17 all13
 let r11 : List Int := oper_with_F t0 r10
 let r12 : Int × Int := lines_First_F r11 line15
 ((0 : Int), (r10, r12.1, (false, false, ([] : List Int)), (0 : Int), false))
set_option maxRecDepth 20000 in
theorem oper_Put_J1_sp (kr : Int → (List ((Int × List Int × List Int)) × Int × (Bool × Bool × List Int) × Int × Bool) → Prop) (t0 : List Int) (all13 : List Int) (line15 : Int) (place17 : Int) (x10b : (List ((Int × List Int × List Int)) × Int × (Bool × Bool × List Int) × Int × Bool)) (hp : oper_Put_J1_P t0 all13 line15 place17 x10b) (hr : ∀ q : Int × (List ((Int × List Int × List Int)) × Int × (Bool × Bool × List Int) × Int × Bool), q = oper_Put_J1_F t0 all13 line15 place17 x10b → kr q.1 q.2) : oper_Put_J1 kr t0 all13 line15 place17 x10b := by
  unfold oper_Put_J1
  unfold oper_Put_J1_P at hp
  refine ⟨hp.1, ?_⟩
  replace hp := hp.2
  intro r10 hr10
  subst r10
  intro _
  refine ⟨hp, ?_⟩
  intro r11 hr11
  subst r11
  intro _
  intro r12 hr12
  subst r12
  intro _
  exact hr _ rfl
def oper_Put_J2_P (t0 : List Int) (all13 : List Int) (line15 : Int) (x10b : (List ((Int × List Int × List Int)) × Int × (Bool × Bool × List Int) × Int × Bool)) : Prop :=
 let r9 : Int × Int := lines_Start_F t0 line15
 bif (!decide (r9.2 = (0 : Int))) then
 (0 ≤ (IntKind.wrap .i64 ((List.length all13 : Int) - (1 : Int))) ∧ (IntKind.wrap .i64 ((List.length all13 : Int) - (1 : Int))) ≤ (List.length all13 : Int)) ∧ (
 (List.length ([(10 : Int)] : List Int) + List.length (List.take (Int.toNat (IntKind.wrap .i64 ((List.length all13 : Int) - (1 : Int)))) all13) ≤ lim) ∧ (
 oper_Put_J1_P t0 (([(10 : Int)] : List Int) ++ (List.take (Int.toNat (IntKind.wrap .i64 ((List.length all13 : Int) - (1 : Int)))) all13)) line15 (List.length t0 : Int) x10b))
 else
 oper_Put_J1_P t0 all13 line15 r9.1 x10b
def oper_Put_J2_F (t0 : List Int) (all13 : List Int) (line15 : Int) (x10b : (List ((Int × List Int × List Int)) × Int × (Bool × Bool × List Int) × Int × Bool)) : Int × (List ((Int × List Int × List Int)) × Int × (Bool × Bool × List Int) × Int × Bool) :=
 let r9 : Int × Int := lines_Start_F t0 line15
 bif (!decide (r9.2 = (0 : Int))) then
 let q1r : Int × (List ((Int × List Int × List Int)) × Int × (Bool × Bool × List Int) × Int × Bool) := oper_Put_J1_F t0 (([(10 : Int)] : List Int) ++ (List.take (Int.toNat (IntKind.wrap .i64 ((List.length all13 : Int) - (1 : Int)))) all13)) line15 (List.length t0 : Int) x10b
 let x11 : Int := q1r.1
 let x10b : (List ((Int × List Int × List Int)) × Int × (Bool × Bool × List Int) × Int × Bool) := q1r.2
 (x11, x10b)
 else
 let q1r : Int × (List ((Int × List Int × List Int)) × Int × (Bool × Bool × List Int) × Int × Bool) := oper_Put_J1_F t0 all13 line15 r9.1 x10b
 let x11 : Int := q1r.1
 let x10b : (List ((Int × List Int × List Int)) × Int × (Bool × Bool × List Int) × Int × Bool) := q1r.2
 (x11, x10b)
set_option maxRecDepth 20000 in
theorem oper_Put_J2_sp (kr : Int → (List ((Int × List Int × List Int)) × Int × (Bool × Bool × List Int) × Int × Bool) → Prop) (t0 : List Int) (all13 : List Int) (line15 : Int) (x10b : (List ((Int × List Int × List Int)) × Int × (Bool × Bool × List Int) × Int × Bool)) (hp : oper_Put_J2_P t0 all13 line15 x10b) (hr : ∀ q : Int × (List ((Int × List Int × List Int)) × Int × (Bool × Bool × List Int) × Int × Bool), q = oper_Put_J2_F t0 all13 line15 x10b → kr q.1 q.2) : oper_Put_J2 kr t0 all13 line15 x10b := by
  unfold oper_Put_J2
  unfold oper_Put_J2_P at hp
  intro r9 hr9
  subst r9
  intro _
  refine brb (fun c_2 => ?_) (fun c_2 => ?_)
  ·
    replace hp := cT c_2 hp
    refine asrt hp.1 ?_
    replace hp := hp.2
    refine asrt hp.1 ?_
    replace hp := hp.2
    refine fun _ => oper_Put_J1_sp _ _ _ _ _ _ hp (fun q hq => ?_)
    subst hq
    intro _
    clear hp
    have e := hr _ ((ctrue c_2) : oper_Put_J2_F t0 all13 line15 x10b = _).symm
    exact e
  ·
    replace hp := cF c_2 hp
    refine fun _ => oper_Put_J1_sp _ _ _ _ _ _ hp (fun q hq => ?_)
    subst hq
    intro _
    clear hp
    have e := hr _ ((cfalse c_2) : oper_Put_J2_F t0 all13 line15 x10b = _).symm
    exact e
def oper_Put_J3_P (t0 : List Int) (at1 : Int) (count2 : Int) (ahead4 : Bool) (p12 : List Int) (rv8b : (Bool × Bool × List Int)) (x10b : (List ((Int × List Int × List Int)) × Int × (Bool × Bool × List Int) × Int × Bool)) : Prop :=
 bif (decide ((65536 : Int) < (IntKind.wrap .i64 ((List.length p12 : Int) * count2)))) then
 True
 else
 bytes_Repeat_P p12 count2 ∧ (
 let r4 : List Int := bytes_Repeat_F p12 count2
 bif (!rv8b.2.1) then
 bif (decide ((List.length r4 : Int) = (0 : Int))) then
 True
 else
 bif (!ahead4) then
 oper_within_P t0 at1 ∧ (
 let r5 : Bool := oper_within_F t0 at1
 bif r5 then
 oper_Put_J0_P t0 (IntKind.wrap .i64 (at1 + (1 : Int))) p12 r4 x10b
 else
 oper_Put_J0_P t0 at1 p12 r4 x10b)
 else
 oper_Put_J0_P t0 at1 p12 r4 x10b
 else
 lines_Of_P t0 at1 ∧ (
 let r8 : Int × Int := lines_Of_F t0 at1
 bif (!ahead4) then
 oper_Put_J2_P t0 r4 (IntKind.wrap .i64 (r8.1 + (1 : Int))) x10b
 else
 oper_Put_J2_P t0 r4 r8.1 x10b))
def oper_Put_J3_F (t0 : List Int) (at1 : Int) (count2 : Int) (ahead4 : Bool) (p12 : List Int) (rv8b : (Bool × Bool × List Int)) (x10b : (List ((Int × List Int × List Int)) × Int × (Bool × Bool × List Int) × Int × Bool)) : Int × (List ((Int × List Int × List Int)) × Int × (Bool × Bool × List Int) × Int × Bool) :=
 bif (decide ((65536 : Int) < (IntKind.wrap .i64 ((List.length p12 : Int) * count2)))) then
 ((1 : Int), (([] : List ((Int × List Int × List Int))), (0 : Int), (false, false, ([] : List Int)), (0 : Int), false))
 else
 let r4 : List Int := bytes_Repeat_F p12 count2
 bif (!rv8b.2.1) then
 bif (decide ((List.length r4 : Int) = (0 : Int))) then
 ((0 : Int), (([] : List ((Int × List Int × List Int))), at1, (false, false, ([] : List Int)), (0 : Int), false))
 else
 bif (!ahead4) then
 let r5 : Bool := oper_within_F t0 at1
 bif r5 then
 let q0r : Int × (List ((Int × List Int × List Int)) × Int × (Bool × Bool × List Int) × Int × Bool) := oper_Put_J0_F t0 (IntKind.wrap .i64 (at1 + (1 : Int))) p12 r4 x10b
 let x11 : Int := q0r.1
 let x10b : (List ((Int × List Int × List Int)) × Int × (Bool × Bool × List Int) × Int × Bool) := q0r.2
 (x11, x10b)
 else
 let q0r : Int × (List ((Int × List Int × List Int)) × Int × (Bool × Bool × List Int) × Int × Bool) := oper_Put_J0_F t0 at1 p12 r4 x10b
 let x11 : Int := q0r.1
 let x10b : (List ((Int × List Int × List Int)) × Int × (Bool × Bool × List Int) × Int × Bool) := q0r.2
 (x11, x10b)
 else
 let q0r : Int × (List ((Int × List Int × List Int)) × Int × (Bool × Bool × List Int) × Int × Bool) := oper_Put_J0_F t0 at1 p12 r4 x10b
 let x11 : Int := q0r.1
 let x10b : (List ((Int × List Int × List Int)) × Int × (Bool × Bool × List Int) × Int × Bool) := q0r.2
 (x11, x10b)
 else
 let r8 : Int × Int := lines_Of_F t0 at1
 bif (!ahead4) then
 let q2r : Int × (List ((Int × List Int × List Int)) × Int × (Bool × Bool × List Int) × Int × Bool) := oper_Put_J2_F t0 r4 (IntKind.wrap .i64 (r8.1 + (1 : Int))) x10b
 let x11 : Int := q2r.1
 let x10b : (List ((Int × List Int × List Int)) × Int × (Bool × Bool × List Int) × Int × Bool) := q2r.2
 (x11, x10b)
 else
 let q2r : Int × (List ((Int × List Int × List Int)) × Int × (Bool × Bool × List Int) × Int × Bool) := oper_Put_J2_F t0 r4 r8.1 x10b
 let x11 : Int := q2r.1
 let x10b : (List ((Int × List Int × List Int)) × Int × (Bool × Bool × List Int) × Int × Bool) := q2r.2
 (x11, x10b)
set_option maxRecDepth 20000 in
theorem oper_Put_J3_sp (kr : Int → (List ((Int × List Int × List Int)) × Int × (Bool × Bool × List Int) × Int × Bool) → Prop) (t0 : List Int) (at1 : Int) (count2 : Int) (ahead4 : Bool) (p12 : List Int) (rv8b : (Bool × Bool × List Int)) (x10b : (List ((Int × List Int × List Int)) × Int × (Bool × Bool × List Int) × Int × Bool)) (hp : oper_Put_J3_P t0 at1 count2 ahead4 p12 rv8b x10b) (hr : ∀ q : Int × (List ((Int × List Int × List Int)) × Int × (Bool × Bool × List Int) × Int × Bool), q = oper_Put_J3_F t0 at1 count2 ahead4 p12 rv8b x10b → kr q.1 q.2) : oper_Put_J3 kr t0 at1 count2 ahead4 p12 rv8b x10b := by
  unfold oper_Put_J3
  unfold oper_Put_J3_P at hp
  refine brb (fun c_3 => ?_) (fun c_3 => ?_)
  ·
    clear hp
    have e := hr _ ((ctrue c_3) : oper_Put_J3_F t0 at1 count2 ahead4 p12 rv8b x10b = _).symm
    exact e
  ·
    replace hp := cF c_3 hp
    refine ⟨hp.1, ?_⟩
    replace hp := hp.2
    intro r4 hr4
    subst r4
    intro _
    refine brb (fun c_4 => ?_) (fun c_4 => ?_)
    ·
      replace hp := cT c_4 hp
      refine brb (fun c_5 => ?_) (fun c_5 => ?_)
      ·
        clear hp
        have e := hr _ ((Eq.trans (cfalse c_3) (Eq.trans (ctrue c_4) (ctrue c_5))) : oper_Put_J3_F t0 at1 count2 ahead4 p12 rv8b x10b = _).symm
        exact e
      ·
        replace hp := cF c_5 hp
        refine brb (fun c_6 => ?_) (fun c_6 => ?_)
        ·
          replace hp := cT c_6 hp
          refine ⟨hp.1, ?_⟩
          replace hp := hp.2
          intro r5 hr5
          subst r5
          intro _
          refine brb (fun c_7 => ?_) (fun c_7 => ?_)
          ·
            replace hp := cT c_7 hp
            refine fun _ => oper_Put_J0_sp _ _ _ _ _ _ hp (fun q hq => ?_)
            subst hq
            intro _
            clear hp
            have e := hr _ ((Eq.trans (cfalse c_3) (Eq.trans (ctrue c_4) (Eq.trans (cfalse c_5) (Eq.trans (ctrue c_6) (ctrue c_7))))) : oper_Put_J3_F t0 at1 count2 ahead4 p12 rv8b x10b = _).symm
            exact e
          ·
            replace hp := cF c_7 hp
            refine fun _ => oper_Put_J0_sp _ _ _ _ _ _ hp (fun q hq => ?_)
            subst hq
            intro _
            clear hp
            have e := hr _ ((Eq.trans (cfalse c_3) (Eq.trans (ctrue c_4) (Eq.trans (cfalse c_5) (Eq.trans (ctrue c_6) (cfalse c_7))))) : oper_Put_J3_F t0 at1 count2 ahead4 p12 rv8b x10b = _).symm
            exact e
        ·
          replace hp := cF c_6 hp
          refine fun _ => oper_Put_J0_sp _ _ _ _ _ _ hp (fun q hq => ?_)
          subst hq
          intro _
          clear hp
          have e := hr _ ((Eq.trans (cfalse c_3) (Eq.trans (ctrue c_4) (Eq.trans (cfalse c_5) (cfalse c_6)))) : oper_Put_J3_F t0 at1 count2 ahead4 p12 rv8b x10b = _).symm
          exact e
    ·
      replace hp := cF c_4 hp
      refine ⟨hp.1, ?_⟩
      replace hp := hp.2
      intro r8 hr8
      subst r8
      intro _
      refine brb (fun c_8 => ?_) (fun c_8 => ?_)
      ·
        replace hp := cT c_8 hp
        refine fun _ => oper_Put_J2_sp _ _ _ _ _ hp (fun q hq => ?_)
        subst hq
        intro _
        clear hp
        have e := hr _ ((Eq.trans (cfalse c_3) (Eq.trans (cfalse c_4) (ctrue c_8))) : oper_Put_J3_F t0 at1 count2 ahead4 p12 rv8b x10b = _).symm
        exact e
      ·
        replace hp := cF c_8 hp
        refine fun _ => oper_Put_J2_sp _ _ _ _ _ hp (fun q hq => ?_)
        subst hq
        intro _
        clear hp
        have e := hr _ ((Eq.trans (cfalse c_3) (Eq.trans (cfalse c_4) (cfalse c_8))) : oper_Put_J3_F t0 at1 count2 ahead4 p12 rv8b x10b = _).symm
        exact e
def oper_Put_P (t0 : List Int) (at1 : Int) (count2 : Int) (rv3 : (Bool × Bool × List Int)) (ahead4 : Bool) : Prop :=
 let r1 : Bool := oper_outside_F t0 at1 count2 (1 : Int)
 bif r1 then
 True
 else
 bif (!rv3.1) then
 True
 else
 bytes_Clone_P rv3.2.2 ∧ (
 let r2 : List Int := bytes_Clone_F rv3.2.2
 bif rv3.2.1 then
 bytes_HasSuffix_P r2 ([(10 : Int)] : List Int) ∧ (
 let r3 : Bool := bytes_HasSuffix_F r2 ([(10 : Int)] : List Int)
 bif (!r3) then
 (List.length r2 + List.length ([(10 : Int)] : List Int) ≤ lim) ∧ (
 oper_Put_J3_P t0 at1 count2 ahead4 (r2 ++ ([(10 : Int)] : List Int)) rv3 (([] : List ((Int × List Int × List Int))), (0 : Int), (false, false, ([] : List Int)), (0 : Int), false))
 else
 oper_Put_J3_P t0 at1 count2 ahead4 r2 rv3 (([] : List ((Int × List Int × List Int))), (0 : Int), (false, false, ([] : List Int)), (0 : Int), false))
 else
 oper_Put_J3_P t0 at1 count2 ahead4 r2 rv3 (([] : List ((Int × List Int × List Int))), (0 : Int), (false, false, ([] : List Int)), (0 : Int), false))
def oper_Put_F (t0 : List Int) (at1 : Int) (count2 : Int) (rv3 : (Bool × Bool × List Int)) (ahead4 : Bool) : (List ((Int × List Int × List Int)) × Int × (Bool × Bool × List Int) × Int × Bool) × Int :=
 let r1 : Bool := oper_outside_F t0 at1 count2 (1 : Int)
 bif r1 then
 ((([] : List ((Int × List Int × List Int))), (0 : Int), (false, false, ([] : List Int)), (0 : Int), false), (2 : Int))
 else
 bif (!rv3.1) then
 ((([] : List ((Int × List Int × List Int))), (0 : Int), (false, false, ([] : List Int)), (0 : Int), false), (151 : Int))
 else
 let r2 : List Int := bytes_Clone_F rv3.2.2
 bif rv3.2.1 then
 let r3 : Bool := bytes_HasSuffix_F r2 ([(10 : Int)] : List Int)
 bif (!r3) then
 let q3r : Int × (List ((Int × List Int × List Int)) × Int × (Bool × Bool × List Int) × Int × Bool) := oper_Put_J3_F t0 at1 count2 ahead4 (r2 ++ ([(10 : Int)] : List Int)) rv3 (([] : List ((Int × List Int × List Int))), (0 : Int), (false, false, ([] : List Int)), (0 : Int), false)
 let x11 : Int := q3r.1
 let x10b : (List ((Int × List Int × List Int)) × Int × (Bool × Bool × List Int) × Int × Bool) := q3r.2
 (x10b, x11)
 else
 let q3r : Int × (List ((Int × List Int × List Int)) × Int × (Bool × Bool × List Int) × Int × Bool) := oper_Put_J3_F t0 at1 count2 ahead4 r2 rv3 (([] : List ((Int × List Int × List Int))), (0 : Int), (false, false, ([] : List Int)), (0 : Int), false)
 let x11 : Int := q3r.1
 let x10b : (List ((Int × List Int × List Int)) × Int × (Bool × Bool × List Int) × Int × Bool) := q3r.2
 (x10b, x11)
 else
 let q3r : Int × (List ((Int × List Int × List Int)) × Int × (Bool × Bool × List Int) × Int × Bool) := oper_Put_J3_F t0 at1 count2 ahead4 r2 rv3 (([] : List ((Int × List Int × List Int))), (0 : Int), (false, false, ([] : List Int)), (0 : Int), false)
 let x11 : Int := q3r.1
 let x10b : (List ((Int × List Int × List Int)) × Int × (Bool × Bool × List Int) × Int × Bool) := q3r.2
 (x10b, x11)
set_option maxRecDepth 20000 in
theorem oper_Put_sp (t0 : List Int) (at1 : Int) (count2 : Int) (rv3 : (Bool × Bool × List Int)) (ahead4 : Bool) (K : Res → List Cell → Prop) (_ : wfA oper_Put_A (t0, at1, count2, rv3, ahead4, ())) (hp : oper_Put_P t0 at1 count2 rv3 ahead4) (h : ∀ r : (List ((Int × List Int × List Int)) × Int × (Bool × Bool × List Int) × Int × Bool) × Int, r = oper_Put_F t0 at1 count2 rv3 ahead4 → K (.tup [.v (.st (.pair (.sl (.st (.pair (.int .i64) (.pair (.sl (.int .u8)) (.sl (.int .u8)))))) (.pair (.int .i64) (.pair (.st (.pair (.bool) (.pair (.bool) (.sl (.int .u8))))) (.pair (.int .i64) (.bool)))))) r.1, .v (.int .i64) r.2]) []) : oper_Put_raw t0 at1 count2 rv3 ahead4 K := by
  unfold oper_Put_raw
  unfold oper_Put_P at hp
  intro r1 hr1
  subst r1
  intro _
  refine brb (fun c_9 => ?_) (fun c_9 => ?_)
  ·
    clear hp
    have e := h _ ((ctrue c_9) : oper_Put_F t0 at1 count2 rv3 ahead4 = _).symm
    exact e
  ·
    replace hp := cF c_9 hp
    refine brb (fun c_10 => ?_) (fun c_10 => ?_)
    ·
      clear hp
      have e := h _ ((Eq.trans (cfalse c_9) (ctrue c_10)) : oper_Put_F t0 at1 count2 rv3 ahead4 = _).symm
      exact e
    ·
      replace hp := cF c_10 hp
      refine ⟨hp.1, ?_⟩
      replace hp := hp.2
      intro r2 hr2
      subst r2
      intro _
      refine brb (fun c_11 => ?_) (fun c_11 => ?_)
      ·
        replace hp := cT c_11 hp
        refine ⟨hp.1, ?_⟩
        replace hp := hp.2
        intro r3 hr3
        subst r3
        intro _
        refine brb (fun c_12 => ?_) (fun c_12 => ?_)
        ·
          replace hp := cT c_12 hp
          refine asrt hp.1 ?_
          replace hp := hp.2
          refine fun _ => oper_Put_J3_sp _ _ _ _ _ _ _ _ hp (fun q hq => ?_)
          subst hq
          intro _
          clear hp
          have e := h _ ((Eq.trans (cfalse c_9) (Eq.trans (cfalse c_10) (Eq.trans (ctrue c_11) (ctrue c_12)))) : oper_Put_F t0 at1 count2 rv3 ahead4 = _).symm
          exact e
        ·
          replace hp := cF c_12 hp
          refine fun _ => oper_Put_J3_sp _ _ _ _ _ _ _ _ hp (fun q hq => ?_)
          subst hq
          intro _
          clear hp
          have e := h _ ((Eq.trans (cfalse c_9) (Eq.trans (cfalse c_10) (Eq.trans (ctrue c_11) (cfalse c_12)))) : oper_Put_F t0 at1 count2 rv3 ahead4 = _).symm
          exact e
      ·
        replace hp := cF c_11 hp
        refine fun _ => oper_Put_J3_sp _ _ _ _ _ _ _ _ hp (fun q hq => ?_)
        subst hq
        intro _
        clear hp
        have e := h _ ((Eq.trans (cfalse c_9) (Eq.trans (cfalse c_10) (cfalse c_11))) : oper_Put_F t0 at1 count2 rv3 ahead4 = _).symm
        exact e
def oper_Put_C (v : valsA oper_Put_A) (K : Res → List Cell → Prop) : Prop := oper_Put_P v.1 v.2.1 v.2.2.1 v.2.2.2.1 v.2.2.2.2.1 ∧ ∀ r : (List ((Int × List Int × List Int)) × Int × (Bool × Bool × List Int) × Int × Bool) × Int, r = oper_Put_F v.1 v.2.1 v.2.2.1 v.2.2.2.1 v.2.2.2.2.1 → K (.tup [.v (.st (.pair (.sl (.st (.pair (.int .i64) (.pair (.sl (.int .u8)) (.sl (.int .u8)))))) (.pair (.int .i64) (.pair (.st (.pair (.bool) (.pair (.bool) (.sl (.int .u8))))) (.pair (.int .i64) (.bool)))))) r.1, .v (.int .i64) r.2]) []
def oper_Put_S : App := specW oper_Put_A oper_Put_C
theorem oper_Put_wv (K : Res → List Cell → Prop) : ∀ v : valsA oper_Put_A, runF tb (getG oper_Put_G) oper_Put_B3 Tryd.f21 [true, true] (mkA oper_Put_A v) K = oper_Put_raw v.1 v.2.1 v.2.2.1 v.2.2.2.1 v.2.2.2.2.1 K
  | (t0, at1, count2, rv3, ahead4, ()) => oper_Put_walk t0 at1 count2 rv3 ahead4 K
set_option maxRecDepth 20000 in
theorem oper_Put_ok : AppOk Tryd.prog 21 oper_Put_S :=
  AppOk.specW (spec_ok ((runF_ok tb_M tb_ok oper_Put_Gok (oper_Put_b3) (f := 21) (fn := Tryd.f21) (by kernel_rfl) (by kernel_rfl) oper_Put_st [true, true])) fun v K hw h => (oper_Put_wv K v).mpr (oper_Put_sp v.1 v.2.1 v.2.2.1 v.2.2.2.1 v.2.2.2.2.1 K hw h.1 h.2))

end Go.VE
namespace Go.VE
open Go Go.Proofs
/-! ### quoin/quoinlaw19.place -/
def quoinlaw19_place_G : List (Nat × App) := []
theorem quoinlaw19_place_Gok : GOk Tryd.prog (getG quoinlaw19_place_G) := GOk.nil
def quoinlaw19_place_raw (i0 : Int) (n1 : Int) (K : Res → List Cell → Prop) : Prop :=
 bif (decide (i0 < (0 : Int))) then
 bif decide (n1 ≠ 0) then
 K (.one (.v (.int .i64) (Int.tmod (IntKind.wrap .i64 (0 - (IntKind.wrap .i64 (i0 + (1 : Int))))) n1))) []
 else False
 else
 bif decide (n1 ≠ 0) then
 K (.one (.v (.int .i64) (Int.tmod i0 n1))) []
 else False
def quoinlaw19_place_A : List AS := [.v (.int .i64), .v (.int .i64)]
theorem quoinlaw19_place_walk (i0 : Int) (n1 : Int) (K : Res → List Cell → Prop) : runF tb (getG quoinlaw19_place_G) [] Tryd.f27 [true] (mkA quoinlaw19_place_A (i0, n1, ())) K = quoinlaw19_place_raw i0 n1 K := by kernel_rfl

def quoinlaw19_place_P (i0 : Int) (n1 : Int) : Prop :=
 bif (decide (i0 < (0 : Int))) then
 (n1 ≠ 0)
 else
 (n1 ≠ 0)
def quoinlaw19_place_F (i0 : Int) (n1 : Int) : Int :=
 bif (decide (i0 < (0 : Int))) then
 (Int.tmod (IntKind.wrap .i64 (0 - (IntKind.wrap .i64 (i0 + (1 : Int))))) n1)
 else
 (Int.tmod i0 n1)
set_option maxRecDepth 20000 in
theorem quoinlaw19_place_sp (i0 : Int) (n1 : Int) (K : Res → List Cell → Prop) (_ : wfA quoinlaw19_place_A (i0, n1, ())) (hp : quoinlaw19_place_P i0 n1) (h : ∀ r : Int, r = quoinlaw19_place_F i0 n1 → K (.one (.v (.int .i64) r)) []) : quoinlaw19_place_raw i0 n1 K := by
  unfold quoinlaw19_place_raw
  unfold quoinlaw19_place_P at hp
  refine brb (fun c_1 => ?_) (fun c_1 => ?_)
  ·
    replace hp := cT c_1 hp
    refine asrt hp ?_
    exact h _ ((ctrue c_1) : quoinlaw19_place_F i0 n1 = _).symm
  ·
    replace hp := cF c_1 hp
    refine asrt hp ?_
    exact h _ ((cfalse c_1) : quoinlaw19_place_F i0 n1 = _).symm
def quoinlaw19_place_C (v : valsA quoinlaw19_place_A) (K : Res → List Cell → Prop) : Prop := quoinlaw19_place_P v.1 v.2.1 ∧ ∀ r : Int, r = quoinlaw19_place_F v.1 v.2.1 → K (.one (.v (.int .i64) r)) []
def quoinlaw19_place_S : App := specW quoinlaw19_place_A quoinlaw19_place_C
theorem quoinlaw19_place_wv (K : Res → List Cell → Prop) : ∀ v : valsA quoinlaw19_place_A, runF tb (getG quoinlaw19_place_G) [] Tryd.f27 [true] (mkA quoinlaw19_place_A v) K = quoinlaw19_place_raw v.1 v.2.1 K
  | (i0, n1, ()) => quoinlaw19_place_walk i0 n1 K
set_option maxRecDepth 20000 in
theorem quoinlaw19_place_ok : AppOk Tryd.prog 27 quoinlaw19_place_S :=
  AppOk.specW (spec_ok ((runF_ok tb_M tb_ok quoinlaw19_place_Gok (LabsOk.nil) (f := 27) (fn := Tryd.f27) (by kernel_rfl) (by kernel_rfl) (by kernel_rfl) [true])) fun v K hw h => (quoinlaw19_place_wv K v).mpr (quoinlaw19_place_sp v.1 v.2.1 K hw h.1 h.2))

end Go.VE
namespace Go.VE
theorem edited_P {t p : List Int} {f g : Int} (h0 : 0 ≤ f) (h1 : f ≤ g) (h2 : g ≤ t.length) (hl : t.length ≤ lim) (hp : p.length ≤ lim) : oper_edited_P t f g p := by
  have hs : (slc t f g).length ≤ lim := by unfold slc; rw [List.length_drop, List.length_take]; omega
  unfold oper_edited_P
  refine ⟨⟨h0, h1, h2⟩, ?_⟩
  dsimp only
  cases bytes_Equal_F (slc t f g) p
  · exact ⟨⟨h0, h1, h2⟩, hs, hp⟩
  · trivial
theorem edited_eq (t : List Int) (f g : Int) (p : List Int) : oper_edited_F t f g p = if slc t f g = p then [] else [(f, slc t f g, p)] := by
  unfold oper_edited_F bytes_Equal_F bytes_Clone_F
  by_cases h : slc t f g = p
  · rw [if_pos h]; dsimp only; rw [decide_eq_true h]; rfl
  · rw [if_neg h]; dsimp only; rw [decide_eq_false h]; rfl
theorem hasP_slc (t : List Int) {f g : Nat} (h1 : f ≤ g) (h2 : g ≤ t.length) (hl : t.length ≤ lim) : bytes_HasPrefix_F (t.drop f) ((t.take g).drop f) = true := by
  unfold bytes_HasPrefix_F
  have e : ((t.take g).drop f).length = g - f := by rw [List.length_drop, List.length_take]; omega
  have e2 : (t.drop f).length = t.length - f := List.length_drop
  dsimp only
  rw [decide_eq_true (by omega), cond_true, e]
  have : List.take (Int.toNat ((g - f : Nat) : Int)) (t.drop f) = (t.take g).drop f := by
    rw [Int.toNat_natCast, List.drop_take]
  rw [this]
  simp [bytes_Equal_F]
theorem apply_one (t p : List Int) {f g : Nat} (h1 : f ≤ g) (h2 : g ≤ t.length) (hl : t.length ≤ lim) : applyL [((f : Int), (t.take g).drop f, p)] t = some (t.take f ++ p ++ t.drop g) := by
  have hp := hasP_slc t h1 h2 hl
  unfold applyL
  rw [if_pos ⟨by omega, by show (f : Int) ≤ _; omega, by simpa using hp⟩]
  unfold applyL slices_Replace_byte_byte_F
  have e : ((t.take g).drop f).length = g - f := by rw [List.length_drop, List.length_take]; omega
  dsimp only
  rw [e, Int.toNat_natCast, show ((f : Int) + ((g - f : Nat) : Int)).toNat = g by omega]
theorem slc_nat (t : List Int) (i j : Nat) : slc t (i : Int) (j : Int) = (t.take j).drop i := by
  unfold slc; simp
theorem mid_same (t : List Int) {f g : Nat} (h1 : f ≤ g) : t.take f ++ (t.take g).drop f ++ t.drop g = t := by
  have : t.take f = (t.take g).take f := by rw [List.take_take, Nat.min_eq_left h1]
  rw [this, List.take_append_drop, List.take_append_drop]
theorem apply_edited (t p : List Int) {f g : Nat} (h1 : f ≤ g) (h2 : g ≤ t.length) (hl : t.length ≤ lim) : change_Apply_F t (oper_edited_F t (f : Int) (g : Int) p) = (t.take f ++ p ++ t.drop g, 0) := by
  rw [edited_eq, slc_nat]
  unfold change_Apply_F
  by_cases h : (t.take g).drop f = p
  · rw [if_pos h, applyL, ← h, mid_same t h1]
  · rw [if_neg h, apply_one t p h1 h2 hl]
theorem news_edited (t p : List Int) (f g : Int) : newsL (oper_edited_F t f g p) ≤ p.length := by
  rw [edited_eq]; split <;> simp [newsL]
theorem apply_P (t p : List Int) (f g : Int) (hl : t.length + p.length ≤ lim) : change_Apply_P t (oper_edited_F t f g p) := by
  have := news_edited t p f g
  unfold change_Apply_P; omega
theorem outside_no {t : List Int} {f : Int} (h0 : 0 ≤ f) (h1 : f ≤ t.length) : oper_outside_F t f 1 1 = false := by
  unfold oper_outside_F
  rw [decide_eq_false (by omega), decide_eq_false (by omega)]; rfl
theorem Count_P (t : List Int) : lines_Count_P t := rfl
theorem spanned_any (t : List Int) (at_ : Int) (r : Int × Int × Bool × Bool) : oper_spanned_P t at_ r := by
  have J1 : ∀ a, oper_spanned_J1_P t at_ a r := fun a => ⟨lines_Of_any _ _, lines_Of_any _ _, Count_P _, rfl, rfl, by simp⟩
  unfold oper_spanned_P
  refine ⟨lines_Of_any _ _, ?_⟩
  dsimp only
  cases !decide ((lines_Of_F t r.1).2 = 0)
  · cases decide (r.2.1 < r.1)
    · cases decide ((t.length : Int) < r.2.1)
      · cases !r.2.2.1
        · cases r.2.2.2
          · exact J1 _
          · exact J1 _
        · exact lines_Of_any _ _
      · trivial
    · trivial
  · trivial
theorem has_yes {t : List Int} {f : Int} (h0 : 0 ≤ f) (h1 : f ≤ t.length) : lines_has_F t f = true := by
  unfold lines_has_F
  rw [decide_eq_true h0, decide_eq_true h1]; rfl
theorem Of_eq {t : List Int} {f : Nat} (h1 : f ≤ t.length) : lines_Of_F t (f : Int) = ((cnt (t.take f) : Int), 0) := by
  unfold lines_Of_F
  rw [has_yes (by omega) (by omega)]
  rfl
theorem spanned_plain {t : List Int} {f g : Nat} (at_ : Int) (h1 : f ≤ g) (h2 : g ≤ t.length) (b : Bool) : (oper_spanned_F t at_ ((f : Int), (g : Int), false, b)).2.2 = true := by
  unfold oper_spanned_F
  rw [Of_eq (by omega)]
  dsimp only
  rw [decide_eq_false (by omega : ¬ (g : Int) < f), decide_eq_false (by omega : ¬ (t.length : Int) < g)]
  rfl
end Go.VE
namespace Go.VE
theorem all_bytes {p : Int → Prop} (h : ∀ n : Nat, n < 256 → p (n : Int)) {c : Int} (hc : 0 ≤ c ∧ c ≤ 255) : p c := by
  have := h c.toNat (by omega)
  rwa [Int.toNat_of_nonneg hc.1] at this
def tgOk : Bool := (List.range 256).all fun n => decide (class_Toggle_F (class_Toggle_F (n : Int)) = (n : Int)) && decide (0 ≤ class_Toggle_F (n : Int)) && decide (class_Toggle_F (n : Int) ≤ 255)
theorem tgOk_yes : tgOk = true := by kernel_rfl
theorem toggle_twice {c : Int} (hc : 0 ≤ c ∧ c ≤ 255) : class_Toggle_F (class_Toggle_F c) = c ∧ 0 ≤ class_Toggle_F c ∧ class_Toggle_F c ≤ 255 := by
  refine all_bytes (p := fun c => class_Toggle_F (class_Toggle_F c) = c ∧ 0 ≤ class_Toggle_F c ∧ class_Toggle_F c ≤ 255) (fun n hn => ?_) hc
  have := List.all_eq_true.1 tgOk_yes n (List.mem_range.2 hn)
  simp only [Bool.and_eq_true, decide_eq_true_eq] at this
  exact ⟨this.1.1, this.1.2, this.2⟩

/-- the text with the bytes from f to g turned -/
def turnL (c : Int → Int) (t : List Int) (f g : Nat) : List Int := t.take f ++ ((t.take g).drop f).map c ++ t.drop g
theorem turnL_length (c : Int → Int) (t : List Int) {f g : Nat} (h1 : f ≤ g) (h2 : g ≤ t.length) : (turnL c t f g).length = t.length := by
  unfold turnL
  simp only [List.length_append, List.length_map, List.length_take, List.length_drop]; omega
theorem turnL_get (c : Int → Int) (t : List Int) {f g i : Nat} (h1 : f ≤ g) (h2 : g ≤ t.length) (hi : i < t.length) : rd (0 : Int) (turnL c t f g) (i : Int) = if i < f ∨ g ≤ i then rd (0 : Int) t (i : Int) else c (rd (0 : Int) t (i : Int)) := by
  have hl := turnL_length c t h1 h2
  rw [rd_nat _ _ _ (by omega), rd_nat _ _ _ hi]
  have lf : (t.take f).length = f := by rw [List.length_take]; omega
  have lm : (((t.take g).drop f).map c).length = g - f := by rw [List.length_map, List.length_drop, List.length_take]; omega
  unfold turnL
  by_cases c1 : i < f
  · rw [if_pos (.inl c1), List.getElem_append_left (by rw [List.length_append]; omega), List.getElem_append_left (by omega), List.getElem_take]
  · by_cases c2 : g ≤ i
    · rw [if_pos (.inr c2), List.getElem_append_right (by rw [List.length_append]; omega), List.getElem_drop]
      congr 1
      rw [List.length_append]; omega
    · rw [if_neg (by omega), List.getElem_append_left (by rw [List.length_append]; omega), List.getElem_append_right (by omega), List.getElem_map, List.getElem_drop, List.getElem_take]
      congr 2
      omega
theorem turnL_range {c : Int → Int} {t : List Int} {f g : Nat} (hb : ∀ x ∈ t, 0 ≤ x ∧ x ≤ 255) (hc : ∀ x, 0 ≤ x ∧ x ≤ 255 → 0 ≤ c x ∧ c x ≤ 255) : ∀ x ∈ turnL c t f g, 0 ≤ x ∧ x ≤ 255 := by
  intro x hx
  unfold turnL at hx
  rcases List.mem_append.1 hx with hx | hx
  · rcases List.mem_append.1 hx with hx | hx
    · exact hb x (List.mem_of_mem_take hx)
    · obtain ⟨y, hy, rfl⟩ := List.mem_map.1 hx
      exact hc y (hb y (List.mem_of_mem_take (List.mem_of_mem_drop hy)))
  · exact hb x (List.mem_of_mem_drop hx)
theorem turnL_twice {t : List Int} {f g : Nat} (h1 : f ≤ g) (h2 : g ≤ t.length) (hb : ∀ x ∈ t, 0 ≤ x ∧ x ≤ 255) : turnL class_Toggle_F (turnL class_Toggle_F t f g) f g = t := by
  have hl := turnL_length class_Toggle_F t h1 h2
  have hl2 := turnL_length class_Toggle_F (turnL class_Toggle_F t f g) h1 (by omega)
  refine List.ext_getElem (by omega) fun i hi1 hi2 => ?_
  have e := turnL_get class_Toggle_F (turnL class_Toggle_F t f g) h1 (by omega) (i := i) (by omega)
  have e2 := turnL_get class_Toggle_F t h1 h2 (i := i) hi2
  rw [rd_nat _ _ _ hi1] at e
  rw [e, e2]
  rw [rd_nat _ _ _ hi2]
  by_cases c : i < f ∨ g ≤ i
  · rw [if_pos c, if_pos c]
  · rw [if_neg c, if_neg c]
    exact (toggle_twice (hb _ (List.getElem_mem hi2))).1

/-- an operator that turns bytes -/
structure Turns (op : List Int) (c : Int → Int) : Prop where
  isOp : op = [103, 126] ∨ op = [103, 117] ∨ op = [103, 85]
  f : ∀ j : Job, opF op j = ((oper_edited_F j.1 j.2.2.1.1 j.2.2.1.2.1 ((slc j.1 j.2.2.1.1 j.2.2.1.2.1).map c), oper_job_stay_F j, (false, false, []), 0, false), 0)
  p : ∀ j : Job, (0 ≤ j.2.2.1.1 ∧ j.2.2.1.1 ≤ j.2.2.1.2.1 ∧ j.2.2.1.2.1 ≤ (j.1.length : Int)) → j.1.length ≤ lim → oper_job_stay_P j → opP op j
theorem slc_le (t : List Int) (f g : Int) : (slc t f g).length ≤ t.length := by
  unfold slc; rw [List.length_drop, List.length_take]; omega
theorem turns_toggle : Turns [103, 126] class_Toggle_F :=
  ⟨.inl rfl, fun j => rfl, fun j h hl hs => ⟨h, hl, edited_P h.1 h.2.1 h.2.2 hl (by rw [List.length_map]; exact Nat.le_trans (slc_le _ _ _) hl), hs⟩⟩
theorem turns_lower : Turns [103, 117] class_Lower_F :=
  ⟨.inr (.inl rfl), fun j => rfl, fun j h hl hs => ⟨h, hl, edited_P h.1 h.2.1 h.2.2 hl (by rw [List.length_map]; exact Nat.le_trans (slc_le _ _ _) hl), hs⟩⟩
theorem turns_upper : Turns [103, 85] class_Upper_F :=
  ⟨.inr (.inr rfl), fun j => rfl, fun j h hl hs => ⟨h, hl, edited_P h.1 h.2.1 h.2.2 hl (by rw [List.length_map]; exact Nat.le_trans (slc_le _ _ _) hl), hs⟩⟩
theorem Turns.do_P {op : List Int} {c : Int → Int} (T : Turns op c) {t : List Int} {f g : Nat} (h1 : f ≤ g) (h2 : g ≤ t.length) (hl : t.length ≤ lim) : oper_Do_P t (f : Int) op ((f : Int), (g : Int), false, false) 1 :=
  ⟨.inr T.isOp, fun _ => ⟨spanned_any _ _ _, fun _ => T.p (t, (f : Int), ((f : Int), (g : Int), false, false), _, _, 1) ⟨by show (0 : Int) ≤ f; omega, by show (f : Int) ≤ g; omega, by show (g : Int) ≤ t.length; omega⟩ hl trivial⟩⟩
theorem Turns.do_none {op : List Int} {c : Int → Int} (T : Turns op c) {t : List Int} {f : Nat} (h2 : f ≤ t.length) : (oper_Do_F t (f : Int) op ((f : Int), (f : Int), false, false) 1).2 = 190 := by
  unfold oper_Do_F doF
  rw [outside_no (by omega) (by omega), spanned_plain _ (Nat.le_refl _) h2]
  rw [if_neg (by simp), if_neg (by simp), if_pos ⟨rfl, .inl ⟨rfl, by rcases T.isOp with e | e | e <;> rw [e] <;> decide⟩⟩]
theorem Turns.do_eq {op : List Int} {c : Int → Int} (T : Turns op c) {t : List Int} {f g : Nat} (h1 : f < g) (h2 : g ≤ t.length) :
    oper_Do_F t (f : Int) op ((f : Int), (g : Int), false, false) 1 = ((oper_edited_F t (f : Int) (g : Int) (((t.take g).drop f).map c), (f : Int), (false, false, []), 0, false), 0) := by
  unfold oper_Do_F doF
  rw [outside_no (by omega) (by omega), spanned_plain _ (by omega) h2]
  rw [if_neg (by simp), if_neg (by simp), if_neg (by show ¬ ((f : Int) = (g : Int) ∧ _); omega), T.f]
  dsimp only
  rw [slc_nat]
  rfl
theorem place_P {i : Int} {n : Nat} (hn : n ≤ 20000) : quoinlaw19_place_P i (IntKind.wrap .i64 ((n : Int) + 1)) := by
  rw [wrap_i64 (by omega) (by omega)]
  unfold quoinlaw19_place_P
  cases decide (i < 0) <;> show _ ≠ _ <;> omega
theorem place_F {i : Int} {n : Nat} (hn : n ≤ 20000) (h1 : -9223372036854775808 ≤ i) (h2 : i ≤ 9223372036854775807) : ∃ k : Nat, quoinlaw19_place_F i (IntKind.wrap .i64 ((n : Int) + 1)) = (k : Int) ∧ k ≤ n := by
  have key : ∀ j : Int, 0 ≤ j → ∃ k : Nat, Int.tmod j ((n : Int) + 1) = (k : Int) ∧ k ≤ n := fun j hj => by
    have g1 := Int.tmod_nonneg ((n : Int) + 1) hj
    have g2 := Int.tmod_lt_of_pos j (show (0 : Int) < (n : Int) + 1 by omega)
    exact ⟨(Int.tmod j ((n : Int) + 1)).toNat, by omega, by omega⟩
  rw [wrap_i64 (n := (n : Int) + 1) (by omega) (by omega)]
  unfold quoinlaw19_place_F
  by_cases c : i < 0
  · rw [decide_eq_true c, cond_true, wrap_i64 (n := i + 1) (by omega) (by omega), wrap_i64 (by omega) (by omega)]
    exact key _ (by omega)
  · rw [decide_eq_false c, cond_false]
    exact key _ (by omega)
end Go.VE
namespace Go.VE
theorem put_J0 {t p all : List Int} {at_ : Int} {x} (h0 : 0 ≤ at_) (h1 : at_ ≤ t.length) (hl : t.length ≤ lim) (ha : all.length ≤ lim) : oper_Put_J0_P t at_ p all x := edited_P h0 (Int.le_refl _) h1 hl ha
theorem put_J1 {t all : List Int} {line place : Int} {x} (h0 : 0 ≤ place) (h1 : place ≤ t.length) (hl : t.length + all.length ≤ lim) : oper_Put_J1_P t all line place x :=
  ⟨edited_P h0 (Int.le_refl _) h1 (by omega) (by omega), apply_P t all place place hl⟩
theorem put_J2 {t all : List Int} {line : Int} {x} (ha : 1 ≤ all.length) (hl : t.length + all.length + 1 ≤ lim) : oper_Put_J2_P t all line x := by
  have hlim : lim = 1099511627776 := rfl
  have hs := lines_Start_F_le t line
  unfold oper_Put_J2_P
  dsimp only
  cases !decide ((lines_Start_F t line).2 = 0)
  · rw [cond_false]; exact put_J1 hs.1 hs.2 (by omega)
  · rw [cond_true, wrap_i64 (by omega) (by omega)]
    have e : (List.take (Int.toNat ((all.length : Int) - 1)) all).length ≤ all.length := by rw [List.length_take]; omega
    refine ⟨by omega, ?_, put_J1 (by omega) (by omega) ?_⟩
    · rw [List.length_singleton]; omega
    · rw [List.length_append, List.length_singleton]; omega
theorem put_J3 {t p : List Int} {at_ count : Int} {ahead : Bool} {r : Bool × Bool × List Int} {x} (h0 : 0 ≤ at_) (h1 : at_ ≤ t.length) (ht : t.length ≤ 4294967296) (hp : p.length < 4294967296) (hc : 1 ≤ count ∧ count ≤ 9999) (hr : r.2.1 = true → 1 ≤ p.length) :
    oper_Put_J3_P t at_ count ahead p r x := by
  have hlim : lim = 1099511627776 := rfl
  have hm : 0 ≤ (p.length : Int) * count := Int.mul_nonneg (by omega) (by omega)
  have hm2 : (p.length : Int) * count ≤ 4294967296 * 9999 := Int.mul_le_mul (by omega) (by omega) (by omega) (by omega)
  unfold oper_Put_J3_P
  rw [wrap_i64 (by omega) (by omega)]
  by_cases c : (65536 : Int) < (p.length : Int) * count
  · rw [decide_eq_true c]; trivial
  · rw [decide_eq_false c, cond_false]
    have hlen : (repB p count.toNat).length = count.toNat * p.length := repB_length p _
    have hcn : ((count.toNat * p.length : Nat) : Int) = (p.length : Int) * count := by
      rw [Int.natCast_mul, Int.toNat_of_nonneg (by omega), Int.mul_comm]
    have hle : (repB p count.toNat).length ≤ 65536 := by omega
    refine ⟨⟨by omega, by omega, hp, by omega⟩, ?_⟩
    dsimp only
    unfold bytes_Repeat_F
    cases hb : r.2.1
    · rw [Bool.not_false, cond_true]
      cases decide (((repB p count.toNat).length : Int) = 0)
      · cases ahead
        · rw [Bool.not_false, cond_false, cond_true]
          refine ⟨?_, ?_⟩
          · unfold oper_within_P
            by_cases c2 : at_ < (t.length : Int)
            · rw [decide_eq_true c2]; exact ⟨h0, c2⟩
            · rw [decide_eq_false c2]; trivial
          · cases hw : oper_within_F t at_
            · rw [cond_false]; exact put_J0 h0 h1 (by omega) (by omega)
            · rw [cond_true]
              have hlt : at_ < (t.length : Int) := by
                unfold oper_within_F at hw
                by_cases c2 : at_ < (t.length : Int)
                · exact c2
                · rw [decide_eq_false c2] at hw; cases hw
              rw [wrap_i64 (by omega) (by omega)]
              exact put_J0 (by omega) (by omega) (by omega) (by omega)
        · show oper_Put_J0_P t at_ p (repB p count.toNat) x
          exact put_J0 h0 h1 (by omega) (by omega)
      · trivial
    · have h3 := hr hb
      have h4 : 1 ≤ (repB p count.toNat).length := by
        rw [hlen]
        exact Nat.mul_pos (by omega) (by omega)
      rw [Bool.not_true, cond_false]
      refine ⟨lines_Of_any _ _, ?_⟩
      cases ahead
      · rw [Bool.not_false, cond_true]; exact put_J2 h4 (by omega)
      · rw [Bool.not_true, cond_false]; exact put_J2 h4 (by omega)
theorem hasSuffix_P (s : List Int) (hs : s.length ≤ lim) : bytes_HasSuffix_P s [10] := by
  have hlim : lim = 1099511627776 := rfl
  unfold bytes_HasSuffix_P
  by_cases c : (List.length ([10] : List Int) : Int) ≤ (s.length : Int)
  · rw [decide_eq_true c]
    rw [List.length_singleton] at *
    show _ ∧ _
    rw [wrap_i64 (by omega) (by omega)]; omega
  · rw [decide_eq_false c]; trivial
theorem hasSuffix_iff (s : List Int) (hs : s.length ≤ lim) : bytes_HasSuffix_F s [10] = true ↔ s.getLast? = some 10 := by
  have hlim : lim = 1099511627776 := rfl
  unfold bytes_HasSuffix_F
  cases s with
  | nil => simp
  | cons a l =>
    rw [decide_eq_true (by simp only [List.length_cons, List.length_nil]; omega), cond_true]
    dsimp only
    rw [List.length_cons, List.length_singleton, wrap_i64 (by rw [List.length_cons] at hs; omega) (by rw [List.length_cons] at hs; omega), show (((l.length + 1 : Nat) : Int) - ((1 : Nat) : Int)).toNat = l.length by omega]
    unfold bytes_Equal_F
    rw [decide_eq_true_eq]
    have : List.drop l.length (a :: l) = [(a :: l).getLast (by simp)] := by
      have e := List.dropLast_concat_getLast (l := a :: l) (by simp)
      conv => lhs; rw [← e]
      rw [List.drop_append_of_le_length (by simp), List.drop_eq_nil_of_le (by simp)]
      rfl
    rw [this, List.getLast?_eq_some_getLast (by simp)]
    simp
theorem put_P {t : List Int} {at_ count : Int} {r : Bool × Bool × List Int} {ahead : Bool} (ht : t.length ≤ 4294967296) (hr : r.2.2.length < 4294967295) : oper_Put_P t at_ count r ahead := by
  have hlim : lim = 1099511627776 := rfl
  unfold oper_Put_P
  dsimp only
  cases ho : oper_outside_F t at_ count 1
  · have hout : 0 ≤ at_ ∧ at_ ≤ t.length ∧ 1 ≤ count ∧ count ≤ 9999 := by
      unfold oper_outside_F at ho
      by_cases c1 : at_ < 0
      · rw [decide_eq_true c1] at ho; cases ho
      · rw [decide_eq_false c1] at ho
        by_cases c2 : (t.length : Int) < at_
        · rw [decide_eq_true c2] at ho; cases ho
        · rw [decide_eq_false c2] at ho
          by_cases c3 : count < 1
          · rw [decide_eq_true c3] at ho; cases ho
          · rw [decide_eq_false c3] at ho
            have c4 : ¬ (9999 : Int) < count := of_decide_eq_false ho
            omega
    rw [cond_false]
    cases !r.1
    · rw [cond_false]
      refine ⟨show _ ≤ lim by omega, ?_⟩
      unfold bytes_Clone_F
      cases hl : r.2.1
      · rw [cond_false]
        exact put_J3 hout.1 hout.2.1 ht (by omega) hout.2.2 (fun e => by rw [hl] at e; cases e)
      · rw [cond_true]
        refine ⟨hasSuffix_P _ (by omega), ?_⟩
        cases hh : bytes_HasSuffix_F r.2.2 [10]
        · rw [Bool.not_false, cond_true]
          refine ⟨by rw [List.length_singleton]; omega, put_J3 hout.1 hout.2.1 ht (by rw [List.length_append, List.length_singleton]; omega) hout.2.2 (fun _ => by rw [List.length_append, List.length_singleton]; omega)⟩
        · rw [Bool.not_true, cond_false]
          refine put_J3 hout.1 hout.2.1 ht (by omega) hout.2.2 (fun _ => ?_)
          have := (hasSuffix_iff r.2.2 (by omega)).1 hh
          cases hq : r.2.2 with
          | nil => rw [hq] at this; cases this
          | cons a l => simp
    · trivial
  · trivial
end Go.VE
namespace Go.VE
theorem take_J0 {text : List Int} {r x} (h : text.length + 1 ≤ lim) : extent_Take_J0_P text r x := by
  have hlim : lim = 1099511627776 := rfl
  unfold extent_Take_J0_P
  refine ⟨show _ ≤ lim by omega, ?_⟩
  unfold slices_Clone_byte_byte_F
  dsimp only
  cases r.2.2.2
  · rw [cond_false]
    by_cases c : (text.length : Int) = 0
    · rw [decide_eq_true c]; show _ ≤ lim; rw [List.length_singleton]; exact h
    · rw [decide_eq_false c, cond_false, wrap_i64 (by omega) (by omega)]
      refine ⟨by omega, ?_⟩
      cases !decide (rd (0 : Int) text ((text.length : Int) - 1) = 10)
      · trivial
      · show _ ≤ lim; rw [List.length_singleton]; exact h
  · show _ ≤ lim; rw [List.length_singleton]; exact h
theorem take_P {t : List Int} (r : Int × Int × Bool × Bool) (hl : t.length + 1 ≤ lim) : extent_Take_P t r := by
  have hlim : lim = 1099511627776 := rfl
  unfold extent_Take_P
  by_cases c1 : r.1 < 0
  · rw [decide_eq_true c1]; trivial
  rw [decide_eq_false c1, cond_false]
  by_cases c2 : r.2.1 < r.1
  · rw [decide_eq_true c2]; trivial
  rw [decide_eq_false c2, cond_false]
  by_cases c3 : (t.length : Int) < r.2.1
  · rw [decide_eq_true c3]; trivial
  rw [decide_eq_false c3, cond_false]
  cases r.2.2.1
  · exact ⟨by omega, show _ ≤ lim from Nat.le_trans (slc_le _ _ _) (by omega)⟩
  · rw [Bool.not_true, cond_false]
    refine ⟨by omega, ?_⟩
    cases r.2.2.2
    · rw [cond_false]
      exact take_J0 (by have := slc_le t r.1 r.2.1; omega)
    · rw [cond_true]
      by_cases c4 : r.1 = (t.length : Int)
      · rw [decide_eq_true c4]; trivial
      · rw [decide_eq_false c4, cond_false]
        refine ⟨by omega, ?_⟩
        cases !decide (rd (0 : Int) t r.1 = 10)
        · rw [cond_false, wrap_i64 (by omega) (by omega)]
          refine ⟨⟨by omega, ?_, ?_⟩, take_J0 (by have := slc_le t (r.1 + 1) (mx (r.1 + 1) r.2.1); omega)⟩
          · unfold mx; by_cases c5 : r.1 + 1 < r.2.1
            · rw [decide_eq_true c5, cond_true]; omega
            · rw [decide_eq_false c5, cond_false]; omega
          · unfold mx; by_cases c5 : r.1 + 1 < r.2.1
            · rw [decide_eq_true c5, cond_true]; omega
            · rw [decide_eq_false c5, cond_false]; omega
        · trivial
theorem deleted_P {j : Job} (h0 : 0 ≤ j.2.2.1.1) (h1 : j.2.2.1.1 ≤ j.2.2.1.2.1) (h2 : j.2.2.1.2.1 ≤ (j.1.length : Int)) (hl : j.1.length + 1 ≤ lim) : oper_job_deleted_P j := by
  unfold oper_job_deleted_P
  refine ⟨edited_P h0 h1 h2 (by omega) (Nat.zero_le _), take_P _ hl, ?_⟩
  dsimp only
  cases j.2.2.1.2.2.1
  · trivial
  · exact ⟨apply_P _ _ _ _ (by simp; omega), Count_P _⟩
theorem At_any (t : List Int) (l c : Int) : lines_At_P t l c := by
  have hs := lines_Start_F_le t l
  unfold lines_At_P
  dsimp only
  cases !decide ((lines_Start_F t l).2 = 0)
  · cases decide (c < -1)
    · exact hs
    · trivial
  · trivial
theorem Column_any (t : List Int) (p : Int) : lines_Column_P t p := by
  unfold lines_Column_P
  dsimp only
  cases h : lines_has_F t p
  · trivial
  · unfold lines_has_F at h
    by_cases c : (0 : Int) ≤ p
    · rw [decide_eq_true c] at h
      exact ⟨c, of_decide_eq_true h⟩
    · rw [decide_eq_false c] at h; cases h
theorem stay_any (j : Job) : oper_job_stay_P j := by
  unfold oper_job_stay_P
  cases j.2.2.1.2.2.1
  · trivial
  · exact ⟨Column_any _ _, At_any _ _ _⟩
theorem spanned_ok {t : List Int} {at_ : Int} {r : Int × Int × Bool × Bool} (h : (oper_spanned_F t at_ r).2.2 = true) : 0 ≤ r.1 ∧ r.1 ≤ r.2.1 ∧ r.2.1 ≤ (t.length : Int) := by
  unfold oper_spanned_F at h
  dsimp only at h
  by_cases c : (lines_Of_F t r.1).2 = 0
  · rw [decide_eq_true c, Bool.not_true, cond_false] at h
    have h0 : 0 ≤ r.1 := by
      unfold lines_Of_F lines_has_F at c
      by_cases c0 : (0 : Int) ≤ r.1
      · exact c0
      · rw [decide_eq_false c0] at c; cases c
    by_cases c1 : r.2.1 < r.1
    · rw [decide_eq_true c1] at h; cases h
    · rw [decide_eq_false c1, cond_false] at h
      by_cases c2 : (t.length : Int) < r.2.1
      · rw [decide_eq_true c2] at h; cases h
      · omega
  · rw [decide_eq_false c] at h; cases h
theorem do_any {t : List Int} {at_ count : Int} {op : List Int} {r : Int × Int × Bool × Bool} (hop : op = [100] ∨ op = [103, 126] ∨ op = [103, 117] ∨ op = [103, 85]) (hl : t.length + 1 ≤ lim) : oper_Do_P t at_ op r count := by
  refine ⟨hop, fun _ => ⟨spanned_any _ _ _, fun h => ?_⟩⟩
  obtain ⟨h0, h1, h2⟩ := spanned_ok h
  rcases hop with e | e | e | e <;> subst e
  · exact deleted_P h0 h1 h2 hl
  · exact turns_toggle.p _ ⟨h0, h1, h2⟩ (show t.length ≤ lim by omega) (stay_any _)
  · exact turns_lower.p _ ⟨h0, h1, h2⟩ (show t.length ≤ lim by omega) (stay_any _)
  · exact turns_upper.p _ ⟨h0, h1, h2⟩ (show t.length ≤ lim by omega) (stay_any _)
end Go.VE
namespace Go.VE
theorem cnt_le (t : List Int) : cnt t ≤ t.length := List.count_le_length
theorem count_eq (t : List Int) : lines_Count_F t = IntKind.wrap .i64 ((cnt t : Int) + 1) := rfl

/-! ### lines, whole -/
theorem whole_mid {t : List Int} {a b pa pe : Nat} (ht : t.length ≤ 16384) (ha : Begins t a pa) (hb : Begins t (b + 1) pe) (hab : a ≤ b) : extent_Whole_F t (a : Int) (b : Int) = (((pa : Int), (pe : Int), true, false), 0) := by
  have hc := hb.cnt_le
  have hcl := cnt_le t
  obtain ⟨pb, hpb⟩ := begins_ex (t := t) (n := b) (by omega)
  unfold extent_Whole_F
  rw [start_at ha, start_at hpb, wrap_i64 (by omega) (by omega), show (b : Int) + 1 = ((b + 1 : Nat) : Int) by omega, start_at hb]
  dsimp only
  rw [decide_eq_false (by omega : ¬ (b : Int) < a)]
  rfl
theorem whole_end {t : List Int} {a pa : Nat} (ht : t.length ≤ 16384) (ha : Begins t a pa) : extent_Whole_F t (a : Int) (cnt t : Int) = if 0 < a then ((((pa - 1 : Nat) : Int), (t.length : Int), true, true), 0) else ((0, (t.length : Int), true, false), 0) := by
  have hc := ha.cnt_le
  have hcl := cnt_le t
  have hp := ha.1
  obtain ⟨pb, hpb⟩ := begins_ex (t := t) (n := cnt t) (Nat.le_refl _)
  unfold extent_Whole_F
  rw [start_at ha, start_at hpb, wrap_i64 (by omega) (by omega), show (cnt t : Int) + 1 = ((cnt t + 1 : Nat) : Int) by omega, start_out (by omega)]
  dsimp only
  rw [decide_eq_false (by omega : ¬ (cnt t : Int) < a), wrap_i64 (by omega) (by omega)]
  by_cases h : 0 < a
  · have := (ha.pos h).1
    rw [if_pos h, decide_eq_true (by omega : (0 : Int) < (a : Int)), show ((pa - 1 : Nat) : Int) = (pa : Int) - 1 by omega]
    rfl
  · rw [if_neg h, decide_eq_false (by omega : ¬ (0 : Int) < (a : Int))]
    rfl
theorem start_nonneg {t : List Int} {n : Int} (h : (lines_Start_F t n).2 = 0) : 0 ≤ n := by
  unfold lines_Start_F at h
  by_cases c : n < 0
  · rw [if_pos c] at h; cases h
  · omega
theorem whole_nonneg {t : List Int} {a b : Int} (h : (extent_Whole_F t a b).2 = 0) : 0 ≤ b := by
  unfold extent_Whole_F at h
  dsimp only at h
  cases c1 : !decide ((lines_Start_F t a).2 = 0)
  · rw [c1, cond_false] at h
    cases c2 : !decide ((lines_Start_F t b).2 = 0)
    · exact start_nonneg (by simpa using c2)
    · rw [c2] at h; cases h
  · rw [c1] at h; cases h
theorem eqT_range (r : Int × Int × Bool × Bool) : eqT (.pair (.int .i64) (.pair (.int .i64) (.pair (.bool) (.bool)))) r r = true := by
  obtain ⟨a, b, c, d⟩ := r
  simp [eqT]
theorem step_keeps {t : List Int} {a here : Int} {r : Int × Int × Bool × Bool} {f : Int} (b : Int) (h : 0 ≤ f) : 0 ≤ spanStep t a here r f b := by
  unfold spanStep
  split
  · rename_i hc; exact whole_nonneg hc.1
  · exact h
theorem step_finds {t : List Int} {a here : Int} {r : Int × Int × Bool × Bool} (f : Int) {b : Int} (hb : 0 ≤ b) (h : extent_Whole_F t a b = (r, 0)) : 0 ≤ spanStep t a here r f b := by
  unfold spanStep
  rw [h]
  by_cases c : 0 ≤ f ∧ here ≤ f
  · rw [if_neg (fun hh => hh.2.2 c)]; exact c.1
  · rw [if_pos ⟨rfl, eqT_range r, c⟩]; exact hb
/-- the lines of a range that is some whole lines' are found -/
theorem spanned_J1 {t : List Int} (ht : t.length ≤ 16384) {at_ a : Int} {r : Int × Int × Bool × Bool} {b : Nat} (h : extent_Whole_F t a (b : Int) = (r, 0)) (hb : (b : Int) = (lines_Of_F t r.2.1).1 - 1 ∨ b = cnt t)
    (hr : (lines_Of_F t r.2.1).1 ≤ 20000 ∧ 0 ≤ (lines_Of_F t r.2.1).1) : (oper_spanned_J1_F t at_ a r).2.2 = true := by
  have hcl := cnt_le t
  unfold oper_spanned_J1_F oper_spanned_L0_F
  dsimp only
  rw [count_eq, wrap_i64 (n := (cnt t : Int) + 1) (by omega) (by omega), wrap_i64 (n := (cnt t : Int) + 1 - 1) (by omega) (by omega), wrap_i64 (by omega) (by omega), show (cnt t : Int) + 1 - 1 = (cnt t : Int) by omega]
  rw [decide_eq_true_eq]
  simp only [List.foldl_cons, List.foldl_nil]
  rcases hb with hb | hb
  · rw [← hb]
    exact step_keeps _ (step_finds _ (by omega) h)
  · subst hb
    exact step_finds _ (by omega) h
theorem spanned_lines {t : List Int} (ht : t.length ≤ 16384) {at_ : Int} {f g : Nat} {lead : Bool} {b : Nat} (h1 : f ≤ g) (h2 : g ≤ t.length)
    (h : extent_Whole_F t (((cnt (t.take f) + (if lead then 1 else 0) : Nat)) : Int) (b : Int) = (((f : Int), (g : Int), true, lead), 0)) (hb : b + 1 = cnt (t.take g) ∨ b = cnt t) : (oper_spanned_F t at_ ((f : Int), (g : Int), true, lead)).2.2 = true := by
  have hof : lines_Of_F t (g : Int) = ((cnt (t.take g) : Int), 0) := Of_eq h2
  have hcg := cnt_take_all t g
  have hcf := cnt_take_all t f
  have hcl := cnt_le t
  have J : ∀ a : Int, a = (((cnt (t.take f) + (if lead then 1 else 0) : Nat)) : Int) → (oper_spanned_J1_F t at_ a ((f : Int), (g : Int), true, lead)).2.2 = true := fun a ha => by
    subst ha
    refine spanned_J1 ht h ?_ ?_
    · rw [hof]; rcases hb with hb | hb
      · exact .inl (by show (b : Int) = (cnt (t.take g) : Int) - 1; omega)
      · exact .inr hb
    · rw [hof]; show (cnt (t.take g) : Int) ≤ 20000 ∧ (0 : Int) ≤ (cnt (t.take g) : Int); omega
  unfold oper_spanned_F
  rw [Of_eq (show f ≤ t.length by omega)]
  dsimp only
  rw [decide_eq_false (by omega : ¬ (g : Int) < f), decide_eq_false (by omega : ¬ (t.length : Int) < g)]
  cases lead
  · show (oper_spanned_J1_F t at_ (cnt (t.take f) : Int) _).2.2 = true
    exact J _ (by rw [if_neg (by simp), Nat.add_zero])
  · show (oper_spanned_J1_F t at_ (IntKind.wrap .i64 ((cnt (t.take f) : Int) + 1)) _).2.2 = true
    exact J _ (by rw [wrap_i64 (by omega) (by omega)]; simp)

/-! ### what is taken out -/
theorem take_plain {t : List Int} {f g : Nat} (lead : Bool) (h1 : f ≤ g) (h2 : g ≤ t.length) : extent_Take_F t ((f : Int), (g : Int), false, lead) = ((true, false, (t.take g).drop f), 0) := by
  unfold extent_Take_F
  dsimp only
  rw [decide_eq_false (by omega : ¬ (f : Int) < 0), decide_eq_false (by omega : ¬ (g : Int) < f), decide_eq_false (by omega : ¬ (t.length : Int) < g), slc_nat]
  rfl
theorem take_J0_ten {text : List Int} {r x} (hl : r.2.2.2 = false) (hs : text.length ≤ lim) (h : text.getLast? = some 10) : extent_Take_J0_F text r x = (0, (true, true, text)) := by
  have hlim : lim = 1099511627776 := rfl
  cases text with
  | nil => cases h
  | cons y l =>
    rw [List.length_cons] at hs
    unfold extent_Take_J0_F slices_Clone_byte_byte_F
    dsimp only
    have e : rd (0 : Int) (y :: l) (IntKind.wrap .i64 (((y :: l).length : Int) - 1)) = 10 := by
      rw [List.length_cons, wrap_i64 (by omega) (by omega), show (((l.length + 1 : Nat) : Int) - 1) = ((l.length : Nat) : Int) by omega, rd_nat _ _ _ (by simp)]
      rw [List.getLast?_eq_getElem?] at h
      simpa using h
    rw [hl, e, decide_eq_false (by rw [List.length_cons]; omega)]
    rfl
theorem take_mid {t : List Int} {f g : Nat} (h1 : f < g) (h2 : g ≤ t.length) (hl : t.length ≤ lim) (h : t[g - 1]? = some 10) : extent_Take_F t ((f : Int), (g : Int), true, false) = ((true, true, (t.take g).drop f), 0) := by
  have hlen : ((t.take g).drop f).length = g - f := by rw [List.length_drop, List.length_take]; omega
  unfold extent_Take_F
  dsimp only
  rw [decide_eq_false (by omega : ¬ (f : Int) < 0), decide_eq_false (by omega : ¬ (g : Int) < f), decide_eq_false (by omega : ¬ (t.length : Int) < g), slc_nat]
  have e := take_J0_ten (text := (t.take g).drop f) (r := ((f : Int), (g : Int), true, false)) (x := (false, false, [])) rfl (by omega) (by
    rw [List.getLast?_eq_getElem?, hlen, List.getElem?_drop, List.getElem?_take_of_lt (by omega), show f + (g - f - 1) = g - 1 by omega]; exact h)
  refine (show _ = ((extent_Take_J0_F ((t.take g).drop f) ((f : Int), (g : Int), true, false) (false, false, [])).2, (extent_Take_J0_F ((t.take g).drop f) ((f : Int), (g : Int), true, false) (false, false, [])).1) from rfl).trans ?_
  rw [e]
theorem take_lead {t : List Int} {f : Nat} (ht : t.length ≤ 16384) (h1 : f < t.length) (h : t[f]? = some 10) : extent_Take_F t ((f : Int), (t.length : Int), true, true) = ((true, true, t.drop (f + 1) ++ [10]), 0) := by
  have e : rd (0 : Int) t (f : Int) = 10 := by
    rw [rd_nat _ _ _ h1]
    rw [List.getElem?_eq_getElem h1] at h
    exact Option.some.inj h
  have em : mx ((f : Int) + 1) (t.length : Int) = (t.length : Int) := by
    unfold mx
    by_cases c : (f : Int) + 1 < t.length
    · rw [decide_eq_true c]; rfl
    · rw [decide_eq_false c, cond_false]; omega
  unfold extent_Take_F
  dsimp only
  rw [decide_eq_false (by omega : ¬ (f : Int) < 0), decide_eq_false (by omega : ¬ (t.length : Int) < f), decide_eq_false (by omega : ¬ (t.length : Int) < t.length), decide_eq_false (by omega : ¬ (f : Int) = t.length), e, wrap_i64 (by omega) (by omega), em,
    show (f : Int) + 1 = ((f + 1 : Nat) : Int) by omega, slc_nat t (f + 1) t.length, List.take_length]
  rfl
end Go.VE
namespace Go.VE
theorem rep_one (p : List Int) : bytes_Repeat_F p 1 = p := by
  show repB p 1 = p
  simp [repB]
theorem small_no {p : List Int} (h : p.length ≤ 65536) : decide ((65536 : Int) < IntKind.wrap .i64 ((p.length : Int) * 1)) = false := by
  rw [Int.mul_one, wrap_i64 (by omega) (by omega)]
  exact decide_eq_false (by omega)
theorem put_start {u p : List Int} {at_ : Int} {l ahead : Bool} (h0 : 0 ≤ at_) (h1 : at_ ≤ u.length) (hp : p.length ≤ 65536) (hl : l = true → p.getLast? = some 10) :
    oper_Put_F u at_ 1 (true, l, p) ahead = ((oper_Put_J3_F u at_ 1 ahead p (true, l, p) ([], 0, (false, false, []), 0, false)).2, (oper_Put_J3_F u at_ 1 ahead p (true, l, p) ([], 0, (false, false, []), 0, false)).1) := by
  have hlim : lim = 1099511627776 := rfl
  unfold oper_Put_F
  rw [outside_no h0 h1]
  unfold bytes_Clone_F
  dsimp only
  cases l
  · rfl
  · rw [(hasSuffix_iff p (by omega)).2 (hl rfl)]
    rfl
theorem put_plain {u p : List Int} {f : Nat} (h1 : f ≤ u.length) (hp : p.length ≤ 65536) (hne : p ≠ []) : ∃ c, oper_Put_F u (f : Int) 1 (true, false, p) true = ((oper_edited_F u (f : Int) (f : Int) p, c, (false, false, []), 0, false), 0) := by
  rw [put_start (by omega) (by omega) hp (fun e => by cases e)]
  unfold oper_Put_J3_F
  rw [small_no hp, rep_one]
  have : ¬ (p.length : Int) = 0 := by
    cases p with
    | nil => exact absurd rfl hne
    | cons => simp; omega
  dsimp only
  rw [decide_eq_false this]
  unfold oper_Put_J0_F
  dsimp only
  by_cases c : (0 : Int) ≤ bytes_IndexByte_F p 10
  · rw [decide_eq_true c]; exact ⟨_, rfl⟩
  · rw [decide_eq_false c]; exact ⟨_, rfl⟩
theorem put_ahead {u p : List Int} {n f : Nat} (hb : Begins u n f) (hp : p.length ≤ 65536) (hten : p.getLast? = some 10) : ∃ c, oper_Put_F u (f : Int) 1 (true, true, p) true = ((oper_edited_F u (f : Int) (f : Int) p, c, (false, false, []), 0, false), 0) := by
  have h1 := hb.1
  rw [put_start (by omega) (by omega) hp (fun _ => hten)]
  unfold oper_Put_J3_F
  rw [small_no hp, rep_one, Of_eq h1, hb.2.1]
  unfold oper_Put_J2_F
  dsimp only
  rw [start_at hb]
  exact ⟨_, rfl⟩
theorem put_behind {u p : List Int} {q : Nat} (hu : u.length ≤ 16384) (hb : Begins u (cnt u) q) (hp : p.length ≤ 65536) (hten : p.getLast? = some 10) :
    ∃ c, oper_Put_F u (q : Int) 1 (true, true, p) false = ((oper_edited_F u (u.length : Int) (u.length : Int) ([10] ++ p.take (p.length - 1)), c, (false, false, []), 0, false), 0) := by
  have h1 := hb.1
  have hcl := cnt_le u
  have hp1 : 1 ≤ p.length := by
    cases p with
    | nil => cases hten
    | cons => simp
  rw [put_start (by omega) (by omega) hp (fun _ => hten)]
  unfold oper_Put_J3_F
  rw [small_no hp, rep_one, Of_eq h1, hb.2.1]
  unfold oper_Put_J2_F
  dsimp only
  rw [wrap_i64 (n := (cnt u : Int) + 1) (by omega) (by omega), show (cnt u : Int) + 1 = ((cnt u + 1 : Nat) : Int) by omega, start_out (by omega), wrap_i64 (n := (p.length : Int) - 1) (by omega) (by omega), show ((p.length : Int) - 1).toNat = p.length - 1 by omega]
  exact ⟨_, rfl⟩
theorem deleted_eq {t : List Int} {at_ f g a b c : Int} {l lead : Bool} : ∃ cur how, oper_job_deleted_F (t, at_, (f, g, l, lead), a, b, c) = ((oper_edited_F t f g [], cur, (extent_Take_F t (f, g, l, lead)).1, how, false), 0) ∧ (l = true → how = 2) := by
  unfold oper_job_deleted_F oper_job_taken_F
  dsimp only
  cases l
  · by_cases h : (0 : Int) ≤ bytes_IndexByte_F (extent_Take_F t (f, g, false, lead)).1.2.2 10
    · rw [decide_eq_true h]; exact ⟨_, _, rfl, fun e => by cases e⟩
    · rw [decide_eq_false h]; exact ⟨_, _, rfl, fun e => by cases e⟩
  · exact ⟨_, _, rfl, fun _ => rfl⟩
/-- d over a range that is right -/
theorem do_d {t : List Int} {at_ : Int} {f g : Nat} {l lead : Bool} (h0 : 0 ≤ at_) (h1 : at_ ≤ t.length) (hs : (oper_spanned_F t at_ ((f : Int), (g : Int), l, lead)).2.2 = true) (hfg : f < g) :
    ∃ cur how, oper_Do_F t at_ [100] ((f : Int), (g : Int), l, lead) 1 = ((oper_edited_F t (f : Int) (g : Int) [], cur, (extent_Take_F t ((f : Int), (g : Int), l, lead)).1, how, false), 0) ∧ (l = true → how = 2) := by
  unfold oper_Do_F doF
  rw [outside_no h0 h1, hs, if_neg (by simp), if_neg (by simp), if_neg (by show ¬ ((f : Int) = (g : Int) ∧ _); omega)]
  exact deleted_eq
theorem do_d_none {t : List Int} {at_ : Int} {f : Nat} {l lead : Bool} (h0 : 0 ≤ at_) (h1 : at_ ≤ t.length) (hs : (oper_spanned_F t at_ ((f : Int), (f : Int), l, lead)).2.2 = true) :
    (oper_Do_F t at_ [100] ((f : Int), (f : Int), l, lead) 1).2 = 190 := by
  unfold oper_Do_F doF
  rw [outside_no h0 h1, hs, if_neg (by simp), if_neg (by simp), if_pos ⟨rfl, by cases l; exact .inl ⟨rfl, by decide⟩; exact .inr ⟨rfl, rfl⟩⟩]
end Go.VE
namespace Go.VE
open Go Go.Proofs
/-! ### quoin/quoinlaw19.awake -/
def quoinlaw19_awake_G : List (Nat × App) := [(28, oper_Do_S), (21, oper_Put_S)]
theorem quoinlaw19_awake_Gok : GOk Tryd.prog (getG quoinlaw19_awake_G) := GOk.cons oper_Do_ok (GOk.cons oper_Put_ok (GOk.nil))
def quoinlaw19_awake_raw  (K : Res → List Cell → Prop) : Prop :=
 oper_Do_P ([(104 : Int), (101 : Int), (108 : Int), (108 : Int), (111 : Int)] : List Int) (0 : Int) ([100] : List Int) ((0 : Int), (2 : Int), false, false) (1 : Int) ∧ (
 ∀ (r1 : (List ((Int × List Int × List Int)) × Int × (Bool × Bool × List Int) × Int × Bool) × Int), r1 = oper_Do_F ([(104 : Int), (101 : Int), (108 : Int), (108 : Int), (111 : Int)] : List Int) (0 : Int) ([100] : List Int) ((0 : Int), (2 : Int), false, false) (1 : Int) → (
 wfR (.tup [.v (.st (.pair (.sl (.st (.pair (.int .i64) (.pair (.sl (.int .u8)) (.sl (.int .u8)))))) (.pair (.int .i64) (.pair (.st (.pair (.bool) (.pair (.bool) (.sl (.int .u8))))) (.pair (.int .i64) (.bool)))))) r1.1, .v (.int .i64) r1.2]) → (
 oper_Put_P ([(108 : Int), (108 : Int), (111 : Int)] : List Int) (0 : Int) (1 : Int) r1.1.2.2.1 true ∧ (
 ∀ (r2 : (List ((Int × List Int × List Int)) × Int × (Bool × Bool × List Int) × Int × Bool) × Int), r2 = oper_Put_F ([(108 : Int), (108 : Int), (111 : Int)] : List Int) (0 : Int) (1 : Int) r1.1.2.2.1 true → (
 wfR (.tup [.v (.st (.pair (.sl (.st (.pair (.int .i64) (.pair (.sl (.int .u8)) (.sl (.int .u8)))))) (.pair (.int .i64) (.pair (.st (.pair (.bool) (.pair (.bool) (.sl (.int .u8))))) (.pair (.int .i64) (.bool)))))) r2.1, .v (.int .i64) r2.2]) → (
 bif (decide (r1.2 = (0 : Int))) then
 bif (decide (r2.2 = (0 : Int))) then
 bif (decide ((List.length r1.1.1 : Int) = (1 : Int))) then
 bif decide (0 ≤ (0 : Int) ∧ (0 : Int) < (List.length r1.1.1 : Int)) then
 bif (decide ((rd ((0 : Int), ([] : List Int), ([] : List Int)) r1.1.1 (0 : Int)).2.1 = ([104, 101] : List Int))) then
 bif (decide (r1.1.2.2.1.2.2 = ([104, 101] : List Int))) then
 bif (decide (r1.1.2.2.2.1 = (3 : Int))) then
 bif (decide ((List.length r2.1.1 : Int) = (1 : Int))) then
 bif decide (0 ≤ (0 : Int) ∧ (0 : Int) < (List.length r2.1.1 : Int)) then
 bif (decide ((rd ((0 : Int), ([] : List Int), ([] : List Int)) r2.1.1 (0 : Int)).2.2 = ([104, 101] : List Int))) then
 K (.one (.v (.bool) (decide (r2.1.2.1 = (1 : Int))))) []
 else
 K (.one (.v (.bool) false)) []
 else False
 else
 K (.one (.v (.bool) false)) []
 else
 K (.one (.v (.bool) false)) []
 else
 K (.one (.v (.bool) false)) []
 else
 K (.one (.v (.bool) false)) []
 else False
 else
 K (.one (.v (.bool) false)) []
 else
 K (.one (.v (.bool) false)) []
 else
 K (.one (.v (.bool) false)) []))))))
def quoinlaw19_awake_A : List AS := []
theorem quoinlaw19_awake_walk  (K : Res → List Cell → Prop) : runF tb (getG quoinlaw19_awake_G) [] Tryd.f18 [true] (mkA quoinlaw19_awake_A ()) K = quoinlaw19_awake_raw  K := by kernel_rfl
--! pre 0
--! import OL5
def quoinlaw19_awake_F : Bool := true
theorem quoinlaw19_awake_sp (K : Res → List Cell → Prop) (_ : wfA quoinlaw19_awake_A ()) (h : ∀ r : Bool, r = quoinlaw19_awake_F → K (.one (.v .bool r)) []) : quoinlaw19_awake_raw K := by
  unfold quoinlaw19_awake_raw
  refine ⟨do_any (.inl rfl) (by decide), fun r1 h1 _ => ?_⟩
  have e1 : oper_Do_F [104, 101, 108, 108, 111] 0 [100] (0, 2, false, false) 1 = (([(0, [104, 101], [])], 0, (true, false, [104, 101]), 3, false), 0) := by kernel_rfl
  rw [e1] at h1
  subst h1
  refine ⟨put_P (by decide) (by decide), fun r2 h2 _ => ?_⟩
  have e2 : oper_Put_F [108, 108, 111] 0 1 ((([(0, [104, 101], [])], 0, (true, false, [104, 101]), 3, false), 0) : Eff × Int).1.2.2.1 true = (([(0, [], [104, 101])], 1, (false, false, []), 0, false), 0) := by kernel_rfl
  rw [e2] at h2
  subst h2
  exact h true rfl

def quoinlaw19_awake_C (v : valsA quoinlaw19_awake_A) (K : Res → List Cell → Prop) : Prop := ∀ r : Bool, r = quoinlaw19_awake_F → K (.one (.v (.bool) r)) []
def quoinlaw19_awake_S : App := specW quoinlaw19_awake_A quoinlaw19_awake_C
theorem quoinlaw19_awake_wv (K : Res → List Cell → Prop) : ∀ v : valsA quoinlaw19_awake_A, runF tb (getG quoinlaw19_awake_G) [] Tryd.f18 [true] (mkA quoinlaw19_awake_A v) K = quoinlaw19_awake_raw  K
  | () => quoinlaw19_awake_walk  K
set_option maxRecDepth 20000 in
theorem quoinlaw19_awake_ok : AppOk Tryd.prog 18 quoinlaw19_awake_S :=
  AppOk.specW (spec_ok ((runF_ok tb_M tb_ok quoinlaw19_awake_Gok (LabsOk.nil) (f := 18) (fn := Tryd.f18) (by kernel_rfl) (by kernel_rfl) (by kernel_rfl) [true])) fun v K hw h => (quoinlaw19_awake_wv K v).mpr (quoinlaw19_awake_sp  K hw h))

end Go.VE
namespace Go.VE
open Go Go.Proofs
/-! ### quoin/quoinlaw19.OperCases -/
def quoinlaw19_OperCases_G : List (Nat × App) := [(18, quoinlaw19_awake_S), (27, quoinlaw19_place_S), (28, oper_Do_S), (29, change_Apply_S), (32, class_Lower_S), (33, class_Upper_S), (34, class_Toggle_S)]
theorem quoinlaw19_OperCases_Gok : GOk Tryd.prog (getG quoinlaw19_OperCases_G) := GOk.cons quoinlaw19_awake_ok (GOk.cons quoinlaw19_place_ok (GOk.cons oper_Do_ok (GOk.cons change_Apply_ok (GOk.cons class_Lower_ok (GOk.cons class_Upper_ok (GOk.cons class_Toggle_ok (GOk.nil)))))))
theorem quoinlaw19_OperCases_st : storesC (bodyOf Tryd.f7) = true := by kernel_rfl
def quoinlaw19_OperCases_d0 : List LS := [.b 9 72 [], .v 12 (.sl (.int .u8)), .o 20 165 5 (.int .u8), .o 21 173 5 (.int .u8), .v 188 (.sl (.int .u8)), .v 189 (.int .i64), .v 190 (.int .i64), .c 72 (.st (.pair (.int .i64) (.pair (.int .i64) (.pair (.bool) (.bool)))))]
def quoinlaw19_OperCases_d0r : List LS := [.v 6 (.bool)]
def quoinlaw19_OperCases_d0x0 : List LS := []
def quoinlaw19_OperCases_dx0 : DX := ⟨none, some quoinlaw19_OperCases_d0r, [(0, quoinlaw19_OperCases_d0x0)]⟩
def quoinlaw19_OperCases_T0 (Y : List Int → List Int → List Int → List Int → Int → Int → (Int × Int × Bool × Bool) → Prop) (kr : Bool → Prop) (kx0 : Prop) (u12 : List Int) (p20 : List Int) (q21 : List Int) (x188 : List Int) (x189 : Int) (x190 : Int) (rv9b : (Int × Int × Bool × Bool)) : Prop :=
 bif (decide (x190 < x189)) then
 bif decide (0 ≤ x190 ∧ x190 < (List.length x188 : Int)) then
 bif (decide (x190 < rv9b.1)) then
 bif decide (0 ≤ x190 ∧ x190 < (List.length p20 : Int)) then
 bif (!decide ((rd (0 : Int) p20 x190) = (rd (0 : Int) x188 x190))) then
 kr false
 else
 bif decide (0 ≤ x190 ∧ x190 < (List.length q21 : Int)) then
 bif (!decide ((rd (0 : Int) q21 x190) = (rd (0 : Int) x188 x190))) then
 kr false
 else
 bif decide (0 ≤ x190 ∧ x190 < (List.length u12 : Int)) then
 bif (!decide ((rd (0 : Int) u12 x190) = (rd (0 : Int) x188 x190))) then
 kr false
 else
 Y u12 p20 q21 x188 x189 (IntKind.wrap .i64 (x190 + (1 : Int))) rv9b
 else False
 else False
 else False
 else
 bif (decide (rv9b.2.1 ≤ x190)) then
 bif decide (0 ≤ x190 ∧ x190 < (List.length p20 : Int)) then
 bif (!decide ((rd (0 : Int) p20 x190) = (rd (0 : Int) x188 x190))) then
 kr false
 else
 bif decide (0 ≤ x190 ∧ x190 < (List.length q21 : Int)) then
 bif (!decide ((rd (0 : Int) q21 x190) = (rd (0 : Int) x188 x190))) then
 kr false
 else
 bif decide (0 ≤ x190 ∧ x190 < (List.length u12 : Int)) then
 bif (!decide ((rd (0 : Int) u12 x190) = (rd (0 : Int) x188 x190))) then
 kr false
 else
 Y u12 p20 q21 x188 x189 (IntKind.wrap .i64 (x190 + (1 : Int))) rv9b
 else False
 else False
 else False
 else
 (
 bif decide (0 ≤ x190 ∧ x190 < (List.length p20 : Int)) then
 (
 ∀ (r12 : Int), r12 = class_Lower_F (rd (0 : Int) x188 x190) → (
 wfR (.one (.v (.int .u8) r12)) → (
 bif (!decide ((rd (0 : Int) p20 x190) = r12)) then
 kr false
 else
 (
 bif decide (0 ≤ x190 ∧ x190 < (List.length q21 : Int)) then
 (
 ∀ (r13 : Int), r13 = class_Upper_F (rd (0 : Int) x188 x190) → (
 wfR (.one (.v (.int .u8) r13)) → (
 bif (!decide ((rd (0 : Int) q21 x190) = r13)) then
 kr false
 else
 bif decide (0 ≤ x190 ∧ x190 < (List.length u12 : Int)) then
 ∀ (r14 : Int), r14 = class_Toggle_F (rd (0 : Int) x188 x190) → (
 wfR (.one (.v (.int .u8) r14)) → (
 bif (!decide ((rd (0 : Int) u12 x190) = r14)) then
 kr false
 else
 Y u12 p20 q21 x188 x189 (IntKind.wrap .i64 (x190 + (1 : Int))) rv9b))
 else False))) ∧ (
 ∀ (r15 : Int), r15 = class_Upper_F (rd (0 : Int) x188 x190) → (
 wfR (.one (.v (.int .u8) r15)) → (
 bif (!decide ((rd (0 : Int) q21 x190) = r15)) then
 kr false
 else
 bif decide (0 ≤ x190 ∧ x190 < (List.length u12 : Int)) then
 ∀ (r16 : Int), r16 = class_Toggle_F (rd (0 : Int) x188 x190) → (
 wfR (.one (.v (.int .u8) r16)) → (
 bif (!decide ((rd (0 : Int) u12 x190) = r16)) then
 kr false
 else
 Y u12 p20 q21 x188 x189 (IntKind.wrap .i64 (x190 + (1 : Int))) rv9b))
 else False))) ∧ True
 else False) ∧ (
 ∀ (r17 : Int), r17 = class_Upper_F (rd (0 : Int) x188 x190) → (
 wfR (.one (.v (.int .u8) r17)) → (
 bif decide (0 ≤ x190 ∧ x190 < (List.length q21 : Int)) then
 bif (!decide ((rd (0 : Int) q21 x190) = r17)) then
 kr false
 else
 bif decide (0 ≤ x190 ∧ x190 < (List.length u12 : Int)) then
 ∀ (r18 : Int), r18 = class_Toggle_F (rd (0 : Int) x188 x190) → (
 wfR (.one (.v (.int .u8) r18)) → (
 bif (!decide ((rd (0 : Int) u12 x190) = r18)) then
 kr false
 else
 Y u12 p20 q21 x188 x189 (IntKind.wrap .i64 (x190 + (1 : Int))) rv9b))
 else False
 else False))) ∧ True))) ∧ (
 ∀ (r19 : Int), r19 = class_Lower_F (rd (0 : Int) x188 x190) → (
 wfR (.one (.v (.int .u8) r19)) → (
 bif (!decide ((rd (0 : Int) p20 x190) = r19)) then
 kr false
 else
 (
 bif decide (0 ≤ x190 ∧ x190 < (List.length q21 : Int)) then
 (
 ∀ (r20 : Int), r20 = class_Upper_F (rd (0 : Int) x188 x190) → (
 wfR (.one (.v (.int .u8) r20)) → (
 bif (!decide ((rd (0 : Int) q21 x190) = r20)) then
 kr false
 else
 bif decide (0 ≤ x190 ∧ x190 < (List.length u12 : Int)) then
 ∀ (r21 : Int), r21 = class_Toggle_F (rd (0 : Int) x188 x190) → (
 wfR (.one (.v (.int .u8) r21)) → (
 bif (!decide ((rd (0 : Int) u12 x190) = r21)) then
 kr false
 else
 Y u12 p20 q21 x188 x189 (IntKind.wrap .i64 (x190 + (1 : Int))) rv9b))
 else False))) ∧ (
 ∀ (r22 : Int), r22 = class_Upper_F (rd (0 : Int) x188 x190) → (
 wfR (.one (.v (.int .u8) r22)) → (
 bif (!decide ((rd (0 : Int) q21 x190) = r22)) then
 kr false
 else
 bif decide (0 ≤ x190 ∧ x190 < (List.length u12 : Int)) then
 ∀ (r23 : Int), r23 = class_Toggle_F (rd (0 : Int) x188 x190) → (
 wfR (.one (.v (.int .u8) r23)) → (
 bif (!decide ((rd (0 : Int) u12 x190) = r23)) then
 kr false
 else
 Y u12 p20 q21 x188 x189 (IntKind.wrap .i64 (x190 + (1 : Int))) rv9b))
 else False))) ∧ True
 else False) ∧ (
 ∀ (r24 : Int), r24 = class_Upper_F (rd (0 : Int) x188 x190) → (
 wfR (.one (.v (.int .u8) r24)) → (
 bif decide (0 ≤ x190 ∧ x190 < (List.length q21 : Int)) then
 bif (!decide ((rd (0 : Int) q21 x190) = r24)) then
 kr false
 else
 bif decide (0 ≤ x190 ∧ x190 < (List.length u12 : Int)) then
 ∀ (r25 : Int), r25 = class_Toggle_F (rd (0 : Int) x188 x190) → (
 wfR (.one (.v (.int .u8) r25)) → (
 bif (!decide ((rd (0 : Int) u12 x190) = r25)) then
 kr false
 else
 Y u12 p20 q21 x188 x189 (IntKind.wrap .i64 (x190 + (1 : Int))) rv9b))
 else False
 else False))) ∧ True))) ∧ True
 else False) ∧ (
 ∀ (r26 : Int), r26 = class_Lower_F (rd (0 : Int) x188 x190) → (
 wfR (.one (.v (.int .u8) r26)) → (
 bif decide (0 ≤ x190 ∧ x190 < (List.length p20 : Int)) then
 bif (!decide ((rd (0 : Int) p20 x190) = r26)) then
 kr false
 else
 (
 bif decide (0 ≤ x190 ∧ x190 < (List.length q21 : Int)) then
 (
 ∀ (r27 : Int), r27 = class_Upper_F (rd (0 : Int) x188 x190) → (
 wfR (.one (.v (.int .u8) r27)) → (
 bif (!decide ((rd (0 : Int) q21 x190) = r27)) then
 kr false
 else
 bif decide (0 ≤ x190 ∧ x190 < (List.length u12 : Int)) then
 ∀ (r28 : Int), r28 = class_Toggle_F (rd (0 : Int) x188 x190) → (
 wfR (.one (.v (.int .u8) r28)) → (
 bif (!decide ((rd (0 : Int) u12 x190) = r28)) then
 kr false
 else
 Y u12 p20 q21 x188 x189 (IntKind.wrap .i64 (x190 + (1 : Int))) rv9b))
 else False))) ∧ (
 ∀ (r29 : Int), r29 = class_Upper_F (rd (0 : Int) x188 x190) → (
 wfR (.one (.v (.int .u8) r29)) → (
 bif (!decide ((rd (0 : Int) q21 x190) = r29)) then
 kr false
 else
 bif decide (0 ≤ x190 ∧ x190 < (List.length u12 : Int)) then
 ∀ (r30 : Int), r30 = class_Toggle_F (rd (0 : Int) x188 x190) → (
 wfR (.one (.v (.int .u8) r30)) → (
 bif (!decide ((rd (0 : Int) u12 x190) = r30)) then
 kr false
 else
 Y u12 p20 q21 x188 x189 (IntKind.wrap .i64 (x190 + (1 : Int))) rv9b))
 else False))) ∧ True
 else False) ∧ (
 ∀ (r31 : Int), r31 = class_Upper_F (rd (0 : Int) x188 x190) → (
 wfR (.one (.v (.int .u8) r31)) → (
 bif decide (0 ≤ x190 ∧ x190 < (List.length q21 : Int)) then
 bif (!decide ((rd (0 : Int) q21 x190) = r31)) then
 kr false
 else
 bif decide (0 ≤ x190 ∧ x190 < (List.length u12 : Int)) then
 ∀ (r32 : Int), r32 = class_Toggle_F (rd (0 : Int) x188 x190) → (
 wfR (.one (.v (.int .u8) r32)) → (
 bif (!decide ((rd (0 : Int) u12 x190) = r32)) then
 kr false
 else
 Y u12 p20 q21 x188 x189 (IntKind.wrap .i64 (x190 + (1 : Int))) rv9b))
 else False
 else False))) ∧ True
 else False))) ∧ True
 else False
 else
 kx0
def quoinlaw19_OperCases_L0 (kr : Bool → Prop) (kx0 : Prop) : Nat → List Int → List Int → List Int → List Int → Int → Int → (Int × Int × Bool × Bool) → Prop
  | 0, _, _, _, _, _, _, _ => False
  | n + 1, u12, p20, q21, x188, x189, x190, rv9b => wfD quoinlaw19_OperCases_d0 (u12, p20, q21, x188, x189, x190, rv9b, ()) → quoinlaw19_OperCases_T0 (quoinlaw19_OperCases_L0 kr kx0 n) kr kx0 u12 p20 q21 x188 x189 x190 rv9b
theorem quoinlaw19_OperCases_s0 (k : Ex → St → Prop) (Y : vals quoinlaw19_OperCases_d0 → Prop) (u12 : List Int) (p20 : List Int) (q21 : List Int) (x188 : List Int) (x189 : Int) (x190 : Int) (rv9b : (Int × Int × Bool × Bool)) :
    ex tb (getG quoinlaw19_OperCases_G) [] (at' (bodyOf Tryd.f7) [0, 0, 1, 0, 1, 1, 1, 1, 1, 1, 1, 1, 1, 1, 1, 1, 1, 1, 1, 1]) [0, 0, 1, 0, 1, 1, 1, 1, 1, 1, 1, 1, 1, 1, 1, 1, 1, 1, 1, 1] (mkD 253 quoinlaw19_OperCases_d0 (u12, p20, q21, x188, x189, x190, rv9b, ())) (lpK 253 quoinlaw19_OperCases_d0 quoinlaw19_OperCases_dx0 k Y) =
    quoinlaw19_OperCases_T0 (fun u12 p20 q21 x188 x189 x190 rv9b => Y (u12, p20, q21, x188, x189, x190, rv9b, ())) (fun x6 => wfD quoinlaw19_OperCases_d0r (x6, ()) → k .ret (mkD 253 quoinlaw19_OperCases_d0r (x6, ()))) (wfD quoinlaw19_OperCases_d0x0 () → k (.exit 0) (mkD 253 quoinlaw19_OperCases_d0x0 ())) u12 p20 q21 x188 x189 x190 rv9b := by kernel_rfl
theorem quoinlaw19_OperCases_e0 (k : Ex → St → Prop) : ∀ (n : Nat) (u12 : List Int) (p20 : List Int) (q21 : List Int) (x188 : List Int) (x189 : Int) (x190 : Int) (rv9b : (Int × Int × Bool × Bool)), lpD 253 quoinlaw19_OperCases_d0 quoinlaw19_OperCases_dx0 (ex tb (getG quoinlaw19_OperCases_G) [] (at' (bodyOf Tryd.f7) [0, 0, 1, 0, 1, 1, 1, 1, 1, 1, 1, 1, 1, 1, 1, 1, 1, 1, 1, 1]) [0, 0, 1, 0, 1, 1, 1, 1, 1, 1, 1, 1, 1, 1, 1, 1, 1, 1, 1, 1]) k n (u12, p20, q21, x188, x189, x190, rv9b, ()) = quoinlaw19_OperCases_L0 (fun x6 => wfD quoinlaw19_OperCases_d0r (x6, ()) → k .ret (mkD 253 quoinlaw19_OperCases_d0r (x6, ()))) (wfD quoinlaw19_OperCases_d0x0 () → k (.exit 0) (mkD 253 quoinlaw19_OperCases_d0x0 ())) n u12 p20 q21 x188 x189 x190 rv9b
  | 0, _, _, _, _, _, _, _ => rfl
  | n + 1, u12, p20, q21, x188, x189, x190, rv9b => congrArg (fun Z : Prop => wfD quoinlaw19_OperCases_d0 (u12, p20, q21, x188, x189, x190, rv9b, ()) → Z) ((quoinlaw19_OperCases_s0 k (lpD 253 quoinlaw19_OperCases_d0 quoinlaw19_OperCases_dx0 (ex tb (getG quoinlaw19_OperCases_G) [] (at' (bodyOf Tryd.f7) [0, 0, 1, 0, 1, 1, 1, 1, 1, 1, 1, 1, 1, 1, 1, 1, 1, 1, 1, 1]) [0, 0, 1, 0, 1, 1, 1, 1, 1, 1, 1, 1, 1, 1, 1, 1, 1, 1, 1, 1]) k n) u12 p20 q21 x188 x189 x190 rv9b).trans (congrArg (fun Y => quoinlaw19_OperCases_T0 Y (fun x6 => wfD quoinlaw19_OperCases_d0r (x6, ()) → k .ret (mkD 253 quoinlaw19_OperCases_d0r (x6, ()))) (wfD quoinlaw19_OperCases_d0x0 () → k (.exit 0) (mkD 253 quoinlaw19_OperCases_d0x0 ())) u12 p20 q21 x188 x189 x190 rv9b) (funext fun u12 => funext fun p20 => funext fun q21 => funext fun x188 => funext fun x189 => funext fun x190 => funext fun rv9b => quoinlaw19_OperCases_e0 k n u12 p20 q21 x188 x189 x190 rv9b)))
theorem quoinlaw19_OperCases_v0 (k : Ex → St → Prop) (n : Nat) : ∀ v : vals quoinlaw19_OperCases_d0, lpD 253 quoinlaw19_OperCases_d0 quoinlaw19_OperCases_dx0 (ex tb (getG quoinlaw19_OperCases_G) [] (at' (bodyOf Tryd.f7) [0, 0, 1, 0, 1, 1, 1, 1, 1, 1, 1, 1, 1, 1, 1, 1, 1, 1, 1, 1]) [0, 0, 1, 0, 1, 1, 1, 1, 1, 1, 1, 1, 1, 1, 1, 1, 1, 1, 1, 1]) k n v = quoinlaw19_OperCases_L0 (fun x6 => wfD quoinlaw19_OperCases_d0r (x6, ()) → k .ret (mkD 253 quoinlaw19_OperCases_d0r (x6, ()))) (wfD quoinlaw19_OperCases_d0x0 () → k (.exit 0) (mkD 253 quoinlaw19_OperCases_d0x0 ())) n v.1 v.2.1 v.2.2.1 v.2.2.2.1 v.2.2.2.2.1 v.2.2.2.2.2.1 v.2.2.2.2.2.2.1
  | (u12, p20, q21, x188, x189, x190, rv9b, ()) => quoinlaw19_OperCases_e0 k n u12 p20 q21 x188 x189 x190 rv9b
def quoinlaw19_OperCases_X0 : Pce := fun st k => ckD 253 quoinlaw19_OperCases_d0 st fun v => wfD quoinlaw19_OperCases_d0 v → ∃ n, quoinlaw19_OperCases_L0 (fun x6 => wfD quoinlaw19_OperCases_d0r (x6, ()) → k .ret (mkD 253 quoinlaw19_OperCases_d0r (x6, ()))) (wfD quoinlaw19_OperCases_d0x0 () → k (.exit 0) (mkD 253 quoinlaw19_OperCases_d0x0 ())) n v.1 v.2.1 v.2.2.1 v.2.2.2.1 v.2.2.2.2.1 v.2.2.2.2.2.1 v.2.2.2.2.2.2.1
set_option maxRecDepth 20000 in
theorem quoinlaw19_OperCases_x0 : SemOk Tryd.prog (at' (bodyOf Tryd.f7) [0, 1, 0, 1, 1, 1, 1, 1, 1, 1, 1, 1, 1, 1, 1, 1, 1, 1, 1]) quoinlaw19_OperCases_X0 :=
  (SemOk.loop (ex_sound tb_M tb_ok quoinlaw19_OperCases_Gok (LabsOk.nil) (at' (bodyOf Tryd.f7) [0, 0, 1, 0, 1, 1, 1, 1, 1, 1, 1, 1, 1, 1, 1, 1, 1, 1, 1, 1]) [0, 0, 1, 0, 1, 1, 1, 1, 1, 1, 1, 1, 1, 1, 1, 1, 1, 1, 1, 1] rfl (storesC_at quoinlaw19_OperCases_st [0, 0, 1, 0, 1, 1, 1, 1, 1, 1, 1, 1, 1, 1, 1, 1, 1, 1, 1, 1])) 253 quoinlaw19_OperCases_d0 quoinlaw19_OperCases_dx0).mono fun st k h => ckD_mono h fun v hv hw => (hv hw).elim fun n hn => ⟨n, Eq.mpr (quoinlaw19_OperCases_v0 k n v) hn⟩
def quoinlaw19_OperCases_B0 : Labs := ([0, 1, 0, 1, 1, 1, 1, 1, 1, 1, 1, 1, 1, 1, 1, 1, 1, 1, 1], quoinlaw19_OperCases_X0) :: []
theorem quoinlaw19_OperCases_b0 : LabsOk Tryd.prog (bodyOf Tryd.f7) quoinlaw19_OperCases_B0 := LabsOk.cons quoinlaw19_OperCases_x0 (LabsOk.nil)
def quoinlaw19_OperCases_raw (t0 : List Int) (from1 : Int) (to2 : Int) (K : Res → List Cell → Prop) : Prop :=
 ∀ (r1 : Bool), r1 = quoinlaw19_awake_F → (
 wfR (.one (.v (.bool) r1)) → (
 bif (!r1) then
 K (.one (.v (.bool) false)) []
 else
 bif (decide ((16384 : Int) < (List.length t0 : Int))) then
 K (.one (.v (.bool) true)) []
 else
 quoinlaw19_place_P from1 (IntKind.wrap .i64 ((List.length t0 : Int) + (1 : Int))) ∧ (
 ∀ (r2 : Int), r2 = quoinlaw19_place_F from1 (IntKind.wrap .i64 ((List.length t0 : Int) + (1 : Int))) → (
 wfR (.one (.v (.int .i64) r2)) → (
 quoinlaw19_place_P to2 (IntKind.wrap .i64 ((List.length t0 : Int) + (1 : Int))) ∧ (
 ∀ (r3 : Int), r3 = quoinlaw19_place_F to2 (IntKind.wrap .i64 ((List.length t0 : Int) + (1 : Int))) → (
 wfR (.one (.v (.int .i64) r3)) → (
 oper_Do_P t0 (mn r2 r3) ([103, 126] : List Int) ((mn r2 r3), (mx r2 r3), false, false) (1 : Int) ∧ (
 ∀ (r4 : (List ((Int × List Int × List Int)) × Int × (Bool × Bool × List Int) × Int × Bool) × Int), r4 = oper_Do_F t0 (mn r2 r3) ([103, 126] : List Int) ((mn r2 r3), (mx r2 r3), false, false) (1 : Int) → (
 wfR (.tup [.v (.st (.pair (.sl (.st (.pair (.int .i64) (.pair (.sl (.int .u8)) (.sl (.int .u8)))))) (.pair (.int .i64) (.pair (.st (.pair (.bool) (.pair (.bool) (.sl (.int .u8))))) (.pair (.int .i64) (.bool)))))) r4.1, .v (.int .i64) r4.2]) → (
 bif (decide (r2 = r3)) then
 K (.one (.v (.bool) (decide (r4.2 = (190 : Int))))) []
 else
 change_Apply_P t0 r4.1.1 ∧ (
 ∀ (r5 : List Int × Int), r5 = change_Apply_F t0 r4.1.1 → (
 wfR (.tup [.fr 5 (.int .u8) r5.1, .v (.int .i64) r5.2]) → (
 oper_Do_P r5.1 (mn r2 r3) ([103, 126] : List Int) ((mn r2 r3), (mx r2 r3), false, false) (1 : Int) ∧ (
 ∀ (r6 : (List ((Int × List Int × List Int)) × Int × (Bool × Bool × List Int) × Int × Bool) × Int), r6 = oper_Do_F r5.1 (mn r2 r3) ([103, 126] : List Int) ((mn r2 r3), (mx r2 r3), false, false) (1 : Int) → (
 wfR (.tup [.v (.st (.pair (.sl (.st (.pair (.int .i64) (.pair (.sl (.int .u8)) (.sl (.int .u8)))))) (.pair (.int .i64) (.pair (.st (.pair (.bool) (.pair (.bool) (.sl (.int .u8))))) (.pair (.int .i64) (.bool)))))) r6.1, .v (.int .i64) r6.2]) → (
 change_Apply_P r5.1 r6.1.1 ∧ (
 ∀ (r7 : List Int × Int), r7 = change_Apply_F r5.1 r6.1.1 → (
 wfR (.tup [.fr 5 (.int .u8) r7.1, .v (.int .i64) r7.2]) → (
 bif (!decide (r4.2 = (0 : Int))) then
 K (.one (.v (.bool) false)) []
 else
 bif (!decide (r5.2 = (0 : Int))) then
 K (.one (.v (.bool) false)) []
 else
 bif (!decide (r6.2 = (0 : Int))) then
 K (.one (.v (.bool) false)) []
 else
 bif (!decide (r7.2 = (0 : Int))) then
 K (.one (.v (.bool) false)) []
 else
 bif (!decide (r7.1 = t0)) then
 K (.one (.v (.bool) false)) []
 else
 bif (!decide (r4.1.2.2.2.1 = (0 : Int))) then
 K (.one (.v (.bool) false)) []
 else
 bif r4.1.2.2.1.1 then
 K (.one (.v (.bool) false)) []
 else
 bif r4.1.2.2.2.2 then
 K (.one (.v (.bool) false)) []
 else
 bif (!decide (r4.1.2.1 = (mn r2 r3))) then
 K (.one (.v (.bool) false)) []
 else
 oper_Do_P t0 (mn r2 r3) ([103, 117] : List Int) ((mn r2 r3), (mx r2 r3), false, false) (1 : Int) ∧ (
 ∀ (r8 : (List ((Int × List Int × List Int)) × Int × (Bool × Bool × List Int) × Int × Bool) × Int), r8 = oper_Do_F t0 (mn r2 r3) ([103, 117] : List Int) ((mn r2 r3), (mx r2 r3), false, false) (1 : Int) → (
 wfR (.tup [.v (.st (.pair (.sl (.st (.pair (.int .i64) (.pair (.sl (.int .u8)) (.sl (.int .u8)))))) (.pair (.int .i64) (.pair (.st (.pair (.bool) (.pair (.bool) (.sl (.int .u8))))) (.pair (.int .i64) (.bool)))))) r8.1, .v (.int .i64) r8.2]) → (
 oper_Do_P t0 (mn r2 r3) ([103, 85] : List Int) ((mn r2 r3), (mx r2 r3), false, false) (1 : Int) ∧ (
 ∀ (r9 : (List ((Int × List Int × List Int)) × Int × (Bool × Bool × List Int) × Int × Bool) × Int), r9 = oper_Do_F t0 (mn r2 r3) ([103, 85] : List Int) ((mn r2 r3), (mx r2 r3), false, false) (1 : Int) → (
 wfR (.tup [.v (.st (.pair (.sl (.st (.pair (.int .i64) (.pair (.sl (.int .u8)) (.sl (.int .u8)))))) (.pair (.int .i64) (.pair (.st (.pair (.bool) (.pair (.bool) (.sl (.int .u8))))) (.pair (.int .i64) (.bool)))))) r9.1, .v (.int .i64) r9.2]) → (
 change_Apply_P t0 r8.1.1 ∧ (
 ∀ (r10 : List Int × Int), r10 = change_Apply_F t0 r8.1.1 → (
 wfR (.tup [.fr 5 (.int .u8) r10.1, .v (.int .i64) r10.2]) → (
 change_Apply_P t0 r9.1.1 ∧ (
 ∀ (r11 : List Int × Int), r11 = change_Apply_F t0 r9.1.1 → (
 wfR (.tup [.fr 5 (.int .u8) r11.1, .v (.int .i64) r11.2]) → (
 bif (!decide (r8.2 = (0 : Int))) then
 K (.one (.v (.bool) false)) []
 else
 bif (!decide (r9.2 = (0 : Int))) then
 K (.one (.v (.bool) false)) []
 else
 bif (!decide (r10.2 = (0 : Int))) then
 K (.one (.v (.bool) false)) []
 else
 bif (!decide (r11.2 = (0 : Int))) then
 K (.one (.v (.bool) false)) []
 else
 bif (!decide ((List.length r10.1 : Int) = (List.length t0 : Int))) then
 K (.one (.v (.bool) false)) []
 else
 bif (!decide ((List.length r11.1 : Int) = (List.length t0 : Int))) then
 K (.one (.v (.bool) false)) []
 else
 bif (!decide ((List.length r5.1 : Int) = (List.length t0 : Int))) then
 K (.one (.v (.bool) false)) []
 else
 (wfD quoinlaw19_OperCases_d0 (r5.1, r10.1, r11.1, t0, (List.length t0 : Int), (0 : Int), ((mn r2 r3), (mx r2 r3), false, false), ()) → ∃ n, quoinlaw19_OperCases_L0 (fun (x6 : Bool) => wfD quoinlaw19_OperCases_d0r (x6, ()) → (
 K (.one (.v (.bool) x6)) [])) (wfD quoinlaw19_OperCases_d0x0 () → (
 K (.one (.v (.bool) true)) [])) n r5.1 r10.1 r11.1 t0 (List.length t0 : Int) (0 : Int) ((mn r2 r3), (mx r2 r3), false, false))))))))))))))))))))))))))))))))))
def quoinlaw19_OperCases_A : List AS := [.v (.sl (.int .u8)), .v (.int .i64), .v (.int .i64)]
theorem quoinlaw19_OperCases_walk (t0 : List Int) (from1 : Int) (to2 : Int) (K : Res → List Cell → Prop) : runF tb (getG quoinlaw19_OperCases_G) quoinlaw19_OperCases_B0 Tryd.f7 [true] (mkA quoinlaw19_OperCases_A (t0, from1, to2, ())) K = quoinlaw19_OperCases_raw t0 from1 to2 K := by kernel_rfl
--! law 1

def quoinlaw19_OperCases_R : App := runF tb (getG quoinlaw19_OperCases_G) quoinlaw19_OperCases_B0 Tryd.f7 [true]
theorem quoinlaw19_OperCases_ok : AppOk Tryd.prog 7 quoinlaw19_OperCases_R := runF_ok tb_M tb_ok quoinlaw19_OperCases_Gok (quoinlaw19_OperCases_b0) (f := 7) (fn := Tryd.f7) (by kernel_rfl) (by kernel_rfl) quoinlaw19_OperCases_st [true]
end Go.VE
namespace Go.VE
theorem cases_l0 (kr : Bool → Prop) (kx : Prop) (hx : kx) (t u p q : List Int) (f g : Nat) (h1 : f ≤ g) (h2 : g ≤ t.length) (ht : t.length ≤ 16384) (hu : u = turnL class_Toggle_F t f g) (hp : p = turnL class_Lower_F t f g) (hq : q = turnL class_Upper_F t f g) :
    ∀ (m i : Nat), t.length < m + i → i ≤ t.length → quoinlaw19_OperCases_L0 kr kx m u p q t (t.length : Int) (i : Int) ((f : Int), (g : Int), false, false)
  | 0, i, h, hi => by omega
  | m + 1, i, h, hi => by
    intro _
    have lu : u.length = t.length := by rw [hu]; exact turnL_length _ t h1 h2
    have lp : p.length = t.length := by rw [hp]; exact turnL_length _ t h1 h2
    have lq : q.length = t.length := by rw [hq]; exact turnL_length _ t h1 h2
    unfold quoinlaw19_OperCases_T0
    refine brn (fun hlt => ?_) (fun _ => hx)
    have hi : i < t.length := by omega
    have next : quoinlaw19_OperCases_L0 kr kx m u p q t (t.length : Int) (IntKind.wrap .i64 ((i : Int) + 1)) ((f : Int), (g : Int), false, false) := by
      rw [wrap_i64 (by omega) (by omega), show (i : Int) + 1 = ((i + 1 : Nat) : Int) by omega]
      exact cases_l0 kr kx hx t u p q f g h1 h2 ht hu hp hq m (i + 1) (by omega) (by omega)
    have eu := turnL_get class_Toggle_F t h1 h2 hi
    have ep := turnL_get class_Lower_F t h1 h2 hi
    have eq := turnL_get class_Upper_F t h1 h2 hi
    rw [← hu] at eu
    rw [← hp] at ep
    rw [← hq] at eq
    have ru : 0 ≤ (i : Int) ∧ (i : Int) < (u.length : Int) := by omega
    have rp : 0 ≤ (i : Int) ∧ (i : Int) < (p.length : Int) := by omega
    have rq : 0 ≤ (i : Int) ∧ (i : Int) < (q.length : Int) := by omega
    generalize quoinlaw19_OperCases_L0 kr kx m = Y at next
    refine asrt ⟨by omega, by omega⟩ ?_
    by_cases c1 : i < f
    · rw [if_pos (.inl c1)] at eu ep eq
      refine brn (fun _ => ?_) (fun h => absurd (show (i : Int) < f by omega) h)
      exact asrt rp (brx (fun h => absurd ep h) fun _ => asrt rq (brx (fun h => absurd eq h) fun _ => asrt ru (brx (fun h => absurd eu h) fun _ => next)))
    · refine brn (fun h => absurd (show (i : Int) < f from h) (by omega)) (fun _ => ?_)
      by_cases c2 : g ≤ i
      · rw [if_pos (.inr c2)] at eu ep eq
        refine brn (fun _ => ?_) (fun h => absurd (show (g : Int) ≤ i by omega) h)
        exact asrt rp (brx (fun h => absurd ep h) fun _ => asrt rq (brx (fun h => absurd eq h) fun _ => asrt ru (brx (fun h => absurd eu h) fun _ => next)))
      · rw [if_neg (by omega)] at eu ep eq
        refine brn (fun h => absurd (show (g : Int) ≤ i from h) (by omega)) (fun _ => ?_)
        generalize rd (0 : Int) t (i : Int) = c at *
        generalize rd (0 : Int) u (i : Int) = cu at *
        generalize rd (0 : Int) p (i : Int) = cp at *
        generalize rd (0 : Int) q (i : Int) = cq at *
        subst eu; subst ep; subst eq
        generalize class_Toggle_F c = cu at *
        generalize class_Lower_F c = cp at *
        generalize class_Upper_F c = cq at *
        generalize (u.length : Int) = lu at *
        generalize (p.length : Int) = lp at *
        generalize (q.length : Int) = lq at *
        repeat' first
          | exact next
          | exact trivial
          | refine asrt rp ?_
          | refine asrt rq ?_
          | refine asrt ru ?_
          | refine brx (fun h => absurd rfl h) (fun _ => ?_)
          | (intro r hr; subst hr; intro _)
          | refine ⟨?_, ?_⟩
end Go.VE
namespace Go.VE
open Go Go.Proofs
theorem mnmx {a b : Nat} : mn (a : Int) (b : Int) = ((min a b : Nat) : Int) ∧ mx (a : Int) (b : Int) = ((max a b : Nat) : Int) := by
  unfold mn mx
  constructor
  · by_cases h : (b : Int) < a
    · rw [decide_eq_true h, cond_true]; omega
    · rw [decide_eq_false h, cond_false]; omega
  · by_cases h : (a : Int) < b
    · rw [decide_eq_true h, cond_true]; omega
    · rw [decide_eq_false h, cond_false]; omega
theorem cases_raw (t : List Int) (from_ to_ : Int) (K : Res → List Cell → Prop) (hw : wfA quoinlaw19_OperCases_A (t, from_, to_, ())) (h : K (.one (.v .bool true)) []) : quoinlaw19_OperCases_raw t from_ to_ K := by
  have hb : ∀ x ∈ t, 0 ≤ x ∧ x ≤ 255 := hw.1.2
  have hf : -9223372036854775808 ≤ from_ ∧ from_ ≤ 9223372036854775807 := hw.2.1
  have ht : -9223372036854775808 ≤ to_ ∧ to_ ≤ 9223372036854775807 := hw.2.2.1
  have hlim : lim = 1099511627776 := rfl
  unfold quoinlaw19_OperCases_raw
  intro r1 h1 _
  subst h1
  refine brb (fun c => by cases c) (fun _ => ?_)
  refine brn (fun _ => h) (fun hl => ?_)
  have hl : t.length ≤ 16384 := by omega
  refine ⟨place_P (by omega), fun r2 h2 _ => ⟨place_P (by omega), fun r3 h3 _ => ?_⟩⟩
  obtain ⟨a, ha, ha2⟩ := place_F (i := from_) (n := t.length) (by omega) hf.1 hf.2
  obtain ⟨b, hb1, hb2⟩ := place_F (i := to_) (n := t.length) (by omega) ht.1 ht.2
  rw [ha] at h2
  rw [hb1] at h3
  subst h2; subst h3
  rw [(mnmx (a := a) (b := b)).1, (mnmx (a := a) (b := b)).2]
  have h12 : min a b ≤ max a b := by omega
  have hg : max a b ≤ t.length := by omega
  refine ⟨turns_toggle.do_P h12 hg (by omega), fun r4 h4 _ => ?_⟩
  refine brn (fun hab => ?_) (fun hab => ?_)
  · have e : a = b := by omega
    subst e
    rw [Nat.min_self, Nat.max_self] at h4
    rw [h4, turns_toggle.do_none (by omega)]
    exact h
  · have hlt : min a b < max a b := by omega
    generalize min a b = f at *
    generalize max a b = g at *
    rw [turns_toggle.do_eq hlt hg] at h4
    subst h4
    have lm : ∀ c : Int → Int, (((t.take g).drop f).map c).length ≤ t.length := fun c => by
      rw [List.length_map, List.length_drop, List.length_take]; omega
    refine ⟨apply_P _ _ _ _ (by have := lm class_Toggle_F; omega), fun r5 h5 _ => ?_⟩
    rw [apply_edited t _ h12 hg (by omega)] at h5
    have e5 : r5 = (turnL class_Toggle_F t f g, 0) := h5
    clear h5
    subst e5
    have hlu := turnL_length class_Toggle_F t h12 hg
    have hgu : g ≤ (turnL class_Toggle_F t f g).length := by omega
    have hlul : (turnL class_Toggle_F t f g).length ≤ lim := by omega
    refine ⟨turns_toggle.do_P h12 hgu hlul, fun r6 h6 _ => ?_⟩
    rw [turns_toggle.do_eq hlt hgu] at h6
    subst h6
    refine ⟨apply_P _ _ _ _ (by
      have : ((((turnL class_Toggle_F t f g).take g).drop f).map class_Toggle_F).length ≤ t.length := by
        rw [List.length_map, List.length_drop, List.length_take]; omega
      exact Nat.le_trans (Nat.add_le_add (Nat.le_of_eq hlu) this) (by omega)), fun r7 h7 _ => ?_⟩
    have e7 : r7 = (t, 0) := by
      rw [h7]
      refine (apply_edited (turnL class_Toggle_F t f g) _ h12 hgu (by omega)).trans ?_
      exact congrArg (fun z => (z, (0 : Int))) (turnL_twice h12 hg hb)
    subst e7
    refine brx (fun c => absurd rfl c) (fun _ => ?_)
    refine brx (fun c => absurd rfl c) (fun _ => ?_)
    refine brx (fun c => absurd rfl c) (fun _ => ?_)
    refine brx (fun c => absurd rfl c) (fun _ => ?_)
    refine brx (fun c => absurd rfl c) (fun _ => ?_)
    refine brx (fun c => absurd rfl c) (fun _ => ?_)
    refine brb (fun c => by cases c) (fun _ => ?_)
    refine brb (fun c => by cases c) (fun _ => ?_)
    refine brx (fun c => absurd rfl c) (fun _ => ?_)
    refine ⟨turns_lower.do_P h12 hg (by omega), fun r8 h8 _ => ⟨turns_upper.do_P h12 hg (by omega), fun r9 h9 _ => ?_⟩⟩
    rw [turns_lower.do_eq hlt hg] at h8
    rw [turns_upper.do_eq hlt hg] at h9
    subst h8; subst h9
    refine ⟨apply_P _ _ _ _ (by have := lm class_Lower_F; omega), fun r10 h10 _ => ⟨apply_P _ _ _ _ (by have := lm class_Upper_F; omega), fun r11 h11 _ => ?_⟩⟩
    rw [apply_edited t _ h12 hg (by omega)] at h10 h11
    have e10 : r10 = (turnL class_Lower_F t f g, 0) := h10
    have e11 : r11 = (turnL class_Upper_F t f g, 0) := h11
    clear h10 h11
    subst e10; subst e11
    have l10 := turnL_length class_Lower_F t h12 hg
    have l11 := turnL_length class_Upper_F t h12 hg
    refine brx (fun c => absurd rfl c) (fun _ => ?_)
    refine brx (fun c => absurd rfl c) (fun _ => ?_)
    refine brx (fun c => absurd rfl c) (fun _ => ?_)
    refine brx (fun c => absurd rfl c) (fun _ => ?_)
    refine brx (fun c => absurd (show ((turnL class_Lower_F t f g).length : Int) = _ by rw [l10]) c) (fun _ => ?_)
    refine brx (fun c => absurd (show ((turnL class_Upper_F t f g).length : Int) = _ by rw [l11]) c) (fun _ => ?_)
    refine brx (fun c => absurd (show ((turnL class_Toggle_F t f g).length : Int) = _ by rw [hlu]) c) (fun _ => ?_)
    intro _
    exact ⟨t.length + 1, cases_l0 _ _ (fun _ => h) t _ _ _ f g h12 hg hl rfl rfl rfl (t.length + 1) 0 (by omega) (Nat.zero_le _)⟩
set_option maxRecDepth 100000 in
theorem cases_law (v : valsA quoinlaw19_OperCases_A) (hw : wfA quoinlaw19_OperCases_A v) (_ : bulkA quoinlaw19_OperCases_A v ≤ 1048576) : quoinlaw19_OperCases_R (mkA quoinlaw19_OperCases_A v) (fun r _ => r = .one (.v .bool true)) := by
  obtain ⟨t, f, g, ⟨⟩⟩ := v
  exact (quoinlaw19_OperCases_walk t f g _).mpr (cases_raw t f g _ hw rfl)
end Go.VE
namespace Go.VE
open Go Go.Proofs
/-! ### quoin/quoinlaw19.OperBack -/
def quoinlaw19_OperBack_G : List (Nat × App) := [(18, quoinlaw19_awake_S), (26, lines_Count_S), (27, quoinlaw19_place_S), (28, oper_Do_S), (29, change_Apply_S), (21, oper_Put_S), (30, extent_Whole_S), (31, lines_Start_S)]
theorem quoinlaw19_OperBack_Gok : GOk Tryd.prog (getG quoinlaw19_OperBack_G) := GOk.cons quoinlaw19_awake_ok (GOk.cons lines_Count_ok (GOk.cons quoinlaw19_place_ok (GOk.cons oper_Do_ok (GOk.cons change_Apply_ok (GOk.cons oper_Put_ok (GOk.cons extent_Whole_ok (GOk.cons lines_Start_ok (GOk.nil))))))))
theorem quoinlaw19_OperBack_st : storesC (bodyOf Tryd.f6) = true := by kernel_rfl
def quoinlaw19_OperBack_d0 : List LS := [.v 0 (.sl (.int .u8)), .v 5 (.int .i64), .v 16 (.int .i64), .v 17 (.int .i64), .b 22 176 [], .o 24 197 5 (.int .u8), .v 26 (.int .i64), .v 27 (.bool), .c 176 (.st (.pair (.sl (.st (.pair (.int .i64) (.pair (.sl (.int .u8)) (.sl (.int .u8)))))) (.pair (.int .i64) (.pair (.st (.pair (.bool) (.pair (.bool) (.sl (.int .u8))))) (.pair (.int .i64) (.bool))))))]
def quoinlaw19_OperBack_d0r : List LS := [.v 4 (.bool)]
def quoinlaw19_OperBack_dx0 : DX := ⟨none, some quoinlaw19_OperBack_d0r, []⟩
def quoinlaw19_OperBack_J0 (kr : Bool → Prop) (t0 : List Int) (n5 : Int) (a16 : Int) (b17 : Int) (u24 : List Int) (where26 : Int) (ahead27 : Bool) (x22b : (List ((Int × List Int × List Int)) × Int × (Bool × Bool × List Int) × Int × Bool)) : Prop :=
 ∀ (r15 : Int × Int), r15 = lines_Start_F u24 where26 → (
 wfR (.tup [.v (.int .i64) r15.1, .v (.int .i64) r15.2]) → (
 oper_Put_P u24 r15.1 (1 : Int) x22b.2.2.1 ahead27 ∧ (
 ∀ (r16 : (List ((Int × List Int × List Int)) × Int × (Bool × Bool × List Int) × Int × Bool) × Int), r16 = oper_Put_F u24 r15.1 (1 : Int) x22b.2.2.1 ahead27 → (
 wfR (.tup [.v (.st (.pair (.sl (.st (.pair (.int .i64) (.pair (.sl (.int .u8)) (.sl (.int .u8)))))) (.pair (.int .i64) (.pair (.st (.pair (.bool) (.pair (.bool) (.sl (.int .u8))))) (.pair (.int .i64) (.bool)))))) r16.1, .v (.int .i64) r16.2]) → (
 change_Apply_P u24 r16.1.1 ∧ (
 ∀ (r17 : List Int × Int), r17 = change_Apply_F u24 r16.1.1 → (
 wfR (.tup [.fr 5 (.int .u8) r17.1, .v (.int .i64) r17.2]) → (
 bif (decide (r15.2 = (0 : Int))) then
 bif (decide (r16.2 = (0 : Int))) then
 bif (decide (r17.2 = (0 : Int))) then
 lines_Count_P u24 ∧ (
 ∀ (r18 : Int), r18 = lines_Count_F u24 → (
 wfR (.one (.v (.int .i64) r18)) → (
 bif (decide (r18 = (IntKind.wrap .i64 (n5 - (IntKind.wrap .i64 ((IntKind.wrap .i64 (b17 - a16)) + (1 : Int))))))) then
 kr (decide (r17.1 = t0))
 else
 kr false)))
 else
 kr false
 else
 kr false
 else
 kr false))))))))
theorem quoinlaw19_OperBack_s0 (k : Ex → St → Prop) (t0 : List Int) (n5 : Int) (a16 : Int) (b17 : Int) (u24 : List Int) (where26 : Int) (ahead27 : Bool) (x22b : (List ((Int × List Int × List Int)) × Int × (Bool × Bool × List Int) × Int × Bool)) :
    ex tb (getG quoinlaw19_OperBack_G) [] (at' (bodyOf Tryd.f6) [1, 1, 1, 1, 1, 1, 1, 1, 1, 1, 1, 1, 1, 1, 1, 1]) [1, 1, 1, 1, 1, 1, 1, 1, 1, 1, 1, 1, 1, 1, 1, 1] (mkD 287 quoinlaw19_OperBack_d0 (t0, n5, a16, b17, u24, where26, ahead27, x22b, ())) (wk 287 quoinlaw19_OperBack_dx0 k) =
    quoinlaw19_OperBack_J0 (fun x4 => wfD quoinlaw19_OperBack_d0r (x4, ()) → k .ret (mkD 287 quoinlaw19_OperBack_d0r (x4, ()))) t0 n5 a16 b17 u24 where26 ahead27 x22b := by kernel_rfl
theorem quoinlaw19_OperBack_v0 (k : Ex → St → Prop) : ∀ v : vals quoinlaw19_OperBack_d0, ex tb (getG quoinlaw19_OperBack_G) [] (at' (bodyOf Tryd.f6) [1, 1, 1, 1, 1, 1, 1, 1, 1, 1, 1, 1, 1, 1, 1, 1]) [1, 1, 1, 1, 1, 1, 1, 1, 1, 1, 1, 1, 1, 1, 1, 1] (mkD 287 quoinlaw19_OperBack_d0 v) (wk 287 quoinlaw19_OperBack_dx0 k) = quoinlaw19_OperBack_J0 (fun x4 => wfD quoinlaw19_OperBack_d0r (x4, ()) → k .ret (mkD 287 quoinlaw19_OperBack_d0r (x4, ()))) v.1 v.2.1 v.2.2.1 v.2.2.2.1 v.2.2.2.2.1 v.2.2.2.2.2.1 v.2.2.2.2.2.2.1 v.2.2.2.2.2.2.2.1
  | (t0, n5, a16, b17, u24, where26, ahead27, x22b, ()) => quoinlaw19_OperBack_s0 k t0 n5 a16 b17 u24 where26 ahead27 x22b
def quoinlaw19_OperBack_X0 : Pce := fun st k => ckD 287 quoinlaw19_OperBack_d0 st fun v => wfD quoinlaw19_OperBack_d0 v → quoinlaw19_OperBack_J0 (fun x4 => wfD quoinlaw19_OperBack_d0r (x4, ()) → k .ret (mkD 287 quoinlaw19_OperBack_d0r (x4, ()))) v.1 v.2.1 v.2.2.1 v.2.2.2.1 v.2.2.2.2.1 v.2.2.2.2.2.1 v.2.2.2.2.2.2.1 v.2.2.2.2.2.2.2.1
set_option maxRecDepth 20000 in
theorem quoinlaw19_OperBack_x0 : SemOk Tryd.prog (at' (bodyOf Tryd.f6) [1, 1, 1, 1, 1, 1, 1, 1, 1, 1, 1, 1, 1, 1, 1, 1]) quoinlaw19_OperBack_X0 :=
  (SemOk.wk (N := 287) (ds := quoinlaw19_OperBack_d0) (dx := quoinlaw19_OperBack_dx0) (ex_sound tb_M tb_ok quoinlaw19_OperBack_Gok (LabsOk.nil) (at' (bodyOf Tryd.f6) [1, 1, 1, 1, 1, 1, 1, 1, 1, 1, 1, 1, 1, 1, 1, 1]) [1, 1, 1, 1, 1, 1, 1, 1, 1, 1, 1, 1, 1, 1, 1, 1] rfl (storesC_at quoinlaw19_OperBack_st [1, 1, 1, 1, 1, 1, 1, 1, 1, 1, 1, 1, 1, 1, 1, 1]))).mono fun st k h => ckD_mono h fun v hv hw => Eq.mpr (quoinlaw19_OperBack_v0 k v) (hv hw)
def quoinlaw19_OperBack_B0 : Labs := ([1, 1, 1, 1, 1, 1, 1, 1, 1, 1, 1, 1, 1, 1, 1, 1], quoinlaw19_OperBack_X0) :: []
theorem quoinlaw19_OperBack_b0 : LabsOk Tryd.prog (bodyOf Tryd.f6) quoinlaw19_OperBack_B0 := LabsOk.cons quoinlaw19_OperBack_x0 (LabsOk.nil)
def quoinlaw19_OperBack_raw (t0 : List Int) (q1 : (Int × Int × Bool)) (K : Res → List Cell → Prop) : Prop :=
 ∀ (r1 : Bool), r1 = quoinlaw19_awake_F → (
 wfR (.one (.v (.bool) r1)) → (
 bif (!r1) then
 K (.one (.v (.bool) false)) []
 else
 bif (decide ((16384 : Int) < (List.length t0 : Int))) then
 K (.one (.v (.bool) true)) []
 else
 lines_Count_P t0 ∧ (
 ∀ (r2 : Int), r2 = lines_Count_F t0 → (
 wfR (.one (.v (.int .i64) r2)) → (
 bif (!q1.2.2) then
 quoinlaw19_place_P q1.1 (IntKind.wrap .i64 ((List.length t0 : Int) + (1 : Int))) ∧ (
 ∀ (r3 : Int), r3 = quoinlaw19_place_F q1.1 (IntKind.wrap .i64 ((List.length t0 : Int) + (1 : Int))) → (
 wfR (.one (.v (.int .i64) r3)) → (
 quoinlaw19_place_P q1.2.1 (IntKind.wrap .i64 ((List.length t0 : Int) + (1 : Int))) ∧ (
 ∀ (r4 : Int), r4 = quoinlaw19_place_F q1.2.1 (IntKind.wrap .i64 ((List.length t0 : Int) + (1 : Int))) → (
 wfR (.one (.v (.int .i64) r4)) → (
 oper_Do_P t0 (mn r3 r4) ([100] : List Int) ((mn r3 r4), (mx r3 r4), false, false) (1 : Int) ∧ (
 ∀ (r5 : (List ((Int × List Int × List Int)) × Int × (Bool × Bool × List Int) × Int × Bool) × Int), r5 = oper_Do_F t0 (mn r3 r4) ([100] : List Int) ((mn r3 r4), (mx r3 r4), false, false) (1 : Int) → (
 wfR (.tup [.v (.st (.pair (.sl (.st (.pair (.int .i64) (.pair (.sl (.int .u8)) (.sl (.int .u8)))))) (.pair (.int .i64) (.pair (.st (.pair (.bool) (.pair (.bool) (.sl (.int .u8))))) (.pair (.int .i64) (.bool)))))) r5.1, .v (.int .i64) r5.2]) → (
 bif (decide ((mn r3 r4) = (mx r3 r4))) then
 K (.one (.v (.bool) (decide (r5.2 = (190 : Int))))) []
 else
 change_Apply_P t0 r5.1.1 ∧ (
 ∀ (r6 : List Int × Int), r6 = change_Apply_F t0 r5.1.1 → (
 wfR (.tup [.fr 5 (.int .u8) r6.1, .v (.int .i64) r6.2]) → (
 oper_Put_P r6.1 (mn r3 r4) (1 : Int) r5.1.2.2.1 true ∧ (
 ∀ (r7 : (List ((Int × List Int × List Int)) × Int × (Bool × Bool × List Int) × Int × Bool) × Int), r7 = oper_Put_F r6.1 (mn r3 r4) (1 : Int) r5.1.2.2.1 true → (
 wfR (.tup [.v (.st (.pair (.sl (.st (.pair (.int .i64) (.pair (.sl (.int .u8)) (.sl (.int .u8)))))) (.pair (.int .i64) (.pair (.st (.pair (.bool) (.pair (.bool) (.sl (.int .u8))))) (.pair (.int .i64) (.bool)))))) r7.1, .v (.int .i64) r7.2]) → (
 change_Apply_P r6.1 r7.1.1 ∧ (
 ∀ (r8 : List Int × Int), r8 = change_Apply_F r6.1 r7.1.1 → (
 wfR (.tup [.fr 5 (.int .u8) r8.1, .v (.int .i64) r8.2]) → (
 bif (decide (r5.2 = (0 : Int))) then
 bif (decide (r6.2 = (0 : Int))) then
 bif (decide (r7.2 = (0 : Int))) then
 bif (decide (r8.2 = (0 : Int))) then
 bif decide (0 ≤ (mn r3 r4) ∧ (mn r3 r4) ≤ (mx r3 r4) ∧ (mx r3 r4) ≤ (List.length t0 : Int)) then
 bif (decide (r5.1.2.2.1.2.2 = (slc t0 (mn r3 r4) (mx r3 r4)))) then
 bif (!r5.1.2.2.1.2.1) then
 bif (decide (r8.1 = t0)) then
 K (.one (.v (.bool) (decide ((List.length r6.1 : Int) = (IntKind.wrap .i64 ((List.length t0 : Int) - (IntKind.wrap .i64 ((mx r3 r4) - (mn r3 r4))))))))) []
 else
 K (.one (.v (.bool) false)) []
 else
 K (.one (.v (.bool) false)) []
 else
 K (.one (.v (.bool) false)) []
 else False
 else
 K (.one (.v (.bool) false)) []
 else
 K (.one (.v (.bool) false)) []
 else
 K (.one (.v (.bool) false)) []
 else
 K (.one (.v (.bool) false)) []))))))))))))))))))
 else
 quoinlaw19_place_P q1.1 r2 ∧ (
 ∀ (r9 : Int), r9 = quoinlaw19_place_F q1.1 r2 → (
 wfR (.one (.v (.int .i64) r9)) → (
 quoinlaw19_place_P q1.2.1 r2 ∧ (
 ∀ (r10 : Int), r10 = quoinlaw19_place_F q1.2.1 r2 → (
 wfR (.one (.v (.int .i64) r10)) → (
 ∀ (r11 : (Int × Int × Bool × Bool) × Int), r11 = extent_Whole_F t0 (mn r9 r10) (mx r9 r10) → (
 wfR (.tup [.v (.st (.pair (.int .i64) (.pair (.int .i64) (.pair (.bool) (.bool))))) r11.1, .v (.int .i64) r11.2]) → (
 ∀ (r12 : Int × Int), r12 = lines_Start_F t0 (mn r9 r10) → (
 wfR (.tup [.v (.int .i64) r12.1, .v (.int .i64) r12.2]) → (
 oper_Do_P t0 r12.1 ([100] : List Int) r11.1 (1 : Int) ∧ (
 ∀ (r13 : (List ((Int × List Int × List Int)) × Int × (Bool × Bool × List Int) × Int × Bool) × Int), r13 = oper_Do_F t0 r12.1 ([100] : List Int) r11.1 (1 : Int) → (
 wfR (.tup [.v (.st (.pair (.sl (.st (.pair (.int .i64) (.pair (.sl (.int .u8)) (.sl (.int .u8)))))) (.pair (.int .i64) (.pair (.st (.pair (.bool) (.pair (.bool) (.sl (.int .u8))))) (.pair (.int .i64) (.bool)))))) r13.1, .v (.int .i64) r13.2]) → (
 bif (!decide (r11.2 = (0 : Int))) then
 bif (decide (r11.2 = (0 : Int))) then
 K (.one (.v (.bool) (decide (r13.2 = (190 : Int))))) []
 else
 K (.one (.v (.bool) false)) []
 else
 bif (decide ((List.length t0 : Int) = (0 : Int))) then
 bif (decide (r11.2 = (0 : Int))) then
 K (.one (.v (.bool) (decide (r13.2 = (190 : Int))))) []
 else
 K (.one (.v (.bool) false)) []
 else
 change_Apply_P t0 r13.1.1 ∧ (
 ∀ (r14 : List Int × Int), r14 = change_Apply_F t0 r13.1.1 → (
 wfR (.tup [.fr 5 (.int .u8) r14.1, .v (.int .i64) r14.2]) → (
 bif (!decide (r13.2 = (0 : Int))) then
 K (.one (.v (.bool) false)) []
 else
 bif (!decide (r14.2 = (0 : Int))) then
 K (.one (.v (.bool) false)) []
 else
 bif (!r13.1.2.2.1.2.1) then
 K (.one (.v (.bool) false)) []
 else
 bif (!decide (r13.1.2.2.2.1 = (2 : Int))) then
 K (.one (.v (.bool) false)) []
 else
 bif (decide ((mn r9 r10) = (0 : Int))) then
 bif (decide ((mx r9 r10) = (IntKind.wrap .i64 (r2 - (1 : Int))))) then
 K (.one (.v (.bool) (decide ((List.length r14.1 : Int) = (0 : Int))))) []
 else
 bif (decide ((mx r9 r10) = (IntKind.wrap .i64 (r2 - (1 : Int))))) then
 (wfD quoinlaw19_OperBack_d0 (t0, r2, (mn r9 r10), (mx r9 r10), r14.1, (IntKind.wrap .i64 ((mn r9 r10) - (1 : Int))), false, r13.1, ()) → quoinlaw19_OperBack_J0 (fun (x4 : Bool) => wfD quoinlaw19_OperBack_d0r (x4, ()) → (
 K (.one (.v (.bool) x4)) [])) t0 r2 (mn r9 r10) (mx r9 r10) r14.1 (IntKind.wrap .i64 ((mn r9 r10) - (1 : Int))) false r13.1)
 else
 (wfD quoinlaw19_OperBack_d0 (t0, r2, (mn r9 r10), (mx r9 r10), r14.1, (mn r9 r10), true, r13.1, ()) → quoinlaw19_OperBack_J0 (fun (x4 : Bool) => wfD quoinlaw19_OperBack_d0r (x4, ()) → (
 K (.one (.v (.bool) x4)) [])) t0 r2 (mn r9 r10) (mx r9 r10) r14.1 (mn r9 r10) true r13.1)
 else
 bif (decide ((mx r9 r10) = (IntKind.wrap .i64 (r2 - (1 : Int))))) then
 (wfD quoinlaw19_OperBack_d0 (t0, r2, (mn r9 r10), (mx r9 r10), r14.1, (IntKind.wrap .i64 ((mn r9 r10) - (1 : Int))), false, r13.1, ()) → quoinlaw19_OperBack_J0 (fun (x4 : Bool) => wfD quoinlaw19_OperBack_d0r (x4, ()) → (
 K (.one (.v (.bool) x4)) [])) t0 r2 (mn r9 r10) (mx r9 r10) r14.1 (IntKind.wrap .i64 ((mn r9 r10) - (1 : Int))) false r13.1)
 else
 (wfD quoinlaw19_OperBack_d0 (t0, r2, (mn r9 r10), (mx r9 r10), r14.1, (mn r9 r10), true, r13.1, ()) → quoinlaw19_OperBack_J0 (fun (x4 : Bool) => wfD quoinlaw19_OperBack_d0r (x4, ()) → (
 K (.one (.v (.bool) x4)) [])) t0 r2 (mn r9 r10) (mx r9 r10) r14.1 (mn r9 r10) true r13.1))))))))))))))))))))))
def quoinlaw19_OperBack_A : List AS := [.v (.sl (.int .u8)), .v (.st (.pair (.int .i64) (.pair (.int .i64) (.bool))))]
theorem quoinlaw19_OperBack_walk (t0 : List Int) (q1 : (Int × Int × Bool)) (K : Res → List Cell → Prop) : runF tb (getG quoinlaw19_OperBack_G) quoinlaw19_OperBack_B0 Tryd.f6 [true] (mkA quoinlaw19_OperBack_A (t0, q1, ())) K = quoinlaw19_OperBack_raw t0 q1 K := by kernel_rfl
--! law 1

def quoinlaw19_OperBack_R : App := runF tb (getG quoinlaw19_OperBack_G) quoinlaw19_OperBack_B0 Tryd.f6 [true]
theorem quoinlaw19_OperBack_ok : AppOk Tryd.prog 6 quoinlaw19_OperBack_R := runF_ok tb_M tb_ok quoinlaw19_OperBack_Gok (quoinlaw19_OperBack_b0) (f := 6) (fn := Tryd.f6) (by kernel_rfl) (by kernel_rfl) quoinlaw19_OperBack_st [true]
end Go.VE
namespace Go.VE
open Go Go.Proofs
/-- t with the bytes from f to g cut out -/
def cutL (t : List Int) (f g : Nat) : List Int := t.take f ++ t.drop g
theorem cutL_length (t : List Int) {f g : Nat} (h1 : f ≤ g) (h2 : g ≤ t.length) : (cutL t f g).length = t.length - (g - f) := by
  unfold cutL; rw [List.length_append, List.length_take, List.length_drop]; omega
theorem cutL_take (t : List Int) {f g : Nat} (h1 : f ≤ g) (h2 : g ≤ t.length) : (cutL t f g).take f = t.take f := by
  unfold cutL
  rw [List.take_append_of_le_length (by rw [List.length_take]; omega), List.take_take, Nat.min_self]
theorem cutL_drop (t : List Int) {f g : Nat} (h1 : f ≤ g) (h2 : g ≤ t.length) : (cutL t f g).drop f = t.drop g := by
  unfold cutL
  rw [List.drop_append_of_le_length (by rw [List.length_take]; omega), List.drop_eq_nil_of_le (by rw [List.length_take]; omega), List.nil_append]
theorem apply_cut (t : List Int) {f g : Nat} (h1 : f ≤ g) (h2 : g ≤ t.length) (hl : t.length ≤ lim) : change_Apply_F t (oper_edited_F t (f : Int) (g : Int) []) = (cutL t f g, 0) := by
  rw [apply_edited t [] h1 h2 hl, List.append_nil]; rfl
theorem back_at (t : List Int) {f g : Nat} (h1 : f ≤ g) (h2 : g ≤ t.length) (hl : t.length ≤ lim) : change_Apply_F (cutL t f g) (oper_edited_F (cutL t f g) (f : Int) (f : Int) ((t.take g).drop f)) = (t, 0) := by
  have hc := cutL_length t h1 h2
  rw [apply_edited _ _ (Nat.le_refl f) (by omega) (by omega), cutL_take t h1 h2, cutL_drop t h1 h2, mid_same t h1]
theorem cutL_cnt (t : List Int) {f g : Nat} : cnt (cutL t f g) = cnt (t.take f) + (cnt t - cnt (t.take g)) := by
  have := cnt_split t g
  unfold cutL
  rw [cnt_append]; omega

theorem back_plain (t : List Int) (i j : Int) (K : Res → List Cell → Prop) (h : K (.one (.v .bool true)) []) (hl : t.length ≤ 16384) (f g : Nat) (hfg : f < g) (hg : g ≤ t.length) (r5 : Eff × Int) (h5 : r5 = oper_Do_F t (f : Int) [100] ((f : Int), (g : Int), false, false) 1) :
    r5.2 = 0 ∧ r5.1.1 = oper_edited_F t (f : Int) (g : Int) [] ∧ r5.1.2.2.1 = (true, false, (t.take g).drop f) := by
  obtain ⟨cur, how, e, _⟩ := do_d (t := t) (at_ := f) (f := f) (g := g) (l := false) (lead := false) (by omega) (by omega) (spanned_plain _ (by omega) hg false) hfg
  rw [e, take_plain false (by omega) hg] at h5
  subst h5
  exact ⟨rfl, rfl, rfl⟩
theorem back_J0 (t : List Int) (ht : t.length ≤ 16384) (kr : Bool → Prop) (h : kr true) (a b : Nat) (hab : a ≤ b) (hb : b ≤ cnt t) (u own : List Int) (hu : u.length ≤ 16384) (ho : own.length ≤ 65536) (w : Nat) (p : Nat) (hp : Begins u w p) (ahead : Bool) (x : Eff) (hx : x.2.2.1 = (true, true, own)) (hcnt : cnt u + (b - a) + 1 = cnt t)
    (hput : ∃ c place all, oper_Put_F u (p : Int) 1 (true, true, own) ahead = ((oper_edited_F u (place : Int) (place : Int) all, c, (false, false, []), 0, false), 0) ∧ all.length ≤ 65536 ∧ change_Apply_F u (oper_edited_F u (place : Int) (place : Int) all) = (t, 0)) :
    quoinlaw19_OperBack_J0 kr t (IntKind.wrap .i64 ((cnt t : Int) + 1)) (a : Int) (b : Int) u (w : Int) ahead x := by
  have hlim : lim = 1099511627776 := rfl
  have hcl := cnt_le t
  have hcu := cnt_le u
  obtain ⟨c, place, all, e1, e2, e3⟩ := hput
  unfold quoinlaw19_OperBack_J0
  intro r15 h15 _
  rw [start_at hp] at h15
  subst h15
  rw [hx]
  refine ⟨put_P (by omega) (by show own.length < _; omega), fun r16 h16 _ => ?_⟩
  rw [show (((p : Int), (0 : Int)) : Int × Int).1 = (p : Int) from rfl, e1] at h16
  subst h16
  refine ⟨apply_P u all place place (by omega), fun r17 h17 _ => ?_⟩
  have h17 : r17 = (t, 0) := h17.trans e3
  subst h17
  refine brn (fun _ => ?_) (fun hh => absurd rfl hh)
  refine brn (fun _ => ?_) (fun hh => absurd rfl hh)
  refine brn (fun _ => ?_) (fun hh => absurd rfl hh)
  refine ⟨Count_P _, fun r18 h18 _ => ?_⟩
  rw [count_eq] at h18
  subst h18
  refine brn (fun _ => ?_) (fun hh => ?_)
  · show kr (decide (t = t))
    rw [decide_eq_true rfl]; exact h
  · refine absurd ?_ hh
    rw [wrap_i64 (n := (cnt t : Int) + 1) (by omega) (by omega), wrap_i64 (n := (cnt u : Int) + 1) (by omega) (by omega), wrap_i64 (n := (b : Int) - a) (by omega) (by omega), wrap_i64 (n := (b : Int) - a + 1) (by omega) (by omega), wrap_i64 (by omega) (by omega)]
    omega
end Go.VE
