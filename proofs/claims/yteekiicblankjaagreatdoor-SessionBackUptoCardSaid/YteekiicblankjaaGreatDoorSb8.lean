import Derived.Test.YteekiicblankjaaGreatDoorSb7
import Derived.OpenShut
import Derived.JoinedCond
set_option linter.unusedVariables false
set_option linter.unusedSectionVars false
set_option linter.unusedSimpArgs false
namespace Go.VE
variable [M9]
open Go Go.RowKit Go.ChangeShapes
def a3c : (l : List AS) → p0 l → Nat
 | [], _ => 0
 | .v t :: r, v => bulk t v.1 + a3c r v.2
 | .r _ t :: r, v => bulk t v.1 + a3c r v.2
 | .o _ e :: r, v => bulk (.sl e) v.1 + a3c r v.2
 | .f _ :: r, v => a3c r v.2
/-- the parameters' types are what the table says -/
def a84 (tb : Tab) : List AS → List TypeId → Bool
 | [], [] => true
 | .v t :: l, i :: r => match tb.get i with
  | some ti => match ti.ty.beq t with | true => a84 tb l r | false => false
  | none => false
 | _, _ => false
def a8B (P : Program) (ts : List TypeId) : Bool := ts.all fun t => P.readableRec t && decide (t < P.types.size)
theorem a5e {P : Program} {tb : Tab} (hT : o4 P tb) (hna : a4G tb = true) {H : Type} {enc : TypeId × Value → H} {W : World} {U : DataW H → Nat} {UA : List (DataW H) → Nat} (hU : a2M U UA) {base : Nat} :
  ∀ (l : List AS) (ts : List TypeId) (vs : List Value) (ds : List (DataW H)) (ps : List MemPlace), a84 tb l ts = true →
   (∀ (j : Nat) t v, ts[j]? = some t → vs[j]? = some v → Value.okWide P W .any base t v) → DataW.TrodAll enc P W 0 (fun _ => true) true ts vs ds ps →
   ∃ x : p0 l, j3 (Old W) W (mkA l x) vs [] ∧ a3c l x ≤ UA ds
 | [], [], vs, ds, ps, _, _, h => by
  obtain ⟨rfl, rfl, rfl⟩ := trodAll_nil h
  exact ⟨(), trivial, Nat.zero_le _⟩
 | [], _ :: _, _, _, _, h, _, _ => by cases h
 | .v _ :: _, [], _, _, _, h, _, _ => by cases h
 | .r _ _ :: _, [], _, _, _, h, _, _ => by cases h
 | .r _ _ :: _, _ :: _, _, _, _, h, _, _ => by cases h
 | .v t :: l, i :: r, vs, ds, ps, hp, hok, h => by
  obtain ⟨v, vs, d, ds, a, b, rfl, rfl, rfl, h1, h2⟩ := trodAll_cons h
  simp only [a84] at hp
  split at hp
  ·rename_i ti hti
   split at hp
   ·rename_i he
    have he := Ty.beq_eq he
    obtain ⟨x, hx, hb⟩ := a7L hT hna hU hti (hok 0 i v rfl rfl) h1
    obtain ⟨y, hy, hb2⟩ := a5e hT hna hU l r vs ds b hp (fun j t v h3 h4 => hok (j + 1) t v (by simpa using h3) (by simpa using h4)) h2
    subst he
    have := hU.cons d ds
    exact ⟨(x, y), ⟨hx, hy⟩, by simp only [a3c]; omega⟩
   ·cases hp
  ·cases hp
theorem a3x {P : Program} (hl : laidOutB P = true) {H : Type} {enc : TypeId × Value → H} {W W' : World} (hb : Below W.heap.size W W') {sp : Nat → Bool} :
  ∀ (ts : List TypeId) (vs : List Value) (ds : List (DataW H)) (ps : List MemPlace), a8B P ts = true → DataW.TrodAll enc P W 0 (fun _ => true) true ts vs ds ps →
   (∀ p ∈ ps, p.block < W.heap.size) → (∀ p ∈ ps, sp p.block = true) → DataW.TrodAll enc P W' 0 sp true ts vs ds ps
 | [], vs, ds, ps, _, h, _, _ => by
  obtain ⟨rfl, rfl, rfl⟩ := trodAll_nil h
  exact rfl
 | t :: ts, vs, ds, ps, hr, h, hlt, hs => by
  obtain ⟨v, vs, d, ds, a, b, rfl, rfl, rfl, h1, h2⟩ := trodAll_cons h
  simp only [a8B, List.all_cons, Bool.and_eq_true, decide_eq_true_eq] at hr
  exact ⟨a, b, WideElems.Trod_stays hl hr.1.1 hr.1.2 h1 (fun x hx => hb.same (hlt x (List.mem_append_left _ hx))) (fun x hx => hs x (List.mem_append_left _ hx)),
   a3x hl hb ts vs ds b hr.2 h2 (fun x hx => hlt x (List.mem_append_right _ hx)) (fun x hx => hs x (List.mem_append_right _ hx)), rfl⟩
theorem Z4.below {w w' : World} (h : Z4 w w' (fun b => b ∈ ([] : List Nat))) : Below w.heap.size w w' := ⟨h.os, h.tape, h.output, h.size, fun k hk => h.block k hk (by simp)⟩
/-- THE LAW: it answers true, and what was there is as it was -/
theorem a5z {P : Program} {tb : Tab} (hT : o4 P tb) {f : FuncId} {fn : Func} (hf : P.funcs[f]? = some fn) (he : a2b fn = true) {l : List AS} {A : App} (hA : l5 P f A)
  (hpar : a84 tb l fn.params.toList = true) (hrows : a8B P fn.params.toList = true) (hlay : laidOutB P = true) {rt : TypeId} (hrt : fn.resultTypes = #[rt]) (hrb : P.underlying rt = some .bool)
  {H : Type} {enc : TypeId × Value → H} {U : DataW H → Nat} {UA : List (DataW H) → Nat} (hU : a2M U UA) {s : ChangeSpec} (hv : s.vars = []) {N : Nat}
  (hs : ∀ ds : List (DataW H), ds.length = fn.params.toList.length → s.fn H ds = { results := [.lit (.bool true)], args := ds })
  (hna : a4G tb = true := by rfl) (hlaw : ∀ v : p0 l, wfA l v → a3c l v ≤ N → A (mkA l v) fun r _ => r = .one (.v .bool true))
  {W : World} (hgl : M9.ok (Old W) W) {base : Nat} {args : Array Value} {ds gs : List (DataW H)} {before : List MemPlace}
  (hval : ∀ (j : Nat) t v, fn.params[j]? = some t → args[j]? = some v → Value.okWide P W .any base t v)
  (hW : DataW.Whole enc P fn.params.toList s.vars false W args.toList ds gs before) (hk : UA (ds ++ gs) ≤ N) :
  Calls P f args W fun e W' => ∃ v, e = .returned v ∧ s.post enc P fn false true false false W args v W' := by
 have hW0 := hW
 obtain ⟨p, q, hA0, hV, rfl, hfz, hnd⟩ := hW
 rw [hv] at hV
 obtain ⟨rfl, rfl⟩ := trodVars_none hV
 rw [List.append_nil] at hk
 obtain ⟨x, hx, hb⟩ := a5e hT hna hU l fn.params.toList args.toList ds p hpar (fun j t v h1 h2 => hval j t v (by simpa using h1) (by simpa using h2)) hA0
 have hen := enters_of hf he
 have hlen : ds.length = fn.params.toList.length := by
  have : ∀ (ts : List TypeId) (vs : List Value) (ds : List (DataW H)) (ps : List MemPlace), DataW.TrodAll enc P W 0 (fun _ => true) true ts vs ds ps → ds.length = ts.length := by
   intro ts
   induction ts with
   | nil => intro vs ds ps h; obtain ⟨rfl, rfl, rfl⟩ := trodAll_nil h; rfl
   | cons t ts ih => intro vs ds ps h; obtain ⟨v, vs, d, ds, a, b, rfl, rfl, rfl, h1, h2⟩ := trodAll_cons h; simp [ih _ _ _ h2]
  exact this _ _ _ _ hA0
 have hwf : wfA l x := j3.wf l x hx
 rcases hA _ _ (hlaw x hwf (Nat.le_trans hb hk)) with ⟨_, hc⟩ | hx2
 ·refine (hc (Old W) W args.toList [] (fun b h => h) hgl hx).mono fun e W' hE => ?_
  obtain ⟨v, he, hB⟩ | ⟨n, _, hB, _⟩ := hE
  case inr => cases hB
  obtain ⟨res, outs, J, fb, hres, hsi, _, _, hr, _⟩ := hB
  subst he; subst hres
  obtain ⟨b, _, hr⟩ := hr
  have hvb := g6.bool_eq hr.2
  subst hvb
  have hbl := hsi.below
  have hlt : ∀ y ∈ p, y.block < W.heap.size := fun y hy => hW0.lt y (by simp [hy])
  refine ⟨_, rfl, ds, [], p ++ [], [], p, [], hW0, ?_, ?_, ?_, hbl.frame _, fun h => by cases h⟩
  ·rw [List.append_nil, hs ds hlen, hrt]
   exact trodAll_cons_mk (shut_bool hrb _) trodAll_mk0
  ·rw [List.append_nil, hs ds hlen]
   exact a3x hlay hbl _ _ _ _ hrows hA0 hlt (fun y hy => by simpa using hlt y hy)
  ·rw [List.append_nil, hs ds hlen, hv]; exact rfl
 ·exfalso
  obtain ⟨v, w', h1, _⟩ := hx2 (Old W) W args.toList [] (fun b h => h) hgl hx
  have h2 := hen args W
  simp only [Array.toArray_toList] at h1
  rw [h2] at h1
  cases h1
end Go.VE
namespace Go.VE
theorem as0 {c : Prop} [Decidable c] {A : Prop} (hp : c) (h : A) : (bif decide c then A else False) := by rw [decide_eq_true hp]; exact h
theorem as1 {c : Prop} [Decidable c] {Q A : Prop} (hp : c ∧ Q) (h : Q → A) : (bif decide c then A else False) := as0 hp.1 (h hp.2)
theorem bkn {b : Bool} {A B : Prop} (h1 : b = true → A) (h2 : b = false → B) : (bif b then A else B) := by
 cases b
 ·exact h2 rfl
 ·exact h1 rfl
theorem an1 {P Q A : Prop} (hp : P ∧ Q) (h : Q → A) : P ∧ A := ⟨hp.1, h hp.2⟩
theorem al {α : Sort _} {F : α} {W A : α → Prop} (h : A F) : ∀ r, r = F → (W r → A r) := fun _ e _ => e ▸ h
theorem al0 {α : Sort _} {F : α} {A : α → Prop} (h : A F) : ∀ r, r = F → A r := fun _ e => e ▸ h
section
variable {ρ : Type _} {k : ρ → Prop}
theorem br1 {b : Bool} {A B P Q : Prop} {x y : ρ} (hp : bif b then P else Q) (h : ∀ r, r = (bif b then x else y) → k r) (h1 : b = true → P → (∀ r, r = x → k r) → A) (h2 : b = false → Q → (∀ r, r = y → k r) → B) : (bif b then A else B) := by
 cases b
 ·exact h2 rfl hp h
 ·exact h1 rfl hp h
theorem br0 {b : Bool} {A B : Prop} {x y : ρ} (h : ∀ r, r = (bif b then x else y) → k r) (h1 : b = true → (∀ r, r = x → k r) → A) (h2 : b = false → (∀ r, r = y → k r) → B) : (bif b then A else B) := by
 cases b
 ·exact h2 rfl h
 ·exact h1 rfl h
theorem ae1 {α β : Type _} {F : α ⊕ β} {f : α → ρ} {g : β → ρ} {P : α → Prop} {W A : α → Prop} {V B : β → Prop} (hp : Sum.elim P (fun _ => True) F) (h : ∀ r, r = Sum.elim f g F → k r) (h1 : ∀ r, P r → (∀ q, q = f r → k q) → A r) (h2 : ∀ n, (∀ q, q = g n → k q) → B n) :
  (∀ r, F = .inl r → (W r → A r)) ∧ ∀ n, F = .inr n → (V n → B n) := by
 refine ⟨fun r e _ => ?_, fun n e _ => ?_⟩
 ·subst e; exact h1 r hp h
 ·subst e; exact h2 n h
theorem ae0 {α β : Type _} {F : α ⊕ β} {f : α → ρ} {g : β → ρ} {W A : α → Prop} {V B : β → Prop} (h : ∀ r, r = Sum.elim f g F → k r) (h1 : ∀ r, (∀ q, q = f r → k q) → A r) (h2 : ∀ n, (∀ q, q = g n → k q) → B n) :
  (∀ r, F = .inl r → (W r → A r)) ∧ ∀ n, F = .inr n → (V n → B n) := by
 refine ⟨fun r e _ => ?_, fun n e _ => ?_⟩
 ·subst e; exact h1 r h
 ·subst e; exact h2 n h
theorem sl {α β : Type _} {F : α ⊕ β} {f : α → ρ} {g : β → ρ} {q : α} (e : F = .inl q) (h : ∀ r, r = Sum.elim f g F → k r) : ∀ r, r = f q → k r := by subst e; exact h
theorem sr {α β : Type _} {F : α ⊕ β} {f : α → ρ} {g : β → ρ} {q : β} (e : F = .inr q) (h : ∀ r, r = Sum.elim f g F → k r) : ∀ r, r = g q → k r := by subst e; exact h
theorem hc2 {α β : Type _} {F : α ⊕ β} {A : α → Prop} {B : β → Prop} (h1 : ∀ q, F = .inl q → A q) (h2 : ∀ q, F = .inr q → B q) : ∀ r, r = F → Sum.elim A B r := fun r e => by
 cases r with
 | inl q => exact h1 q e.symm
 | inr q => exact h2 q e.symm
theorem hc3 {α β γ : Type _} {F : α ⊕ (β ⊕ γ)} {A : α → Prop} {B : β → Prop} {C : γ → Prop} (h1 : ∀ q, F = .inl q → A q) (h2 : ∀ q, F = .inr (.inl q) → B q) (h3 : ∀ q, F = .inr (.inr q) → C q) : ∀ r, r = F → Sum.elim A (Sum.elim B C) r := fun r e => by
 rcases r with q | q | q
 ·exact h1 q e.symm
 ·exact h2 q e.symm
 ·exact h3 q e.symm
theorem hc4 {α β γ δ : Type _} {F : α ⊕ (β ⊕ (γ ⊕ δ))} {A : α → Prop} {B : β → Prop} {C : γ → Prop} {D : δ → Prop} (h1 : ∀ q, F = .inl q → A q) (h2 : ∀ q, F = .inr (.inl q) → B q) (h3 : ∀ q, F = .inr (.inr (.inl q)) → C q) (h4 : ∀ q, F = .inr (.inr (.inr q)) → D q) : ∀ r, r = F → Sum.elim A (Sum.elim B (Sum.elim C D)) r := fun r e => by
 rcases r with q | q | q | q
 ·exact h1 q e.symm
 ·exact h2 q e.symm
 ·exact h3 q e.symm
 ·exact h4 q e.symm
end
end Go.VE
