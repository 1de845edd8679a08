/- KeysParse: whatever the input, up to the bulk that the statement names, the law answers true, and what was handed in reads as it did. Its conditions: the bound of the given statement and the tables that its card ties, no other. -/
import Derived.Test.YtdmgfabppaffkaaDoorQ13
set_option linter.unusedVariables false
set_option linter.unusedSectionVars false
set_option linter.unusedSimpArgs false
namespace Go.VE
open Go Go.Proofs

theorem mem_len {s : List Int} {N : List (List Int)} : s ∈ N ↔ s ∈ N.filter fun n => n.length == s.length := by
  rw [List.mem_filter]; simp

theorem mem2_0 (b d : Int) : [b, d] ∈ bareL ++ plainB ↔ b = 103 ∧ (d = 103 ∨ d = 101 ∨ d = 69 ∨ d = 45 ∨ d = 43) := by
  rw [mem_len]
  have e : ((bareL ++ plainB).filter fun n => n.length == [b, d].length) = [[103, 103], [103, 101], [103, 69], [103, 45], [103, 43]] := by
    show ((bareL ++ plainB).filter fun n => n.length == 2) = _
    kernel_rfl
  rw [e]
  simp only [List.mem_cons, List.not_mem_nil, or_false, List.cons.injEq, and_true]
  omega

theorem mem2_1 (b d : Int) : [b, d] ∈ bareL ++ objsL ↔ b = 103 ∧ (d = 103 ∨ d = 101 ∨ d = 69) ∨ (b = 105 ∨ b = 97) ∧ d ∈ objectsL := by
  rw [mem_len]
  have e : ((bareL ++ objsL).filter fun n => n.length == [b, d].length) = [[103, 103], [103, 101], [103, 69]] ++ objL (objectsL.map fun x => [x]) := by
    show ((bareL ++ objsL).filter fun n => n.length == 2) = _
    kernel_rfl
  have o : ∀ l : List Int, [b, d] ∈ objL (l.map fun x => [x]) ↔ (b = 105 ∨ b = 97) ∧ d ∈ l := by
    intro l
    induction l with
    | nil => simp [objL]
    | cons x l ih =>
      simp only [List.map_cons, objL, List.mem_cons, ih, List.cons_append, List.nil_append, List.cons.injEq, and_true]
      constructor
      · rintro (⟨h1, h2⟩ | ⟨h1, h2⟩ | ⟨h1, h2⟩)
        · exact ⟨.inl h1, .inl h2⟩
        · exact ⟨.inr h1, .inl h2⟩
        · exact ⟨h1, .inr h2⟩
      · rintro ⟨h1 | h1, h2 | h2⟩
        · exact .inl ⟨h1, h2⟩
        · exact .inr (.inr ⟨.inl h1, h2⟩)
        · exact .inr (.inl ⟨h1, h2⟩)
        · exact .inr (.inr ⟨.inr h1, h2⟩)
  rw [e, List.mem_append, o]
  simp only [List.mem_cons, List.not_mem_nil, or_false, List.cons.injEq, and_true]
  constructor
  · rintro (h | h)
    · left; omega
    · exact .inr h
  · rintro (h | h)
    · left; omega
    · exact .inr h

theorem memW (b : Int) : [b] ∈ withL ↔ b ∈ markedL := by
  rw [with_eq]
  simp only [markedL, List.mem_cons, List.not_mem_nil, or_false, List.cons.injEq, and_true]
  omega
theorem memW0 (b : Int) : [b] ∈ withL ++ plainW ↔ b ∈ markedL ∨ b = 114 ∨ b = 109 := by
  rw [List.mem_append, memW, plainW_eq]
  simp

/-! ### one key -/
def tabM (b : Int) : Int × List Int × Int :=
  if b = 127 then (2, [8], 0) else if b = 10 then (2, [13], 0) else if b = 8 ∨ b = 13 ∨ b ∈ singlesL then (2, [b], 0) else if b = 47 ∨ b = 63 then (2, [b], 0)
  else if b ∈ markedL then (1, [], 0) else if b = 103 then (1, [], 0) else (0, [], 0)
def tab0 (b : Int) : Int × List Int × Int :=
  if b = 58 then (2, [58], 0) else if b = 114 ∨ b = 109 then (1, [], 0) else if b = 103 then (1, [], 0) else if b ∈ plainsL then (2, [b], 0) else tabM b
def tab1 (b : Int) : Int × List Int × Int := if b = 105 ∨ b = 97 then (1, [], 0) else tabM b

theorem byte_of {p : Int → Bool} (h : ∀ n : Fin 256, p (n.val : Int) = true) {b : Int} (h0 : 0 ≤ b) (h1 : b ≤ 255) : p b = true := by
  have := h ⟨b.toNat, by omega⟩
  rw [show ((⟨b.toNat, by omega⟩ : Fin 256).val : Int) = b by show (b.toNat : Int) = b; omega] at this
  exact this

theorem one_0 {b : Int} (h0 : 0 ≤ b) (h1 : b ≤ 255) : quoinref21_known_F [b] (bareL ++ plainB) (withL ++ plainW) = tab0 b := by
  have := byte_of (p := fun b => decide (quoinref21_known_F [b] (bareL ++ plainB) (withL ++ plainW) = tab0 b)) (by decide +kernel) h0 h1
  simpa using this
theorem one_1 {b : Int} (h0 : 0 ≤ b) (h1 : b ≤ 255) : quoinref21_known_F [b] (bareL ++ objsL) withL = tab1 b := by
  have := byte_of (p := fun b => decide (quoinref21_known_F [b] (bareL ++ objsL) withL = tab1 b)) (by decide +kernel) h0 h1
  simpa using this
end Go.VE
namespace Go.VE
open Go Go.Proofs

def finR (m : MR) : Cmd × Int := if m.1 = 0 ∨ m.1 = 2 then (zC, m.1) else if m.2.1 ≠ [] then (zC, 2) else (m.2.2, m.1)
theorem finM_eq (s : List Int) (c : Cmd) : finM s c = finR (namedM (s.drop (cntL s 0).2) (setCnt c (cntL s 0).1)) := rfl

def toldF (c : Cmd) (t : Int × List Int × Int) : Cmd × Int := quoinref21_told_F c t.1 t.2.1 t.2.2
theorem told_0 (c : Cmd) (k : List Int) (a : Int) : toldF c (0, k, a) = (zC, 2) := rfl
theorem told_1 (c : Cmd) (k : List Int) (a : Int) : toldF c (1, k, a) = (zC, 0) := rfl
theorem told_2 (c : Cmd) {k : List Int} (a : Int) (h1 : k ≠ [47]) (h2 : k ≠ [63]) (h3 : k ≠ [58]) : toldF c (2, k, a) = ((c.1, c.2.1, c.2.2.1, k, a, c.2.2.2.2.2), 1) := by
  unfold toldF quoinref21_told_F
  simp [h1, h2, h3]
theorem told_3 (c : Cmd) {k : List Int} (a : Int) (h : k = [47] ∨ k = [63] ∨ k = [58]) : toldF c (2, k, a) = ((c.1, c.2.1, c.2.2.1, k, a, c.2.2.2.2.2), 3) := by
  rcases h with rfl | rfl | rfl <;> rfl

theorem key_set {c : Cmd} (hc : c.2.2.2.2.1 = 0) (k : List Int) : setKey c k = (c.1, c.2.1, c.2.2.1, k, 0, c.2.2.2.2.2) := by
  unfold setKey; rw [hc]

theorem fin_whole (c : Cmd) : finR (1, [], c) = (c, 1) := rfl
theorem fin_ask (c : Cmd) : finR (3, [], c) = (c, 3) := rfl
theorem fin_more (s : List Int) (c : Cmd) : finR (0, s, c) = (zC, 0) := rfl
theorem fin_bad (s : List Int) (c : Cmd) : finR (2, s, c) = (zC, 2) := rfl
theorem fin_left {w : Int} (hw : w = 1 ∨ w = 3) {s : List Int} (hs : s ≠ []) (c : Cmd) : finR (w, s, c) = (zC, 2) := by
  unfold finR
  rw [if_neg (by omega), if_pos hs]

theorem singles_not {b : Int} (h : b ∈ singlesL) : b ≠ 47 ∧ b ≠ 63 ∧ b ≠ 58 ∧ b ∉ markedL ∧ b ≠ 103 := by
  have : ∀ x ∈ singlesL, x ≠ 47 ∧ x ≠ 63 ∧ x ≠ 58 ∧ x ∉ markedL ∧ x ≠ 103 := by decide
  exact this b h
theorem marked_not {b : Int} (h : b ∈ markedL) : b ≠ 47 ∧ b ≠ 63 ∧ b ≠ 58 ∧ b ≠ 103 := by
  have : ∀ x ∈ markedL, x ≠ 47 ∧ x ≠ 63 ∧ x ≠ 58 ∧ x ≠ 103 := by decide
  exact this b h
theorem plains_not {b : Int} (h : b ∈ plainsL) : b ≠ 47 ∧ b ≠ 63 ∧ b ≠ 58 ∧ b ∉ markedL ∧ b ≠ 103 ∧ b ≠ 114 ∧ b ≠ 109 := by
  have : ∀ x ∈ plainsL, x ≠ 47 ∧ x ≠ 63 ∧ x ≠ 58 ∧ x ∉ markedL ∧ x ≠ 103 ∧ x ≠ 114 ∧ x ≠ 109 := by decide
  exact this b h
theorem ne1 {b x : Int} (h : b ≠ x) : ([b] : List Int) ≠ [x] := by simpa using h

/-! ### a motion -/
theorem mot1 {c : Cmd} (hc : c.2.2.2.2.1 = 0) (b : Int) : finR (motM [] c b) = toldF c (tabM b) := by
  unfold motM tabM
  by_cases h1 : b = 127
  · rw [if_pos h1, if_pos h1, fin_whole, key_set hc, told_2 c 0 (by decide) (by decide) (by decide)]
  rw [if_neg h1, if_neg h1]
  by_cases h2 : b = 10
  · rw [if_pos h2, if_pos h2, fin_whole, key_set hc, told_2 c 0 (by decide) (by decide) (by decide)]
  rw [if_neg h2, if_neg h2]
  by_cases h3 : b = 8 ∨ b = 13 ∨ b ∈ singlesL
  · have hn : b ≠ 47 ∧ b ≠ 63 ∧ b ≠ 58 := by
      rcases h3 with h3 | h3 | h3
      · omega
      · omega
      · have := singles_not h3; exact ⟨this.1, this.2.1, this.2.2.1⟩
    rw [if_pos h3, if_pos h3, fin_whole, key_set hc, told_2 c 0 (ne1 hn.1) (ne1 hn.2.1) (ne1 hn.2.2)]
  rw [if_neg h3, if_neg h3]
  by_cases h4 : b = 47 ∨ b = 63
  · rw [if_pos h4, if_pos h4, fin_ask, key_set hc, told_3 c 0 (by rcases h4 with rfl | rfl <;> simp)]
  rw [if_neg h4, if_neg h4]
  by_cases h5 : b ∈ markedL
  · rw [if_pos h5, if_pos h5, told_1]; rfl
  rw [if_neg h5, if_neg h5]
  by_cases h6 : b = 103
  · rw [if_pos h6, if_pos h6, told_1]; rfl
  rw [if_neg h6, if_neg h6, fin_bad, told_0]

/-- what two keys come to, as motions -/
def pairM (c : Cmd) (b d : Int) : Cmd × Int :=
  if b = 103 ∧ (d = 103 ∨ d = 101 ∨ d = 69) then ((c.1, c.2.1, c.2.2.1, [b, d], 0, c.2.2.2.2.2), 1) else if b ∈ markedL ∧ d ≠ 27 then ((c.1, c.2.1, c.2.2.1, [b], d, c.2.2.2.2.2), 1) else (zC, 2)

theorem mot2 {c : Cmd} (hc : c.2.2.2.2.1 = 0) (b d : Int) : finR (motM [d] c b) = pairM c b d := by
  unfold motM pairM
  have no : b ≠ 103 → b ∉ markedL → (zC, (2 : Int)) = if b = 103 ∧ (d = 103 ∨ d = 101 ∨ d = 69) then ((c.1, c.2.1, c.2.2.1, [b, d], 0, c.2.2.2.2.2), 1) else if b ∈ markedL ∧ d ≠ 27 then ((c.1, c.2.1, c.2.2.1, [b], d, c.2.2.2.2.2), 1) else (zC, 2) := fun h1 h2 => by
    rw [if_neg (fun h => h1 h.1), if_neg (fun h => h2 h.1)]
  by_cases h1 : b = 127
  · rw [if_pos h1, fin_left (.inl rfl) (by simp)]; exact no (by omega) (by subst h1; decide)
  rw [if_neg h1]
  by_cases h2 : b = 10
  · rw [if_pos h2, fin_left (.inl rfl) (by simp)]; exact no (by omega) (by subst h2; decide)
  rw [if_neg h2]
  by_cases h3 : b = 8 ∨ b = 13 ∨ b ∈ singlesL
  · rw [if_pos h3, fin_left (.inl rfl) (by simp)]
    rcases h3 with h3 | h3 | h3
    · exact no (by omega) (by subst h3; decide)
    · exact no (by omega) (by subst h3; decide)
    · have := singles_not h3; exact no this.2.2.2.2 this.2.2.2.1
  rw [if_neg h3]
  by_cases h4 : b = 47 ∨ b = 63
  · rw [if_pos h4, fin_left (.inr rfl) (by simp)]; exact no (by omega) (by rcases h4 with rfl | rfl <;> decide)
  rw [if_neg h4]
  by_cases h5 : b ∈ markedL
  · rw [if_pos h5, if_neg (fun h => (marked_not h5).2.2.2 h.1)]
    simp only [argM]
    by_cases hd : d = 27
    · rw [if_pos hd, if_neg (fun h => h.2 hd), fin_bad]
    · rw [if_neg hd, if_pos ⟨h5, hd⟩, fin_whole]; rfl
  rw [if_neg h5]
  by_cases h6 : b = 103
  · rw [if_pos h6]
    simp only [gM]
    by_cases hd : d = 103 ∨ d = 101 ∨ d = 69
    · rw [if_pos hd, if_pos ⟨h6, hd⟩, fin_whole, h6]
      unfold setKey; rw [hc]
    · rw [if_neg hd, if_neg (fun h => hd h.2), if_neg (fun h => h5 h.1), fin_bad]
  rw [if_neg h6, fin_bad]; exact no h6 h5

theorem arg3 {r : List Int} (hr : 2 ≤ r.length) (c : Cmd) : finR (argM r c) = (zC, 2) := by
  cases r with
  | nil => simp at hr
  | cons d r' =>
    cases r' with
    | nil => simp at hr
    | cons e r'' =>
      simp only [argM]
      split
      · exact fin_bad _ _
      · exact fin_left (.inl rfl) (by simp) _

theorem mot3 {r : List Int} (hr : 2 ≤ r.length) (c : Cmd) (b : Int) : finR (motM r c b) = (zC, 2) := by
  have hne : r ≠ [] := fun e => by rw [e] at hr; simp at hr
  unfold motM
  split
  · exact fin_left (.inl rfl) hne _
  · split
    · exact fin_left (.inl rfl) hne _
    · split
      · exact fin_left (.inl rfl) hne _
      · split
        · exact fin_left (.inr rfl) hne _
        · split
          · exact arg3 hr _
          · split
            · cases r with
              | nil => exact absurd rfl hne
              | cons d r' =>
                cases r' with
                | nil => simp at hr
                | cons e r'' =>
                  simp only [gM]
                  split
                  · exact fin_left (.inl rfl) (by simp) _
                  · exact fin_bad _ _
            · exact fin_bad _ _

/-! ### behind an operator -/
def IsOp (op : List Int) (l : Int) : Prop := op = [l] ∧ (l = 100 ∨ l = 99 ∨ l = 121 ∨ l = 62 ∨ l = 60) ∨ op = [103, l] ∧ (l = 126 ∨ l = 117 ∨ l = 85)

theorem op_marked {op : List Int} {l : Int} (h : IsOp op l) : l ∉ markedL ∧ l ≠ 103 ∧ l ≠ 105 ∧ l ≠ 97 ∧ l ≠ 101 ∧ l ≠ 69 := by
  have : ∀ x ∈ ([100, 99, 121, 62, 60, 126, 117, 85] : List Int), x ∉ markedL ∧ x ≠ 103 ∧ x ≠ 105 ∧ x ≠ 97 ∧ x ≠ 101 ∧ x ≠ 69 := by decide
  refine this l ?_
  simp only [List.mem_cons, List.not_mem_nil, or_false]
  rcases h with ⟨_, h⟩ | ⟨_, h⟩ <;> omega

theorem op_head {op : List Int} {l : Int} (h : IsOp op l) : rd 0 op 0 = 103 ↔ op = [103, l] := by
  rcases h with ⟨rfl, h⟩ | ⟨rfl, h⟩
  · show l = 103 ↔ _
    simp; omega
  · simp [rd]

/-- what the document says of the keys behind an operator and its count -/
def refW (op s : List Int) (c : Cmd) : Cmd × Int :=
  if (foundL s 0 (quoinref21_doubles_F op)).1 = 2 then (setKey c op, 1)
  else toldF c (if (quoinref21_known_F s (bareL ++ objsL) withL).1 < (foundL s 0 (quoinref21_doubles_F op)).1 then ((foundL s 0 (quoinref21_doubles_F op)).1, (quoinref21_known_F s (bareL ++ objsL) withL).2) else quoinref21_known_F s (bareL ++ objsL) withL)

theorem dbl1 (l : Int) : quoinref21_doubles_F [l] = [[l]] := rfl
theorem dbl2 (l : Int) : quoinref21_doubles_F [103, l] = [[l], [103, l]] := rfl

theorem wrk_ref1 {op : List Int} {l b : Int} (ho : IsOp op l) (h0 : 0 ≤ b) (h1 : b ≤ 255) {c : Cmd} (hc : c.2.2.2.2.1 = 0) (hco : c.2.2.1 = op) : refW op [b] c = finR (wrkM l [b] c) := by
  unfold refW
  rw [one_1 h0 h1]
  simp only [wrkM]
  by_cases hb : b = l
  · have : (foundL [b] 0 (quoinref21_doubles_F op)).1 = 2 := by
      rcases ho with ⟨rfl, _⟩ | ⟨rfl, _⟩
      · rw [dbl1]; unfold foundL; rw [if_pos (by rw [hb])]
      · rw [dbl2]; unfold foundL; rw [if_pos (by rw [hb])]
    rw [if_pos this, if_pos hb, fin_whole, hco]
  rw [if_neg hb]
  have hf : (foundL [b] 0 (quoinref21_doubles_F op)).1 = 0 ∨ (foundL [b] 0 (quoinref21_doubles_F op)).1 = 1 ∧ b = 103 := by
    rcases ho with ⟨rfl, _⟩ | ⟨rfl, _⟩
    · left; rw [dbl1]; unfold foundL; rw [if_neg (fun h => hb (by simpa using h.symm))]; simp [foundL]
    · rw [dbl2]
      unfold foundL; rw [if_neg (fun h => hb (by simpa using h.symm))]
      unfold foundL; rw [if_neg (by simp)]
      by_cases h103 : b = 103
      · right; subst h103; simp [foundL]
      · left; simp [foundL, Ne.symm h103]
  rw [if_neg (by omega)]
  unfold tab1
  have key : toldF c (if (if b = 105 ∨ b = 97 then ((1 : Int), ([] : List Int), (0 : Int)) else tabM b).1 < (foundL [b] 0 (quoinref21_doubles_F op)).1 then ((foundL [b] 0 (quoinref21_doubles_F op)).1, (if b = 105 ∨ b = 97 then ((1 : Int), ([] : List Int), (0 : Int)) else tabM b).2) else (if b = 105 ∨ b = 97 then ((1 : Int), ([] : List Int), (0 : Int)) else tabM b)) = toldF c (if b = 105 ∨ b = 97 then ((1 : Int), ([] : List Int), (0 : Int)) else tabM b) := by
    rcases hf with hf | ⟨hf, h103⟩
    · rw [hf, if_neg]
      have : ∀ x : Int, 0 ≤ (tabM x).1 := fun x => by
        simp only [tabM, apply_ite Prod.fst]
        repeat' split
        all_goals decide
      split
      · decide
      · have := this b; omega
    · subst h103
      rw [hf]
      rfl
  rw [key]
  by_cases h2 : b = 105 ∨ b = 97
  · rw [if_pos h2, if_pos h2, told_1]; rfl
  · rw [if_neg h2, if_neg h2, if_neg (by simp)]
    exact (mot1 hc b).symm

theorem wrk_ref2 {op : List Int} {l b d : Int} (ho : IsOp op l) {c : Cmd} (hc : c.2.2.2.2.1 = 0) (hco : c.2.2.1 = op) : refW op [b, d] c = finR (wrkM l [b, d] c) := by
  have hm := op_marked ho
  have hk : quoinref21_known_F [b, d] (bareL ++ objsL) withL = if [b, d] ∈ bareL ++ objsL then (2, [b, d], 0) else if [b] ∈ withL ∧ d ≠ 27 then (2, [b], d) else (0, [], 0) :=
    known2 (fun n hn => (bare1_short n hn).2) (fun n hn => with_one n (List.mem_append_left _ hn)) (fun h => by
      have := (memW b).1 h
      constructor
      · intro e; subst e; revert this; decide
      · intro e; subst e; revert this; decide)
  simp only [mem2_1, memW] at hk
  have hf : (foundL [b, d] 0 (quoinref21_doubles_F op)).1 = if b = 103 ∧ d = l ∧ op = [103, l] then 2 else 0 := by
    rw [found_long _ _ 0 (fun n hn => by
      rcases ho with ⟨rfl, _⟩ | ⟨rfl, _⟩
      · rw [dbl1] at hn; simp at hn; subst hn; simp
      · rw [dbl2] at hn; simp at hn; rcases hn with rfl | rfl <;> simp)]
    have : [b, d] ∈ quoinref21_doubles_F op ↔ b = 103 ∧ d = l ∧ op = [103, l] := by
      rcases ho with ⟨rfl, _⟩ | ⟨rfl, _⟩
      · rw [dbl1]; simp
      · rw [dbl2]; simp
    by_cases h : [b, d] ∈ quoinref21_doubles_F op
    · rw [if_pos h, if_pos (this.1 h)]
    · rw [if_neg h, if_neg (fun hh => h (this.2 hh))]
  unfold refW
  rw [hf]
  simp only [wrkM, List.head?_cons, List.tail_cons, Option.some.injEq]
  by_cases h1 : b = 103 ∧ d = l ∧ op = [103, l]
  · rw [if_pos h1, if_pos rfl, if_neg (fun h => hm.2.1 (by omega)), if_neg (by omega), if_pos ⟨h1.1, by rw [hco]; exact (op_head ho).2 h1.2.2, h1.2.1⟩, fin_whole, hco]
  rw [if_neg h1, if_neg (by omega)]
  have hlt : ¬ (quoinref21_known_F [b, d] (bareL ++ objsL) withL).1 < 0 := by
    rw [hk]
    simp only [apply_ite Prod.fst]
    repeat' split
    all_goals decide
  rw [if_neg hlt, hk]
  have hno : ¬ (b = 103 ∧ rd 0 c.2.2.1 0 = 103 ∧ d = l) := fun h => h1 ⟨h.1, h.2.2, by rw [hco] at h; exact (op_head ho).1 h.2.1⟩
  by_cases hb : b = l
  · rw [if_pos hb, fin_left (.inl rfl) (by simp), if_neg (by omega), if_neg (fun h => hm.1 (by rw [← hb]; exact h.1)), told_0]
  rw [if_neg hb]
  by_cases h2 : b = 105 ∨ b = 97
  · rw [if_pos h2]
    simp only [objM]
    by_cases hd : d ∈ objectsL
    · rw [if_pos hd, fin_whole, if_pos (.inr ⟨h2, hd⟩), told_2 c 0 (by simp) (by simp) (by simp)]
      rw [key_set hc]
    · rw [if_neg hd, fin_bad, if_neg (by rintro (h | h); omega; exact hd h.2), if_neg (fun h => by rcases h2 with rfl | rfl <;> exact absurd h.1 (by decide)), told_0]
  rw [if_neg h2, if_neg hno, mot2 hc]
  unfold pairM
  by_cases h3 : b = 103 ∧ (d = 103 ∨ d = 101 ∨ d = 69)
  · rw [if_pos h3, if_pos (.inl h3), told_2 c 0 (by simp) (by simp) (by simp)]
  rw [if_neg h3, if_neg (by rintro (h | h); exact h3 h; exact h2 h.1)]
  by_cases h4 : b ∈ markedL ∧ d ≠ 27
  · have := marked_not h4.1
    rw [if_pos h4, if_pos h4, told_2 c d (ne1 this.1) (ne1 this.2.1) (ne1 this.2.2.1)]
  · rw [if_neg h4, if_neg h4, told_0]

theorem wrk_ref3 {op : List Int} {l : Int} (ho : IsOp op l) {s : List Int} (hs : 3 ≤ s.length) (hl : s.length ≤ 1099511627776) (c : Cmd) : refW op s c = finR (wrkM l s c) := by
  have hk := known3 (N := bareL ++ objsL) (W := withL) hs hl (fun n hn => (bare1_short n hn).2) (fun n hn => with_one n (List.mem_append_left _ hn))
  have hf : (foundL s 0 (quoinref21_doubles_F op)).1 = 0 := by
    have hd : ∀ n ∈ quoinref21_doubles_F op, n.length ≤ 2 := fun n hn => by
      rcases ho with ⟨rfl, _⟩ | ⟨rfl, _⟩
      · rw [dbl1] at hn; simp at hn; subst hn; simp
      · rw [dbl2] at hn; simp at hn; rcases hn with rfl | rfl <;> simp
    rw [found_long _ _ 0 (fun n hn => by have := hd n hn; omega), if_neg (fun h => by have := hd _ h; omega)]
  unfold refW
  rw [hf, hk, if_neg (by omega), if_neg (by decide), told_0]
  cases s with
  | nil => simp at hs
  | cons b r =>
    have hr : 2 ≤ r.length := by simp at hs; omega
    have hne : r ≠ [] := fun e => by rw [e] at hr; simp at hr
    simp only [wrkM]
    split
    · exact (fin_left (.inl rfl) hne _).symm
    · split
      · cases r with
        | nil => exact absurd rfl hne
        | cons d r' =>
          cases r' with
          | nil => simp at hr
          | cons e r'' =>
            simp only [objM]
            split
            · exact (fin_left (.inl rfl) (by simp) _).symm
            · exact (fin_bad _ _).symm
      · split
        · cases r with
          | nil => exact absurd rfl hne
          | cons d r' =>
            cases r' with
            | nil => simp at hr
            | cons e r'' => exact (fin_left (.inl rfl) (by simp) _).symm
        · exact (mot3 hr _ _).symm

/-- behind an operator and its count -/
theorem wrk_ref {op : List Int} {l : Int} (ho : IsOp op l) {s : List Int} (hs : s ≠ []) (hl : s.length ≤ 1099511627776) (h255 : ∀ x ∈ s, 0 ≤ x ∧ x ≤ 255) {c : Cmd} (hc : c.2.2.2.2.1 = 0) (hco : c.2.2.1 = op) : refW op s c = finR (wrkM l s c) := by
  match s, hs, hl, h255 with
  | [b], _, _, h255 => exact wrk_ref1 ho (h255 b (by simp)).1 (h255 b (by simp)).2 hc hco
  | [b, d], _, _, _ => exact wrk_ref2 ho hc hco
  | b :: d :: e :: r, _, hl, _ => exact wrk_ref3 ho (by simp) hl c
end Go.VE
namespace Go.VE
open Go Go.Proofs
/-! ### quoin/quoinref21.Same -/
def quoinref21_Same_G : List (Nat × App) := []
theorem quoinref21_Same_Gok : GOk Tryd.prog (getG quoinref21_Same_G) := GOk.nil
def quoinref21_Same_raw (a0 : (Int × Int × List Int × List Int × Int × List Int)) (b1 : (Int × Int × List Int × List Int × Int × List Int)) (K : Res → List Cell → Prop) : Prop :=
  bif (decide (a0.1 = b1.1)) then
    bif (decide (a0.2.1 = b1.2.1)) then
      bif (decide (a0.2.2.1 = b1.2.2.1)) then
        bif (decide (a0.2.2.2.1 = b1.2.2.2.1)) then
          bif (decide (a0.2.2.2.2.1 = b1.2.2.2.2.1)) then
            K (.one (.v (.bool) (decide (a0.2.2.2.2.2 = b1.2.2.2.2.2)))) []
          else
            K (.one (.v (.bool) false)) []
        else
          K (.one (.v (.bool) false)) []
      else
        K (.one (.v (.bool) false)) []
    else
      K (.one (.v (.bool) false)) []
  else
    K (.one (.v (.bool) false)) []
def quoinref21_Same_A : List AS := [.v (.st (.pair (.int .u8) (.pair (.int .i64) (.pair (.str) (.pair (.str) (.pair (.int .u8) (.sl (.int .u8)))))))), .v (.st (.pair (.int .u8) (.pair (.int .i64) (.pair (.str) (.pair (.str) (.pair (.int .u8) (.sl (.int .u8))))))))]
theorem quoinref21_Same_walk (a0 : (Int × Int × List Int × List Int × Int × List Int)) (b1 : (Int × Int × List Int × List Int × Int × List Int)) (K : Res → List Cell → Prop) : runF tb (getG quoinref21_Same_G) [] Tryd.f13 [true] (mkA quoinref21_Same_A (a0, b1, ())) K = quoinref21_Same_raw a0 b1 K := by kernel_rfl

def quoinref21_Same_F (a0 : (Int × Int × List Int × List Int × Int × List Int)) (b1 : (Int × Int × List Int × List Int × Int × List Int)) : Bool :=
  bif (decide (a0.1 = b1.1)) then
    bif (decide (a0.2.1 = b1.2.1)) then
      bif (decide (a0.2.2.1 = b1.2.2.1)) then
        bif (decide (a0.2.2.2.1 = b1.2.2.2.1)) then
          bif (decide (a0.2.2.2.2.1 = b1.2.2.2.2.1)) then
            (decide (a0.2.2.2.2.2 = b1.2.2.2.2.2))
          else
            false
        else
          false
      else
        false
    else
      false
  else
    false
set_option maxRecDepth 20000 in
theorem quoinref21_Same_sp (a0 : (Int × Int × List Int × List Int × Int × List Int)) (b1 : (Int × Int × List Int × List Int × Int × List Int)) (K : Res → List Cell → Prop) (_ : wfA quoinref21_Same_A (a0, b1, ())) (h : ∀ r : Bool, r = quoinref21_Same_F a0 b1 → K (.one (.v (.bool) r)) []) : quoinref21_Same_raw a0 b1 K := by
  unfold quoinref21_Same_raw
  refine brb (fun c_1 => ?_) (fun c_1 => ?_)
  ·
    refine brb (fun c_2 => ?_) (fun c_2 => ?_)
    ·
      refine brb (fun c_3 => ?_) (fun c_3 => ?_)
      ·
        refine brb (fun c_4 => ?_) (fun c_4 => ?_)
        ·
          refine brb (fun c_5 => ?_) (fun c_5 => ?_)
          ·
            exact h _ ((Eq.trans (ctrue c_1) (Eq.trans (ctrue c_2) (Eq.trans (ctrue c_3) (Eq.trans (ctrue c_4) (ctrue c_5))))) : quoinref21_Same_F a0 b1 = _).symm
          ·
            exact h _ ((Eq.trans (ctrue c_1) (Eq.trans (ctrue c_2) (Eq.trans (ctrue c_3) (Eq.trans (ctrue c_4) (cfalse c_5))))) : quoinref21_Same_F a0 b1 = _).symm
        ·
          exact h _ ((Eq.trans (ctrue c_1) (Eq.trans (ctrue c_2) (Eq.trans (ctrue c_3) (cfalse c_4)))) : quoinref21_Same_F a0 b1 = _).symm
      ·
        exact h _ ((Eq.trans (ctrue c_1) (Eq.trans (ctrue c_2) (cfalse c_3))) : quoinref21_Same_F a0 b1 = _).symm
    ·
      exact h _ ((Eq.trans (ctrue c_1) (cfalse c_2)) : quoinref21_Same_F a0 b1 = _).symm
  ·
    exact h _ ((cfalse c_1) : quoinref21_Same_F a0 b1 = _).symm
def quoinref21_Same_C (v : valsA quoinref21_Same_A) (K : Res → List Cell → Prop) : Prop := ∀ r : Bool, r = quoinref21_Same_F v.1 v.2.1 → K (.one (.v (.bool) r)) []
def quoinref21_Same_S : App := specW quoinref21_Same_A quoinref21_Same_C
theorem quoinref21_Same_wv (K : Res → List Cell → Prop) : ∀ v : valsA quoinref21_Same_A, runF tb (getG quoinref21_Same_G) [] Tryd.f13 [true] (mkA quoinref21_Same_A v) K = quoinref21_Same_raw v.1 v.2.1 K
  | (a0, b1, ()) => quoinref21_Same_walk a0 b1 K
set_option maxRecDepth 20000 in
theorem quoinref21_Same_ok : AppOk Tryd.prog 13 quoinref21_Same_S :=
  AppOk.specW (spec_ok (runF_ok tb_M tb_ok quoinref21_Same_Gok (LabsOk.nil) (f := 13) (fn := Tryd.f13) (by kernel_rfl) (by kernel_rfl) (by kernel_rfl) [true]) fun v K hw h => (quoinref21_Same_wv K v).mpr (quoinref21_Same_sp v.1 v.2.1 K hw h))

end Go.VE
namespace Go.VE
open Go Go.Proofs
/-! ### quoin/quoinlaw21.KeysParse -/
def quoinlaw21_KeysParse_G : List (Nat × App) := [(10, quoinlaw21_awake_S), (11, quoinref21_Parse_S), (12, keys_Parse_S), (13, quoinref21_Same_S)]
theorem quoinlaw21_KeysParse_Gok : GOk Tryd.prog (getG quoinlaw21_KeysParse_G) := GOk.cons quoinlaw21_awake_ok (GOk.cons quoinref21_Parse_ok (GOk.cons keys_Parse_ok (GOk.cons quoinref21_Same_ok (GOk.nil))))
def quoinlaw21_KeysParse_raw (all0 : List Int) (K : Res → List Cell → Prop) : Prop :=
  ∀ (r1 : Bool), r1 = quoinlaw21_awake_F → (
  wfR (.one (.v (.bool) r1)) → (
  bif (!r1) then
    K (.one (.v (.bool) false)) []
  else
    quoinref21_Parse_P all0 ∧ (
    ∀ (r2 : (Int × Int × List Int × List Int × Int × List Int) × Int), r2 = quoinref21_Parse_F all0 → (
    wfR (.tup [.v (.st (.pair (.int .u8) (.pair (.int .i64) (.pair (.str) (.pair (.str) (.pair (.int .u8) (.sl (.int .u8)))))))) r2.1, .v (.int .i64) r2.2]) → (
    keys_Parse_P all0 ∧ (
    ∀ (r3 : (Int × Int × List Int × List Int × Int × List Int) × Int), r3 = keys_Parse_F all0 → (
    wfR (.tup [.v (.st (.pair (.int .u8) (.pair (.int .i64) (.pair (.str) (.pair (.str) (.pair (.int .u8) (.sl (.int .u8)))))))) r3.1, .v (.int .i64) r3.2]) → (
    bif (decide (r3.2 = r2.2)) then
      ∀ (r4 : Bool), r4 = quoinref21_Same_F r3.1 r2.1 → (
      wfR (.one (.v (.bool) r4)) → (
      K (.one (.v (.bool) r4)) []))
    else
      K (.one (.v (.bool) false)) []))))))))
def quoinlaw21_KeysParse_A : List AS := [.v (.sl (.int .u8))]
theorem quoinlaw21_KeysParse_walk (all0 : List Int) (K : Res → List Cell → Prop) : runF tb (getG quoinlaw21_KeysParse_G) [] Tryd.f3 [true] (mkA quoinlaw21_KeysParse_A (all0, ())) K = quoinlaw21_KeysParse_raw all0 K := by kernel_rfl
--! law 1

def quoinlaw21_KeysParse_R : App := runF tb (getG quoinlaw21_KeysParse_G) [] Tryd.f3 [true]
theorem quoinlaw21_KeysParse_ok : AppOk Tryd.prog 3 quoinlaw21_KeysParse_R := runF_ok tb_M tb_ok quoinlaw21_KeysParse_Gok (LabsOk.nil) (f := 3) (fn := Tryd.f3) (by kernel_rfl) (by kernel_rfl) (by kernel_rfl) [true]
end Go.VE
namespace Go.VE
open Go Go.Proofs

/-! ### without an operator -/
/-- what the document says of keys that begin with no operator -/
def refN (s : List Int) (c : Cmd) : Cmd × Int :=
  if (quoinref21_known_F s (bareL ++ plainB) (withL ++ plainW)).1 = 0 then toldF c ((foundL s 0 opsL).1, (quoinref21_known_F s (bareL ++ plainB) (withL ++ plainW)).2)
  else toldF c (quoinref21_known_F s (bareL ++ plainB) (withL ++ plainW))

def NoOp (s : List Int) : Prop := opOf s opsL = none

theorem noOp_head {b : Int} {r : List Int} (h : NoOp (b :: r)) : ¬ (b = 100 ∨ b = 99 ∨ b = 121 ∨ b = 62 ∨ b = 60) ∧ (b = 103 → ∀ d r', r = d :: r' → ¬ (d = 126 ∨ d = 117 ∨ d = 85)) := by
  unfold NoOp at h
  rw [ops_eq] at h
  constructor
  · rintro (rfl | rfl | rfl | rfl | rfl) <;> simp [opOf] at h
  · rintro rfl d r' rfl (rfl | rfl | rfl) <;> simp [opOf] at h

theorem named_ref1 {b : Int} (hn : NoOp [b]) (h0 : 0 ≤ b) (h1 : b ≤ 255) {c : Cmd} (hc : c.2.2.2.2.1 = 0) : refN [b] c = finR (namedM [b] c) := by
  have hno := (noOp_head hn).1
  unfold refN
  rw [one_0 h0 h1]
  have hf : (foundL [b] 0 opsL).1 = 0 ∨ b = 103 := by
    by_cases h103 : b = 103
    · exact .inr h103
    · left
      rw [ops_eq]
      have e : ∀ x : Int, [x] = [b] ↔ x = b := fun x => by simp
      have g : ∀ x : Int, ¬ (103 = b) := fun x => by omega
      simp only [foundL, e]
      rw [if_neg (by omega), if_neg (by omega), if_neg (by omega), if_neg (by omega), if_neg (by omega)]
      simp [Ne.symm h103]
  simp only [namedM]
  rw [if_neg hno]
  unfold tab0
  by_cases h2 : b = 58
  · rw [if_pos h2, if_pos h2, if_neg (by decide), fin_ask, key_set hc, told_3 c 0 (by simp)]
  rw [if_neg h2, if_neg h2]
  by_cases h3 : b = 114 ∨ b = 109
  · rw [if_pos h3, if_pos h3, if_neg (by decide), told_1]; rfl
  rw [if_neg h3, if_neg h3]
  by_cases h4 : b = 103
  · rw [if_pos h4, if_pos h4, if_neg (by decide), told_1]; rfl
  rw [if_neg h4, if_neg h4]
  by_cases h5 : b ∈ plainsL
  · have := plains_not h5
    rw [if_pos h5, if_pos h5, if_neg (by show ¬ (2 : Int) = 0; decide), fin_whole, key_set hc, told_2 c 0 (ne1 this.1) (ne1 this.2.1) (ne1 this.2.2.1)]
  rw [if_neg h5, if_neg h5, mot1 hc]
  have hf := hf.resolve_right h4
  rw [hf]
  by_cases h6 : (tabM b).1 = 0
  · rw [if_pos h6]
    show (zC, (2 : Int)) = toldF c ((tabM b).1, (tabM b).2)
    rw [h6]; rfl
  · rw [if_neg h6]

theorem named_ref2 {b d : Int} (hn : NoOp [b, d]) {c : Cmd} (hc : c.2.2.2.2.1 = 0) : refN [b, d] c = finR (namedM [b, d] c) := by
  obtain ⟨hno, hg⟩ := noOp_head hn
  have hk : quoinref21_known_F [b, d] (bareL ++ plainB) (withL ++ plainW) = if [b, d] ∈ bareL ++ plainB then (2, [b, d], 0) else if [b] ∈ withL ++ plainW ∧ d ≠ 27 then (2, [b], d) else (0, [], 0) :=
    known2 (fun n hn => (bare_short n hn).2) with_one (fun h => by
      rcases (memW0 b).1 h with h | h | h
      · constructor
        · intro e; subst e; revert h; decide
        · intro e; subst e; revert h; decide
      · omega
      · omega)
  simp only [mem2_0, memW0] at hk
  have hf : (foundL [b, d] 0 opsL).1 = 0 := by
    have hl : ∀ n ∈ opsL, n.length ≤ 2 := by rw [ops_eq]; decide
    rw [found_long [b, d] opsL 0 (fun n hn => hl n hn), if_neg]
    rw [ops_eq]
    simp only [List.mem_cons, List.not_mem_nil, or_false, List.cons.injEq, and_true, and_false, false_or, reduceCtorEq]
    rintro (h | h | h) <;> exact hg h.1 d [] rfl (by omega)
  have R0 : quoinref21_known_F [b, d] (bareL ++ plainB) (withL ++ plainW) = (0, [], 0) → refN [b, d] c = (zC, 2) := fun h => by
    unfold refN; rw [h, hf, if_pos rfl, told_0]
  have R2 : ∀ (k : List Int) (a : Int), quoinref21_known_F [b, d] (bareL ++ plainB) (withL ++ plainW) = (2, k, a) → k ≠ [47] → k ≠ [63] → k ≠ [58] → refN [b, d] c = ((c.1, c.2.1, c.2.2.1, k, a, c.2.2.2.2.2), 1) := fun k a h q1 q2 q3 => by
    unfold refN; rw [h, if_neg (by show ¬ (2 : Int) = 0; decide), told_2 c a q1 q2 q3]
  have N2 : ¬ (b ∈ markedL ∨ b = 114 ∨ b = 109) → b ≠ 103 → refN [b, d] c = (zC, 2) := fun q1 q2 => R0 (by rw [hk, if_neg (fun h => q2 h.1), if_neg (fun h => q1 h.1)])
  simp only [namedM]
  rw [if_neg hno]
  by_cases h2 : b = 58
  · rw [if_pos h2, fin_left (.inr rfl) (by simp)]
    exact N2 (by rintro (h | h | h); subst h2; revert h; decide; omega; omega) (by omega)
  rw [if_neg h2]
  by_cases h3 : b = 114 ∨ b = 109
  · rw [if_pos h3]
    simp only [argM]
    by_cases hd : d = 27
    · rw [if_pos hd, fin_bad]
      exact R0 (by rw [hk, if_neg (fun h => by omega), if_neg (fun h => h.2 hd)])
    · rw [if_neg hd, fin_whole]
      exact R2 [b] d (by rw [hk, if_neg (fun h => by omega), if_pos ⟨.inr h3, hd⟩]) (ne1 (by omega)) (ne1 (by omega)) (ne1 (by omega))
  rw [if_neg h3]
  by_cases h4 : b = 103
  · rw [if_pos h4]
    simp only [g2M]
    rw [if_neg (hg h4 d [] rfl)]
    have h103 : (103 : Int) ∉ markedL := by decide
    by_cases h5 : d = 45 ∨ d = 43
    · rw [if_pos h5, fin_whole, R2 [b, d] 0 (by rw [hk, if_pos ⟨h4, by omega⟩]) (by simp) (by simp) (by simp), key_set hc, h4]
    · rw [if_neg h5, mot2 hc]
      unfold pairM
      by_cases h6 : d = 103 ∨ d = 101 ∨ d = 69
      · rw [if_pos ⟨rfl, h6⟩, R2 [b, d] 0 (by rw [hk, if_pos ⟨h4, by omega⟩]) (by simp) (by simp) (by simp), h4]
      · rw [if_neg (fun h => h6 h.2), if_neg (fun h => h103 h.1)]
        exact R0 (by rw [hk, if_neg (fun h => by omega), if_neg (by rintro ⟨h | h | h, _⟩; rw [h4] at h; exact h103 h; omega; omega)])
  rw [if_neg h4]
  by_cases h5 : b ∈ plainsL
  · have := plains_not h5
    rw [if_pos h5, fin_left (.inl rfl) (by simp)]
    exact N2 (by rintro (h | h | h); exact this.2.2.2.1 h; omega; omega) h4
  rw [if_neg h5, mot2 hc]
  unfold pairM
  rw [if_neg (fun h => h4 h.1)]
  by_cases h6 : b ∈ markedL ∧ d ≠ 27
  · have := marked_not h6.1
    rw [if_pos h6]
    exact R2 [b] d (by rw [hk, if_neg (fun h => h4 h.1), if_pos ⟨.inl h6.1, h6.2⟩]) (ne1 this.1) (ne1 this.2.1) (ne1 this.2.2.1)
  · rw [if_neg h6]
    exact R0 (by rw [hk, if_neg (fun h => h4 h.1), if_neg (by rintro ⟨h | h, h7⟩; exact h6 ⟨h, h7⟩; exact h3 h)])

theorem named_ref3 {s : List Int} (hn : NoOp s) (hs : 3 ≤ s.length) (hl : s.length ≤ 1099511627776) (c : Cmd) : refN s c = finR (namedM s c) := by
  have hk := known3 (N := bareL ++ plainB) (W := withL ++ plainW) hs hl (fun n hn => (bare_short n hn).2) with_one
  have hf : (foundL s 0 opsL).1 = 0 := by
    have hl : ∀ n ∈ opsL, n.length ≤ 2 := by rw [ops_eq]; decide
    rw [found_long s opsL 0 (fun n hn => by have := hl n hn; omega), if_neg (fun h => by have := hl _ h; omega)]
  unfold refN
  rw [hf, hk, if_pos rfl, told_0]
  cases s with
  | nil => simp at hs
  | cons b r =>
    obtain ⟨hno, hg⟩ := noOp_head hn
    have hr : 2 ≤ r.length := by simp at hs; omega
    have hne : r ≠ [] := fun e => by rw [e] at hr; simp at hr
    simp only [namedM]
    rw [if_neg hno]
    split
    · exact (fin_left (.inr rfl) hne _).symm
    · split
      · exact (arg3 hr _).symm
      · split
        · rename_i h103
          cases r with
          | nil => exact absurd rfl hne
          | cons d r' =>
            simp only [g2M]
            rw [if_neg (hg h103 d r' rfl)]
            split
            · cases r' with
              | nil => simp at hr
              | cons e r'' => exact (fin_left (.inl rfl) (by simp) _).symm
            · exact (mot3 hr _ _).symm
        · split
          · exact (fin_left (.inl rfl) hne _).symm
          · exact (mot3 hr _ _).symm

theorem named_ref {s : List Int} (hn : NoOp s) (hs : s ≠ []) (hl : s.length ≤ 1099511627776) (h255 : ∀ x ∈ s, 0 ≤ x ∧ x ≤ 255) {c : Cmd} (hc : c.2.2.2.2.1 = 0) : refN s c = finR (namedM s c) := by
  match s, hs, hl, h255, hn with
  | [b], _, _, h255, hn => exact named_ref1 hn (h255 b (by simp)).1 (h255 b (by simp)).2 hc
  | [b, d], _, _, _, hn => exact named_ref2 hn hc
  | b :: d :: e :: r, _, hl, _, hn => exact named_ref3 hn (by simp) hl c

/-! ### with one -/
theorem op_is {s op : List Int} (h : opOf s opsL = some op) : ∃ l r, IsOp op l ∧ s = op ++ r ∧ ∀ c, namedM s c = workM l r (setOp c op) := by
  rw [ops_eq] at h
  have go : ∀ (L : List (List Int)), opOf s L = some op → op ∈ L ∧ op.length ≤ s.length ∧ s.take op.length = op := by
    intro L
    induction L with
    | nil => intro h; cases h
    | cons o L ih =>
      intro h
      unfold opOf at h
      split at h
      · rename_i hc
        injection h with h; subst h
        exact ⟨List.mem_cons_self, hc.1, hc.2⟩
      · obtain ⟨h1, h2⟩ := ih h
        exact ⟨List.mem_cons_of_mem _ h1, h2⟩
  obtain ⟨hm, hle, ht⟩ := go _ h
  have hs : s = op ++ s.drop op.length := by
    conv => lhs; rw [← List.take_append_drop op.length s, ht]
  have one : ∀ x : Int, (x = 100 ∨ x = 99 ∨ x = 121 ∨ x = 62 ∨ x = 60) → op = [x] → ∃ l r, IsOp op l ∧ s = op ++ r ∧ ∀ c, namedM s c = workM l r (setOp c op) := fun x hx e => by
    subst e
    refine ⟨x, s.drop 1, .inl ⟨rfl, hx⟩, hs, fun c => ?_⟩
    rw [hs]
    show (if x = 100 ∨ x = 99 ∨ x = 121 ∨ x = 62 ∨ x = 60 then _ else _ : MR) = _
    rw [if_pos hx]; rfl
  have two : ∀ x : Int, (x = 126 ∨ x = 117 ∨ x = 85) → op = [103, x] → ∃ l r, IsOp op l ∧ s = op ++ r ∧ ∀ c, namedM s c = workM l r (setOp c op) := fun x hx e => by
    subst e
    refine ⟨x, s.drop 2, .inr ⟨rfl, hx⟩, hs, fun c => ?_⟩
    rw [hs]
    show g2M (x :: _) c = _
    simp only [g2M]
    rw [if_pos hx]; rfl
  simp only [List.mem_cons, List.not_mem_nil, or_false] at hm
  rcases hm with h | h | h | h | h | h | h | h
  · exact one _ (by omega) h
  · exact one _ (by omega) h
  · exact one _ (by omega) h
  · exact one _ (by omega) h
  · exact one _ (by omega) h
  · exact two _ (by omega) h
  · exact two _ (by omega) h
  · exact two _ (by omega) h

theorem mnE (a b : Int) : mn a b = if b < a then b else a := by
  unfold mn; by_cases h : b < a <;> simp [h]
theorem mxE (a b : Int) : mx a b = if a < b then b else a := by
  unfold mx; by_cases h : a < b <;> simp [h]

theorem times_eq {a b : Int} (ha : 0 ≤ a ∧ a ≤ 9999) (hb : 0 ≤ b ∧ b ≤ 9999) : quoinref21_times_F a b = if 0 < b ∨ 0 < a then mn (mx a 1 * mx b 1) 9999 else a := by
  have p1 : 0 ≤ a * b := Int.mul_nonneg ha.1 hb.1
  have p2 : a * b ≤ 9999 * 9999 := Int.mul_le_mul ha.2 hb.2 hb.1 (by omega)
  unfold quoinref21_times_F
  rw [wrap_i64 (by omega) (by omega)]
  simp only [Bool.cond_decide]
  by_cases h1 : a = 0
  · rw [if_pos h1]
    have e : mx a 1 = 1 := by rw [h1]; decide
    rw [e, Int.one_mul]
    by_cases h2 : b = 0
    · rw [if_neg (show ¬ (0 < b ∨ 0 < a) by omega)]; omega
    · rw [if_pos (show 0 < b ∨ 0 < a by omega), mxE, if_neg (show ¬ b < 1 by omega), mnE, if_neg (show ¬ 9999 < b by omega)]
  · rw [if_neg h1]
    have ea : mx a 1 = a := by rw [mxE, if_neg (show ¬ a < 1 by omega)]
    rw [if_pos (show 0 < b ∨ 0 < a by omega), ea]
    by_cases h2 : b = 0
    · rw [if_pos h2]
      have e : mx b 1 = 1 := by rw [h2]; decide
      rw [e, Int.mul_one, mnE, if_neg (show ¬ 9999 < a by omega)]
    · rw [if_neg h2]
      have eb : mx b 1 = b := by rw [mxE, if_neg (show ¬ b < 1 by omega)]
      rw [eb, mnE]

def tailF (op s : List Int) (c : Cmd) : Cmd × Int :=
  bif (decide ((quoinref21_found_F s (quoinref21_doubles_F op)).1 = (2 : Int))) then ((c.1, c.2.1, c.2.2.1, op, c.2.2.2.2.1, c.2.2.2.2.2), (1 : Int))
  else bif (decide ((quoinref21_known_F s (bareL ++ objsL) withL).1 < (quoinref21_found_F s (quoinref21_doubles_F op)).1)) then
      toldF c ((quoinref21_found_F s (quoinref21_doubles_F op)).1, (quoinref21_known_F s (bareL ++ objsL) withL).2)
    else toldF c (quoinref21_known_F s (bareL ++ objsL) withL)

theorem tail_ref (op s : List Int) (c : Cmd) : tailF op s c = refW op s c := by
  unfold tailF refW
  have e1 : quoinref21_found_F s (quoinref21_doubles_F op) = foundL s 0 (quoinref21_doubles_F op) := rfl
  rw [e1]
  simp only [Bool.cond_decide]
  by_cases h2 : (foundL s 0 (quoinref21_doubles_F op)).1 = 2
  · rw [if_pos h2, if_pos h2]; rfl
  · rw [if_neg h2, if_neg h2]
    by_cases h3 : (quoinref21_known_F s (bareL ++ objsL) withL).1 < (foundL s 0 (quoinref21_doubles_F op)).1
    · rw [if_pos h3, if_pos h3]
    · rw [if_neg h3, if_neg h3]

theorem behind_tail (c : Cmd) (op r : List Int) : quoinref21_behind_F c op r bareL withL = bif decide (r.drop (cntL r 0).2 = []) then (zC, 0) else tailF op (r.drop (cntL r 0).2) (c.1, quoinref21_times_F c.2.1 (cntL r 0).1, op, c.2.2.2.1, c.2.2.2.2.1, c.2.2.2.2.2) := by kernel_rfl

theorem behind_ref {op : List Int} {l : Int} (ho : IsOp op l) {r : List Int} (hl : r.length ≤ 1099511627776) (h255 : ∀ x ∈ r, 0 ≤ x ∧ x ≤ 255) {c : Cmd} (hc : c.2.2.2.2.1 = 0) (hn : 0 ≤ c.2.1 ∧ c.2.1 ≤ 9999) :
    quoinref21_behind_F c op r bareL withL = finR (workM l r (setOp c op)) := by
  have hb := cntL_bound r 0 (by omega) (by omega)
  rw [behind_tail]
  unfold workM
  have hct : (c.1, quoinref21_times_F c.2.1 (cntL r 0).1, op, c.2.2.2.1, c.2.2.2.2.1, c.2.2.2.2.2) = cntC (cntL r 0).1 (setOp c op) := by
    rw [times_eq hn hb]
    unfold cntC
    show _ = if 0 < (cntL r 0).1 ∨ 0 < c.2.1 then setCnt (setOp c op) (mn (mx c.2.1 1 * mx (cntL r 0).1 1) 9999) else setOp c op
    by_cases h : 0 < (cntL r 0).1 ∨ 0 < c.2.1
    · rw [if_pos h, if_pos h]; rfl
    · rw [if_neg h, if_neg h]; rfl
  rw [hct]
  have hco : (cntC (cntL r 0).1 (setOp c op)).2.2.1 = op := by unfold cntC; split <;> rfl
  have hca : (cntC (cntL r 0).1 (setOp c op)).2.2.2.2.1 = 0 := by unfold cntC; split <;> exact hc
  generalize cntC (cntL r 0).1 (setOp c op) = c2 at hco hca
  have hsl : (r.drop (cntL r 0).2).length ≤ 1099511627776 := by rw [List.length_drop]; omega
  have hs255 : ∀ x ∈ r.drop (cntL r 0).2, 0 ≤ x ∧ x ≤ 255 := fun x hx => h255 x (List.mem_of_mem_drop hx)
  generalize r.drop (cntL r 0).2 = s at hsl hs255
  cases s with
  | nil => rfl
  | cons b s =>
    show tailF op (b :: s) c2 = _
    rw [tail_ref]
    exact wrk_ref ho (by simp) hsl hs255 hca hco

/-! ### the whole -/
theorem J1_tail (s : List Int) (x c : Cmd) : quoinref21_Parse_J1_F s x c = bif decide (s.drop (cntL s 0).2 = []) then (0, zC) else
    (match opOf (s.drop (cntL s 0).2) opsL with
    | some o => ((quoinref21_behind_F (setCnt c (cntL s 0).1) o ((s.drop (cntL s 0).2).drop o.length) bareL withL).2, (quoinref21_behind_F (setCnt c (cntL s 0).1) o ((s.drop (cntL s 0).2).drop o.length) bareL withL).1)
    | none => ((refN (s.drop (cntL s 0).2) (setCnt c (cntL s 0).1)).2, (refN (s.drop (cntL s 0).2) (setCnt c (cntL s 0).1)).1)) := by
  have e : quoinref21_Parse_J1_F s x c = bif decide (s.drop (cntL s 0).2 = []) then (0, zC) else
      Sum.elim (fun q0r : Int × Cmd => ((q0r.1, q0r.2) : Int × Cmd)) (fun q0x0 : List Int × List (List Int) × List (List Int) × List (List Int) × Cmd × Cmd =>
        bif (decide ((quoinref21_known_F q0x0.1 (q0x0.2.1 ++ plainB) (q0x0.2.2.1 ++ plainW)).1 = (0 : Int))) then
          ((toldF q0x0.2.2.2.2.2 ((foundL q0x0.1 0 q0x0.2.2.2.1).1, (quoinref21_known_F q0x0.1 (q0x0.2.1 ++ plainB) (q0x0.2.2.1 ++ plainW)).2)).2, (toldF q0x0.2.2.2.2.2 ((foundL q0x0.1 0 q0x0.2.2.2.1).1, (quoinref21_known_F q0x0.1 (q0x0.2.1 ++ plainB) (q0x0.2.2.1 ++ plainW)).2)).1)
        else
          ((toldF q0x0.2.2.2.2.2 (quoinref21_known_F q0x0.1 (q0x0.2.1 ++ plainB) (q0x0.2.2.1 ++ plainW))).2, (toldF q0x0.2.2.2.2.2 (quoinref21_known_F q0x0.1 (q0x0.2.1 ++ plainB) (q0x0.2.2.1 ++ plainW))).1))
        (quoinref21_Parse_L0_F (s.drop (cntL s 0).2) bareL withL opsL 0 x (setCnt c (cntL s 0).1)) := by kernel_rfl
  rw [e]
  unfold quoinref21_Parse_L0_F
  cases decide (s.drop (cntL s 0).2 = [])
  · simp only [cond_false]
    cases opOf (s.drop (cntL s 0).2) opsL with
    | some o => rfl
    | none =>
      simp only [Sum.elim_inr, Bool.cond_decide]
      unfold refN
      split <;> rfl
  · rfl

theorem J1_ref {s : List Int} (hl : s.length ≤ 1099511627776) (h255 : ∀ x ∈ s, 0 ≤ x ∧ x ≤ 255) (x : Cmd) {c : Cmd} (hc : c.2.2.2.2.1 = 0) : quoinref21_Parse_J1_F s x c = ((finM s c).2, (finM s c).1) := by
  have hb := cntL_bound s 0 (by omega) (by omega)
  rw [J1_tail, finM_eq]
  have hsl : (s.drop (cntL s 0).2).length ≤ 1099511627776 := by rw [List.length_drop]; omega
  have hs255 : ∀ x ∈ s.drop (cntL s 0).2, 0 ≤ x ∧ x ≤ 255 := fun x hx => h255 x (List.mem_of_mem_drop hx)
  have hca : (setCnt c (cntL s 0).1).2.2.2.2.1 = 0 := hc
  have hcb : 0 ≤ (setCnt c (cntL s 0).1).2.1 ∧ (setCnt c (cntL s 0).1).2.1 ≤ 9999 := hb
  generalize setCnt c (cntL s 0).1 = c2 at hca hcb
  generalize s.drop (cntL s 0).2 = t at hsl hs255
  cases t with
  | nil => rfl
  | cons b t =>
    show (match opOf (b :: t) opsL with
      | some o => ((quoinref21_behind_F c2 o ((b :: t).drop o.length) bareL withL).2, (quoinref21_behind_F c2 o ((b :: t).drop o.length) bareL withL).1)
      | none => ((refN (b :: t) c2).2, (refN (b :: t) c2).1)) = _
    cases ho : opOf (b :: t) opsL with
    | none =>
      show ((refN (b :: t) c2).2, (refN (b :: t) c2).1) = _
      rw [named_ref (s := b :: t) ho (by simp) hsl hs255 hca]
    | some o =>
      obtain ⟨l, r, hop, hs, hn⟩ := op_is ho
      show ((quoinref21_behind_F c2 o ((b :: t).drop o.length) bareL withL).2, (quoinref21_behind_F c2 o ((b :: t).drop o.length) bareL withL).1) = _
      rw [hn, hs]
      simp only [List.drop_left]
      have hrl : r.length ≤ 1099511627776 := by rw [hs, List.length_append] at hsl; omega
      have hr255 : ∀ x ∈ r, 0 ≤ x ∧ x ≤ 255 := fun x hx => hs255 x (by rw [hs]; exact List.mem_append_right _ hx)
      rw [behind_ref hop hrl hr255 hca hcb]

theorem reg_eq {b : Int} (h0 : 0 ≤ b) (h1 : b ≤ 255) : quoinref21_isReg_F b = (!decide (b = 0) && bank_Valid_F b) := by
  have := byte_of (p := fun b => decide (quoinref21_isReg_F b = (!decide (b = 0) && bank_Valid_F b))) (by decide +kernel) h0 h1
  simpa using this

theorem ref_eq {ks : List Int} (hl : ks.length ≤ 1099511627776) (h255 : ∀ x ∈ ks, 0 ≤ x ∧ x ≤ 255) : quoinref21_Parse_F ks = parseM ks := by
  have whole : quoinref21_Parse_J1_F ks zC zC = ((finM ks zC).2, (finM ks zC).1) := J1_ref hl h255 zC rfl
  unfold quoinref21_Parse_F parseM
  cases hk : ks with
  | nil =>
    rw [hk] at whole
    show ((quoinref21_Parse_J1_F [] zC zC).2, (quoinref21_Parse_J1_F [] zC zC).1) = finM [] zC
    rw [whole]
  | cons b r =>
    rw [hk] at whole h255 hl
    have hd : (!decide (b :: r = [])) = true := by simp
    rw [hd]
    have hrd : rd (0 : Int) (b :: r) 0 = b := rfl
    simp only [cond_true, hrd, Bool.cond_decide, List.head?_cons, Option.some.injEq, List.tail_cons]
    by_cases hb : b = 34
    · rw [if_pos hb, if_pos hb]
      cases r with
      | nil => rfl
      | cons n r' =>
        have hln : ¬ ((b :: n :: r').length : Int) = 1 := by simp only [List.length_cons]; omega
        rw [if_neg hln]
        have hrn : rd (0 : Int) (b :: n :: r') 1 = n := rfl
        have hnb := h255 n (by simp)
        rw [hrn, reg_eq hnb.1 hnb.2]
        have hJ : quoinref21_Parse_J1_F r' zC (n, 0, [], [], 0, []) = ((finM r' (n, 0, [], [], 0, [])).2, (finM r' (n, 0, [], [], 0, [])).1) :=
          J1_ref (by simp only [List.length_cons] at hl; omega) (fun x hx => h255 x (by simp [hx])) zC rfl
        show (bif !(!decide (n = 0) && bank_Valid_F n) then (zC, (2 : Int)) else ((quoinref21_Parse_J1_F r' zC (n, 0, [], [], 0, [])).2, (quoinref21_Parse_J1_F r' zC (n, 0, [], [], 0, [])).1)) = if n = 0 ∨ bank_Valid_F n = false then (zC, 2) else finM r' (n, 0, [], [], 0, [])
        by_cases hn0 : n = 0
        · rw [if_pos (Or.inl hn0)]
          simp [hn0]
        · cases hv : bank_Valid_F n with
          | false => simp
          | true =>
            rw [if_neg (show ¬ (n = 0 ∨ true = false) from by rintro (h | h); exact hn0 h; cases h)]
            have : (!(!decide (n = 0) && true)) = false := by simp [hn0]
            rw [this, cond_false, hJ]
    · rw [if_neg hb, if_neg hb]
      show ((quoinref21_Parse_J1_F (b :: r) zC zC).2, (quoinref21_Parse_J1_F (b :: r) zC zC).1) = finM (b :: r) zC
      rw [whole]
end Go.VE
namespace Go.VE
open Go Go.Proofs

theorem known_PP {s : List Int} (hl : s.length ≤ 1099511627776) (N W : List (List Int)) : quoinref21_known_P s N W := by
  unfold quoinref21_known_P
  refine bif_both trivial (bif_both trivial ?_)
  by_cases h : (0 : Int) < (s.length : Int)
  · have e : decide ((0 : Int) < (s.length : Int)) = true := by simpa using h
    rw [e, wrap_i64 (by omega) (by omega)]
    simp only [cond_true]
    refine ⟨⟨by omega, by omega⟩, bif_both ⟨⟨by omega, by omega⟩, bif_both ⟨by omega, by omega⟩ trivial⟩ trivial⟩
  · have e : decide ((0 : Int) < (s.length : Int)) = false := by simpa using h
    rw [e]; trivial

theorem motions_PP : quoinref21_motions_P := by
  refine ⟨by unfold quoinref21_words_P quoinref21_words_L0_P; decide, ?_, by unfold quoinref21_words_P quoinref21_words_L0_P; decide, ?_⟩
  · show (quoinref21_words_F _).length + _ ≤ lim; decide +kernel
  · show (quoinref21_words_F _).length + _ ≤ lim; decide +kernel
theorem plains_PP : quoinref21_plains_P := by
  refine ⟨by unfold quoinref21_words_P quoinref21_words_L0_P; decide, by unfold quoinref21_words_P quoinref21_words_L0_P; decide⟩
theorem operators_PP : quoinref21_operators_P := by unfold quoinref21_operators_P quoinref21_words_P quoinref21_words_L0_P; decide
theorem objects_PP : quoinref21_objects_P := by
  refine ⟨by unfold quoinref21_words_P quoinref21_words_L0_P; decide, ?_, ?_⟩
  · show (quoinref21_words_F _).length + _ ≤ lim; decide +kernel
  · refine ⟨rfl, rfl, ?_, ?_⟩
    · decide +kernel
    · decide +kernel

theorem behind_PP {op : List Int} {l : Int} (ho : IsOp op l) {r : List Int} (hl : r.length ≤ 1099511627776) (c : Cmd) : quoinref21_behind_P c op r bareL withL := by
  have hle := cntL_le r 0
  have enum : quoinref21_number_F r = ((cntL r 0).1, ((cntL r 0).2 : Int)) := rfl
  refine ⟨⟨rfl, rfl⟩, ?_⟩
  show (0 ≤ (quoinref21_number_F r).2 ∧ (quoinref21_number_F r).2 ≤ (r.length : Int)) ∧ (bif decide (r.drop (Int.toNat (quoinref21_number_F r).2) = []) then True else
    quoinref21_doubles_P op ∧ (bif decide ((quoinref21_found_F (r.drop (Int.toNat (quoinref21_number_F r).2)) (quoinref21_doubles_F op)).1 = 2) then True else
      quoinref21_objects_P ∧ bareL.length + quoinref21_objects_F.length ≤ lim ∧ quoinref21_known_P (r.drop (Int.toNat (quoinref21_number_F r).2)) (bareL ++ quoinref21_objects_F) withL))
  rw [enum]
  refine ⟨⟨by dsimp only; omega, by dsimp only; omega⟩, bif_both trivial ⟨?_, bif_both trivial ⟨objects_PP, by decide +kernel, known_PP (by rw [List.length_drop]; omega) _ _⟩⟩⟩
  rcases ho with ⟨rfl, _⟩ | ⟨rfl, _⟩
  · exact trivial
  · show (0 : Int) ≤ 1 ∧ (1 : Int) ≤ 2
    decide

theorem J1_PP {s : List Int} (hl : s.length ≤ 1099511627776) (x c : Cmd) : quoinref21_Parse_J1_P s x c := by
  have hle := cntL_le s 0
  have enum : quoinref21_number_F s = ((cntL s 0).1, ((cntL s 0).2 : Int)) := rfl
  refine ⟨⟨rfl, rfl⟩, ?_⟩
  show (0 ≤ (quoinref21_number_F s).2 ∧ (quoinref21_number_F s).2 ≤ (s.length : Int)) ∧ (bif decide (s.drop (Int.toNat (quoinref21_number_F s).2) = []) then True else
    quoinref21_motions_P ∧ quoinref21_operators_P ∧ quoinref21_Parse_L0_P (s.drop (Int.toNat (quoinref21_number_F s).2)) bareL withL opsL 0 x (c.1, (quoinref21_number_F s).1, c.2.2.1, c.2.2.2.1, c.2.2.2.2.1, c.2.2.2.2.2) ∧ _)
  rw [enum]
  simp only [Int.toNat_natCast]
  have hsl : (s.drop (cntL s 0).2).length ≤ 1099511627776 := by rw [List.length_drop]; omega
  refine ⟨⟨by omega, by omega⟩, bif_both trivial ⟨motions_PP, operators_PP, ⟨rfl, by decide +kernel, fun o ho => ?_⟩, ?_⟩⟩
  · obtain ⟨l, r, hop, hs, _⟩ := op_is ho
    rw [hs, List.drop_left]
    exact behind_PP hop (by rw [hs, List.length_append] at hsl; omega) _
  · have key : ∀ q : (Int × Cmd') ⊕ (List Int × List (List Int) × List (List Int) × List (List Int) × Cmd' × Cmd'), (∀ q0, q = .inr q0 → q0.1.length ≤ 1099511627776 ∧ q0.2.1 = bareL ∧ q0.2.2.1 = withL) →
        Sum.elim (fun _ : Int × Cmd' => True) (fun q0x0 : List Int × List (List Int) × List (List Int) × List (List Int) × Cmd' × Cmd' =>
          quoinref21_plains_P ∧ (q0x0.2.1.length + quoinref21_plains_F.1.length ≤ lim) ∧ (q0x0.2.2.1.length + quoinref21_plains_F.2.length ≤ lim) ∧ quoinref21_known_P q0x0.1 (q0x0.2.1 ++ quoinref21_plains_F.1) (q0x0.2.2.1 ++ quoinref21_plains_F.2)) q := by
      intro q hq
      cases q with
      | inl a => trivial
      | inr a =>
        obtain ⟨q1, q2, q3⟩ := hq a rfl
        refine ⟨plains_PP, ?_, ?_, known_PP q1 _ _⟩
        · rw [q2]; decide +kernel
        · rw [q3]; decide +kernel
    refine key _ fun q0 hq => ?_
    unfold quoinref21_Parse_L0_F at hq
    split at hq
    · cases hq
    · injection hq with hq; subst hq
      exact ⟨hsl, rfl, rfl⟩

theorem ref_P {ks : List Int} (hl : ks.length ≤ 1099511627776) : quoinref21_Parse_P ks := by
  unfold quoinref21_Parse_P
  cases ks with
  | nil => exact J1_PP hl _ _
  | cons b r =>
    have hd : (!decide (b :: r = [])) = true := by simp
    rw [hd]
    simp only [cond_true]
    refine ⟨⟨by omega, by simp only [List.length_cons]; omega⟩, bif_both ?_ (J1_PP hl _ _)⟩
    cases r with
    | nil => exact trivial
    | cons n r' =>
      have hln : decide (((b :: n :: r').length : Int) = 1) = false := by rw [decide_eq_false_iff_not]; simp only [List.length_cons]; omega
      rw [hln]
      have g1 : (0 : Int) ≤ 1 ∧ (1 : Int) < ((b :: n :: r').length : Int) := ⟨by omega, by simp only [List.length_cons]; omega⟩
      have g2 : (0 : Int) ≤ 2 ∧ (2 : Int) ≤ ((b :: n :: r').length : Int) := ⟨by omega, by simp only [List.length_cons]; omega⟩
      exact ⟨g1, bif_both trivial ⟨g1, g2, J1_PP (by show r'.length ≤ _; simp only [List.length_cons] at hl; omega) _ _⟩⟩

theorem same_self (c : Cmd) : quoinref21_Same_F c c = true := by
  unfold quoinref21_Same_F
  simp

theorem parse_law (v : valsA quoinlaw21_KeysParse_A) (hw : wfA quoinlaw21_KeysParse_A v) (hb : bulkA quoinlaw21_KeysParse_A v ≤ 1048576) : quoinlaw21_KeysParse_R (mkA quoinlaw21_KeysParse_A v) yesK := by
  obtain ⟨all, ⟨⟩⟩ := v
  refine (quoinlaw21_KeysParse_walk all yesK).mpr ?_
  obtain ⟨h1, _⟩ := hw
  change bulk (.sl (.int .u8)) all + 0 ≤ 1048576 at hb
  rw [bulk_bytes] at hb
  have hl : all.length ≤ 1099511627776 := by omega
  have h255 : ∀ x ∈ all, 0 ≤ x ∧ x ≤ 255 := h1.2
  unfold quoinlaw21_KeysParse_raw
  intro r1 hr1 _
  subst hr1
  refine brb (fun h => by cases h) (fun _ => ⟨ref_P hl, fun r2 h2 _ => ⟨parse_P hl h255, fun r3 h3 _ => ?_⟩⟩)
  rw [ref_eq hl h255] at h2
  rw [parse_F hl h255] at h3
  subst h2; subst h3
  refine brn (fun _ => fun r4 h4 _ => ?_) (fun h => absurd rfl h)
  rw [same_self] at h4
  subst h4
  rfl
end Go.VE
