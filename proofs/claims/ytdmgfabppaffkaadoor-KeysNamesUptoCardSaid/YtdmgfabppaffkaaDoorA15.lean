/- KeysNames: whatever the input, up to the bulk that the statement names, the law answers true, and what was handed in reads as it did. Its conditions: the bound of the given statement and the tables that its card ties, no other. -/
import Derived.Test.YtdmgfabppaffkaaDoorA14
set_option linter.unusedVariables false
set_option linter.unusedSectionVars false
set_option linter.unusedSimpArgs false
namespace Go.VE
open Go Go.Proofs
def baseN (c : Cmd) : List Int := if c.2.2.1 ≠ [] ∧ c.2.2.1 = c.2.2.2.1 then c.2.2.1 ++ rd [] (qr_doubles_F c.2.2.1) 0 else c.2.2.1 ++ c.2.2.2.1
def fullN (c : Cmd) : List Int := if c.2.2.2.2.1 ≠ 0 ∨ qr_takes_F c.2.2.2.1 = true then baseN c ++ [c.2.2.2.2.1] else baseN c
theorem nameJ1 (n : List Int) (c : Cmd) : qr_Name_J1_F n c = qr_Name_J0_F (if c.2.2.2.2.1 ≠ 0 ∨ qr_takes_F c.2.2.2.1 = true then n ++ [c.2.2.2.2.1] else n) c := by
  unfold qr_Name_J1_F
  by_cases h : c.2.2.2.2.1 = 0 <;> cases ht : qr_takes_F c.2.2.2.1 <;> simp [h]
theorem nameF (c : Cmd) : qr_Name_F c = qr_Name_J0_F (fullN c) c := by
  unfold qr_Name_F fullN
  simp only [nameJ1]
  by_cases h : c.2.2.1 = []
  · have eb : baseN c = c.2.2.1 ++ c.2.2.2.1 := if_neg fun q => q.1 h
    rw [eb, decide_eq_true h]; rfl
  · by_cases h2 : c.2.2.1 = c.2.2.2.1
    · have eb : baseN c = c.2.2.1 ++ rd [] (qr_doubles_F c.2.2.1) 0 := if_pos ⟨h, h2⟩
      rw [eb, decide_eq_true h2, decide_eq_false h]; rfl
    · have eb : baseN c = c.2.2.1 ++ c.2.2.2.1 := if_neg fun q => h2 q.2
      rw [eb, decide_eq_false h2, decide_eq_false h]; rfl
theorem not_motion : ∀ b ∈ ([114, 109] : List Int), [b] ∉ singlesL.map (fun b => [b]) ∧ b ∉ markedL := by decide +kernel
theorem takes_wants {c : Cmd} (h : Is c) : (c.2.2.2.2.1 ≠ 0 ∨ qr_takes_F c.2.2.2.1 = true) ↔ (keys_wants_F c = true) ∨ (c.2.2.2.2.1 ≠ 0) := by
  rw [takes_iff, wants_iff]
  constructor
  · rintro (q | ⟨b, hb, q⟩)
    · exact Or.inr q
    · left
      rcases q with q | q
      · exact Or.inl ⟨b, q, hb⟩
      · have q' : b ∈ ([114, 109] : List Int) := by rcases q with q | q <;> simp [q]
        rcases h.2.2.1 with ⟨ho, _⟩ | ⟨ho, hk⟩
        · exact Or.inr ⟨ho, b, q', hb⟩
        · exfalso
          rcases hk with hk | ⟨a, d, _, _, hk⟩ | hk
          · rw [← hk, hb] at ho
            rcases q with q | q <;> subst q <;> revert ho <;> decide
          · rw [hb] at hk; simp at hk
          · rw [hb] at hk
            rcases q with q | q <;> subst q <;> simp [Motion, singlesL, markedL] at hk
  · rintro ((⟨b, q, hb⟩ | ⟨_, b, q, hb⟩) | q)
    · exact Or.inr ⟨b, hb, Or.inl q⟩
    · refine Or.inr ⟨b, hb, Or.inr ?_⟩
      simpa using q
    · exact Or.inl q
theorem double_last : ∀ o ∈ opList, o ++ rd [] (qr_doubles_F o) 0 = o ++ [rd 0 o ((o.length : Int) - 1)] := by decide +kernel
theorem fullN_eq {c : Cmd} (h : Is c) : fullN c = keys_Name_F c := by
  rw [name_eq h]
  unfold fullN
  have hw := takes_wants h
  have nz : keys_wants_F c ≠ true → c.2.2.2.2.1 = 0 := fun q => h.2.2.2.2.1 (fun w => q (wants_iff.2 w))
  have e : (c.2.2.2.2.1 ≠ 0 ∨ qr_takes_F c.2.2.2.1 = true) ↔ keys_wants_F c = true := by
    rw [hw]
    exact ⟨fun q => q.elim id (fun q => Classical.byContradiction fun w => q (nz w)), Or.inl⟩
  by_cases hd : c.2.2.1 ≠ [] ∧ c.2.2.2.1 = c.2.2.1
  · have ho : c.2.2.1 ∈ opList := by
      rcases h.2.2.1 with ⟨ho, _⟩ | ⟨ho, _⟩
      · exact absurd ho hd.1
      · exact ho
    have nw : ¬ keys_wants_F c = true := fun w => by
      rcases wants_iff.1 w with ⟨b, hb, hk⟩ | ⟨q, _⟩
      · rw [← hd.2, hk] at ho
        have : ∀ b ∈ markedL, [b] ∉ opList := by decide +kernel
        exact this b hb ho
      · exact hd.1 q
    rw [if_neg (fun q => nw (e.1 q)), if_pos hd]
    unfold baseN
    rw [if_pos ⟨hd.1, hd.2.symm⟩]
    exact double_last _ ho
  · rw [if_neg hd]
    unfold baseN
    rw [if_neg (show ¬ (c.2.2.1 ≠ [] ∧ c.2.2.1 = c.2.2.2.1) from fun q => hd ⟨q.1, q.2.symm⟩)]
    by_cases w : keys_wants_F c = true
    · rw [if_pos (e.2 w), if_pos w]
    · rw [if_neg (fun q => w (e.1 q)), if_neg w]; simp
end Go.VE
namespace Go.VE
open Go Go.Proofs
structure ByteC (c : Cmd) : Prop where
  reg : 0 ≤ c.1 ∧ c.1 ≤ 255
  op : ∀ x ∈ c.2.2.1, 0 ≤ x ∧ x ≤ 255
  key : ∀ x ∈ c.2.2.2.1, 0 ≤ x ∧ x ≤ 255
  arg : 0 ≤ c.2.2.2.2.1 ∧ c.2.2.2.2.1 ≤ 255
  opl : c.2.2.1.length ≤ 1048576
  keyl : c.2.2.2.1.length ≤ 1048576
theorem dec_digitN : ∀ (k m : Nat), ∀ x ∈ decL k m, 48 ≤ x ∧ x ≤ 57
  | 0, m, x, h => by simp [decL] at h
  | k + 1, m, x, h => by
    rw [show decL (k + 1) m = if m < 10 then [48 + (m : Int)] else decL k (m / 10) ++ [48 + ((m % 10 : Nat) : Int)] from rfl] at h
    split at h
    · simp at h; omega
    · rcases List.mem_append.1 h with h | h
      · exact dec_digitN k _ x h
      · simp at h; omega
theorem double_sub (o : List Int) : (rd [] (qr_doubles_F o) 0).length ≤ o.length ∧ ∀ x ∈ rd [] (qr_doubles_F o) 0, x ∈ o := by
  unfold qr_doubles_F
  by_cases h : (List.length o : Int) = 1
  · rw [decide_eq_true h]; exact ⟨Nat.le_refl _, fun x hx => hx⟩
  · rw [decide_eq_false h]
    refine ⟨?_, fun x hx => List.mem_of_mem_drop hx⟩
    show (List.drop 1 o).length ≤ o.length
    rw [List.length_drop]; omega
theorem baseN_byte {c : Cmd} (h : ByteC c) : (∀ x ∈ baseN c, 0 ≤ x ∧ x ≤ 255) ∧ (baseN c).length ≤ 2097152 := by
  have d := double_sub c.2.2.1
  have := h.opl
  have := h.keyl
  unfold baseN
  split
  · refine ⟨fun x hx => ?_, by rw [List.length_append]; omega⟩
    rcases List.mem_append.1 hx with q | q
    · exact h.op x q
    · exact h.op x (d.2 x q)
  · refine ⟨fun x hx => ?_, by rw [List.length_append]; omega⟩
    rcases List.mem_append.1 hx with q | q
    · exact h.op x q
    · exact h.key x q
theorem fullN_byte {c : Cmd} (h : ByteC c) : (∀ x ∈ fullN c, 0 ≤ x ∧ x ≤ 255) ∧ (fullN c).length ≤ 2097153 := by
  have b := baseN_byte h
  unfold fullN
  split
  · refine ⟨fun x hx => ?_, by rw [List.length_append]; simp; omega⟩
    rcases List.mem_append.1 hx with q | q
    · exact b.1 x q
    · rw [List.mem_singleton] at q; rw [q]; exact h.arg
  · exact ⟨b.1, by omega⟩
theorem aheadN_byte {c : Cmd} (h : ByteC c) (h0 : 0 ≤ c.2.1) (h1 : c.2.1 ≤ 9999) : (∀ x ∈ qr_ahead_F c, 0 ≤ x ∧ x ≤ 255) ∧ (qr_ahead_F c).length ≤ 9 := by
  rw [aheadF h0 h1]
  have r : (∀ x ∈ regL c, 0 ≤ x ∧ x ≤ 255) ∧ (regL c).length ≤ 2 := by
    unfold regL
    split
    · exact ⟨fun x hx => (by cases hx), by simp⟩
    · refine ⟨fun x hx => ?_, by simp⟩
      rcases List.mem_cons.1 hx with q | q
      · omega
      · rw [List.mem_singleton] at q; rw [q]; exact h.reg
  have k : (∀ x ∈ cntK c.2.1, 0 ≤ x ∧ x ≤ 255) ∧ (cntK c.2.1).length ≤ 7 := by
    unfold cntK
    split
    · exact ⟨fun x hx => (by cases hx), by simp⟩
    · rw [← decL_decI (n := c.2.1.toNat) (by omega)]
      exact ⟨fun x hx => (by have := dec_digitN 7 _ x hx; omega), decL_len 7 _⟩
  refine ⟨fun x hx => ?_, by rw [List.length_append]; omega⟩
  rcases List.mem_append.1 hx with q | q
  · exact r.1 x q
  · exact k.1 x q
theorem refNm {c : Cmd} (h : ByteC c) (h0 : 0 ≤ c.2.1) (h1 : c.2.1 ≤ 9999) : qr_Parse_F (qr_ahead_F c ++ fullN c) = parseM (qr_ahead_F c ++ fullN c) := by
  have a := aheadN_byte h h0 h1
  have f := fullN_byte h
  refine ref_eq (by rw [List.length_append]; omega) fun x hx => ?_
  rcases List.mem_append.1 hx with q | q
  · exact a.1 x q
  · exact f.1 x q
theorem nameJ0_or (n : List Int) (c : Cmd) : qr_Name_J0_F n c = [] ∨ qr_Name_J0_F n c = n := by
  unfold qr_Name_J0_F
  dsimp only
  generalize qr_Parse_F (qr_ahead_F c ++ n) = d
  repeat' (first | exact Or.inl rfl | exact Or.inr rfl | (refine (fun (b : Bool) {x y : List Int} (p : x = [] ∨ x = n) (q : y = [] ∨ y = n) => (by cases b; exact q; exact p : (bif b then x else y) = [] ∨ (bif b then x else y) = n)) _ ?_ ?_))
theorem name_in {c : Cmd} (h : ByteC c) (hi : Is c) : qr_Name_F c = keys_Name_F c := by
  have hc := hi.2.1
  rw [nameF, ← fullN_eq hi]
  refine nameJ0_in hc.1 hc.2 ?_
  have e : qr_ahead_F c ++ fullN c = keys_Spell_F c := by
    rw [aheadF hc.1 hc.2, fullN_eq hi, spell_eq hi, List.append_assoc]; rfl
  rw [refNm h hc.1 hc.2, e, parse_spell hi]
  refine ⟨?_, rfl, rfl, rfl, rfl, rfl⟩
  dsimp only
  unfold asksB
  split
  · exact Or.inr rfl
  · rename_i q
    refine Or.inl ⟨rfl, ?_⟩
    rcases hi.2.2.2.2.2.2 with l | l | l | l
    · exact l
    · exact absurd (.inl l) q
    · exact absurd (.inr (.inl l)) q
    · exact absurd (.inr (.inr l)) q
theorem is_of {c d : Cmd} (hd : Is d) (e1 : d.1 = c.1) (e2 : d.2.1 = c.2.1) (e3 : d.2.2.1 = c.2.2.1) (e4 : d.2.2.2.1 = c.2.2.2.1) (e5 : d.2.2.2.2.1 = c.2.2.2.2.1)
    (hl : c.2.2.2.2.2 = [] ∨ c.2.2.2.1 = [47] ∨ c.2.2.2.1 = [63] ∨ c.2.2.2.1 = [58]) : Is c := by
  unfold Is Known WantsA at hd ⊢
  rw [e1, e2, e3, e4, e5] at hd
  exact ⟨hd.1, hd.2.1, hd.2.2.1, hd.2.2.2.1, hd.2.2.2.2.1, hd.2.2.2.2.2.1, hl⟩
theorem name_out {c : Cmd} (h : ByteC c) (hi : ¬ Is c) : qr_Name_F c = [] := by
  rw [nameF]
  refine Classical.byContradiction fun hn => ?_
  have e := (nameJ0_or (fullN c) c).resolve_left hn
  have hf : fullN c ≠ [] := fun q => hn (e.trans q)
  obtain ⟨h0, h1, hs, a1, a2, a3, a4, a5⟩ := nameJ0_out hf e
  rw [refNm h h0 h1] at hs a1 a2 a3 a4 a5
  have fine := parse_fine (qr_ahead_F c ++ fullN c)
  generalize parseM (qr_ahead_F c ++ fullN c) = d at *
  obtain ⟨hd, ha, _⟩ := fine.1 (by rcases hs with ⟨q, _⟩ | q; exact Or.inl q; exact Or.inr q)
  refine hi (is_of hd a1 a2 a3 a4 a5 ?_)
  rcases hs with ⟨_, q⟩ | q
  · exact Or.inl q
  · right
    rw [ha, a4] at q
    unfold asksB at q
    split at q
    · assumption
    · cases q
theorem keysName_out {c : Cmd} (hi : ¬ Is c) : keys_Name_F c = [] := by
  have : keys_is_F c = false := by
    cases hh : keys_is_F c with
    | true => exact absurd (is_iff.1 hh) hi
    | false => rfl
  unfold keys_Name_F; rw [this]; rfl
theorem keysSpell_out {c : Cmd} (hi : ¬ Is c) : keys_Spell_F c = [] := by
  have : keys_is_F c = false := by
    cases hh : keys_is_F c with
    | true => exact absurd (is_iff.1 hh) hi
    | false => rfl
  unfold keys_Spell_F; rw [this]; rfl
theorem name_same {c : Cmd} (h : ByteC c) : qr_Name_F c = keys_Name_F c := by
  by_cases hi : Is c
  · exact name_in h hi
  · rw [name_out h hi, keysName_out hi]
theorem spell_same {c : Cmd} (h : ByteC c) : qr_Spell_F c = keys_Spell_F c := by
  unfold qr_Spell_F
  dsimp only
  by_cases hi : Is c
  · rw [name_same h]
    obtain ⟨b, r, hn, _⟩ := named_back hi
    rw [aheadF hi.2.1.1 hi.2.1.2, spell_eq hi, hn, List.append_assoc]
    rw [decide_eq_false (show ¬ ((b :: r).length : Int) = 0 from by simp; omega)]
    rfl
  · rw [name_out h hi, keysSpell_out hi]; rfl
end Go.VE
namespace Go.VE
open Go Go.Proofs

theorem known_PP {s : List Int} (hl : s.length ≤ 1099511627776) (N W : List (List Int)) : qr_known_P s N W := by
  unfold qr_known_P
  refine bif_both trivial (bif_both trivial ?_)
  by_cases h : (0 : Int) < (s.length : Int)
  · have e : decide ((0 : Int) < (s.length : Int)) = true := by simpa using h
    rw [e, wrap_i64 (by omega) (by omega)]
    simp only [cond_true]
    refine ⟨⟨by omega, by omega⟩, bif_both ⟨⟨by omega, by omega⟩, bif_both ⟨by omega, by omega⟩ trivial⟩ trivial⟩
  · have e : decide ((0 : Int) < (s.length : Int)) = false := by simpa using h
    rw [e]; trivial

theorem motions_PP : qr_motions_P := by
  refine ⟨by unfold qr_words_P qr_words_L0_P; decide, ?_, by unfold qr_words_P qr_words_L0_P; decide, ?_⟩
  · show (qr_words_F _).length + _ ≤ lim; decide +kernel
  · show (qr_words_F _).length + _ ≤ lim; decide +kernel
theorem plains_PP : qr_plains_P := by
  refine ⟨by unfold qr_words_P qr_words_L0_P; decide, by unfold qr_words_P qr_words_L0_P; decide⟩
theorem operators_PP : qr_operators_P := by unfold qr_operators_P qr_words_P qr_words_L0_P; decide
theorem objects_PP : qr_objects_P := by
  refine ⟨by unfold qr_words_P qr_words_L0_P; decide, ?_, ?_⟩
  · show (qr_words_F _).length + _ ≤ lim; decide +kernel
  · refine ⟨rfl, rfl, ?_, ?_⟩
    · decide +kernel
    · decide +kernel

theorem behind_PP {op : List Int} {l : Int} (ho : IsOp op l) {r : List Int} (hl : r.length ≤ 1099511627776) (c : Cmd) : qr_behind_P c op r bareL withL := by
  have hle := cntL_le r 0
  have enum : qr_number_F r = ((cntL r 0).1, ((cntL r 0).2 : Int)) := rfl
  refine ⟨⟨rfl, rfl⟩, ?_⟩
  show (0 ≤ (qr_number_F r).2 ∧ (qr_number_F r).2 ≤ (r.length : Int)) ∧ (bif decide (r.drop (Int.toNat (qr_number_F r).2) = []) then True else
    qr_doubles_P op ∧ (bif decide ((qr_found_F (r.drop (Int.toNat (qr_number_F r).2)) (qr_doubles_F op)).1 = 2) then True else
      qr_objects_P ∧ bareL.length + qr_objects_F.length ≤ lim ∧ qr_known_P (r.drop (Int.toNat (qr_number_F r).2)) (bareL ++ qr_objects_F) withL))
  rw [enum]
  refine ⟨⟨by dsimp only; omega, by dsimp only; omega⟩, bif_both trivial ⟨?_, bif_both trivial ⟨objects_PP, by decide +kernel, known_PP (by rw [List.length_drop]; omega) _ _⟩⟩⟩
  rcases ho with ⟨rfl, _⟩ | ⟨rfl, _⟩
  · exact trivial
  · show (0 : Int) ≤ 1 ∧ (1 : Int) ≤ 2
    decide

theorem J1_PP {s : List Int} (hl : s.length ≤ 1099511627776) (x c : Cmd) : qr_Parse_J1_P s x c := by
  have hle := cntL_le s 0
  have enum : qr_number_F s = ((cntL s 0).1, ((cntL s 0).2 : Int)) := rfl
  refine ⟨⟨rfl, rfl⟩, ?_⟩
  show (0 ≤ (qr_number_F s).2 ∧ (qr_number_F s).2 ≤ (s.length : Int)) ∧ (bif decide (s.drop (Int.toNat (qr_number_F s).2) = []) then True else
    qr_motions_P ∧ qr_operators_P ∧ qr_Parse_L0_P (s.drop (Int.toNat (qr_number_F s).2)) bareL withL opsL 0 x (c.1, (qr_number_F s).1, c.2.2.1, c.2.2.2.1, c.2.2.2.2.1, c.2.2.2.2.2) ∧ _)
  rw [enum]
  simp only [Int.toNat_natCast]
  have hsl : (s.drop (cntL s 0).2).length ≤ 1099511627776 := by rw [List.length_drop]; omega
  refine ⟨⟨by omega, by omega⟩, bif_both trivial ⟨motions_PP, operators_PP, ⟨rfl, by decide +kernel, fun o ho => ?_⟩, ?_⟩⟩
  · obtain ⟨l, r, hop, hs, _⟩ := op_is ho
    rw [hs, List.drop_left]
    exact behind_PP hop (by rw [hs, List.length_append] at hsl; omega) _
  · have key : ∀ q : (Int × Cmd') ⊕ (List Int × List (List Int) × List (List Int) × List (List Int) × Cmd' × Cmd'), (∀ q0, q = .inr q0 → q0.1.length ≤ 1099511627776 ∧ q0.2.1 = bareL ∧ q0.2.2.1 = withL) →
        Sum.elim (fun _ : Int × Cmd' => True) (fun q0x0 : List Int × List (List Int) × List (List Int) × List (List Int) × Cmd' × Cmd' =>
          qr_plains_P ∧ (q0x0.2.1.length + qr_plains_F.1.length ≤ lim) ∧ (q0x0.2.2.1.length + qr_plains_F.2.length ≤ lim) ∧ qr_known_P q0x0.1 (q0x0.2.1 ++ qr_plains_F.1) (q0x0.2.2.1 ++ qr_plains_F.2)) q := by
      intro q hq
      cases q with
      | inl a => trivial
      | inr a =>
        obtain ⟨q1, q2, q3⟩ := hq a rfl
        refine ⟨plains_PP, ?_, ?_, known_PP q1 _ _⟩
        · rw [q2]; decide +kernel
        · rw [q3]; decide +kernel
    refine key _ fun q0 hq => ?_
    unfold qr_Parse_L0_F at hq
    split at hq
    · cases hq
    · injection hq with hq; subst hq
      exact ⟨hsl, rfl, rfl⟩

theorem ref_P {ks : List Int} (hl : ks.length ≤ 1099511627776) : qr_Parse_P ks := by
  unfold qr_Parse_P
  cases ks with
  | nil => exact J1_PP hl _ _
  | cons b r =>
    have hd : (!decide (b :: r = [])) = true := by simp
    rw [hd]
    simp only [cond_true]
    refine ⟨⟨by omega, by simp only [List.length_cons]; omega⟩, bif_both ?_ (J1_PP hl _ _)⟩
    cases r with
    | nil => exact trivial
    | cons n r' =>
      have hln : decide (((b :: n :: r').length : Int) = 1) = false := by rw [decide_eq_false_iff_not]; simp only [List.length_cons]; omega
      rw [hln]
      have g1 : (0 : Int) ≤ 1 ∧ (1 : Int) < ((b :: n :: r').length : Int) := ⟨by omega, by simp only [List.length_cons]; omega⟩
      have g2 : (0 : Int) ≤ 2 ∧ (2 : Int) ≤ ((b :: n :: r').length : Int) := ⟨by omega, by simp only [List.length_cons]; omega⟩
      exact ⟨g1, bif_both trivial ⟨g1, g2, J1_PP (by show r'.length ≤ _; simp only [List.length_cons] at hl; omega) _ _⟩⟩

theorem same_self (c : Cmd) : qr_Same_F c c = true := by
  unfold qr_Same_F
  simp

theorem parse_law (v : valsA ql_KeysParse_A) (hw : wfA ql_KeysParse_A v) (hb : bulkA ql_KeysParse_A v ≤ 1048576) : ql_KeysParse_R (mkA ql_KeysParse_A v) yesK := by
  obtain ⟨all, ⟨⟩⟩ := v
  refine (ql_KeysParse_walk all yesK).mpr ?_
  obtain ⟨h1, _⟩ := hw
  change bulk (.sl (.int .u8)) all + 0 ≤ 1048576 at hb
  rw [bulk_bytes] at hb
  have hl : all.length ≤ 1099511627776 := by omega
  have h255 : ∀ x ∈ all, 0 ≤ x ∧ x ≤ 255 := h1.2
  unfold ql_KeysParse_raw
  intro r1 hr1 _
  subst hr1
  refine brb (fun h => by cases h) (fun _ => ⟨ref_P hl, fun r2 h2 _ => ⟨parse_P hl h255, fun r3 h3 _ => ?_⟩⟩)
  rw [ref_eq hl h255] at h2
  rw [parse_F hl h255] at h3
  subst h2; subst h3
  refine brn (fun _ => fun r4 h4 _ => ?_) (fun h => absurd rfl h)
  rw [same_self] at h4
  subst h4
  rfl
end Go.VE
namespace Go.VE
open Go Go.Proofs
/-! ### quoin/quoinlaw21.KeysNames -/
def ql_KeysNames_G : List (Nat × App) := [(10, ql_awake_S), (14, qr_Name_S), (15, qr_Spell_S), (16, keys_Name_S), (17, keys_Spell_S)]
theorem ql_KeysNames_Gok : GOk Tryd.prog (getG ql_KeysNames_G) := GOk.cons ql_awake_ok (GOk.cons qr_Name_ok (GOk.cons qr_Spell_ok (GOk.cons keys_Name_ok (GOk.cons keys_Spell_ok (GOk.nil)))))
def ql_KeysNames_raw (c0 : CmT) (K : Res → List Cell → Prop) : Prop :=
 ∀ (r1 : Bool), r1 = ql_awake_F → (
 wfR (.one (.v (.bool) r1)) → (
 bif (!r1) then
 K (.one (.v (.bool) false)) []
 else
 qr_Name_P c0 ∧ (
 ∀ (r2 : List Int), r2 = qr_Name_F c0 → (
 wfR (.one (.fr 5 (.int .u8) r2)) → (
 qr_Spell_P c0 ∧ (
 ∀ (r3 : List Int), r3 = qr_Spell_F c0 → (
 wfR (.one (.fr 5 (.int .u8) r3)) → (
 (
 keys_Name_P c0 ∧ (
 ∀ (r4 : List Int), r4 = keys_Name_F c0 → (
 wfR (.one (.fr 5 (.int .u8) r4)) → (
 (
 bif (decide (r4 = r2)) then
 (
 keys_Spell_P c0 ∧ (
 ∀ (r5 : List Int), r5 = keys_Spell_F c0 → (
 wfR (.one (.fr 5 (.int .u8) r5)) → (
 (
 K (.one (.v (.bool) (decide (r5 = r3)))) []) ∧ (
 K (.one (.v (.bool) (decide (r5 = r3)))) []) ∧ True)))) ∧ (
 keys_Spell_P c0 ∧ (
 ∀ (r6 : List Int), r6 = keys_Spell_F c0 → (
 wfR (.one (.fr 5 (.int .u8) r6)) → (
 K (.one (.v (.bool) (decide (r6 = r3)))) [])))) ∧ True
 else
 K (.one (.v (.bool) false)) []) ∧ (
 bif (decide (r4 = r2)) then
 (
 keys_Spell_P c0 ∧ (
 ∀ (r7 : List Int), r7 = keys_Spell_F c0 → (
 wfR (.one (.fr 5 (.int .u8) r7)) → (
 (
 K (.one (.v (.bool) (decide (r7 = r3)))) []) ∧ (
 K (.one (.v (.bool) (decide (r7 = r3)))) []) ∧ True)))) ∧ (
 keys_Spell_P c0 ∧ (
 ∀ (r8 : List Int), r8 = keys_Spell_F c0 → (
 wfR (.one (.fr 5 (.int .u8) r8)) → (
 K (.one (.v (.bool) (decide (r8 = r3)))) [])))) ∧ True
 else
 K (.one (.v (.bool) false)) []) ∧ True)))) ∧ (
 keys_Name_P c0 ∧ (
 ∀ (r9 : List Int), r9 = keys_Name_F c0 → (
 wfR (.one (.fr 5 (.int .u8) r9)) → (
 bif (decide (r9 = r2)) then
 (
 keys_Spell_P c0 ∧ (
 ∀ (r10 : List Int), r10 = keys_Spell_F c0 → (
 wfR (.one (.fr 5 (.int .u8) r10)) → (
 (
 K (.one (.v (.bool) (decide (r10 = r3)))) []) ∧ (
 K (.one (.v (.bool) (decide (r10 = r3)))) []) ∧ True)))) ∧ (
 keys_Spell_P c0 ∧ (
 ∀ (r11 : List Int), r11 = keys_Spell_F c0 → (
 wfR (.one (.fr 5 (.int .u8) r11)) → (
 K (.one (.v (.bool) (decide (r11 = r3)))) [])))) ∧ True
 else
 K (.one (.v (.bool) false)) [])))) ∧ True))))))))
def ql_KeysNames_A : List AS := [.v (.st (.pair (.int .u8) (.pair (.int .i64) (.pair (.str) (.pair (.str) (.pair (.int .u8) (.sl (.int .u8))))))))]
theorem ql_KeysNames_walk (c0 : CmT) (K : Res → List Cell → Prop) : runF tb (getG ql_KeysNames_G) [] Tryd.f4 [true] (mkA ql_KeysNames_A (c0, ())) K = ql_KeysNames_raw c0 K := by kernel_rfl
--! law 1

def ql_KeysNames_R : App := runF tb (getG ql_KeysNames_G) [] Tryd.f4 [true]
theorem ql_KeysNames_ok : AppOk Tryd.prog 4 ql_KeysNames_R := runF_ok tb_M tb_ok ql_KeysNames_Gok (LabsOk.nil) (f := 4) (fn := Tryd.f4) (by kernel_rfl) (by kernel_rfl) (by kernel_rfl) [true]
end Go.VE
namespace Go.VE
open Go Go.Proofs
theorem ahead_PP {c : Cmd} (h0 : 0 ≤ c.2.1) (h1 : c.2.1 ≤ 9999) : qr_ahead_P c := by
  have d : qr_decimal_P c.2.1 := ⟨7, h0, by omega, by omega, by omega⟩
  have l : (qr_decimal_F c.2.1).length ≤ 7 := decL_len 7 _
  have J : ∀ s : List Int, s.length ≤ 2 → qr_ahead_J0_P s c := fun s hs => by
    unfold qr_ahead_J0_P
    exact bif_both ⟨d, by unfold lim; omega⟩ trivial
  unfold qr_ahead_P
  exact bif_both ⟨by unfold lim; simp, J _ (by simp)⟩ (J _ (by simp))
theorem nameJ0_P {c : Cmd} (h : ByteC c) {n : List Int} (hn : n.length ≤ 3000000) : qr_Name_J0_P n c := by
  unfold qr_Name_J0_P
  by_cases x0 : c.2.1 < 0
  · rw [decide_eq_true x0]; trivial
  by_cases x1 : 9999 < c.2.1
  · rw [decide_eq_false x0, decide_eq_true x1]; trivial
  rw [decide_eq_false x0, decide_eq_false x1]
  have a := (aheadN_byte h (by omega) (by omega)).2
  exact ⟨ahead_PP (by omega) (by omega), by unfold lim; omega, ref_P (by rw [List.length_append]; omega)⟩
theorem nameJ1_P {c : Cmd} (h : ByteC c) {n : List Int} (hn : n.length ≤ 2999999) : qr_Name_J1_P n c := by
  have one : qr_Name_J0_P (n ++ [c.2.2.2.2.1]) c := nameJ0_P h (by rw [List.length_append]; simp; omega)
  have l : List.length n + List.length ([c.2.2.2.2.1] : List Int) ≤ lim := by unfold lim; simp; omega
  unfold qr_Name_J1_P
  exact bif_both ⟨l, one⟩ ⟨⟨motions_PP, plains_PP⟩, bif_both ⟨l, one⟩ (nameJ0_P h (by omega))⟩
theorem nameP {c : Cmd} (h : ByteC c) : qr_Name_P c := by
  have o := h.opl
  have k := h.keyl
  have d := double_sub c.2.2.1
  unfold qr_Name_P
  refine ⟨by unfold lim; omega, ?_⟩
  have two : qr_Name_J1_P (c.2.2.1 ++ c.2.2.2.1) c := nameJ1_P h (by rw [List.length_append]; omega)
  by_cases h0 : c.2.2.1 = []
  · rw [decide_eq_true h0]; exact two
  rw [decide_eq_false h0]
  by_cases h2 : c.2.2.1 = c.2.2.2.1
  case neg => rw [decide_eq_false h2]; exact two
  rw [decide_eq_true h2]
  show qr_doubles_P c.2.2.1 ∧ _
  refine ⟨?_, ?_, ?_, nameJ1_P h (by rw [List.length_append]; omega)⟩
  · unfold qr_doubles_P
    have := List.length_pos_iff.2 h0
    exact bif_both trivial ⟨by omega, by omega⟩
  · unfold qr_doubles_F
    refine ⟨by omega, ?_⟩
    by_cases q : (List.length c.2.2.1 : Int) = 1
    · rw [decide_eq_true q]; simp
    · rw [decide_eq_false q]; simp
  · unfold lim; omega
theorem ahead_of {c : Cmd} (h : ByteC c) (hn : qr_Name_F c ≠ []) : qr_ahead_P c := by
  have hi : Is c := Classical.byContradiction fun q => hn (name_out h q)
  exact ahead_PP hi.2.1.1 hi.2.1.2
theorem spellP {c : Cmd} (h : ByteC c) : qr_Spell_P c := by
  unfold qr_Spell_P
  refine ⟨nameP h, ?_⟩
  dsimp only
  by_cases q : (List.length (qr_Name_F c) : Int) = 0
  · rw [decide_eq_true q]; trivial
  rw [decide_eq_false q]
  have hn : qr_Name_F c ≠ [] := fun e => q (by rw [e]; rfl)
  refine ⟨ahead_of h hn, ?_⟩
  have hi : Is c := Classical.byContradiction fun q => hn (name_out h q)
  have a := (aheadN_byte h hi.2.1.1 hi.2.1.2).2
  have f := (fullN_byte h).2
  rw [name_same h, ← fullN_eq hi]
  unfold lim; omega
theorem names_raw {c : Cmd} (h : ByteC c) : ql_KeysNames_raw c yesK := by
  unfold ql_KeysNames_raw
  have hN := name_P c (by have := h.opl; omega) (by have := h.keyl; omega)
  have hS := (spell_P h.opl h.keyl).1
  intro r1 hr1 _
  subst hr1
  refine brb (fun h => by cases h) (fun _ => ?_)
  refine ⟨nameP h, fun r2 h2 _ => ⟨spellP h, fun r3 h3 _ => ?_⟩⟩
  rw [name_same h] at h2
  rw [spell_same h] at h3
  have fin : ∀ r5 : List Int, r5 = keys_Spell_F c → yesK (.one (.v (.bool) (decide (r5 = r3)))) [] := fun r5 h5 => by
    have : decide (r5 = r3) = true := decide_eq_true (h5.trans h3.symm)
    rw [this]; rfl
  have fin2 : keys_Spell_P c ∧ (∀ (r6 : List Int), r6 = keys_Spell_F c → (wfR (.one (.fr 5 (.int .u8) r6)) → yesK (.one (.v (.bool) (decide (r6 = r3)))) [])) := ⟨hS, fun r h _ => fin r h⟩
  have fin3 : (keys_Spell_P c ∧ (∀ (r6 : List Int), r6 = keys_Spell_F c → (wfR (.one (.fr 5 (.int .u8) r6)) → (yesK (.one (.v (.bool) (decide (r6 = r3)))) [] ∧ yesK (.one (.v (.bool) (decide (r6 = r3)))) [] ∧ True)))) := ⟨hS, fun r h _ => ⟨fin r h, fin r h, trivial⟩⟩
  have go : ∀ r4 : List Int, r4 = keys_Name_F c → decide (r4 = r2) = true := fun r4 h4 => decide_eq_true (h4.trans h2.symm)
  refine ⟨⟨hN, fun r4 h4 _ => ?_⟩, ⟨hN, fun r4 h4 _ => ?_⟩, trivial⟩
  · rw [go r4 h4]
    exact ⟨⟨fin3, fin2, trivial⟩, ⟨fin3, fin2, trivial⟩, trivial⟩
  · rw [go r4 h4]
    exact ⟨fin3, fin2, trivial⟩
set_option maxRecDepth 100000 in
theorem names_law (v : valsA ql_KeysNames_A) (hw : wfA ql_KeysNames_A v) (hb : bulkA ql_KeysNames_A v ≤ 1048576) : ql_KeysNames_R (mkA ql_KeysNames_A v) yesK := by
  obtain ⟨c, ⟨⟩⟩ := v
  refine (ql_KeysNames_walk c yesK).mpr ?_
  obtain ⟨hc, _⟩ := hw
  obtain ⟨r, n, o, k, a, l⟩ := c
  have hb' : (1 + (1 + ((List.length o + 1) + ((List.length k + 1) + (1 + bulk (.sl (.int .u8)) l))))) + 0 ≤ 1048576 := hb
  rw [bulk_bytes] at hb'
  obtain ⟨hr, hn, ho, hk, ha, hl⟩ := hc
  exact names_raw ⟨hr, ho.2, hk.2, ha, by show List.length o ≤ _; omega, by show List.length k ≤ _; omega⟩
end Go.VE
