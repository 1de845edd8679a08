/- KeysKeeps: whatever the input, up to the bulk that the statement names, the law answers true, and what was handed in reads as it did. Its conditions: the bound of the given statement and the tables that its card ties, no other. -/
import Derived.Test.YtdmgfabppaffkaaDoorV11
set_option linter.unusedVariables false
set_option linter.unusedSectionVars false
set_option linter.unusedSimpArgs false
namespace Go.VE
open Go Go.Proofs

theorem cntL_le : ∀ (s : List Int) (n : Int), (cntL s n).2 ≤ s.length
  | [], n => Nat.le_refl 0
  | b :: r, n => by
    unfold cntL
    split
    · exact Nat.zero_le _
    · have := cntL_le r (mn (n * 10 + (b - 48)) 9999)
      simp only [List.length_cons]; omega

theorem cntL_bound : ∀ (s : List Int) (n : Int), 0 ≤ n → n ≤ 9999 → 0 ≤ (cntL s n).1 ∧ (cntL s n).1 ≤ 9999
  | [], n, h0, h1 => ⟨h0, h1⟩
  | b :: r, n, h0, h1 => by
    unfold cntL
    split
    · exact ⟨h0, h1⟩
    · rename_i hb
      obtain ⟨q1, q2, q3⟩ := mn_le' (n * 10 + (b - 48)) 9999
      exact cntL_bound r _ (q3 (by omega) (by omega)) q1

section
set_option linter.unusedSectionVars false
variable {ks : List Int} (hl : ks.length ≤ 1099511627776)
include hl

theorem count_eq {s : List Int} (h : s <:+ ks) : keys_reader_count_P (rdr ks s) ∧ keys_reader_count_F (rdr ks s) = ((cntL s 0).1, rdr ks (s.drop (cntL s 0).2)) := by
  have h1 := suf_len h
  have hd : ks.drop ((ks.length : Int) - s.length).toNat = s := by
    obtain ⟨t, rfl⟩ := h
    have : ((((t ++ s).length : Nat) : Int) - (s.length : Nat)).toNat = t.length := by simp only [List.length_append]; omega
    rw [this]; simp
  refine ⟨?_, ?_⟩
  · unfold keys_reader_count_P keys_reader_count_L0_P rdr
    exact ⟨by dsimp only; omega, by dsimp only; omega, by omega, by omega⟩
  · unfold keys_reader_count_F keys_reader_count_L0_F rdr
    simp only [hd]
    have := cntL_le s 0
    simp only [List.length_drop, Prod.mk.injEq, true_and]
    omega

theorem rdr_step {b : Int} {r : List Int} (h : (b :: r) <:+ ks) : ((rdr ks (b :: r)).1, IntKind.wrap .i64 ((rdr ks (b :: r)).2 + 1)) = rdr ks r := by
  have h1 := suf_len h
  simp only [List.length_cons] at h1
  unfold rdr
  simp only [List.length_cons]
  rw [wrap_i64 (by omega) (by omega)]
  simp only [Prod.mk.injEq, true_and]
  omega

theorem rdr_rd {b : Int} {r : List Int} (h : (b :: r) <:+ ks) : rd (0 : Int) (rdr ks (b :: r)).1 (rdr ks (b :: r)).2 = b ∧ (0 ≤ (rdr ks (b :: r)).2 ∧ (rdr ks (b :: r)).2 < ((rdr ks (b :: r)).1.length : Int)) ∧ ¬ (rdr ks (b :: r)).2 = ((rdr ks (b :: r)).1.length : Int) := by
  have h1 := suf_len h
  have h2 := rd_suf h
  simp only [List.length_cons] at h1 h2
  unfold rdr
  simp only [List.length_cons]
  exact ⟨h2, ⟨by omega, by omega⟩, by omega⟩

theorem rdr_end : (rdr ks []).2 = ((rdr ks []).1.length : Int) := by
  unfold rdr; simp

/-- what stands behind an operator's count -/
theorem wrk_eq {s : List Int} (h : s <:+ ks) (c : Cmd) {l : Int} (hop : 1 ≤ c.2.2.1.length ∧ c.2.2.1.length ≤ 2) (hlast : rd 0 c.2.2.1 ((c.2.2.1.length : Int) - 1) = l) :
    keys_reader_worked_J0_P (rdr ks s) c ∧ keys_reader_worked_J0_F (rdr ks s) c = res ks (wrkM l s c) := by
  have hw : IntKind.wrap .i64 ((List.length c.2.2.1 : Int) - (1 : Int)) = (c.2.2.1.length : Int) - 1 := wrap_i64 (by omega) (by omega)
  unfold keys_reader_worked_J0_P keys_reader_worked_J0_F
  refine ⟨⟨next_P hl h, ?_⟩, ?_⟩
  · cases s with
    | nil => rw [(next_nil hl).2]; trivial
    | cons b r =>
      have hr := suf_tail h
      rw [(next_cons hl h).2]
      simp only [hw, hlast, Bool.cond_decide, Bool.not_true, cond_false]
      refine ⟨⟨by omega, by omega⟩, ?_⟩
      by_cases e1 : b = l
      · simp only [if_pos e1]
      simp only [if_neg e1]
      by_cases e2 : b = 105
      · simp only [if_pos e2]; exact next_P hl hr
      simp only [if_neg e2]
      by_cases e3 : b = 97
      · simp only [if_pos e3]; exact next_P hl hr
      simp only [if_neg e3]
      have hm := (mot_eq hl hr c b).1
      by_cases e4 : b = 103
      · simp only [if_pos e4]
        refine ⟨⟨by omega, by omega⟩, ?_⟩
        by_cases e5 : rd 0 c.2.2.1 0 = 103
        · simp only [if_pos e5]
          cases r with
          | nil =>
            have he := rdr_end (ks := ks) hl
            rw [if_neg (by omega)]; exact hm
          | cons d r' =>
            obtain ⟨k1, k2, k3⟩ := rdr_rd hl hr
            rw [if_pos k2.2]
            refine ⟨k2, ?_⟩
            split
            · trivial
            · exact hm
        · simp only [if_neg e5]; exact hm
      · simp only [if_neg e4]; exact hm
  · cases s with
    | nil => rw [(next_nil hl).2]; rfl
    | cons b r =>
      have hr := suf_tail h
      rw [(next_cons hl h).2]
      simp only [hw, hlast, Bool.cond_decide, Bool.not_true, cond_false, wrkM]
      by_cases e1 : b = l
      · simp only [if_pos e1]; rfl
      simp only [if_neg e1]
      have obj : ∀ {b : Int}, (match keys_reader_next_F (rdr ks r) with
          | r3 => bif (!r3.2.1) then ((0 : Int), r3.2.2, c) else if strings_IndexByte_F objectsL r3.1 < 0 then ((2 : Int), r3.2.2, c) else ((1 : Int), r3.2.2, (c.1, c.2.1, c.2.2.1, ([b, r3.1] : List Int), c.2.2.2.2.1, c.2.2.2.2.2))) = res ks (objM b r c) := by
        intro b
        cases r with
        | nil => rw [(next_nil hl).2]; rfl
        | cons d r' =>
          rw [(next_cons hl hr).2]
          simp only [objM, idx_lt, Bool.not_true, cond_false]
          by_cases hd : d ∈ objectsL
          · rw [if_neg (fun hh => hh hd), if_pos hd]; rfl
          · rw [if_pos hd, if_neg hd]; rfl
      by_cases e2 : b = 105
      · simp only [if_pos e2, if_pos (Or.inl e2 : b = 105 ∨ b = 97)]; exact obj
      simp only [if_neg e2]
      by_cases e3 : b = 97
      · simp only [if_pos e3, if_pos (Or.inr e3 : b = 105 ∨ b = 97)]; exact obj
      simp only [if_neg e3, if_neg (fun hh => by rcases hh with hh | hh; exact e2 hh; exact e3 hh : ¬ (b = 105 ∨ b = 97))]
      have hm := (mot_eq hl hr c b).2
      by_cases e4 : b = 103
      · simp only [if_pos e4]
        by_cases e5 : rd 0 c.2.2.1 0 = 103
        · simp only [if_pos e5]
          cases r with
          | nil =>
            have he := rdr_end (ks := ks) hl
            rw [if_neg (by omega), if_neg (by simp)]
            rw [hm]
          | cons d r' =>
            obtain ⟨k1, k2, k3⟩ := rdr_rd hl hr
            rw [if_pos k2.2, k1]
            by_cases e6 : d = l
            · have st := rdr_step hl hr
              rw [if_pos e6, if_pos ⟨e4, e5, by rw [e6]; rfl⟩, st]; rfl
            · rw [if_neg e6, if_neg (fun hh => e6 (by simpa using hh.2.2))]
              rw [hm]
        · simp only [if_neg e5]
          rw [if_neg (fun hh => e5 hh.2.1)]
          rw [hm]
      · simp only [if_neg e4]
        rw [if_neg (fun hh => e4 hh.1)]
        rw [hm]

theorem cnt_eq {n : Int} (c : Cmd) (hn : 0 ≤ n ∧ n ≤ 9999) (hc : 0 ≤ c.2.1 ∧ c.2.1 ≤ 9999) : mn (IntKind.wrap .i64 ((mx c.2.1 1) * (mx n 1))) 9999 = mn ((mx c.2.1 1) * (mx n 1)) 9999 := by
  have h1 : ∀ a : Int, 0 ≤ a → a ≤ 9999 → 1 ≤ mx a 1 ∧ mx a 1 ≤ 9999 := fun a h0 h1 => by
    unfold mx
    by_cases h : a < 1
    · simp [h]
    · simp [h]; omega
  obtain ⟨a1, a2⟩ := h1 _ hc.1 hc.2
  obtain ⟨b1, b2⟩ := h1 _ hn.1 hn.2
  have p1 : 0 ≤ mx c.2.1 1 * mx n 1 := Int.mul_nonneg (by omega) (by omega)
  have p2 : mx c.2.1 1 * mx n 1 ≤ 9999 * 9999 := Int.mul_le_mul a2 b2 (by omega) (by omega)
  rw [wrap_i64 (by omega) (by omega)]

theorem work_eq {s : List Int} (h : s <:+ ks) (c : Cmd) {l : Int} (hop : 1 ≤ c.2.2.1.length ∧ c.2.2.1.length ≤ 2) (hlast : rd 0 c.2.2.1 ((c.2.2.1.length : Int) - 1) = l) (hc : 0 ≤ c.2.1 ∧ c.2.1 ≤ 9999) :
    keys_reader_worked_P (rdr ks s) c ∧ keys_reader_worked_F (rdr ks s) c = res ks (workM l s c) := by
  obtain ⟨q1, q2⟩ := count_eq hl h
  have hb := cntL_bound s 0 (by omega) (by omega)
  have hs := suf_drop (cntL s 0).2 h
  have hset : (c.1, mn (IntKind.wrap .i64 ((mx c.2.1 1) * (mx (cntL s 0).1 1))) 9999, c.2.2.1, c.2.2.2.1, c.2.2.2.2.1, c.2.2.2.2.2) = setCnt c (mn (mx c.2.1 1 * mx (cntL s 0).1 1) 9999) := by
    rw [cnt_eq hl c hb hc]; rfl
  obtain ⟨a1, a2⟩ := wrk_eq hl hs (setCnt c (mn (mx c.2.1 1 * mx (cntL s 0).1 1) 9999)) (l := l) hop hlast
  obtain ⟨b1, b2⟩ := wrk_eq hl hs c (l := l) hop hlast
  unfold keys_reader_worked_P keys_reader_worked_F workM cntC
  rw [q2]
  simp only [Bool.cond_decide, hset]
  by_cases e1 : 0 < (cntL s 0).1
  · simp only [if_pos e1, if_pos (Or.inl e1 : 0 < (cntL s 0).1 ∨ 0 < c.2.1)]
    exact ⟨⟨q1, a1⟩, by rw [a2]⟩
  simp only [if_neg e1]
  by_cases e2 : 0 < c.2.1
  · simp only [if_pos e2, if_pos (Or.inr e2 : 0 < (cntL s 0).1 ∨ 0 < c.2.1)]
    exact ⟨⟨q1, a1⟩, by rw [a2]⟩
  simp only [if_neg e2, if_neg (fun hh => by rcases hh with hh | hh; exact e1 hh; exact e2 hh : ¬ (0 < (cntL s 0).1 ∨ 0 < c.2.1))]
  exact ⟨⟨q1, b1⟩, by rw [b2]⟩

theorem op1 (c : Cmd) (b : Int) : 1 ≤ (setOp c [b]).2.2.1.length ∧ (setOp c [b]).2.2.1.length ≤ 2 := by simp [setOp]
theorem op2 (c : Cmd) (b d : Int) : 1 ≤ (setOp c [b, d]).2.2.1.length ∧ (setOp c [b, d]).2.2.1.length ≤ 2 := by simp [setOp]

theorem named_eq {s : List Int} (h : s <:+ ks) (c : Cmd) (hc : 0 ≤ c.2.1 ∧ c.2.1 ≤ 9999) : keys_reader_named_P (rdr ks s) c ∧ keys_reader_named_F (rdr ks s) c = res ks (namedM s c) := by
  unfold keys_reader_named_P keys_reader_named_F
  cases s with
  | nil => 
    rw [(next_nil hl).2]
    exact ⟨⟨next_P hl h, trivial⟩, rfl⟩
  | cons b r =>
    have hr := suf_tail h
    rw [(next_cons hl h).2]
    simp only [Bool.cond_decide, Bool.not_true, cond_false, namedM, idx_mem]
    have W : ∀ x : Int, keys_reader_worked_P (rdr ks r) (c.1, c.2.1, [x], c.2.2.2.1, c.2.2.2.2.1, c.2.2.2.2.2) ∧ keys_reader_worked_F (rdr ks r) (c.1, c.2.1, [x], c.2.2.2.1, c.2.2.2.2.1, c.2.2.2.2.2) = res ks (workM x r (setOp c [x])) :=
      fun x => work_eq hl hr (setOp c [x]) (op1 hl c x) rfl hc
    have nx := next_P hl h
    by_cases e1 : b = 100
    · simp only [if_pos e1, if_pos (Or.inl e1 : b = 100 ∨ b = 99 ∨ b = 121 ∨ b = 62 ∨ b = 60)]
      obtain ⟨w1, w2⟩ := W b
      exact ⟨⟨nx, w1⟩, by rw [w2]⟩
    simp only [if_neg e1]
    by_cases e2 : b = 99
    · simp only [if_pos e2, if_pos (Or.inr (Or.inl e2) : b = 100 ∨ b = 99 ∨ b = 121 ∨ b = 62 ∨ b = 60)]
      obtain ⟨w1, w2⟩ := W b
      exact ⟨⟨nx, w1⟩, by rw [w2]⟩
    simp only [if_neg e2]
    by_cases e3 : b = 121
    · simp only [if_pos e3, if_pos (Or.inr (Or.inr (Or.inl e3)) : b = 100 ∨ b = 99 ∨ b = 121 ∨ b = 62 ∨ b = 60)]
      obtain ⟨w1, w2⟩ := W b
      exact ⟨⟨nx, w1⟩, by rw [w2]⟩
    simp only [if_neg e3]
    by_cases e4 : b = 62
    · simp only [if_pos e4, if_pos (Or.inr (Or.inr (Or.inr (Or.inl e4))) : b = 100 ∨ b = 99 ∨ b = 121 ∨ b = 62 ∨ b = 60)]
      obtain ⟨w1, w2⟩ := W b
      exact ⟨⟨nx, w1⟩, by rw [w2]⟩
    simp only [if_neg e4]
    by_cases e5 : b = 60
    · simp only [if_pos e5, if_pos (Or.inr (Or.inr (Or.inr (Or.inr e5))) : b = 100 ∨ b = 99 ∨ b = 121 ∨ b = 62 ∨ b = 60)]
      obtain ⟨w1, w2⟩ := W b
      exact ⟨⟨nx, w1⟩, by rw [w2]⟩
    have e0 : ¬ (b = 100 ∨ b = 99 ∨ b = 121 ∨ b = 62 ∨ b = 60) := by omega
    simp only [if_neg e5, if_neg e0]
    by_cases e6 : b = 58
    · simp only [if_pos e6]; exact ⟨⟨nx, trivial⟩, rfl⟩
    simp only [if_neg e6]
    obtain ⟨a1, a2⟩ := arg_eq hl hr (setKey c [b])
    simp only [setKey] at a1 a2
    by_cases e7 : b = 114
    · simp only [if_pos e7, if_pos (Or.inl e7 : b = 114 ∨ b = 109)]; exact ⟨⟨nx, a1⟩, by rw [a2]; rfl⟩
    simp only [if_neg e7]
    by_cases e8 : b = 109
    · simp only [if_pos e8, if_pos (Or.inr e8 : b = 114 ∨ b = 109)]; exact ⟨⟨nx, a1⟩, by rw [a2]; rfl⟩
    simp only [if_neg e8, if_neg (fun hh => by rcases hh with hh | hh; exact e7 hh; exact e8 hh : ¬ (b = 114 ∨ b = 109))]
    obtain ⟨m1, m2⟩ := mot_eq hl hr c b
    by_cases e9 : b = 103
    · have hp : b ∉ plainsL := by subst e9; decide
      have hp' := hp
      simp only [plainsL] at hp'
      simp only [if_pos e9, if_neg hp']
      cases r with
      | nil =>
        have he := rdr_end (ks := ks) hl
        rw [if_pos he, if_pos he]
        exact ⟨⟨nx, trivial⟩, rfl⟩
      | cons d r' =>
        have hr' := suf_tail hr
        obtain ⟨k1, k2, k3⟩ := rdr_rd hl hr
        have st := rdr_step hl hr
        have W2 : ∀ x : Int, keys_reader_worked_P (rdr ks r') (c.1, c.2.1, ([103] : List Int) ++ [x], c.2.2.2.1, c.2.2.2.2.1, c.2.2.2.2.2) ∧ keys_reader_worked_F (rdr ks r') (c.1, c.2.1, ([103] : List Int) ++ [x], c.2.2.2.1, c.2.2.2.2.1, c.2.2.2.2.2) = res ks (workM x r' (setOp c [103, x])) :=
          fun x => work_eq hl hr' (setOp c [103, x]) (op2 hl c 103 x) rfl hc
        rw [if_neg k3, if_neg k3, k1, st]
        have len : ∀ x : Int, List.length ([103] : List Int) + List.length ([x] : List Int) ≤ lim := fun x => by simp [lim]
        simp only [g2M]
        obtain ⟨w1, w2⟩ := W2 d
        by_cases f1 : d = 126
        · simp only [if_pos f1, if_pos (Or.inl f1 : d = 126 ∨ d = 117 ∨ d = 85)]
          exact ⟨⟨nx, k2, len d, w1⟩, by rw [w2]⟩
        simp only [if_neg f1]
        by_cases f2 : d = 117
        · simp only [if_pos f2, if_pos (Or.inr (Or.inl f2) : d = 126 ∨ d = 117 ∨ d = 85)]
          exact ⟨⟨nx, k2, len d, w1⟩, by rw [w2]⟩
        simp only [if_neg f2]
        by_cases f3 : d = 85
        · simp only [if_pos f3, if_pos (Or.inr (Or.inr f3) : d = 126 ∨ d = 117 ∨ d = 85)]
          exact ⟨⟨nx, k2, len d, w1⟩, by rw [w2]⟩
        simp only [if_neg f3, if_neg (by omega : ¬ (d = 126 ∨ d = 117 ∨ d = 85))]
        by_cases f4 : d = 45
        · simp only [if_pos f4, if_pos (Or.inl f4 : d = 45 ∨ d = 43)]
          exact ⟨⟨nx, k2, len d⟩, rfl⟩
        simp only [if_neg f4]
        by_cases f5 : d = 43
        · simp only [if_pos f5, if_pos (Or.inr f5 : d = 45 ∨ d = 43)]
          exact ⟨⟨nx, k2, len d⟩, rfl⟩
        simp only [if_neg f5, if_neg (by omega : ¬ (d = 45 ∨ d = 43))]
        refine ⟨⟨nx, k2, m1⟩, ?_⟩
        rw [m2, e9]
    simp only [if_neg e9]
    by_cases e10 : b ∈ plainsL
    · have e10' := e10
      simp only [plainsL] at e10'
      simp only [if_pos e10', if_pos e10]
      exact ⟨⟨nx, trivial⟩, rfl⟩
    · have e10' := e10
      simp only [plainsL] at e10'
      simp only [if_neg e10', if_neg e10]
      exact ⟨⟨nx, m1⟩, by rw [m2]⟩

theorem fin_eq {s : List Int} (h : s <:+ ks) (x : Cmd) (c : Cmd) (hx : x = zC) :
    keys_Parse_J0_P ks x (rdr ks s) c ∧ keys_Parse_J0_F ks x (rdr ks s) c = ((finM s c).2, (finM s c).1) := by
  obtain ⟨q1, q2⟩ := count_eq hl h
  have hb := cntL_bound s 0 (by omega) (by omega)
  have hs := suf_drop (cntL s 0).2 h
  obtain ⟨n1, n2⟩ := named_eq hl hs (setCnt c (cntL s 0).1) hb
  unfold keys_Parse_J0_P keys_Parse_J0_F finM
  rw [q2]
  simp only [Bool.cond_decide]
  refine ⟨⟨q1, n1⟩, ?_⟩
  have e : keys_reader_named_F (rdr ks (s.drop (cntL s 0).2)) (c.1, (cntL s 0).1, c.2.2.1, c.2.2.2.1, c.2.2.2.2.1, c.2.2.2.2.2) = res ks (namedM (s.drop (cntL s 0).2) (setCnt c (cntL s 0).1)) := n2
  rw [e]
  generalize namedM (s.drop (cntL s 0).2) (setCnt c (cntL s 0).1) = m
  show (if m.1 = 0 then (m.1, zC) else if m.1 = 2 then (m.1, zC) else if (ks.length : Int) - m.2.1.length < (ks.length : Int) then ((2:Int), zC) else (m.1, m.2.2)) = _
  by_cases e1 : m.1 = 0
  · rw [if_pos e1, if_pos (Or.inl e1)]
  rw [if_neg e1]
  by_cases e2 : m.1 = 2
  · rw [if_pos e2, if_pos (Or.inr e2)]
  rw [if_neg e2, if_neg (fun hh => by rcases hh with hh | hh; exact e1 hh; exact e2 hh : ¬ (m.1 = 0 ∨ m.1 = 2))]
  by_cases e3 : m.2.1 = []
  · rw [e3]; simp
  · have : 0 < m.2.1.length := List.length_pos_iff.2 e3
    rw [if_pos (by omega), if_pos e3]

theorem parse_eq (h255 : ∀ x ∈ ks, 0 ≤ x ∧ x ≤ 255) : keys_Parse_P ks ∧ keys_Parse_F ks = parseM ks := by
  unfold keys_Parse_P keys_Parse_F parseM
  have e0 : rdr ks ks = (ks, 0) := by unfold rdr; simp
  obtain ⟨a1, a2⟩ := fin_eq hl (List.suffix_refl ks) zC zC rfl
  rw [e0] at a1 a2
  cases hk : ks with
  | nil =>
    rw [hk] at a1 a2
    refine ⟨a1, ?_⟩
    show ((keys_Parse_J0_F [] zC ([], 0) zC).2, (keys_Parse_J0_F [] zC ([], 0) zC).1) = finM [] zC
    rw [a2]
  | cons b r =>
    have hlt : decide ((0 : Int) < ((b :: r).length : Int)) = true := by simp
    rw [hlt]
    simp only [cond_true, List.head?_cons, Option.some.injEq, List.tail_cons]
    have hrd : rd (0 : Int) (b :: r) 0 = b := rfl
    rw [hrd]
    simp only [Bool.cond_decide]
    rw [hk] at a1 a2
    by_cases e1 : b = 34
    · simp only [if_pos e1]
      have hsf : r <:+ ks := by rw [hk]; exact ⟨[b], rfl⟩
      have e2 : rdr ks r = (b :: r, 1) := by
        unfold rdr; rw [hk]; simp only [List.length_cons, Prod.mk.injEq, true_and]; omega
      cases r with
      | nil =>
        have hn := next_nil hl
        rw [e2] at hn
        rw [hn.2]
        exact ⟨⟨⟨by omega, by simp⟩, hn.1, trivial⟩, rfl⟩
      | cons n r' =>
        have hn := next_cons hl hsf
        rw [e2] at hn
        rw [hn.2]
        have hsf' := suf_tail hsf
        have P0 : (0 : Int) ≤ 0 ∧ (0 : Int) < ((b :: n :: r').length : Int) := ⟨by omega, by simp only [List.length_cons]; omega⟩
        simp only [Bool.not_true, cond_false]
        by_cases e3 : n = 0
        · simp only [if_pos e3, if_pos (Or.inl e3 : n = 0 ∨ bank_Valid_F n = false)]
          exact ⟨⟨P0, hn.1, trivial⟩, rfl⟩
        simp only [if_neg e3]
        cases hv : bank_Valid_F n with
        | false => 
          simp only [Bool.not_false, cond_true]
          refine ⟨⟨P0, hn.1, trivial⟩, ?_⟩
          rw [if_pos (Or.inr trivial)]; rfl
        | true =>
          simp only [Bool.not_true, cond_false]
          obtain ⟨b1, b2⟩ := fin_eq hl hsf' zC (n, 0, [], [], 0, []) rfl
          rw [hk] at b1 b2
          refine ⟨⟨P0, hn.1, by rw [hk]; exact b1⟩, ?_⟩
          rw [if_neg (fun hh => by rcases hh with hh | hh; exact e3 hh; cases hh)]
          show ((keys_Parse_J0_F (b :: n :: r') zC (rdr ks r') (n, 0, [], [], 0, [])).2, (keys_Parse_J0_F (b :: n :: r') zC (rdr ks r') (n, 0, [], [], 0, [])).1) = _
          rw [hk, b2]
    · simp only [if_neg e1]
      refine ⟨⟨⟨by omega, by simp only [List.length_cons]; omega⟩, a1⟩, ?_⟩
      show ((keys_Parse_J0_F (b :: r) zC (b :: r, 0) zC).2, (keys_Parse_J0_F (b :: r) zC (b :: r, 0) zC).1) = finM (b :: r) zC
      rw [a2]
end
end Go.VE
namespace Go.VE
open Go Go.Proofs

def Stab (f : List Int → Cmd → MR) : Prop := ∀ s c m, (f s c).1 ≠ 0 → f (s ++ m) c = ((f s c).1, (f s c).2.1 ++ m, (f s c).2.2)

theorem arg_stab : Stab argM := fun s c m h => by
  cases s with
  | nil => exact absurd rfl h
  | cons b r => simp only [argM, List.cons_append]; split <;> rfl

theorem g_stab : Stab gM := fun s c m h => by
  cases s with
  | nil => exact absurd rfl h
  | cons b r => simp only [gM, List.cons_append]; split <;> rfl

theorem obj_stab (b : Int) : Stab (objM b) := fun s c m h => by
  cases s with
  | nil => exact absurd rfl h
  | cons b r => simp only [objM, List.cons_append]; split <;> rfl

theorem mot_stab (b : Int) : Stab (fun s c => motM s c b) := fun s c m h => by
  dsimp only at h ⊢
  unfold motM at h ⊢
  split
  · rfl
  · split
    · rfl
    · split
      · rfl
      · split
        · rfl
        · split
          · rename_i h1 h2 h3 h4 h5
            rw [if_neg h1, if_neg h2, if_neg h3, if_neg h4, if_pos h5] at h
            exact arg_stab _ _ _ h
          · split
            · rename_i h1 h2 h3 h4 h5 h6
              rw [if_neg h1, if_neg h2, if_neg h3, if_neg h4, if_neg h5, if_pos h6] at h
              exact g_stab _ _ _ h
            · rfl

theorem mot_g0 (c : Cmd) : motM [] c 103 = (0, [], setKey c [103]) := rfl

theorem wrk_stab (l : Int) : Stab (wrkM l) := fun s c m h => by
  cases s with
  | nil => exact absurd rfl h
  | cons b r =>
    simp only [wrkM, List.cons_append] at h ⊢
    by_cases h1 : b = l
    · simp only [if_pos h1]
    simp only [if_neg h1] at h ⊢
    by_cases h2 : b = 105 ∨ b = 97
    · simp only [if_pos h2] at h ⊢
      exact obj_stab b _ _ _ h
    simp only [if_neg h2] at h ⊢
    by_cases h3 : b = 103
    · cases r with
      | nil =>
        subst h3
        rw [if_neg (by simp)] at h
        exact absurd rfl h
      | cons d r' =>
        have e1 : ((d :: r') ++ m).head? = (d :: r').head? := rfl
        have e2 : ((d :: r') ++ m).tail = (d :: r').tail ++ m := rfl
        rw [e1, e2]
        by_cases h4 : b = 103 ∧ rd 0 c.2.2.1 0 = 103 ∧ (d :: r').head? = some l
        · rw [if_pos h4, if_pos h4]
        · rw [if_neg h4] at h
          rw [if_neg h4, if_neg h4]
          exact mot_stab b _ _ _ h
    · rw [if_neg (fun hh => h3 hh.1)] at h ⊢
      rw [if_neg (fun hh => h3 hh.1)]
      exact mot_stab b _ _ _ h

theorem cntL_app : ∀ (s : List Int) (n : Int) (m : List Int), s.drop (cntL s n).2 ≠ [] → cntL (s ++ m) n = cntL s n
  | [], n, m, h => absurd (by simp) h
  | b :: r, n, m, h => by
    simp only [List.cons_append]
    unfold cntL at h ⊢
    split
    · rfl
    · rename_i hb
      rw [if_neg hb] at h
      have ih := cntL_app r (mn (n * 10 + (b - 48)) 9999) m (by simpa using h)
      rw [ih]

theorem cntL_tail {b : Int} (hb : b < 48 ∨ 57 < b) (t : List Int) : ∀ (s : List Int) (n : Int), cntL (s ++ b :: t) n = cntL s n
  | [], n => by
    show cntL (b :: t) n = (n, 0)
    unfold cntL
    rw [if_pos (by omega)]
  | a :: r, n => by
    simp only [List.cons_append]
    unfold cntL
    split
    · rfl
    · rw [cntL_tail hb t r]

theorem drop_app {s m : List Int} {n : Int} : (s ++ m).drop (cntL s n).2 = s.drop (cntL s n).2 ++ m := List.drop_append_of_le_length (cntL_le s n)

theorem work_stab (l : Int) : Stab (workM l) := fun s c m h => by
  unfold workM at h ⊢
  have hne : s.drop (cntL s 0).2 ≠ [] := fun e => by rw [e] at h; exact h rfl
  rw [cntL_app s 0 m hne, drop_app]
  exact wrk_stab l _ _ _ h

theorem g2_stab : Stab g2M := fun s c m h => by
  cases s with
  | nil => exact absurd rfl h
  | cons d r =>
    simp only [g2M, List.cons_append] at h ⊢
    by_cases h1 : d = 126 ∨ d = 117 ∨ d = 85
    · simp only [if_pos h1] at h ⊢; exact work_stab _ _ _ _ h
    simp only [if_neg h1] at h ⊢
    by_cases h2 : d = 45 ∨ d = 43
    · simp only [if_pos h2]
    simp only [if_neg h2] at h ⊢
    exact mot_stab 103 (d :: r) c m h

theorem named_stab : Stab namedM := fun s c m h => by
  cases s with
  | nil => exact absurd rfl h
  | cons b r =>
    simp only [namedM, List.cons_append] at h ⊢
    by_cases h1 : b = 100 ∨ b = 99 ∨ b = 121 ∨ b = 62 ∨ b = 60
    · simp only [if_pos h1] at h ⊢; exact work_stab _ _ _ _ h
    simp only [if_neg h1] at h ⊢
    by_cases h2 : b = 58
    · simp only [if_pos h2]
    simp only [if_neg h2] at h ⊢
    by_cases h3 : b = 114 ∨ b = 109
    · simp only [if_pos h3] at h ⊢; exact arg_stab _ _ _ h
    simp only [if_neg h3] at h ⊢
    by_cases h4 : b = 103
    · simp only [if_pos h4] at h ⊢; exact g2_stab _ _ _ h
    simp only [if_neg h4] at h ⊢
    by_cases h5 : b ∈ plainsL
    · simp only [if_pos h5]
    simp only [if_neg h5] at h ⊢
    exact mot_stab b _ _ _ h

theorem fin_stab {s : List Int} {c : Cmd} {m : List Int} (h : (finM s c).2 ≠ 0) (hm : m ≠ []) : (finM (s ++ m) c).2 = 2 := by
  unfold finM at h ⊢
  dsimp only at h ⊢
  have h0 : (namedM (s.drop (cntL s 0).2) (setCnt c (cntL s 0).1)).1 ≠ 0 := fun e => by
    rw [if_pos (Or.inl e)] at h; exact h e
  have hne : s.drop (cntL s 0).2 ≠ [] := fun e => by rw [e] at h0; exact h0 rfl
  rw [cntL_app s 0 m hne, drop_app, named_stab _ _ _ h0]
  dsimp only
  split
  · rename_i h1
    rcases h1 with h1 | h1
    · exact absurd h1 h0
    · exact h1
  · rw [if_pos (by simp [hm])]

theorem parse_stab {s m : List Int} (h : (parseM s).2 ≠ 0) (hm : m ≠ []) : (parseM (s ++ m)).2 = 2 := by
  cases s with
  | nil => exact absurd (by decide) h
  | cons b r =>
    unfold parseM at h ⊢
    simp only [List.cons_append, List.head?_cons, List.tail_cons, Option.some.injEq] at h ⊢
    by_cases hb : b = 34
    · simp only [if_pos hb] at h ⊢
      cases r with
      | nil => exact absurd rfl h
      | cons n r' =>
        simp only [List.cons_append] at h ⊢
        split
        · rfl
        · rename_i hn
          rw [if_neg hn] at h
          exact fin_stab h hm
    · simp only [if_neg hb] at h ⊢
      exact fin_stab (s := b :: r) h hm

/-! ### what may become one -/
def tailsL : List (List Int) := [[120], [119], [103], [97, 120], [108], [45], [126], [117], [85], [69]]
def Small (t : List Int) : Prop := t = [120] ∨ t = [119] ∨ t = [103]
def Grow (f : List Int → Cmd → MR) : Prop := ∀ s c, (f s c).1 = 0 → ∃ t, Small t ∧ (f (s ++ t) c).1 = 1 ∧ (f (s ++ t) c).2.1 = []

theorem arg_grow : Grow argM := fun s c h => by
  cases s with
  | nil => exact ⟨[120], .inl rfl, rfl, rfl⟩
  | cons b r =>
    simp only [argM] at h
    split at h <;> cases h

theorem g_grow {s : List Int} {c : Cmd} (h : (gM s c).1 = 0) : s = [] := by
  cases s with
  | nil => rfl
  | cons b r =>
    simp only [gM] at h
    split at h <;> cases h

theorem arg_grow0 {s : List Int} {c : Cmd} (h : (argM s c).1 = 0) : s = [] := by
  cases s with
  | nil => rfl
  | cons b r =>
    simp only [argM] at h
    split at h <;> cases h

theorem mot_zero {s : List Int} {c : Cmd} {b : Int} (h : (motM s c b).1 = 0) : s = [] ∧ (b ∈ markedL ∧ b ≠ 103 ∧ motM [120] c b = argM [120] (setKey c [b]) ∨ b = 103) := by
  unfold motM at h
  split at h
  · cases h
  · split at h
    · cases h
    · split at h
      · cases h
      · split at h
        · cases h
        · split at h
          · rename_i h1 h2 h3 h4 h5
            refine ⟨arg_grow0 h, .inl ⟨h5, fun e => by subst e; revert h5; decide, ?_⟩⟩
            unfold motM
            rw [if_neg h1, if_neg h2, if_neg h3, if_neg h4, if_pos h5]
          · split at h
            · rename_i h1 h2 h3 h4 h5 h6
              exact ⟨g_grow h, .inr h6⟩
            · cases h

theorem mot_grow {s : List Int} {c : Cmd} {b : Int} (h : (motM s c b).1 = 0) : ∃ t, Small t ∧ (motM (s ++ t) c b).1 = 1 ∧ (motM (s ++ t) c b).2.1 = [] := by
  obtain ⟨rfl, ⟨_, _, e⟩ | rfl⟩ := mot_zero h
  · refine ⟨[120], .inl rfl, ?_⟩
    show (motM [120] c b).1 = 1 ∧ (motM [120] c b).2.1 = []
    rw [e]; exact ⟨rfl, rfl⟩
  · exact ⟨[103], .inr (.inr rfl), rfl, rfl⟩

theorem wrk_w (l : Int) (c : Cmd) : (wrkM l [119] c).1 = 1 ∧ (wrkM l [119] c).2.1 = [] := by
  simp only [wrkM]
  split
  · exact ⟨rfl, rfl⟩
  · exact ⟨rfl, rfl⟩

theorem wrk_grow (l : Int) : Grow (wrkM l) := fun s c h => by
  cases s with
  | nil => exact ⟨[119], .inr (.inl rfl), wrk_w l c⟩
  | cons b r =>
    simp only [wrkM, List.cons_append] at h ⊢
    by_cases h1 : b = l
    · simp only [if_pos h1] at h; cases h
    simp only [if_neg h1] at h ⊢
    by_cases h2 : b = 105 ∨ b = 97
    · simp only [if_pos h2] at h ⊢
      cases r with
      | nil => exact ⟨[119], .inr (.inl rfl), rfl, rfl⟩
      | cons d r' =>
        simp only [objM] at h
        split at h <;> cases h
    simp only [if_neg h2] at h ⊢
    by_cases h3 : b = 103 ∧ rd 0 c.2.2.1 0 = 103 ∧ r.head? = some l
    · simp only [if_pos h3] at h; cases h
    simp only [if_neg h3] at h
    obtain ⟨rfl, ⟨hm, hne, e⟩ | rfl⟩ := mot_zero h
    · refine ⟨[120], .inl rfl, ?_⟩
      rw [if_neg (fun hh => hne hh.1)]
      show (motM [120] c b).1 = 1 ∧ (motM [120] c b).2.1 = []
      rw [e]; exact ⟨rfl, rfl⟩
    · refine ⟨[103], .inr (.inr rfl), ?_⟩
      split
      · exact ⟨rfl, rfl⟩
      · exact ⟨rfl, rfl⟩

theorem small_cnt {t : List Int} (h : Small t) (s : List Int) (n : Int) : cntL (s ++ t) n = cntL s n := by
  rcases h with rfl | rfl | rfl <;> exact cntL_tail (by omega) [] s n

theorem work_grow (l : Int) : Grow (workM l) := fun s c h => by
  unfold workM at h
  obtain ⟨t, ht, h1, h2⟩ := wrk_grow l _ _ h
  refine ⟨t, ht, ?_⟩
  unfold workM
  rw [small_cnt ht, drop_app]
  exact ⟨h1, h2⟩

theorem g2_grow : Grow g2M := fun s c h => by
  cases s with
  | nil => exact ⟨[103], .inr (.inr rfl), rfl, rfl⟩
  | cons d r =>
    simp only [g2M, List.cons_append] at h ⊢
    by_cases h1 : d = 126 ∨ d = 117 ∨ d = 85
    · simp only [if_pos h1] at h ⊢; exact work_grow _ _ _ h
    simp only [if_neg h1] at h ⊢
    by_cases h2 : d = 45 ∨ d = 43
    · simp only [if_pos h2] at h; cases h
    simp only [if_neg h2] at h
    cases (mot_zero h).1

theorem named_grow : Grow namedM := fun s c h => by
  cases s with
  | nil => exact ⟨[120], .inl rfl, rfl, rfl⟩
  | cons b r =>
    simp only [namedM, List.cons_append] at h ⊢
    by_cases h1 : b = 100 ∨ b = 99 ∨ b = 121 ∨ b = 62 ∨ b = 60
    · simp only [if_pos h1] at h ⊢; exact work_grow _ _ _ h
    simp only [if_neg h1] at h ⊢
    by_cases h2 : b = 58
    · simp only [if_pos h2] at h; cases h
    simp only [if_neg h2] at h ⊢
    by_cases h3 : b = 114 ∨ b = 109
    · simp only [if_pos h3] at h ⊢; exact arg_grow _ _ h
    simp only [if_neg h3] at h ⊢
    by_cases h4 : b = 103
    · simp only [if_pos h4] at h ⊢; exact g2_grow _ _ h
    simp only [if_neg h4] at h ⊢
    by_cases h5 : b ∈ plainsL
    · simp only [if_pos h5] at h; cases h
    simp only [if_neg h5] at h ⊢
    exact mot_grow h

theorem fin_grow {s : List Int} {c : Cmd} (h : (finM s c).2 = 0) : ∃ t, Small t ∧ (finM (s ++ t) c).2 = 1 := by
  unfold finM at h
  dsimp only at h
  have h0 : (namedM (s.drop (cntL s 0).2) (setCnt c (cntL s 0).1)).1 = 0 := by
    split at h
    · exact h
    · split at h
      · cases h
      · exact h
  obtain ⟨t, ht, h1, h2⟩ := named_grow _ _ h0
  refine ⟨t, ht, ?_⟩
  unfold finM
  dsimp only
  rw [small_cnt ht, drop_app, h1, h2]
  rfl

theorem parse_grow {s : List Int} (h : (parseM s).2 = 0) : ∃ t, t ∈ tailsL ∧ (parseM (s ++ t)).2 = 1 := by
  have small : ∀ {t : List Int}, Small t → t ∈ tailsL := fun ht => by rcases ht with rfl | rfl | rfl <;> decide
  cases s with
  | nil => exact ⟨[120], by decide, by decide +kernel⟩
  | cons b r =>
    unfold parseM at h ⊢
    simp only [List.cons_append, List.head?_cons, List.tail_cons, Option.some.injEq] at h ⊢
    by_cases hb : b = 34
    · simp only [if_pos hb] at h ⊢
      cases r with
      | nil => exact ⟨[97, 120], by decide, by decide +kernel⟩
      | cons n r' =>
        simp only [List.cons_append] at h ⊢
        split at h
        · cases h
        · rename_i hn
          obtain ⟨t, ht, h1⟩ := fin_grow h
          exact ⟨t, small ht, by rw [if_neg hn]; exact h1⟩
    · simp only [if_neg hb] at h ⊢
      obtain ⟨t, ht, h1⟩ := fin_grow (s := b :: r) h
      exact ⟨t, small ht, h1⟩
end Go.VE
namespace Go.VE
open Go Go.Proofs
/-! ### internal/stringslite.Index -/
def internal_stringslite_Index_G : List (Nat × App) := [(51, internal_stringslite_IndexByte_S)]
theorem internal_stringslite_Index_Gok : GOk Tryd.prog (getG internal_stringslite_Index_G) := GOk.cons internal_stringslite_IndexByte_ok (GOk.nil)
def internal_stringslite_Index_raw (s0 : List Int) (substr1 : List Int) (K : Res → List Cell → Prop) : Prop :=
  bif (decide ((List.length substr1 : Int) = (0 : Int))) then
    K (.one (.v (.int .i64) (0 : Int))) []
  else
  bif (decide (substr1 = s0)) then
    K (.one (.v (.int .i64) (0 : Int))) []
  else
  bif (decide ((List.length substr1 : Int) = (1 : Int))) then
    bif decide (0 ≤ (0 : Int) ∧ (0 : Int) < (List.length substr1 : Int)) then
    ∀ (r1 : Int), r1 = internal_stringslite_IndexByte_F s0 (rd (0 : Int) substr1 (0 : Int)) → (
    wfR (.one (.v (.int .i64) r1)) → (
    K (.one (.v (.int .i64) r1)) []))
    else False
  else
  bif (decide ((List.length s0 : Int) ≤ (List.length substr1 : Int))) then
    K (.one (.v (.int .i64) (-1 : Int))) []
  else
    False
def internal_stringslite_Index_A : List AS := [.v (.str), .v (.str)]
theorem internal_stringslite_Index_walk (s0 : List Int) (substr1 : List Int) (K : Res → List Cell → Prop) : runF tb (getG internal_stringslite_Index_G) [] Tryd.f61 [true] (mkA internal_stringslite_Index_A (s0, substr1, ())) K = internal_stringslite_Index_raw s0 substr1 K := by kernel_rfl
--! soft 1

def internal_stringslite_Index_P (s0 : List Int) (substr1 : List Int) : Prop :=
  bif (decide ((List.length substr1 : Int) = (0 : Int))) then
    True
  else
    bif (decide (substr1 = s0)) then
      True
    else
      bif (decide ((List.length substr1 : Int) = (1 : Int))) then
        (0 ≤ (0 : Int) ∧ (0 : Int) < (List.length substr1 : Int))
      else
        bif (decide ((List.length s0 : Int) ≤ (List.length substr1 : Int))) then
          True
        else
          False
def internal_stringslite_Index_F (s0 : List Int) (substr1 : List Int) : Int :=
  bif (decide ((List.length substr1 : Int) = (0 : Int))) then
    (0 : Int)
  else
    bif (decide (substr1 = s0)) then
      (0 : Int)
    else
      bif (decide ((List.length substr1 : Int) = (1 : Int))) then
        let r1 : Int := internal_stringslite_IndexByte_F s0 (rd (0 : Int) substr1 (0 : Int))
        r1
      else
        bif (decide ((List.length s0 : Int) ≤ (List.length substr1 : Int))) then
          (-1 : Int)
        else
          default
set_option maxRecDepth 20000 in
theorem internal_stringslite_Index_sp (s0 : List Int) (substr1 : List Int) (K : Res → List Cell → Prop) (_ : wfA internal_stringslite_Index_A (s0, substr1, ())) (hp : internal_stringslite_Index_P s0 substr1) (h : ∀ r : Int, r = internal_stringslite_Index_F s0 substr1 → K (.one (.v (.int .i64) r)) []) : internal_stringslite_Index_raw s0 substr1 K := by
  unfold internal_stringslite_Index_raw
  unfold internal_stringslite_Index_P at hp
  refine brb (fun c_1 => ?_) (fun c_1 => ?_)
  ·
    clear hp
    exact h _ ((ctrue c_1) : internal_stringslite_Index_F s0 substr1 = _).symm
  ·
    replace hp := cF c_1 hp
    refine brb (fun c_2 => ?_) (fun c_2 => ?_)
    ·
      clear hp
      exact h _ ((Eq.trans (cfalse c_1) (ctrue c_2)) : internal_stringslite_Index_F s0 substr1 = _).symm
    ·
      replace hp := cF c_2 hp
      refine brb (fun c_3 => ?_) (fun c_3 => ?_)
      ·
        replace hp := cT c_3 hp
        refine asrt hp ?_
        intro r1 hr1
        subst hr1
        intro _
        exact h _ ((Eq.trans (cfalse c_1) (Eq.trans (cfalse c_2) (ctrue c_3))) : internal_stringslite_Index_F s0 substr1 = _).symm
      ·
        replace hp := cF c_3 hp
        refine brb (fun c_4 => ?_) (fun c_4 => ?_)
        ·
          clear hp
          exact h _ ((Eq.trans (cfalse c_1) (Eq.trans (cfalse c_2) (Eq.trans (cfalse c_3) (ctrue c_4)))) : internal_stringslite_Index_F s0 substr1 = _).symm
        ·
          replace hp := cF c_4 hp
          exact hp.elim
def internal_stringslite_Index_C (v : valsA internal_stringslite_Index_A) (K : Res → List Cell → Prop) : Prop := internal_stringslite_Index_P v.1 v.2.1 ∧ ∀ r : Int, r = internal_stringslite_Index_F v.1 v.2.1 → K (.one (.v (.int .i64) r)) []
def internal_stringslite_Index_S : App := specW internal_stringslite_Index_A internal_stringslite_Index_C
theorem internal_stringslite_Index_wv (K : Res → List Cell → Prop) : ∀ v : valsA internal_stringslite_Index_A, runF tb (getG internal_stringslite_Index_G) [] Tryd.f61 [true] (mkA internal_stringslite_Index_A v) K = internal_stringslite_Index_raw v.1 v.2.1 K
  | (s0, substr1, ()) => internal_stringslite_Index_walk s0 substr1 K
set_option maxRecDepth 20000 in
theorem internal_stringslite_Index_ok : AppOk Tryd.prog 61 internal_stringslite_Index_S :=
  AppOk.specW (spec_ok (runF_ok tb_M tb_ok internal_stringslite_Index_Gok (LabsOk.nil) (f := 61) (fn := Tryd.f61) (by kernel_rfl) (by kernel_rfl) (by kernel_rfl) [true]) fun v K hw h => (internal_stringslite_Index_wv K v).mpr (internal_stringslite_Index_sp v.1 v.2.1 K hw h.1 h.2))

end Go.VE
namespace Go.VE
open Go Go.Proofs
/-! ### strings.Index -/
def strings_Index_G : List (Nat × App) := [(61, internal_stringslite_Index_S)]
theorem strings_Index_Gok : GOk Tryd.prog (getG strings_Index_G) := GOk.cons internal_stringslite_Index_ok (GOk.nil)
def strings_Index_raw (s0 : List Int) (substr1 : List Int) (K : Res → List Cell → Prop) : Prop :=
  internal_stringslite_Index_P s0 substr1 ∧ (
  ∀ (r1 : Int), r1 = internal_stringslite_Index_F s0 substr1 → (
  wfR (.one (.v (.int .i64) r1)) → (
  K (.one (.v (.int .i64) r1)) [])))
def strings_Index_A : List AS := [.v (.str), .v (.str)]
theorem strings_Index_walk (s0 : List Int) (substr1 : List Int) (K : Res → List Cell → Prop) : runF tb (getG strings_Index_G) [] Tryd.f56 [true] (mkA strings_Index_A (s0, substr1, ())) K = strings_Index_raw s0 substr1 K := by kernel_rfl

def strings_Index_P (s0 : List Int) (substr1 : List Int) : Prop :=
  internal_stringslite_Index_P s0 substr1
def strings_Index_F (s0 : List Int) (substr1 : List Int) : Int :=
  let r1 : Int := internal_stringslite_Index_F s0 substr1
  r1
set_option maxRecDepth 20000 in
theorem strings_Index_sp (s0 : List Int) (substr1 : List Int) (K : Res → List Cell → Prop) (_ : wfA strings_Index_A (s0, substr1, ())) (hp : strings_Index_P s0 substr1) (h : ∀ r : Int, r = strings_Index_F s0 substr1 → K (.one (.v (.int .i64) r)) []) : strings_Index_raw s0 substr1 K := by
  unfold strings_Index_raw
  unfold strings_Index_P at hp
  refine ⟨hp, ?_⟩
  intro r1 hr1
  subst hr1
  intro _
  exact h _ rfl
def strings_Index_C (v : valsA strings_Index_A) (K : Res → List Cell → Prop) : Prop := strings_Index_P v.1 v.2.1 ∧ ∀ r : Int, r = strings_Index_F v.1 v.2.1 → K (.one (.v (.int .i64) r)) []
def strings_Index_S : App := specW strings_Index_A strings_Index_C
theorem strings_Index_wv (K : Res → List Cell → Prop) : ∀ v : valsA strings_Index_A, runF tb (getG strings_Index_G) [] Tryd.f56 [true] (mkA strings_Index_A v) K = strings_Index_raw v.1 v.2.1 K
  | (s0, substr1, ()) => strings_Index_walk s0 substr1 K
set_option maxRecDepth 20000 in
theorem strings_Index_ok : AppOk Tryd.prog 56 strings_Index_S :=
  AppOk.specW (spec_ok (runF_ok tb_M tb_ok strings_Index_Gok (LabsOk.nil) (f := 56) (fn := Tryd.f56) (by kernel_rfl) (by kernel_rfl) (by kernel_rfl) [true]) fun v K hw h => (strings_Index_wv K v).mpr (strings_Index_sp v.1 v.2.1 K hw h.1 h.2))

end Go.VE
namespace Go.VE
open Go Go.Proofs
/-! ### strings.Contains -/
def strings_Contains_G : List (Nat × App) := [(56, strings_Index_S)]
theorem strings_Contains_Gok : GOk Tryd.prog (getG strings_Contains_G) := GOk.cons strings_Index_ok (GOk.nil)
def strings_Contains_raw (s0 : List Int) (substr1 : List Int) (K : Res → List Cell → Prop) : Prop :=
  strings_Index_P s0 substr1 ∧ (
  ∀ (r1 : Int), r1 = strings_Index_F s0 substr1 → (
  wfR (.one (.v (.int .i64) r1)) → (
  K (.one (.v (.bool) (decide ((0 : Int) ≤ r1)))) [])))
def strings_Contains_A : List AS := [.v (.str), .v (.str)]
theorem strings_Contains_walk (s0 : List Int) (substr1 : List Int) (K : Res → List Cell → Prop) : runF tb (getG strings_Contains_G) [] Tryd.f53 [true] (mkA strings_Contains_A (s0, substr1, ())) K = strings_Contains_raw s0 substr1 K := by kernel_rfl

def strings_Contains_P (s0 : List Int) (substr1 : List Int) : Prop :=
  strings_Index_P s0 substr1
def strings_Contains_F (s0 : List Int) (substr1 : List Int) : Bool :=
  let r1 : Int := strings_Index_F s0 substr1
  (decide ((0 : Int) ≤ r1))
set_option maxRecDepth 20000 in
theorem strings_Contains_sp (s0 : List Int) (substr1 : List Int) (K : Res → List Cell → Prop) (_ : wfA strings_Contains_A (s0, substr1, ())) (hp : strings_Contains_P s0 substr1) (h : ∀ r : Bool, r = strings_Contains_F s0 substr1 → K (.one (.v (.bool) r)) []) : strings_Contains_raw s0 substr1 K := by
  unfold strings_Contains_raw
  unfold strings_Contains_P at hp
  refine ⟨hp, ?_⟩
  intro r1 hr1
  subst hr1
  intro _
  exact h _ rfl
def strings_Contains_C (v : valsA strings_Contains_A) (K : Res → List Cell → Prop) : Prop := strings_Contains_P v.1 v.2.1 ∧ ∀ r : Bool, r = strings_Contains_F v.1 v.2.1 → K (.one (.v (.bool) r)) []
def strings_Contains_S : App := specW strings_Contains_A strings_Contains_C
theorem strings_Contains_wv (K : Res → List Cell → Prop) : ∀ v : valsA strings_Contains_A, runF tb (getG strings_Contains_G) [] Tryd.f53 [true] (mkA strings_Contains_A v) K = strings_Contains_raw v.1 v.2.1 K
  | (s0, substr1, ()) => strings_Contains_walk s0 substr1 K
set_option maxRecDepth 20000 in
theorem strings_Contains_ok : AppOk Tryd.prog 53 strings_Contains_S :=
  AppOk.specW (spec_ok (runF_ok tb_M tb_ok strings_Contains_Gok (LabsOk.nil) (f := 53) (fn := Tryd.f53) (by kernel_rfl) (by kernel_rfl) (by kernel_rfl) [true]) fun v K hw h => (strings_Contains_wv K v).mpr (strings_Contains_sp v.1 v.2.1 K hw h.1 h.2))

end Go.VE
namespace Go.VE
open Go Go.Proofs
/-! ### quoin/keys.one -/
def keys_one_G : List (Nat × App) := [(53, strings_Contains_S)]
theorem keys_one_Gok : GOk Tryd.prog (getG keys_one_G) := GOk.cons strings_Contains_ok (GOk.nil)
def keys_one_raw (key0 : List Int) (list1 : List Int) (K : Res → List Cell → Prop) : Prop :=
  bif (decide ((List.length key0 : Int) = (1 : Int))) then
    strings_Contains_P list1 key0 ∧ (
    ∀ (r1 : Bool), r1 = strings_Contains_F list1 key0 → (
    wfR (.one (.v (.bool) r1)) → (
    K (.one (.v (.bool) r1)) [])))
  else
    K (.one (.v (.bool) false)) []
def keys_one_A : List AS := [.v (.str), .v (.str)]
theorem keys_one_walk (key0 : List Int) (list1 : List Int) (K : Res → List Cell → Prop) : runF tb (getG keys_one_G) [] Tryd.f49 [true] (mkA keys_one_A (key0, list1, ())) K = keys_one_raw key0 list1 K := by kernel_rfl

def keys_one_P (key0 : List Int) (list1 : List Int) : Prop :=
  bif (decide ((List.length key0 : Int) = (1 : Int))) then
    strings_Contains_P list1 key0
  else
    True
def keys_one_F (key0 : List Int) (list1 : List Int) : Bool :=
  bif (decide ((List.length key0 : Int) = (1 : Int))) then
    let r1 : Bool := strings_Contains_F list1 key0
    r1
  else
    false
set_option maxRecDepth 20000 in
theorem keys_one_sp (key0 : List Int) (list1 : List Int) (K : Res → List Cell → Prop) (_ : wfA keys_one_A (key0, list1, ())) (hp : keys_one_P key0 list1) (h : ∀ r : Bool, r = keys_one_F key0 list1 → K (.one (.v (.bool) r)) []) : keys_one_raw key0 list1 K := by
  unfold keys_one_raw
  unfold keys_one_P at hp
  refine brb (fun c_1 => ?_) (fun c_1 => ?_)
  ·
    replace hp := cT c_1 hp
    refine ⟨hp, ?_⟩
    intro r1 hr1
    subst hr1
    intro _
    exact h _ ((ctrue c_1) : keys_one_F key0 list1 = _).symm
  ·
    clear hp
    exact h _ ((cfalse c_1) : keys_one_F key0 list1 = _).symm
def keys_one_C (v : valsA keys_one_A) (K : Res → List Cell → Prop) : Prop := keys_one_P v.1 v.2.1 ∧ ∀ r : Bool, r = keys_one_F v.1 v.2.1 → K (.one (.v (.bool) r)) []
def keys_one_S : App := specW keys_one_A keys_one_C
theorem keys_one_wv (K : Res → List Cell → Prop) : ∀ v : valsA keys_one_A, runF tb (getG keys_one_G) [] Tryd.f49 [true] (mkA keys_one_A v) K = keys_one_raw v.1 v.2.1 K
  | (key0, list1, ()) => keys_one_walk key0 list1 K
set_option maxRecDepth 20000 in
theorem keys_one_ok : AppOk Tryd.prog 49 keys_one_S :=
  AppOk.specW (spec_ok (runF_ok tb_M tb_ok keys_one_Gok (LabsOk.nil) (f := 49) (fn := Tryd.f49) (by kernel_rfl) (by kernel_rfl) (by kernel_rfl) [true]) fun v K hw h => (keys_one_wv K v).mpr (keys_one_sp v.1 v.2.1 K hw h.1 h.2))

end Go.VE
namespace Go.VE
open Go Go.Proofs
/-! ### quoin/keys.motion -/
def keys_motion_G : List (Nat × App) := [(49, keys_one_S)]
theorem keys_motion_Gok : GOk Tryd.prog (getG keys_motion_G) := GOk.cons keys_one_ok (GOk.nil)
theorem keys_motion_st : storesC (bodyOf Tryd.f52) = true := by kernel_rfl
def keys_motion_d0 : List LS := [.v 0 (.str), .v 4 (.bool)]
def keys_motion_d0r : List LS := [.v 2 (.bool)]
def keys_motion_d0n : List LS := [.v 0 (.str)]
def keys_motion_dx0 : DX := ⟨some keys_motion_d0n, some keys_motion_d0r, []⟩
def keys_motion_J0 (kr : Bool → Prop) (kn : List Int → Prop) (key0 : List Int) (x4 : Bool) : Prop :=
  bif x4 then
    kr true
  else
    kn key0
theorem keys_motion_s0 (k : Ex → St → Prop) (key0 : List Int) (x4 : Bool) :
    ex tb (getG keys_motion_G) [] (at' (bodyOf Tryd.f52) [1, 0, 1, 0, 1]) [1, 0, 1, 0, 1] (mkD 18 keys_motion_d0 (key0, x4, ())) (wk 18 keys_motion_dx0 k) =
    keys_motion_J0 (fun x2 => wfD keys_motion_d0r (x2, ()) → k .ret (mkD 18 keys_motion_d0r (x2, ()))) (fun key0 => wfD keys_motion_d0n (key0, ()) → k .nrm (mkD 18 keys_motion_d0n (key0, ()))) key0 x4 := by kernel_rfl
theorem keys_motion_v0 (k : Ex → St → Prop) : ∀ v : vals keys_motion_d0, ex tb (getG keys_motion_G) [] (at' (bodyOf Tryd.f52) [1, 0, 1, 0, 1]) [1, 0, 1, 0, 1] (mkD 18 keys_motion_d0 v) (wk 18 keys_motion_dx0 k) = keys_motion_J0 (fun x2 => wfD keys_motion_d0r (x2, ()) → k .ret (mkD 18 keys_motion_d0r (x2, ()))) (fun key0 => wfD keys_motion_d0n (key0, ()) → k .nrm (mkD 18 keys_motion_d0n (key0, ()))) v.1 v.2.1
  | (key0, x4, ()) => keys_motion_s0 k key0 x4
def keys_motion_X0 : Pce := fun st k => ckD 18 keys_motion_d0 st fun v => wfD keys_motion_d0 v → keys_motion_J0 (fun x2 => wfD keys_motion_d0r (x2, ()) → k .ret (mkD 18 keys_motion_d0r (x2, ()))) (fun key0 => wfD keys_motion_d0n (key0, ()) → k .nrm (mkD 18 keys_motion_d0n (key0, ()))) v.1 v.2.1
set_option maxRecDepth 20000 in
theorem keys_motion_x0 : SemOk Tryd.prog (at' (bodyOf Tryd.f52) [1, 0, 1, 0, 1]) keys_motion_X0 :=
  (SemOk.wk (N := 18) (ds := keys_motion_d0) (dx := keys_motion_dx0) (ex_sound tb_M tb_ok keys_motion_Gok (LabsOk.nil) (at' (bodyOf Tryd.f52) [1, 0, 1, 0, 1]) [1, 0, 1, 0, 1] rfl (storesC_at keys_motion_st [1, 0, 1, 0, 1]))).mono fun st k h => ckD_mono h fun v hv hw => Eq.mpr (keys_motion_v0 k v) (hv hw)
def keys_motion_B0 : Labs := ([1, 0, 1, 0, 1], keys_motion_X0) :: []
theorem keys_motion_b0 : LabsOk Tryd.prog (bodyOf Tryd.f52) keys_motion_B0 := LabsOk.cons keys_motion_x0 (LabsOk.nil)
def keys_motion_d1 : List LS := [.v 0 (.str)]
def keys_motion_d1r : List LS := [.v 2 (.bool)]
def keys_motion_dx1 : DX := ⟨none, some keys_motion_d1r, []⟩
def keys_motion_J1 (kr : Bool → Prop) (key0 : List Int) : Prop :=
  keys_one_P key0 ([104, 108, 106, 107, 43, 45, 95, 48, 94, 36, 124, 71, 119, 98, 101, 87, 66, 69, 59, 44, 123, 125, 40, 41, 37, 110, 78, 42, 32] : List Int) ∧ (
  ∀ (r1 : Bool), r1 = keys_one_F key0 ([104, 108, 106, 107, 43, 45, 95, 48, 94, 36, 124, 71, 119, 98, 101, 87, 66, 69, 59, 44, 123, 125, 40, 41, 37, 110, 78, 42, 32] : List Int) → (
  wfR (.one (.v (.bool) r1)) → (
  bif r1 then
    kr true
  else
    keys_one_P key0 ([102, 70, 116, 84, 96, 39] : List Int) ∧ (
    ∀ (r2 : Bool), r2 = keys_one_F key0 ([102, 70, 116, 84, 96, 39] : List Int) → (
    wfR (.one (.v (.bool) r2)) → (
    kr r2))))))
theorem keys_motion_s1 (k : Ex → St → Prop) (key0 : List Int) :
    ex tb (getG keys_motion_G) keys_motion_B0 (at' (bodyOf Tryd.f52) [1, 1]) [1, 1] (mkD 18 keys_motion_d1 (key0, ())) (wk 18 keys_motion_dx1 k) =
    keys_motion_J1 (fun x2 => wfD keys_motion_d1r (x2, ()) → k .ret (mkD 18 keys_motion_d1r (x2, ()))) key0 := by kernel_rfl
theorem keys_motion_v1 (k : Ex → St → Prop) : ∀ v : vals keys_motion_d1, ex tb (getG keys_motion_G) keys_motion_B0 (at' (bodyOf Tryd.f52) [1, 1]) [1, 1] (mkD 18 keys_motion_d1 v) (wk 18 keys_motion_dx1 k) = keys_motion_J1 (fun x2 => wfD keys_motion_d1r (x2, ()) → k .ret (mkD 18 keys_motion_d1r (x2, ()))) v.1
  | (key0, ()) => keys_motion_s1 k key0
def keys_motion_X1 : Pce := fun st k => ckD 18 keys_motion_d1 st fun v => wfD keys_motion_d1 v → keys_motion_J1 (fun x2 => wfD keys_motion_d1r (x2, ()) → k .ret (mkD 18 keys_motion_d1r (x2, ()))) v.1
set_option maxRecDepth 20000 in
theorem keys_motion_x1 : SemOk Tryd.prog (at' (bodyOf Tryd.f52) [1, 1]) keys_motion_X1 :=
  (SemOk.wk (N := 18) (ds := keys_motion_d1) (dx := keys_motion_dx1) (ex_sound tb_M tb_ok keys_motion_Gok (keys_motion_b0) (at' (bodyOf Tryd.f52) [1, 1]) [1, 1] rfl (storesC_at keys_motion_st [1, 1]))).mono fun st k h => ckD_mono h fun v hv hw => Eq.mpr (keys_motion_v1 k v) (hv hw)
def keys_motion_B1 : Labs := ([1, 1], keys_motion_X1) :: keys_motion_B0
theorem keys_motion_b1 : LabsOk Tryd.prog (bodyOf Tryd.f52) keys_motion_B1 := LabsOk.cons keys_motion_x1 (keys_motion_b0)
def keys_motion_raw (key0 : List Int) (K : Res → List Cell → Prop) : Prop :=
  bif (decide (key0 = ([8] : List Int))) then
    (wfD keys_motion_d0 (key0, (decide (key0 = ([8] : List Int))), ()) → keys_motion_J0 (fun (x2 : Bool) => wfD keys_motion_d0r (x2, ()) → (
        K (.one (.v (.bool) x2)) [])) (fun (key0 : List Int) => wfD keys_motion_d0n (key0, ()) → (
        (wfD keys_motion_d1 (key0, ()) → keys_motion_J1 (fun (x2 : Bool) => wfD keys_motion_d1r (x2, ()) → (
            K (.one (.v (.bool) x2)) [])) key0))) key0 (decide (key0 = ([8] : List Int))))
  else
  bif (decide (key0 = ([13] : List Int))) then
    (wfD keys_motion_d0 (key0, (decide (key0 = ([13] : List Int))), ()) → keys_motion_J0 (fun (x2 : Bool) => wfD keys_motion_d0r (x2, ()) → (
        K (.one (.v (.bool) x2)) [])) (fun (key0 : List Int) => wfD keys_motion_d0n (key0, ()) → (
        (wfD keys_motion_d1 (key0, ()) → keys_motion_J1 (fun (x2 : Bool) => wfD keys_motion_d1r (x2, ()) → (
            K (.one (.v (.bool) x2)) [])) key0))) key0 (decide (key0 = ([13] : List Int))))
  else
  bif (decide (key0 = ([47] : List Int))) then
    (wfD keys_motion_d0 (key0, (decide (key0 = ([47] : List Int))), ()) → keys_motion_J0 (fun (x2 : Bool) => wfD keys_motion_d0r (x2, ()) → (
        K (.one (.v (.bool) x2)) [])) (fun (key0 : List Int) => wfD keys_motion_d0n (key0, ()) → (
        (wfD keys_motion_d1 (key0, ()) → keys_motion_J1 (fun (x2 : Bool) => wfD keys_motion_d1r (x2, ()) → (
            K (.one (.v (.bool) x2)) [])) key0))) key0 (decide (key0 = ([47] : List Int))))
  else
  bif (decide (key0 = ([63] : List Int))) then
    (wfD keys_motion_d0 (key0, (decide (key0 = ([63] : List Int))), ()) → keys_motion_J0 (fun (x2 : Bool) => wfD keys_motion_d0r (x2, ()) → (
        K (.one (.v (.bool) x2)) [])) (fun (key0 : List Int) => wfD keys_motion_d0n (key0, ()) → (
        (wfD keys_motion_d1 (key0, ()) → keys_motion_J1 (fun (x2 : Bool) => wfD keys_motion_d1r (x2, ()) → (
            K (.one (.v (.bool) x2)) [])) key0))) key0 (decide (key0 = ([63] : List Int))))
  else
  bif (decide (key0 = ([103, 103] : List Int))) then
    (wfD keys_motion_d0 (key0, (decide (key0 = ([103, 103] : List Int))), ()) → keys_motion_J0 (fun (x2 : Bool) => wfD keys_motion_d0r (x2, ()) → (
        K (.one (.v (.bool) x2)) [])) (fun (key0 : List Int) => wfD keys_motion_d0n (key0, ()) → (
        (wfD keys_motion_d1 (key0, ()) → keys_motion_J1 (fun (x2 : Bool) => wfD keys_motion_d1r (x2, ()) → (
            K (.one (.v (.bool) x2)) [])) key0))) key0 (decide (key0 = ([103, 103] : List Int))))
  else
  bif (decide (key0 = ([103, 101] : List Int))) then
    (wfD keys_motion_d0 (key0, (decide (key0 = ([103, 101] : List Int))), ()) → keys_motion_J0 (fun (x2 : Bool) => wfD keys_motion_d0r (x2, ()) → (
        K (.one (.v (.bool) x2)) [])) (fun (key0 : List Int) => wfD keys_motion_d0n (key0, ()) → (
        (wfD keys_motion_d1 (key0, ()) → keys_motion_J1 (fun (x2 : Bool) => wfD keys_motion_d1r (x2, ()) → (
            K (.one (.v (.bool) x2)) [])) key0))) key0 (decide (key0 = ([103, 101] : List Int))))
  else
    (wfD keys_motion_d0 (key0, (decide (key0 = ([103, 69] : List Int))), ()) → keys_motion_J0 (fun (x2 : Bool) => wfD keys_motion_d0r (x2, ()) → (
        K (.one (.v (.bool) x2)) [])) (fun (key0 : List Int) => wfD keys_motion_d0n (key0, ()) → (
        (wfD keys_motion_d1 (key0, ()) → keys_motion_J1 (fun (x2 : Bool) => wfD keys_motion_d1r (x2, ()) → (
            K (.one (.v (.bool) x2)) [])) key0))) key0 (decide (key0 = ([103, 69] : List Int))))
def keys_motion_A : List AS := [.v (.str)]
theorem keys_motion_walk (key0 : List Int) (K : Res → List Cell → Prop) : runF tb (getG keys_motion_G) keys_motion_B1 Tryd.f52 [true] (mkA keys_motion_A (key0, ())) K = keys_motion_raw key0 K := by kernel_rfl

def keys_motion_J0_F (key0 : List Int) (x4 : Bool) : (Bool) ⊕ (List Int) :=
  bif x4 then
    .inl (true)
  else
    .inr (key0)
set_option maxRecDepth 20000 in
theorem keys_motion_J0_sp (kr : Bool → Prop) (kn : List Int → Prop) (key0 : List Int) (x4 : Bool) (hr : ∀ q : Bool, keys_motion_J0_F key0 x4 = .inl q → kr q) (hn : ∀ q : List Int, keys_motion_J0_F key0 x4 = .inr q → kn q) : keys_motion_J0 kr kn key0 x4 := by
  unfold keys_motion_J0
  refine brb (fun c_1 => ?_) (fun c_1 => ?_)
  ·
    have e := hr _ ((ctrue c_1) : keys_motion_J0_F key0 x4 = _)
    exact e
  ·
    have e := hn _ ((cfalse c_1) : keys_motion_J0_F key0 x4 = _)
    exact e
def keys_motion_J1_P (key0 : List Int) : Prop :=
  keys_one_P key0 ([104, 108, 106, 107, 43, 45, 95, 48, 94, 36, 124, 71, 119, 98, 101, 87, 66, 69, 59, 44, 123, 125, 40, 41, 37, 110, 78, 42, 32] : List Int) ∧ (
  let r1 : Bool := keys_one_F key0 ([104, 108, 106, 107, 43, 45, 95, 48, 94, 36, 124, 71, 119, 98, 101, 87, 66, 69, 59, 44, 123, 125, 40, 41, 37, 110, 78, 42, 32] : List Int)
  bif r1 then
    True
  else
    keys_one_P key0 ([102, 70, 116, 84, 96, 39] : List Int))
def keys_motion_J1_F (key0 : List Int) : Bool :=
  let r1 : Bool := keys_one_F key0 ([104, 108, 106, 107, 43, 45, 95, 48, 94, 36, 124, 71, 119, 98, 101, 87, 66, 69, 59, 44, 123, 125, 40, 41, 37, 110, 78, 42, 32] : List Int)
  bif r1 then
    (true)
  else
    let r2 : Bool := keys_one_F key0 ([102, 70, 116, 84, 96, 39] : List Int)
    (r2)
set_option maxRecDepth 20000 in
theorem keys_motion_J1_sp (kr : Bool → Prop) (key0 : List Int) (hp : keys_motion_J1_P key0) (hr : ∀ q : Bool, q = keys_motion_J1_F key0 → kr q) : keys_motion_J1 kr key0 := by
  unfold keys_motion_J1
  unfold keys_motion_J1_P at hp
  refine ⟨hp.1, ?_⟩
  replace hp := hp.2
  intro r1 hr1
  subst hr1
  intro _
  refine brb (fun c_2 => ?_) (fun c_2 => ?_)
  ·
    clear hp
    have e := hr _ ((ctrue c_2) : keys_motion_J1_F key0 = _).symm
    exact e
  ·
    replace hp := cF c_2 hp
    refine ⟨hp, ?_⟩
    intro r2 hr2
    subst hr2
    intro _
    have e := hr _ ((cfalse c_2) : keys_motion_J1_F key0 = _).symm
    exact e
def keys_motion_P (key0 : List Int) : Prop :=
  bif (decide (key0 = ([8] : List Int))) then
    Sum.elim (fun q0r =>
      True) (fun q0n =>
      let key0 : List Int := q0n
      keys_motion_J1_P key0) (keys_motion_J0_F key0 (decide (key0 = ([8] : List Int))))
  else
    bif (decide (key0 = ([13] : List Int))) then
      Sum.elim (fun q0r =>
        True) (fun q0n =>
        let key0 : List Int := q0n
        keys_motion_J1_P key0) (keys_motion_J0_F key0 (decide (key0 = ([13] : List Int))))
    else
      bif (decide (key0 = ([47] : List Int))) then
        Sum.elim (fun q0r =>
          True) (fun q0n =>
          let key0 : List Int := q0n
          keys_motion_J1_P key0) (keys_motion_J0_F key0 (decide (key0 = ([47] : List Int))))
      else
        bif (decide (key0 = ([63] : List Int))) then
          Sum.elim (fun q0r =>
            True) (fun q0n =>
            let key0 : List Int := q0n
            keys_motion_J1_P key0) (keys_motion_J0_F key0 (decide (key0 = ([63] : List Int))))
        else
          bif (decide (key0 = ([103, 103] : List Int))) then
            Sum.elim (fun q0r =>
              True) (fun q0n =>
              let key0 : List Int := q0n
              keys_motion_J1_P key0) (keys_motion_J0_F key0 (decide (key0 = ([103, 103] : List Int))))
          else
            bif (decide (key0 = ([103, 101] : List Int))) then
              Sum.elim (fun q0r =>
                True) (fun q0n =>
                let key0 : List Int := q0n
                keys_motion_J1_P key0) (keys_motion_J0_F key0 (decide (key0 = ([103, 101] : List Int))))
            else
              Sum.elim (fun q0r =>
                True) (fun q0n =>
                let key0 : List Int := q0n
                keys_motion_J1_P key0) (keys_motion_J0_F key0 (decide (key0 = ([103, 69] : List Int))))
def keys_motion_F (key0 : List Int) : Bool :=
  bif (decide (key0 = ([8] : List Int))) then
    Sum.elim (fun q0r =>
      let x2 : Bool := q0r
      x2) (fun q0n =>
      let key0 : List Int := q0n
      let q1r : Bool := keys_motion_J1_F key0
      let x2 : Bool := q1r
      x2) (keys_motion_J0_F key0 (decide (key0 = ([8] : List Int))))
  else
    bif (decide (key0 = ([13] : List Int))) then
      Sum.elim (fun q0r =>
        let x2 : Bool := q0r
        x2) (fun q0n =>
        let key0 : List Int := q0n
        let q1r : Bool := keys_motion_J1_F key0
        let x2 : Bool := q1r
        x2) (keys_motion_J0_F key0 (decide (key0 = ([13] : List Int))))
    else
      bif (decide (key0 = ([47] : List Int))) then
        Sum.elim (fun q0r =>
          let x2 : Bool := q0r
          x2) (fun q0n =>
          let key0 : List Int := q0n
          let q1r : Bool := keys_motion_J1_F key0
          let x2 : Bool := q1r
          x2) (keys_motion_J0_F key0 (decide (key0 = ([47] : List Int))))
      else
        bif (decide (key0 = ([63] : List Int))) then
          Sum.elim (fun q0r =>
            let x2 : Bool := q0r
            x2) (fun q0n =>
            let key0 : List Int := q0n
            let q1r : Bool := keys_motion_J1_F key0
            let x2 : Bool := q1r
            x2) (keys_motion_J0_F key0 (decide (key0 = ([63] : List Int))))
        else
          bif (decide (key0 = ([103, 103] : List Int))) then
            Sum.elim (fun q0r =>
              let x2 : Bool := q0r
              x2) (fun q0n =>
              let key0 : List Int := q0n
              let q1r : Bool := keys_motion_J1_F key0
              let x2 : Bool := q1r
              x2) (keys_motion_J0_F key0 (decide (key0 = ([103, 103] : List Int))))
          else
            bif (decide (key0 = ([103, 101] : List Int))) then
              Sum.elim (fun q0r =>
                let x2 : Bool := q0r
                x2) (fun q0n =>
                let key0 : List Int := q0n
                let q1r : Bool := keys_motion_J1_F key0
                let x2 : Bool := q1r
                x2) (keys_motion_J0_F key0 (decide (key0 = ([103, 101] : List Int))))
            else
              Sum.elim (fun q0r =>
                let x2 : Bool := q0r
                x2) (fun q0n =>
                let key0 : List Int := q0n
                let q1r : Bool := keys_motion_J1_F key0
                let x2 : Bool := q1r
                x2) (keys_motion_J0_F key0 (decide (key0 = ([103, 69] : List Int))))
set_option maxRecDepth 20000 in
theorem keys_motion_sp (key0 : List Int) (K : Res → List Cell → Prop) (_ : wfA keys_motion_A (key0, ())) (hp : keys_motion_P key0) (h : ∀ r : Bool, r = keys_motion_F key0 → K (.one (.v (.bool) r)) []) : keys_motion_raw key0 K := by
  unfold keys_motion_raw
  unfold keys_motion_P at hp
  refine brb (fun c_3 => ?_) (fun c_3 => ?_)
  ·
    replace hp := cT c_3 hp
    refine fun _ => keys_motion_J0_sp _ _ _ _ (fun q hq => ?_) (fun q hq => ?_)
    ·
      have e_4 := hq
      intro _
      clear hp
      exact h _ ((Eq.trans (ctrue c_3) (selL e_4)) : keys_motion_F key0 = _).symm
    ·
      have e_5 := hq
      intro _
      replace hp := cR e_5 hp
      refine fun _ => keys_motion_J1_sp _ _ hp (fun q hq => ?_)
      subst hq
      intro _
      clear hp
      exact h _ ((Eq.trans (ctrue c_3) (selR e_5)) : keys_motion_F key0 = _).symm
  ·
    replace hp := cF c_3 hp
    refine brb (fun c_6 => ?_) (fun c_6 => ?_)
    ·
      replace hp := cT c_6 hp
      refine fun _ => keys_motion_J0_sp _ _ _ _ (fun q hq => ?_) (fun q hq => ?_)
      ·
        have e_7 := hq
        intro _
        clear hp
        exact h _ ((Eq.trans (cfalse c_3) (Eq.trans (ctrue c_6) (selL e_7))) : keys_motion_F key0 = _).symm
      ·
        have e_8 := hq
        intro _
        replace hp := cR e_8 hp
        refine fun _ => keys_motion_J1_sp _ _ hp (fun q hq => ?_)
        subst hq
        intro _
        clear hp
        exact h _ ((Eq.trans (cfalse c_3) (Eq.trans (ctrue c_6) (selR e_8))) : keys_motion_F key0 = _).symm
    ·
      replace hp := cF c_6 hp
      refine brb (fun c_9 => ?_) (fun c_9 => ?_)
      ·
        replace hp := cT c_9 hp
        refine fun _ => keys_motion_J0_sp _ _ _ _ (fun q hq => ?_) (fun q hq => ?_)
        ·
          have e_10 := hq
          intro _
          clear hp
          exact h _ ((Eq.trans (cfalse c_3) (Eq.trans (cfalse c_6) (Eq.trans (ctrue c_9) (selL e_10)))) : keys_motion_F key0 = _).symm
        ·
          have e_11 := hq
          intro _
          replace hp := cR e_11 hp
          refine fun _ => keys_motion_J1_sp _ _ hp (fun q hq => ?_)
          subst hq
          intro _
          clear hp
          exact h _ ((Eq.trans (cfalse c_3) (Eq.trans (cfalse c_6) (Eq.trans (ctrue c_9) (selR e_11)))) : keys_motion_F key0 = _).symm
      ·
        replace hp := cF c_9 hp
        refine brb (fun c_12 => ?_) (fun c_12 => ?_)
        ·
          replace hp := cT c_12 hp
          refine fun _ => keys_motion_J0_sp _ _ _ _ (fun q hq => ?_) (fun q hq => ?_)
          ·
            have e_13 := hq
            intro _
            clear hp
            exact h _ ((Eq.trans (cfalse c_3) (Eq.trans (cfalse c_6) (Eq.trans (cfalse c_9) (Eq.trans (ctrue c_12) (selL e_13))))) : keys_motion_F key0 = _).symm
          ·
            have e_14 := hq
            intro _
            replace hp := cR e_14 hp
            refine fun _ => keys_motion_J1_sp _ _ hp (fun q hq => ?_)
            subst hq
            intro _
            clear hp
            exact h _ ((Eq.trans (cfalse c_3) (Eq.trans (cfalse c_6) (Eq.trans (cfalse c_9) (Eq.trans (ctrue c_12) (selR e_14))))) : keys_motion_F key0 = _).symm
        ·
          replace hp := cF c_12 hp
          refine brb (fun c_15 => ?_) (fun c_15 => ?_)
          ·
            replace hp := cT c_15 hp
            refine fun _ => keys_motion_J0_sp _ _ _ _ (fun q hq => ?_) (fun q hq => ?_)
            ·
              have e_16 := hq
              intro _
              clear hp
              exact h _ ((Eq.trans (cfalse c_3) (Eq.trans (cfalse c_6) (Eq.trans (cfalse c_9) (Eq.trans (cfalse c_12) (Eq.trans (ctrue c_15) (selL e_16)))))) : keys_motion_F key0 = _).symm
            ·
              have e_17 := hq
              intro _
              replace hp := cR e_17 hp
              refine fun _ => keys_motion_J1_sp _ _ hp (fun q hq => ?_)
              subst hq
              intro _
              clear hp
              exact h _ ((Eq.trans (cfalse c_3) (Eq.trans (cfalse c_6) (Eq.trans (cfalse c_9) (Eq.trans (cfalse c_12) (Eq.trans (ctrue c_15) (selR e_17)))))) : keys_motion_F key0 = _).symm
          ·
            replace hp := cF c_15 hp
            refine brb (fun c_18 => ?_) (fun c_18 => ?_)
            ·
              replace hp := cT c_18 hp
              refine fun _ => keys_motion_J0_sp _ _ _ _ (fun q hq => ?_) (fun q hq => ?_)
              ·
                have e_19 := hq
                intro _
                clear hp
                exact h _ ((Eq.trans (cfalse c_3) (Eq.trans (cfalse c_6) (Eq.trans (cfalse c_9) (Eq.trans (cfalse c_12) (Eq.trans (cfalse c_15) (Eq.trans (ctrue c_18) (selL e_19))))))) : keys_motion_F key0 = _).symm
              ·
                have e_20 := hq
                intro _
                replace hp := cR e_20 hp
                refine fun _ => keys_motion_J1_sp _ _ hp (fun q hq => ?_)
                subst hq
                intro _
                clear hp
                exact h _ ((Eq.trans (cfalse c_3) (Eq.trans (cfalse c_6) (Eq.trans (cfalse c_9) (Eq.trans (cfalse c_12) (Eq.trans (cfalse c_15) (Eq.trans (ctrue c_18) (selR e_20))))))) : keys_motion_F key0 = _).symm
            ·
              replace hp := cF c_18 hp
              refine fun _ => keys_motion_J0_sp _ _ _ _ (fun q hq => ?_) (fun q hq => ?_)
              ·
                have e_21 := hq
                intro _
                clear hp
                exact h _ ((Eq.trans (cfalse c_3) (Eq.trans (cfalse c_6) (Eq.trans (cfalse c_9) (Eq.trans (cfalse c_12) (Eq.trans (cfalse c_15) (Eq.trans (cfalse c_18) (selL e_21))))))) : keys_motion_F key0 = _).symm
              ·
                have e_22 := hq
                intro _
                replace hp := cR e_22 hp
                refine fun _ => keys_motion_J1_sp _ _ hp (fun q hq => ?_)
                subst hq
                intro _
                clear hp
                exact h _ ((Eq.trans (cfalse c_3) (Eq.trans (cfalse c_6) (Eq.trans (cfalse c_9) (Eq.trans (cfalse c_12) (Eq.trans (cfalse c_15) (Eq.trans (cfalse c_18) (selR e_22))))))) : keys_motion_F key0 = _).symm
def keys_motion_C (v : valsA keys_motion_A) (K : Res → List Cell → Prop) : Prop := keys_motion_P v.1 ∧ ∀ r : Bool, r = keys_motion_F v.1 → K (.one (.v (.bool) r)) []
def keys_motion_S : App := specW keys_motion_A keys_motion_C
theorem keys_motion_wv (K : Res → List Cell → Prop) : ∀ v : valsA keys_motion_A, runF tb (getG keys_motion_G) keys_motion_B1 Tryd.f52 [true] (mkA keys_motion_A v) K = keys_motion_raw v.1 K
  | (key0, ()) => keys_motion_walk key0 K
set_option maxRecDepth 20000 in
theorem keys_motion_ok : AppOk Tryd.prog 52 keys_motion_S :=
  AppOk.specW (spec_ok (runF_ok tb_M tb_ok keys_motion_Gok (keys_motion_b1) (f := 52) (fn := Tryd.f52) (by kernel_rfl) (by kernel_rfl) keys_motion_st [true]) fun v K hw h => (keys_motion_wv K v).mpr (keys_motion_sp v.1 K hw h.1 h.2))

end Go.VE
namespace Go.VE
open Go Go.Proofs
/-! ### quoin/keys.known -/
def keys_known_G : List (Nat × App) := [(52, keys_motion_S), (49, keys_one_S)]
theorem keys_known_Gok : GOk Tryd.prog (getG keys_known_G) := GOk.cons keys_motion_ok (GOk.cons keys_one_ok (GOk.nil))
theorem keys_known_st : storesC (bodyOf Tryd.f48) = true := by kernel_rfl
def keys_known_d0 : List LS := [.b 1 8 [], .v 36 (.bool), .c 8 (.st (.pair (.int .u8) (.pair (.int .i64) (.pair (.str) (.pair (.str) (.pair (.int .u8) (.sl (.int .u8))))))))]
def keys_known_d0r : List LS := [.v 2 (.bool)]
def keys_known_d0n : List LS := []
def keys_known_dx0 : DX := ⟨some keys_known_d0n, some keys_known_d0r, []⟩
def keys_known_J0 (kr : Bool → Prop) (kn : Prop) (x36 : Bool) (c1b : (Int × Int × List Int × List Int × Int × List Int)) : Prop :=
  bif x36 then
    bif (decide ((List.length c1b.2.2.2.1 : Int) = (2 : Int))) then
      bif decide (0 ≤ (0 : Int) ∧ (0 : Int) < (List.length c1b.2.2.2.1 : Int)) then
      bif (decide ((rd (0 : Int) c1b.2.2.2.1 (0 : Int)) = (105 : Int))) then
        bif decide (0 ≤ (1 : Int) ∧ (1 : Int) ≤ (List.length c1b.2.2.2.1 : Int)) then
        keys_one_P (List.drop (Int.toNat (1 : Int)) c1b.2.2.2.1) ([119, 87, 112, 40, 41, 98, 123, 125, 66, 91, 93, 34, 39, 96] : List Int) ∧ (
        ∀ (r4 : Bool), r4 = keys_one_F (List.drop (Int.toNat (1 : Int)) c1b.2.2.2.1) ([119, 87, 112, 40, 41, 98, 123, 125, 66, 91, 93, 34, 39, 96] : List Int) → (
        wfR (.one (.v (.bool) r4)) → (
        bif (decide (c1b.2.2.2.1 = c1b.2.2.1)) then
          kr true
        else
        bif r4 then
          kr true
        else
          keys_motion_P c1b.2.2.2.1 ∧ (
          ∀ (r5 : Bool), r5 = keys_motion_F c1b.2.2.2.1 → (
          wfR (.one (.v (.bool) r5)) → (
          kr r5))))))
        else False
      else
        bif decide (0 ≤ (0 : Int) ∧ (0 : Int) < (List.length c1b.2.2.2.1 : Int)) then
        bif (decide ((rd (0 : Int) c1b.2.2.2.1 (0 : Int)) = (97 : Int))) then
          bif decide (0 ≤ (1 : Int) ∧ (1 : Int) ≤ (List.length c1b.2.2.2.1 : Int)) then
          keys_one_P (List.drop (Int.toNat (1 : Int)) c1b.2.2.2.1) ([119, 87, 112, 40, 41, 98, 123, 125, 66, 91, 93, 34, 39, 96] : List Int) ∧ (
          ∀ (r6 : Bool), r6 = keys_one_F (List.drop (Int.toNat (1 : Int)) c1b.2.2.2.1) ([119, 87, 112, 40, 41, 98, 123, 125, 66, 91, 93, 34, 39, 96] : List Int) → (
          wfR (.one (.v (.bool) r6)) → (
          bif (decide (c1b.2.2.2.1 = c1b.2.2.1)) then
            kr true
          else
          bif r6 then
            kr true
          else
            keys_motion_P c1b.2.2.2.1 ∧ (
            ∀ (r7 : Bool), r7 = keys_motion_F c1b.2.2.2.1 → (
            wfR (.one (.v (.bool) r7)) → (
            kr r7))))))
          else False
        else
        bif (decide (c1b.2.2.2.1 = c1b.2.2.1)) then
          kr true
        else
          keys_motion_P c1b.2.2.2.1 ∧ (
          ∀ (r8 : Bool), r8 = keys_motion_F c1b.2.2.2.1 → (
          wfR (.one (.v (.bool) r8)) → (
          kr r8)))
        else False
      else False
    else
    bif (decide (c1b.2.2.2.1 = c1b.2.2.1)) then
      kr true
    else
      keys_motion_P c1b.2.2.2.1 ∧ (
      ∀ (r9 : Bool), r9 = keys_motion_F c1b.2.2.2.1 → (
      wfR (.one (.v (.bool) r9)) → (
      kr r9)))
  else
    kn
theorem keys_known_s0 (k : Ex → St → Prop) (x36 : Bool) (c1b : (Int × Int × List Int × List Int × Int × List Int)) :
    ex tb (getG keys_known_G) [] (at' (bodyOf Tryd.f48) [1, 1, 1, 0, 1, 0, 1]) [1, 1, 1, 0, 1, 0, 1] (mkD 80 keys_known_d0 (x36, c1b, ())) (wk 80 keys_known_dx0 k) =
    keys_known_J0 (fun x2 => wfD keys_known_d0r (x2, ()) → k .ret (mkD 80 keys_known_d0r (x2, ()))) (wfD keys_known_d0n () → k .nrm (mkD 80 keys_known_d0n ())) x36 c1b := by kernel_rfl
theorem keys_known_v0 (k : Ex → St → Prop) : ∀ v : vals keys_known_d0, ex tb (getG keys_known_G) [] (at' (bodyOf Tryd.f48) [1, 1, 1, 0, 1, 0, 1]) [1, 1, 1, 0, 1, 0, 1] (mkD 80 keys_known_d0 v) (wk 80 keys_known_dx0 k) = keys_known_J0 (fun x2 => wfD keys_known_d0r (x2, ()) → k .ret (mkD 80 keys_known_d0r (x2, ()))) (wfD keys_known_d0n () → k .nrm (mkD 80 keys_known_d0n ())) v.1 v.2.1
  | (x36, c1b, ()) => keys_known_s0 k x36 c1b
def keys_known_X0 : Pce := fun st k => ckD 80 keys_known_d0 st fun v => wfD keys_known_d0 v → keys_known_J0 (fun x2 => wfD keys_known_d0r (x2, ()) → k .ret (mkD 80 keys_known_d0r (x2, ()))) (wfD keys_known_d0n () → k .nrm (mkD 80 keys_known_d0n ())) v.1 v.2.1
set_option maxRecDepth 20000 in
theorem keys_known_x0 : SemOk Tryd.prog (at' (bodyOf Tryd.f48) [1, 1, 1, 0, 1, 0, 1]) keys_known_X0 :=
  (SemOk.wk (N := 80) (ds := keys_known_d0) (dx := keys_known_dx0) (ex_sound tb_M tb_ok keys_known_Gok (LabsOk.nil) (at' (bodyOf Tryd.f48) [1, 1, 1, 0, 1, 0, 1]) [1, 1, 1, 0, 1, 0, 1] rfl (storesC_at keys_known_st [1, 1, 1, 0, 1, 0, 1]))).mono fun st k h => ckD_mono h fun v hv hw => Eq.mpr (keys_known_v0 k v) (hv hw)
def keys_known_B0 : Labs := ([1, 1, 1, 0, 1, 0, 1], keys_known_X0) :: []
theorem keys_known_b0 : LabsOk Tryd.prog (bodyOf Tryd.f48) keys_known_B0 := LabsOk.cons keys_known_x0 (LabsOk.nil)
def keys_known_d1 : List LS := []
def keys_known_d1r : List LS := [.v 2 (.bool)]
def keys_known_dx1 : DX := ⟨none, some keys_known_d1r, []⟩
def keys_known_J1 (kr : Bool → Prop)  : Prop :=
  kr false
theorem keys_known_s1 (k : Ex → St → Prop)  :
    ex tb (getG keys_known_G) keys_known_B0 (at' (bodyOf Tryd.f48) [1, 1]) [1, 1] (mkD 80 keys_known_d1 ()) (wk 80 keys_known_dx1 k) =
    keys_known_J1 (fun x2 => wfD keys_known_d1r (x2, ()) → k .ret (mkD 80 keys_known_d1r (x2, ())))  := by kernel_rfl
theorem keys_known_v1 (k : Ex → St → Prop) : ∀ v : vals keys_known_d1, ex tb (getG keys_known_G) keys_known_B0 (at' (bodyOf Tryd.f48) [1, 1]) [1, 1] (mkD 80 keys_known_d1 v) (wk 80 keys_known_dx1 k) = keys_known_J1 (fun x2 => wfD keys_known_d1r (x2, ()) → k .ret (mkD 80 keys_known_d1r (x2, ()))) 
  | () => keys_known_s1 k 
def keys_known_X1 : Pce := fun st k => ckD 80 keys_known_d1 st fun v => wfD keys_known_d1 v → keys_known_J1 (fun x2 => wfD keys_known_d1r (x2, ()) → k .ret (mkD 80 keys_known_d1r (x2, ()))) 
set_option maxRecDepth 20000 in
theorem keys_known_x1 : SemOk Tryd.prog (at' (bodyOf Tryd.f48) [1, 1]) keys_known_X1 :=
  (SemOk.wk (N := 80) (ds := keys_known_d1) (dx := keys_known_dx1) (ex_sound tb_M tb_ok keys_known_Gok (keys_known_b0) (at' (bodyOf Tryd.f48) [1, 1]) [1, 1] rfl (storesC_at keys_known_st [1, 1]))).mono fun st k h => ckD_mono h fun v hv hw => Eq.mpr (keys_known_v1 k v) (hv hw)
def keys_known_B1 : Labs := ([1, 1], keys_known_X1) :: keys_known_B0
theorem keys_known_b1 : LabsOk Tryd.prog (bodyOf Tryd.f48) keys_known_B1 := LabsOk.cons keys_known_x1 (keys_known_b0)
def keys_known_raw (c0 : (Int × Int × List Int × List Int × Int × List Int)) (K : Res → List Cell → Prop) : Prop :=
  bif (decide (c0.2.2.1 = ([] : List Int))) then
    keys_motion_P c0.2.2.2.1 ∧ (
    ∀ (r1 : Bool), r1 = keys_motion_F c0.2.2.2.1 → (
    wfR (.one (.v (.bool) r1)) → (
    bif r1 then
      K (.one (.v (.bool) true)) []
    else
      keys_one_P c0.2.2.2.1 ([120, 88, 68, 67, 89, 83, 115, 112, 80, 126, 74, 105, 97, 73, 65, 111, 79, 82, 117, 46, 18] : List Int) ∧ (
      ∀ (r2 : Bool), r2 = keys_one_F c0.2.2.2.1 ([120, 88, 68, 67, 89, 83, 115, 112, 80, 126, 74, 105, 97, 73, 65, 111, 79, 82, 117, 46, 18] : List Int) → (
      wfR (.one (.v (.bool) r2)) → (
      bif r2 then
        K (.one (.v (.bool) true)) []
      else
        keys_one_P c0.2.2.2.1 ([114, 109] : List Int) ∧ (
        ∀ (r3 : Bool), r3 = keys_one_F c0.2.2.2.1 ([114, 109] : List Int) → (
        wfR (.one (.v (.bool) r3)) → (
        bif r3 then
          K (.one (.v (.bool) true)) []
        else
        bif (decide (c0.2.2.2.1 = ([58] : List Int))) then
          K (.one (.v (.bool) true)) []
        else
        bif (decide (c0.2.2.2.1 = ([103, 45] : List Int))) then
          K (.one (.v (.bool) true)) []
        else
          K (.one (.v (.bool) (decide (c0.2.2.2.1 = ([103, 43] : List Int))))) [])))))))))
  else
  bif (decide (c0.2.2.1 = ([100] : List Int))) then
    (wfD keys_known_d0 ((decide (c0.2.2.1 = ([100] : List Int))), c0, ()) → keys_known_J0 (fun (x2 : Bool) => wfD keys_known_d0r (x2, ()) → (
        K (.one (.v (.bool) x2)) [])) (wfD keys_known_d0n () → (
        (wfD keys_known_d1 () → keys_known_J1 (fun (x2 : Bool) => wfD keys_known_d1r (x2, ()) → (
            K (.one (.v (.bool) x2)) [])) ))) (decide (c0.2.2.1 = ([100] : List Int))) c0)
  else
  bif (decide (c0.2.2.1 = ([99] : List Int))) then
    (wfD keys_known_d0 ((decide (c0.2.2.1 = ([99] : List Int))), c0, ()) → keys_known_J0 (fun (x2 : Bool) => wfD keys_known_d0r (x2, ()) → (
        K (.one (.v (.bool) x2)) [])) (wfD keys_known_d0n () → (
        (wfD keys_known_d1 () → keys_known_J1 (fun (x2 : Bool) => wfD keys_known_d1r (x2, ()) → (
            K (.one (.v (.bool) x2)) [])) ))) (decide (c0.2.2.1 = ([99] : List Int))) c0)
  else
  bif (decide (c0.2.2.1 = ([121] : List Int))) then
    (wfD keys_known_d0 ((decide (c0.2.2.1 = ([121] : List Int))), c0, ()) → keys_known_J0 (fun (x2 : Bool) => wfD keys_known_d0r (x2, ()) → (
        K (.one (.v (.bool) x2)) [])) (wfD keys_known_d0n () → (
        (wfD keys_known_d1 () → keys_known_J1 (fun (x2 : Bool) => wfD keys_known_d1r (x2, ()) → (
            K (.one (.v (.bool) x2)) [])) ))) (decide (c0.2.2.1 = ([121] : List Int))) c0)
  else
  bif (decide (c0.2.2.1 = ([62] : List Int))) then
    (wfD keys_known_d0 ((decide (c0.2.2.1 = ([62] : List Int))), c0, ()) → keys_known_J0 (fun (x2 : Bool) => wfD keys_known_d0r (x2, ()) → (
        K (.one (.v (.bool) x2)) [])) (wfD keys_known_d0n () → (
        (wfD keys_known_d1 () → keys_known_J1 (fun (x2 : Bool) => wfD keys_known_d1r (x2, ()) → (
            K (.one (.v (.bool) x2)) [])) ))) (decide (c0.2.2.1 = ([62] : List Int))) c0)
  else
  bif (decide (c0.2.2.1 = ([60] : List Int))) then
    (wfD keys_known_d0 ((decide (c0.2.2.1 = ([60] : List Int))), c0, ()) → keys_known_J0 (fun (x2 : Bool) => wfD keys_known_d0r (x2, ()) → (
        K (.one (.v (.bool) x2)) [])) (wfD keys_known_d0n () → (
        (wfD keys_known_d1 () → keys_known_J1 (fun (x2 : Bool) => wfD keys_known_d1r (x2, ()) → (
            K (.one (.v (.bool) x2)) [])) ))) (decide (c0.2.2.1 = ([60] : List Int))) c0)
  else
  bif (decide (c0.2.2.1 = ([103, 126] : List Int))) then
    (wfD keys_known_d0 ((decide (c0.2.2.1 = ([103, 126] : List Int))), c0, ()) → keys_known_J0 (fun (x2 : Bool) => wfD keys_known_d0r (x2, ()) → (
        K (.one (.v (.bool) x2)) [])) (wfD keys_known_d0n () → (
        (wfD keys_known_d1 () → keys_known_J1 (fun (x2 : Bool) => wfD keys_known_d1r (x2, ()) → (
            K (.one (.v (.bool) x2)) [])) ))) (decide (c0.2.2.1 = ([103, 126] : List Int))) c0)
  else
  bif (decide (c0.2.2.1 = ([103, 117] : List Int))) then
    (wfD keys_known_d0 ((decide (c0.2.2.1 = ([103, 117] : List Int))), c0, ()) → keys_known_J0 (fun (x2 : Bool) => wfD keys_known_d0r (x2, ()) → (
        K (.one (.v (.bool) x2)) [])) (wfD keys_known_d0n () → (
        (wfD keys_known_d1 () → keys_known_J1 (fun (x2 : Bool) => wfD keys_known_d1r (x2, ()) → (
            K (.one (.v (.bool) x2)) [])) ))) (decide (c0.2.2.1 = ([103, 117] : List Int))) c0)
  else
    (wfD keys_known_d0 ((decide (c0.2.2.1 = ([103, 85] : List Int))), c0, ()) → keys_known_J0 (fun (x2 : Bool) => wfD keys_known_d0r (x2, ()) → (
        K (.one (.v (.bool) x2)) [])) (wfD keys_known_d0n () → (
        (wfD keys_known_d1 () → keys_known_J1 (fun (x2 : Bool) => wfD keys_known_d1r (x2, ()) → (
            K (.one (.v (.bool) x2)) [])) ))) (decide (c0.2.2.1 = ([103, 85] : List Int))) c0)
def keys_known_A : List AS := [.v (.st (.pair (.int .u8) (.pair (.int .i64) (.pair (.str) (.pair (.str) (.pair (.int .u8) (.sl (.int .u8))))))))]
theorem keys_known_walk (c0 : (Int × Int × List Int × List Int × Int × List Int)) (K : Res → List Cell → Prop) : runF tb (getG keys_known_G) keys_known_B1 Tryd.f48 [true] (mkA keys_known_A (c0, ())) K = keys_known_raw c0 K := by kernel_rfl

def keys_known_J0_P (x36 : Bool) (c1b : (Int × Int × List Int × List Int × Int × List Int)) : Prop :=
  bif x36 then
    bif (decide ((List.length c1b.2.2.2.1 : Int) = (2 : Int))) then
      (0 ≤ (0 : Int) ∧ (0 : Int) < (List.length c1b.2.2.2.1 : Int)) ∧ (
      bif (decide ((rd (0 : Int) c1b.2.2.2.1 (0 : Int)) = (105 : Int))) then
        (0 ≤ (1 : Int) ∧ (1 : Int) ≤ (List.length c1b.2.2.2.1 : Int)) ∧ (
        keys_one_P (List.drop (Int.toNat (1 : Int)) c1b.2.2.2.1) ([119, 87, 112, 40, 41, 98, 123, 125, 66, 91, 93, 34, 39, 96] : List Int) ∧ (
        let r4 : Bool := keys_one_F (List.drop (Int.toNat (1 : Int)) c1b.2.2.2.1) ([119, 87, 112, 40, 41, 98, 123, 125, 66, 91, 93, 34, 39, 96] : List Int)
        bif (decide (c1b.2.2.2.1 = c1b.2.2.1)) then
          True
        else
          bif r4 then
            True
          else
            keys_motion_P c1b.2.2.2.1))
      else
        (0 ≤ (0 : Int) ∧ (0 : Int) < (List.length c1b.2.2.2.1 : Int)) ∧ (
        bif (decide ((rd (0 : Int) c1b.2.2.2.1 (0 : Int)) = (97 : Int))) then
          (0 ≤ (1 : Int) ∧ (1 : Int) ≤ (List.length c1b.2.2.2.1 : Int)) ∧ (
          keys_one_P (List.drop (Int.toNat (1 : Int)) c1b.2.2.2.1) ([119, 87, 112, 40, 41, 98, 123, 125, 66, 91, 93, 34, 39, 96] : List Int) ∧ (
          let r6 : Bool := keys_one_F (List.drop (Int.toNat (1 : Int)) c1b.2.2.2.1) ([119, 87, 112, 40, 41, 98, 123, 125, 66, 91, 93, 34, 39, 96] : List Int)
          bif (decide (c1b.2.2.2.1 = c1b.2.2.1)) then
            True
          else
            bif r6 then
              True
            else
              keys_motion_P c1b.2.2.2.1))
        else
          bif (decide (c1b.2.2.2.1 = c1b.2.2.1)) then
            True
          else
            keys_motion_P c1b.2.2.2.1))
    else
      bif (decide (c1b.2.2.2.1 = c1b.2.2.1)) then
        True
      else
        keys_motion_P c1b.2.2.2.1
  else
    True
def keys_known_J0_F (x36 : Bool) (c1b : (Int × Int × List Int × List Int × Int × List Int)) : (Bool) ⊕ (Unit) :=
  bif x36 then
    bif (decide ((List.length c1b.2.2.2.1 : Int) = (2 : Int))) then
      bif (decide ((rd (0 : Int) c1b.2.2.2.1 (0 : Int)) = (105 : Int))) then
        let r4 : Bool := keys_one_F (List.drop (Int.toNat (1 : Int)) c1b.2.2.2.1) ([119, 87, 112, 40, 41, 98, 123, 125, 66, 91, 93, 34, 39, 96] : List Int)
        bif (decide (c1b.2.2.2.1 = c1b.2.2.1)) then
          .inl (true)
        else
          bif r4 then
            .inl (true)
          else
            let r5 : Bool := keys_motion_F c1b.2.2.2.1
            .inl (r5)
      else
        bif (decide ((rd (0 : Int) c1b.2.2.2.1 (0 : Int)) = (97 : Int))) then
          let r6 : Bool := keys_one_F (List.drop (Int.toNat (1 : Int)) c1b.2.2.2.1) ([119, 87, 112, 40, 41, 98, 123, 125, 66, 91, 93, 34, 39, 96] : List Int)
          bif (decide (c1b.2.2.2.1 = c1b.2.2.1)) then
            .inl (true)
          else
            bif r6 then
              .inl (true)
            else
              let r7 : Bool := keys_motion_F c1b.2.2.2.1
              .inl (r7)
        else
          bif (decide (c1b.2.2.2.1 = c1b.2.2.1)) then
            .inl (true)
          else
            let r8 : Bool := keys_motion_F c1b.2.2.2.1
            .inl (r8)
    else
      bif (decide (c1b.2.2.2.1 = c1b.2.2.1)) then
        .inl (true)
      else
        let r9 : Bool := keys_motion_F c1b.2.2.2.1
        .inl (r9)
  else
    .inr ()
set_option maxRecDepth 20000 in
theorem keys_known_J0_sp (kr : Bool → Prop) (kn : Prop) (x36 : Bool) (c1b : (Int × Int × List Int × List Int × Int × List Int)) (hp : keys_known_J0_P x36 c1b) (hr : ∀ q : Bool, keys_known_J0_F x36 c1b = .inl q → kr q) (hn : ∀ q : Unit, keys_known_J0_F x36 c1b = .inr q → kn) : keys_known_J0 kr kn x36 c1b := by
  unfold keys_known_J0
  unfold keys_known_J0_P at hp
  refine brb (fun c_1 => ?_) (fun c_1 => ?_)
  ·
    replace hp := cT c_1 hp
    refine brb (fun c_2 => ?_) (fun c_2 => ?_)
    ·
      replace hp := cT c_2 hp
      refine asrt hp.1 ?_
      replace hp := hp.2
      refine brb (fun c_3 => ?_) (fun c_3 => ?_)
      ·
        replace hp := cT c_3 hp
        refine asrt hp.1 ?_
        replace hp := hp.2
        refine ⟨hp.1, ?_⟩
        replace hp := hp.2
        intro r4 hr4
        subst hr4
        intro _
        refine brb (fun c_4 => ?_) (fun c_4 => ?_)
        ·
          clear hp
          have e := hr _ ((Eq.trans (ctrue c_1) (Eq.trans (ctrue c_2) (Eq.trans (ctrue c_3) (ctrue c_4)))) : keys_known_J0_F x36 c1b = _)
          exact e
        ·
          replace hp := cF c_4 hp
          refine brb (fun c_5 => ?_) (fun c_5 => ?_)
          ·
            clear hp
            have e := hr _ ((Eq.trans (ctrue c_1) (Eq.trans (ctrue c_2) (Eq.trans (ctrue c_3) (Eq.trans (cfalse c_4) (ctrue c_5))))) : keys_known_J0_F x36 c1b = _)
            exact e
          ·
            replace hp := cF c_5 hp
            refine ⟨hp, ?_⟩
            intro r5 hr5
            subst hr5
            intro _
            have e := hr _ ((Eq.trans (ctrue c_1) (Eq.trans (ctrue c_2) (Eq.trans (ctrue c_3) (Eq.trans (cfalse c_4) (cfalse c_5))))) : keys_known_J0_F x36 c1b = _)
            exact e
      ·
        replace hp := cF c_3 hp
        refine asrt hp.1 ?_
        replace hp := hp.2
        refine brb (fun c_6 => ?_) (fun c_6 => ?_)
        ·
          replace hp := cT c_6 hp
          refine asrt hp.1 ?_
          replace hp := hp.2
          refine ⟨hp.1, ?_⟩
          replace hp := hp.2
          intro r6 hr6
          subst hr6
          intro _
          refine brb (fun c_7 => ?_) (fun c_7 => ?_)
          ·
            clear hp
            have e := hr _ ((Eq.trans (ctrue c_1) (Eq.trans (ctrue c_2) (Eq.trans (cfalse c_3) (Eq.trans (ctrue c_6) (ctrue c_7))))) : keys_known_J0_F x36 c1b = _)
            exact e
          ·
            replace hp := cF c_7 hp
            refine brb (fun c_8 => ?_) (fun c_8 => ?_)
            ·
              clear hp
              have e := hr _ ((Eq.trans (ctrue c_1) (Eq.trans (ctrue c_2) (Eq.trans (cfalse c_3) (Eq.trans (ctrue c_6) (Eq.trans (cfalse c_7) (ctrue c_8)))))) : keys_known_J0_F x36 c1b = _)
              exact e
            ·
              replace hp := cF c_8 hp
              refine ⟨hp, ?_⟩
              intro r7 hr7
              subst hr7
              intro _
              have e := hr _ ((Eq.trans (ctrue c_1) (Eq.trans (ctrue c_2) (Eq.trans (cfalse c_3) (Eq.trans (ctrue c_6) (Eq.trans (cfalse c_7) (cfalse c_8)))))) : keys_known_J0_F x36 c1b = _)
              exact e
        ·
          replace hp := cF c_6 hp
          refine brb (fun c_9 => ?_) (fun c_9 => ?_)
          ·
            clear hp
            have e := hr _ ((Eq.trans (ctrue c_1) (Eq.trans (ctrue c_2) (Eq.trans (cfalse c_3) (Eq.trans (cfalse c_6) (ctrue c_9))))) : keys_known_J0_F x36 c1b = _)
            exact e
          ·
            replace hp := cF c_9 hp
            refine ⟨hp, ?_⟩
            intro r8 hr8
            subst hr8
            intro _
            have e := hr _ ((Eq.trans (ctrue c_1) (Eq.trans (ctrue c_2) (Eq.trans (cfalse c_3) (Eq.trans (cfalse c_6) (cfalse c_9))))) : keys_known_J0_F x36 c1b = _)
            exact e
    ·
      replace hp := cF c_2 hp
      refine brb (fun c_10 => ?_) (fun c_10 => ?_)
      ·
        clear hp
        have e := hr _ ((Eq.trans (ctrue c_1) (Eq.trans (cfalse c_2) (ctrue c_10))) : keys_known_J0_F x36 c1b = _)
        exact e
      ·
        replace hp := cF c_10 hp
        refine ⟨hp, ?_⟩
        intro r9 hr9
        subst hr9
        intro _
        have e := hr _ ((Eq.trans (ctrue c_1) (Eq.trans (cfalse c_2) (cfalse c_10))) : keys_known_J0_F x36 c1b = _)
        exact e
  ·
    clear hp
    have e := hn _ ((cfalse c_1) : keys_known_J0_F x36 c1b = _)
    exact e
def keys_known_J1_F  : Bool :=
  (false)
set_option maxRecDepth 20000 in
theorem keys_known_J1_sp (kr : Bool → Prop)  (hr : ∀ q : Bool, q = keys_known_J1_F  → kr q) : keys_known_J1 kr  := by
  unfold keys_known_J1
  exact hr _ rfl
def keys_known_P (c0 : (Int × Int × List Int × List Int × Int × List Int)) : Prop :=
  bif (decide (c0.2.2.1 = ([] : List Int))) then
    keys_motion_P c0.2.2.2.1 ∧ (
    let r1 : Bool := keys_motion_F c0.2.2.2.1
    bif r1 then
      True
    else
      keys_one_P c0.2.2.2.1 ([120, 88, 68, 67, 89, 83, 115, 112, 80, 126, 74, 105, 97, 73, 65, 111, 79, 82, 117, 46, 18] : List Int) ∧ (
      let r2 : Bool := keys_one_F c0.2.2.2.1 ([120, 88, 68, 67, 89, 83, 115, 112, 80, 126, 74, 105, 97, 73, 65, 111, 79, 82, 117, 46, 18] : List Int)
      bif r2 then
        True
      else
        keys_one_P c0.2.2.2.1 ([114, 109] : List Int)))
  else
    bif (decide (c0.2.2.1 = ([100] : List Int))) then
      keys_known_J0_P (decide (c0.2.2.1 = ([100] : List Int))) c0
    else
      bif (decide (c0.2.2.1 = ([99] : List Int))) then
        keys_known_J0_P (decide (c0.2.2.1 = ([99] : List Int))) c0
      else
        bif (decide (c0.2.2.1 = ([121] : List Int))) then
          keys_known_J0_P (decide (c0.2.2.1 = ([121] : List Int))) c0
        else
          bif (decide (c0.2.2.1 = ([62] : List Int))) then
            keys_known_J0_P (decide (c0.2.2.1 = ([62] : List Int))) c0
          else
            bif (decide (c0.2.2.1 = ([60] : List Int))) then
              keys_known_J0_P (decide (c0.2.2.1 = ([60] : List Int))) c0
            else
              bif (decide (c0.2.2.1 = ([103, 126] : List Int))) then
                keys_known_J0_P (decide (c0.2.2.1 = ([103, 126] : List Int))) c0
              else
                bif (decide (c0.2.2.1 = ([103, 117] : List Int))) then
                  keys_known_J0_P (decide (c0.2.2.1 = ([103, 117] : List Int))) c0
                else
                  keys_known_J0_P (decide (c0.2.2.1 = ([103, 85] : List Int))) c0
def keys_known_F (c0 : (Int × Int × List Int × List Int × Int × List Int)) : Bool :=
  bif (decide (c0.2.2.1 = ([] : List Int))) then
    let r1 : Bool := keys_motion_F c0.2.2.2.1
    bif r1 then
      true
    else
      let r2 : Bool := keys_one_F c0.2.2.2.1 ([120, 88, 68, 67, 89, 83, 115, 112, 80, 126, 74, 105, 97, 73, 65, 111, 79, 82, 117, 46, 18] : List Int)
      bif r2 then
        true
      else
        let r3 : Bool := keys_one_F c0.2.2.2.1 ([114, 109] : List Int)
        bif r3 then
          true
        else
          bif (decide (c0.2.2.2.1 = ([58] : List Int))) then
            true
          else
            bif (decide (c0.2.2.2.1 = ([103, 45] : List Int))) then
              true
            else
              (decide (c0.2.2.2.1 = ([103, 43] : List Int)))
  else
    bif (decide (c0.2.2.1 = ([100] : List Int))) then
      Sum.elim (fun q0r =>
        let x2 : Bool := q0r
        x2) (fun q0n =>
        let q1r : Bool := keys_known_J1_F 
        let x2 : Bool := q1r
        x2) (keys_known_J0_F (decide (c0.2.2.1 = ([100] : List Int))) c0)
    else
      bif (decide (c0.2.2.1 = ([99] : List Int))) then
        Sum.elim (fun q0r =>
          let x2 : Bool := q0r
          x2) (fun q0n =>
          let q1r : Bool := keys_known_J1_F 
          let x2 : Bool := q1r
          x2) (keys_known_J0_F (decide (c0.2.2.1 = ([99] : List Int))) c0)
      else
        bif (decide (c0.2.2.1 = ([121] : List Int))) then
          Sum.elim (fun q0r =>
            let x2 : Bool := q0r
            x2) (fun q0n =>
            let q1r : Bool := keys_known_J1_F 
            let x2 : Bool := q1r
            x2) (keys_known_J0_F (decide (c0.2.2.1 = ([121] : List Int))) c0)
        else
          bif (decide (c0.2.2.1 = ([62] : List Int))) then
            Sum.elim (fun q0r =>
              let x2 : Bool := q0r
              x2) (fun q0n =>
              let q1r : Bool := keys_known_J1_F 
              let x2 : Bool := q1r
              x2) (keys_known_J0_F (decide (c0.2.2.1 = ([62] : List Int))) c0)
          else
            bif (decide (c0.2.2.1 = ([60] : List Int))) then
              Sum.elim (fun q0r =>
                let x2 : Bool := q0r
                x2) (fun q0n =>
                let q1r : Bool := keys_known_J1_F 
                let x2 : Bool := q1r
                x2) (keys_known_J0_F (decide (c0.2.2.1 = ([60] : List Int))) c0)
            else
              bif (decide (c0.2.2.1 = ([103, 126] : List Int))) then
                Sum.elim (fun q0r =>
                  let x2 : Bool := q0r
                  x2) (fun q0n =>
                  let q1r : Bool := keys_known_J1_F 
                  let x2 : Bool := q1r
                  x2) (keys_known_J0_F (decide (c0.2.2.1 = ([103, 126] : List Int))) c0)
              else
                bif (decide (c0.2.2.1 = ([103, 117] : List Int))) then
                  Sum.elim (fun q0r =>
                    let x2 : Bool := q0r
                    x2) (fun q0n =>
                    let q1r : Bool := keys_known_J1_F 
                    let x2 : Bool := q1r
                    x2) (keys_known_J0_F (decide (c0.2.2.1 = ([103, 117] : List Int))) c0)
                else
                  Sum.elim (fun q0r =>
                    let x2 : Bool := q0r
                    x2) (fun q0n =>
                    let q1r : Bool := keys_known_J1_F 
                    let x2 : Bool := q1r
                    x2) (keys_known_J0_F (decide (c0.2.2.1 = ([103, 85] : List Int))) c0)
set_option maxRecDepth 20000 in
theorem keys_known_sp (c0 : (Int × Int × List Int × List Int × Int × List Int)) (K : Res → List Cell → Prop) (_ : wfA keys_known_A (c0, ())) (hp : keys_known_P c0) (h : ∀ r : Bool, r = keys_known_F c0 → K (.one (.v (.bool) r)) []) : keys_known_raw c0 K := by
  unfold keys_known_raw
  unfold keys_known_P at hp
  refine brb (fun c_11 => ?_) (fun c_11 => ?_)
  ·
    replace hp := cT c_11 hp
    refine ⟨hp.1, ?_⟩
    replace hp := hp.2
    intro r1 hr1
    subst hr1
    intro _
    refine brb (fun c_12 => ?_) (fun c_12 => ?_)
    ·
      clear hp
      exact h _ ((Eq.trans (ctrue c_11) (ctrue c_12)) : keys_known_F c0 = _).symm
    ·
      replace hp := cF c_12 hp
      refine ⟨hp.1, ?_⟩
      replace hp := hp.2
      intro r2 hr2
      subst hr2
      intro _
      refine brb (fun c_13 => ?_) (fun c_13 => ?_)
      ·
        clear hp
        exact h _ ((Eq.trans (ctrue c_11) (Eq.trans (cfalse c_12) (ctrue c_13))) : keys_known_F c0 = _).symm
      ·
        replace hp := cF c_13 hp
        refine ⟨hp, ?_⟩
        intro r3 hr3
        subst hr3
        intro _
        refine brb (fun c_14 => ?_) (fun c_14 => ?_)
        ·
          exact h _ ((Eq.trans (ctrue c_11) (Eq.trans (cfalse c_12) (Eq.trans (cfalse c_13) (ctrue c_14)))) : keys_known_F c0 = _).symm
        ·
          refine brb (fun c_15 => ?_) (fun c_15 => ?_)
          ·
            exact h _ ((Eq.trans (ctrue c_11) (Eq.trans (cfalse c_12) (Eq.trans (cfalse c_13) (Eq.trans (cfalse c_14) (ctrue c_15))))) : keys_known_F c0 = _).symm
          ·
            refine brb (fun c_16 => ?_) (fun c_16 => ?_)
            ·
              exact h _ ((Eq.trans (ctrue c_11) (Eq.trans (cfalse c_12) (Eq.trans (cfalse c_13) (Eq.trans (cfalse c_14) (Eq.trans (cfalse c_15) (ctrue c_16)))))) : keys_known_F c0 = _).symm
            ·
              exact h _ ((Eq.trans (ctrue c_11) (Eq.trans (cfalse c_12) (Eq.trans (cfalse c_13) (Eq.trans (cfalse c_14) (Eq.trans (cfalse c_15) (cfalse c_16)))))) : keys_known_F c0 = _).symm
  ·
    replace hp := cF c_11 hp
    refine brb (fun c_17 => ?_) (fun c_17 => ?_)
    ·
      replace hp := cT c_17 hp
      refine fun _ => keys_known_J0_sp _ _ _ _ hp (fun q hq => ?_) (fun q hq => ?_)
      ·
        have e_18 := hq
        intro _
        clear hp
        exact h _ ((Eq.trans (cfalse c_11) (Eq.trans (ctrue c_17) (selL e_18))) : keys_known_F c0 = _).symm
      ·
        have e_19 := hq
        intro _
        clear hp
        refine fun _ => keys_known_J1_sp _  (fun q hq => ?_)
        subst hq
        intro _
        exact h _ ((Eq.trans (cfalse c_11) (Eq.trans (ctrue c_17) (selR e_19))) : keys_known_F c0 = _).symm
    ·
      replace hp := cF c_17 hp
      refine brb (fun c_20 => ?_) (fun c_20 => ?_)
      ·
        replace hp := cT c_20 hp
        refine fun _ => keys_known_J0_sp _ _ _ _ hp (fun q hq => ?_) (fun q hq => ?_)
        ·
          have e_21 := hq
          intro _
          clear hp
          exact h _ ((Eq.trans (cfalse c_11) (Eq.trans (cfalse c_17) (Eq.trans (ctrue c_20) (selL e_21)))) : keys_known_F c0 = _).symm
        ·
          have e_22 := hq
          intro _
          clear hp
          refine fun _ => keys_known_J1_sp _  (fun q hq => ?_)
          subst hq
          intro _
          exact h _ ((Eq.trans (cfalse c_11) (Eq.trans (cfalse c_17) (Eq.trans (ctrue c_20) (selR e_22)))) : keys_known_F c0 = _).symm
      ·
        replace hp := cF c_20 hp
        refine brb (fun c_23 => ?_) (fun c_23 => ?_)
        ·
          replace hp := cT c_23 hp
          refine fun _ => keys_known_J0_sp _ _ _ _ hp (fun q hq => ?_) (fun q hq => ?_)
          ·
            have e_24 := hq
            intro _
            clear hp
            exact h _ ((Eq.trans (cfalse c_11) (Eq.trans (cfalse c_17) (Eq.trans (cfalse c_20) (Eq.trans (ctrue c_23) (selL e_24))))) : keys_known_F c0 = _).symm
          ·
            have e_25 := hq
            intro _
            clear hp
            refine fun _ => keys_known_J1_sp _  (fun q hq => ?_)
            subst hq
            intro _
            exact h _ ((Eq.trans (cfalse c_11) (Eq.trans (cfalse c_17) (Eq.trans (cfalse c_20) (Eq.trans (ctrue c_23) (selR e_25))))) : keys_known_F c0 = _).symm
        ·
          replace hp := cF c_23 hp
          refine brb (fun c_26 => ?_) (fun c_26 => ?_)
          ·
            replace hp := cT c_26 hp
            refine fun _ => keys_known_J0_sp _ _ _ _ hp (fun q hq => ?_) (fun q hq => ?_)
            ·
              have e_27 := hq
              intro _
              clear hp
              exact h _ ((Eq.trans (cfalse c_11) (Eq.trans (cfalse c_17) (Eq.trans (cfalse c_20) (Eq.trans (cfalse c_23) (Eq.trans (ctrue c_26) (selL e_27)))))) : keys_known_F c0 = _).symm
            ·
              have e_28 := hq
              intro _
              clear hp
              refine fun _ => keys_known_J1_sp _  (fun q hq => ?_)
              subst hq
              intro _
              exact h _ ((Eq.trans (cfalse c_11) (Eq.trans (cfalse c_17) (Eq.trans (cfalse c_20) (Eq.trans (cfalse c_23) (Eq.trans (ctrue c_26) (selR e_28)))))) : keys_known_F c0 = _).symm
          ·
            replace hp := cF c_26 hp
            refine brb (fun c_29 => ?_) (fun c_29 => ?_)
            ·
              replace hp := cT c_29 hp
              refine fun _ => keys_known_J0_sp _ _ _ _ hp (fun q hq => ?_) (fun q hq => ?_)
              ·
                have e_30 := hq
                intro _
                clear hp
                exact h _ ((Eq.trans (cfalse c_11) (Eq.trans (cfalse c_17) (Eq.trans (cfalse c_20) (Eq.trans (cfalse c_23) (Eq.trans (cfalse c_26) (Eq.trans (ctrue c_29) (selL e_30))))))) : keys_known_F c0 = _).symm
              ·
                have e_31 := hq
                intro _
                clear hp
                refine fun _ => keys_known_J1_sp _  (fun q hq => ?_)
                subst hq
                intro _
                exact h _ ((Eq.trans (cfalse c_11) (Eq.trans (cfalse c_17) (Eq.trans (cfalse c_20) (Eq.trans (cfalse c_23) (Eq.trans (cfalse c_26) (Eq.trans (ctrue c_29) (selR e_31))))))) : keys_known_F c0 = _).symm
            ·
              replace hp := cF c_29 hp
              refine brb (fun c_32 => ?_) (fun c_32 => ?_)
              ·
                replace hp := cT c_32 hp
                refine fun _ => keys_known_J0_sp _ _ _ _ hp (fun q hq => ?_) (fun q hq => ?_)
                ·
                  have e_33 := hq
                  intro _
                  clear hp
                  exact h _ ((Eq.trans (cfalse c_11) (Eq.trans (cfalse c_17) (Eq.trans (cfalse c_20) (Eq.trans (cfalse c_23) (Eq.trans (cfalse c_26) (Eq.trans (cfalse c_29) (Eq.trans (ctrue c_32) (selL e_33)))))))) : keys_known_F c0 = _).symm
                ·
                  have e_34 := hq
                  intro _
                  clear hp
                  refine fun _ => keys_known_J1_sp _  (fun q hq => ?_)
                  subst hq
                  intro _
                  exact h _ ((Eq.trans (cfalse c_11) (Eq.trans (cfalse c_17) (Eq.trans (cfalse c_20) (Eq.trans (cfalse c_23) (Eq.trans (cfalse c_26) (Eq.trans (cfalse c_29) (Eq.trans (ctrue c_32) (selR e_34)))))))) : keys_known_F c0 = _).symm
              ·
                replace hp := cF c_32 hp
                refine brb (fun c_35 => ?_) (fun c_35 => ?_)
                ·
                  replace hp := cT c_35 hp
                  refine fun _ => keys_known_J0_sp _ _ _ _ hp (fun q hq => ?_) (fun q hq => ?_)
                  ·
                    have e_36 := hq
                    intro _
                    clear hp
                    exact h _ ((Eq.trans (cfalse c_11) (Eq.trans (cfalse c_17) (Eq.trans (cfalse c_20) (Eq.trans (cfalse c_23) (Eq.trans (cfalse c_26) (Eq.trans (cfalse c_29) (Eq.trans (cfalse c_32) (Eq.trans (ctrue c_35) (selL e_36))))))))) : keys_known_F c0 = _).symm
                  ·
                    have e_37 := hq
                    intro _
                    clear hp
                    refine fun _ => keys_known_J1_sp _  (fun q hq => ?_)
                    subst hq
                    intro _
                    exact h _ ((Eq.trans (cfalse c_11) (Eq.trans (cfalse c_17) (Eq.trans (cfalse c_20) (Eq.trans (cfalse c_23) (Eq.trans (cfalse c_26) (Eq.trans (cfalse c_29) (Eq.trans (cfalse c_32) (Eq.trans (ctrue c_35) (selR e_37))))))))) : keys_known_F c0 = _).symm
                ·
                  replace hp := cF c_35 hp
                  refine fun _ => keys_known_J0_sp _ _ _ _ hp (fun q hq => ?_) (fun q hq => ?_)
                  ·
                    have e_38 := hq
                    intro _
                    clear hp
                    exact h _ ((Eq.trans (cfalse c_11) (Eq.trans (cfalse c_17) (Eq.trans (cfalse c_20) (Eq.trans (cfalse c_23) (Eq.trans (cfalse c_26) (Eq.trans (cfalse c_29) (Eq.trans (cfalse c_32) (Eq.trans (cfalse c_35) (selL e_38))))))))) : keys_known_F c0 = _).symm
                  ·
                    have e_39 := hq
                    intro _
                    clear hp
                    refine fun _ => keys_known_J1_sp _  (fun q hq => ?_)
                    subst hq
                    intro _
                    exact h _ ((Eq.trans (cfalse c_11) (Eq.trans (cfalse c_17) (Eq.trans (cfalse c_20) (Eq.trans (cfalse c_23) (Eq.trans (cfalse c_26) (Eq.trans (cfalse c_29) (Eq.trans (cfalse c_32) (Eq.trans (cfalse c_35) (selR e_39))))))))) : keys_known_F c0 = _).symm
def keys_known_C (v : valsA keys_known_A) (K : Res → List Cell → Prop) : Prop := keys_known_P v.1 ∧ ∀ r : Bool, r = keys_known_F v.1 → K (.one (.v (.bool) r)) []
def keys_known_S : App := specW keys_known_A keys_known_C
theorem keys_known_wv (K : Res → List Cell → Prop) : ∀ v : valsA keys_known_A, runF tb (getG keys_known_G) keys_known_B1 Tryd.f48 [true] (mkA keys_known_A v) K = keys_known_raw v.1 K
  | (c0, ()) => keys_known_walk c0 K
set_option maxRecDepth 20000 in
theorem keys_known_ok : AppOk Tryd.prog 48 keys_known_S :=
  AppOk.specW (spec_ok (runF_ok tb_M tb_ok keys_known_Gok (keys_known_b1) (f := 48) (fn := Tryd.f48) (by kernel_rfl) (by kernel_rfl) keys_known_st [true]) fun v K hw h => (keys_known_wv K v).mpr (keys_known_sp v.1 K hw h.1 h.2))

end Go.VE
namespace Go.VE
open Go Go.Proofs
/-! ### quoin/keys.wants -/
def keys_wants_G : List (Nat × App) := [(49, keys_one_S)]
theorem keys_wants_Gok : GOk Tryd.prog (getG keys_wants_G) := GOk.cons keys_one_ok (GOk.nil)
def keys_wants_raw (c0 : (Int × Int × List Int × List Int × Int × List Int)) (K : Res → List Cell → Prop) : Prop :=
  keys_one_P c0.2.2.2.1 ([102, 70, 116, 84, 96, 39] : List Int) ∧ (
  ∀ (r1 : Bool), r1 = keys_one_F c0.2.2.2.1 ([102, 70, 116, 84, 96, 39] : List Int) → (
  wfR (.one (.v (.bool) r1)) → (
  bif r1 then
    K (.one (.v (.bool) true)) []
  else
  bif (decide (c0.2.2.1 = ([] : List Int))) then
    keys_one_P c0.2.2.2.1 ([114, 109] : List Int) ∧ (
    ∀ (r2 : Bool), r2 = keys_one_F c0.2.2.2.1 ([114, 109] : List Int) → (
    wfR (.one (.v (.bool) r2)) → (
    K (.one (.v (.bool) r2)) [])))
  else
    K (.one (.v (.bool) false)) [])))
def keys_wants_A : List AS := [.v (.st (.pair (.int .u8) (.pair (.int .i64) (.pair (.str) (.pair (.str) (.pair (.int .u8) (.sl (.int .u8))))))))]
theorem keys_wants_walk (c0 : (Int × Int × List Int × List Int × Int × List Int)) (K : Res → List Cell → Prop) : runF tb (getG keys_wants_G) [] Tryd.f36 [true] (mkA keys_wants_A (c0, ())) K = keys_wants_raw c0 K := by kernel_rfl

def keys_wants_P (c0 : (Int × Int × List Int × List Int × Int × List Int)) : Prop :=
  keys_one_P c0.2.2.2.1 ([102, 70, 116, 84, 96, 39] : List Int) ∧ (
  let r1 : Bool := keys_one_F c0.2.2.2.1 ([102, 70, 116, 84, 96, 39] : List Int)
  bif r1 then
    True
  else
    bif (decide (c0.2.2.1 = ([] : List Int))) then
      keys_one_P c0.2.2.2.1 ([114, 109] : List Int)
    else
      True)
def keys_wants_F (c0 : (Int × Int × List Int × List Int × Int × List Int)) : Bool :=
  let r1 : Bool := keys_one_F c0.2.2.2.1 ([102, 70, 116, 84, 96, 39] : List Int)
  bif r1 then
    true
  else
    bif (decide (c0.2.2.1 = ([] : List Int))) then
      let r2 : Bool := keys_one_F c0.2.2.2.1 ([114, 109] : List Int)
      r2
    else
      false
set_option maxRecDepth 20000 in
theorem keys_wants_sp (c0 : (Int × Int × List Int × List Int × Int × List Int)) (K : Res → List Cell → Prop) (_ : wfA keys_wants_A (c0, ())) (hp : keys_wants_P c0) (h : ∀ r : Bool, r = keys_wants_F c0 → K (.one (.v (.bool) r)) []) : keys_wants_raw c0 K := by
  unfold keys_wants_raw
  unfold keys_wants_P at hp
  refine ⟨hp.1, ?_⟩
  replace hp := hp.2
  intro r1 hr1
  subst hr1
  intro _
  refine brb (fun c_1 => ?_) (fun c_1 => ?_)
  ·
    clear hp
    exact h _ ((ctrue c_1) : keys_wants_F c0 = _).symm
  ·
    replace hp := cF c_1 hp
    refine brb (fun c_2 => ?_) (fun c_2 => ?_)
    ·
      replace hp := cT c_2 hp
      refine ⟨hp, ?_⟩
      intro r2 hr2
      subst hr2
      intro _
      exact h _ ((Eq.trans (cfalse c_1) (ctrue c_2)) : keys_wants_F c0 = _).symm
    ·
      clear hp
      exact h _ ((Eq.trans (cfalse c_1) (cfalse c_2)) : keys_wants_F c0 = _).symm
def keys_wants_C (v : valsA keys_wants_A) (K : Res → List Cell → Prop) : Prop := keys_wants_P v.1 ∧ ∀ r : Bool, r = keys_wants_F v.1 → K (.one (.v (.bool) r)) []
def keys_wants_S : App := specW keys_wants_A keys_wants_C
theorem keys_wants_wv (K : Res → List Cell → Prop) : ∀ v : valsA keys_wants_A, runF tb (getG keys_wants_G) [] Tryd.f36 [true] (mkA keys_wants_A v) K = keys_wants_raw v.1 K
  | (c0, ()) => keys_wants_walk c0 K
set_option maxRecDepth 20000 in
theorem keys_wants_ok : AppOk Tryd.prog 36 keys_wants_S :=
  AppOk.specW (spec_ok (runF_ok tb_M tb_ok keys_wants_Gok (LabsOk.nil) (f := 36) (fn := Tryd.f36) (by kernel_rfl) (by kernel_rfl) (by kernel_rfl) [true]) fun v K hw h => (keys_wants_wv K v).mpr (keys_wants_sp v.1 K hw h.1 h.2))

end Go.VE
namespace Go.VE
open Go Go.Proofs
/-! ### quoin/keys.is -/
def keys_is_G : List (Nat × App) := [(29, bank_Valid_S), (48, keys_known_S), (36, keys_wants_S)]
theorem keys_is_Gok : GOk Tryd.prog (getG keys_is_G) := GOk.cons bank_Valid_ok (GOk.cons keys_known_ok (GOk.cons keys_wants_ok (GOk.nil)))
def keys_is_raw (c0 : (Int × Int × List Int × List Int × Int × List Int)) (K : Res → List Cell → Prop) : Prop :=
  ∀ (r1 : Bool), r1 = bank_Valid_F c0.1 → (
  wfR (.one (.v (.bool) r1)) → (
  bif (!r1) then
    K (.one (.v (.bool) false)) []
  else
  bif (decide (c0.2.1 < (0 : Int))) then
    K (.one (.v (.bool) false)) []
  else
  bif (decide ((9999 : Int) < c0.2.1)) then
    K (.one (.v (.bool) false)) []
  else
    keys_known_P c0 ∧ (
    ∀ (r2 : Bool), r2 = keys_known_F c0 → (
    wfR (.one (.v (.bool) r2)) → (
    bif (!r2) then
      K (.one (.v (.bool) false)) []
    else
      keys_wants_P c0 ∧ (
      ∀ (r3 : Bool), r3 = keys_wants_F c0 → (
      wfR (.one (.v (.bool) r3)) → (
      bif r3 then
        bif (decide (c0.2.2.2.2.1 = (27 : Int))) then
          K (.one (.v (.bool) false)) []
        else
          keys_wants_P c0 ∧ (
          ∀ (r4 : Bool), r4 = keys_wants_F c0 → (
          wfR (.one (.v (.bool) r4)) → (
          bif (!r4) then
            bif (!decide (c0.2.2.2.2.1 = (0 : Int))) then
              K (.one (.v (.bool) false)) []
            else
            bif (decide (c0.2.2.1 = ([] : List Int))) then
              bif (decide (c0.2.2.2.1 = ([48] : List Int))) then
                bif (decide ((0 : Int) < c0.2.1)) then
                  K (.one (.v (.bool) false)) []
                else
                bif (decide ((List.length c0.2.2.2.2.2 : Int) = (0 : Int))) then
                  K (.one (.v (.bool) true)) []
                else
                bif (decide (c0.2.2.2.1 = ([47] : List Int))) then
                  K (.one (.v (.bool) true)) []
                else
                bif (decide (c0.2.2.2.1 = ([63] : List Int))) then
                  K (.one (.v (.bool) true)) []
                else
                  K (.one (.v (.bool) (decide (c0.2.2.2.1 = ([58] : List Int))))) []
              else
              bif (decide ((List.length c0.2.2.2.2.2 : Int) = (0 : Int))) then
                K (.one (.v (.bool) true)) []
              else
              bif (decide (c0.2.2.2.1 = ([47] : List Int))) then
                K (.one (.v (.bool) true)) []
              else
              bif (decide (c0.2.2.2.1 = ([63] : List Int))) then
                K (.one (.v (.bool) true)) []
              else
                K (.one (.v (.bool) (decide (c0.2.2.2.1 = ([58] : List Int))))) []
            else
            bif (decide ((List.length c0.2.2.2.2.2 : Int) = (0 : Int))) then
              K (.one (.v (.bool) true)) []
            else
            bif (decide (c0.2.2.2.1 = ([47] : List Int))) then
              K (.one (.v (.bool) true)) []
            else
            bif (decide (c0.2.2.2.1 = ([63] : List Int))) then
              K (.one (.v (.bool) true)) []
            else
              K (.one (.v (.bool) (decide (c0.2.2.2.1 = ([58] : List Int))))) []
          else
          bif (decide (c0.2.2.1 = ([] : List Int))) then
            bif (decide (c0.2.2.2.1 = ([48] : List Int))) then
              bif (decide ((0 : Int) < c0.2.1)) then
                K (.one (.v (.bool) false)) []
              else
              bif (decide ((List.length c0.2.2.2.2.2 : Int) = (0 : Int))) then
                K (.one (.v (.bool) true)) []
              else
              bif (decide (c0.2.2.2.1 = ([47] : List Int))) then
                K (.one (.v (.bool) true)) []
              else
              bif (decide (c0.2.2.2.1 = ([63] : List Int))) then
                K (.one (.v (.bool) true)) []
              else
                K (.one (.v (.bool) (decide (c0.2.2.2.1 = ([58] : List Int))))) []
            else
            bif (decide ((List.length c0.2.2.2.2.2 : Int) = (0 : Int))) then
              K (.one (.v (.bool) true)) []
            else
            bif (decide (c0.2.2.2.1 = ([47] : List Int))) then
              K (.one (.v (.bool) true)) []
            else
            bif (decide (c0.2.2.2.1 = ([63] : List Int))) then
              K (.one (.v (.bool) true)) []
            else
              K (.one (.v (.bool) (decide (c0.2.2.2.1 = ([58] : List Int))))) []
          else
          bif (decide ((List.length c0.2.2.2.2.2 : Int) = (0 : Int))) then
            K (.one (.v (.bool) true)) []
          else
          bif (decide (c0.2.2.2.1 = ([47] : List Int))) then
            K (.one (.v (.bool) true)) []
          else
          bif (decide (c0.2.2.2.1 = ([63] : List Int))) then
            K (.one (.v (.bool) true)) []
          else
            K (.one (.v (.bool) (decide (c0.2.2.2.1 = ([58] : List Int))))) [])))
      else
        keys_wants_P c0 ∧ (
        ∀ (r5 : Bool), r5 = keys_wants_F c0 → (
        wfR (.one (.v (.bool) r5)) → (
        bif (!r5) then
          bif (!decide (c0.2.2.2.2.1 = (0 : Int))) then
            K (.one (.v (.bool) false)) []
          else
          bif (decide (c0.2.2.1 = ([] : List Int))) then
            bif (decide (c0.2.2.2.1 = ([48] : List Int))) then
              bif (decide ((0 : Int) < c0.2.1)) then
                K (.one (.v (.bool) false)) []
              else
              bif (decide ((List.length c0.2.2.2.2.2 : Int) = (0 : Int))) then
                K (.one (.v (.bool) true)) []
              else
              bif (decide (c0.2.2.2.1 = ([47] : List Int))) then
                K (.one (.v (.bool) true)) []
              else
              bif (decide (c0.2.2.2.1 = ([63] : List Int))) then
                K (.one (.v (.bool) true)) []
              else
                K (.one (.v (.bool) (decide (c0.2.2.2.1 = ([58] : List Int))))) []
            else
            bif (decide ((List.length c0.2.2.2.2.2 : Int) = (0 : Int))) then
              K (.one (.v (.bool) true)) []
            else
            bif (decide (c0.2.2.2.1 = ([47] : List Int))) then
              K (.one (.v (.bool) true)) []
            else
            bif (decide (c0.2.2.2.1 = ([63] : List Int))) then
              K (.one (.v (.bool) true)) []
            else
              K (.one (.v (.bool) (decide (c0.2.2.2.1 = ([58] : List Int))))) []
          else
          bif (decide ((List.length c0.2.2.2.2.2 : Int) = (0 : Int))) then
            K (.one (.v (.bool) true)) []
          else
          bif (decide (c0.2.2.2.1 = ([47] : List Int))) then
            K (.one (.v (.bool) true)) []
          else
          bif (decide (c0.2.2.2.1 = ([63] : List Int))) then
            K (.one (.v (.bool) true)) []
          else
            K (.one (.v (.bool) (decide (c0.2.2.2.1 = ([58] : List Int))))) []
        else
        bif (decide (c0.2.2.1 = ([] : List Int))) then
          bif (decide (c0.2.2.2.1 = ([48] : List Int))) then
            bif (decide ((0 : Int) < c0.2.1)) then
              K (.one (.v (.bool) false)) []
            else
            bif (decide ((List.length c0.2.2.2.2.2 : Int) = (0 : Int))) then
              K (.one (.v (.bool) true)) []
            else
            bif (decide (c0.2.2.2.1 = ([47] : List Int))) then
              K (.one (.v (.bool) true)) []
            else
            bif (decide (c0.2.2.2.1 = ([63] : List Int))) then
              K (.one (.v (.bool) true)) []
            else
              K (.one (.v (.bool) (decide (c0.2.2.2.1 = ([58] : List Int))))) []
          else
          bif (decide ((List.length c0.2.2.2.2.2 : Int) = (0 : Int))) then
            K (.one (.v (.bool) true)) []
          else
          bif (decide (c0.2.2.2.1 = ([47] : List Int))) then
            K (.one (.v (.bool) true)) []
          else
          bif (decide (c0.2.2.2.1 = ([63] : List Int))) then
            K (.one (.v (.bool) true)) []
          else
            K (.one (.v (.bool) (decide (c0.2.2.2.1 = ([58] : List Int))))) []
        else
        bif (decide ((List.length c0.2.2.2.2.2 : Int) = (0 : Int))) then
          K (.one (.v (.bool) true)) []
        else
        bif (decide (c0.2.2.2.1 = ([47] : List Int))) then
          K (.one (.v (.bool) true)) []
        else
        bif (decide (c0.2.2.2.1 = ([63] : List Int))) then
          K (.one (.v (.bool) true)) []
        else
          K (.one (.v (.bool) (decide (c0.2.2.2.1 = ([58] : List Int))))) [])))))))))))
def keys_is_A : List AS := [.v (.st (.pair (.int .u8) (.pair (.int .i64) (.pair (.str) (.pair (.str) (.pair (.int .u8) (.sl (.int .u8))))))))]
theorem keys_is_walk (c0 : (Int × Int × List Int × List Int × Int × List Int)) (K : Res → List Cell → Prop) : runF tb (getG keys_is_G) [] Tryd.f35 [true] (mkA keys_is_A (c0, ())) K = keys_is_raw c0 K := by kernel_rfl

def keys_is_P (c0 : (Int × Int × List Int × List Int × Int × List Int)) : Prop :=
  let r1 : Bool := bank_Valid_F c0.1
  bif (!r1) then
    True
  else
    bif (decide (c0.2.1 < (0 : Int))) then
      True
    else
      bif (decide ((9999 : Int) < c0.2.1)) then
        True
      else
        keys_known_P c0 ∧ (
        let r2 : Bool := keys_known_F c0
        bif (!r2) then
          True
        else
          keys_wants_P c0 ∧ (
          let r3 : Bool := keys_wants_F c0
          bif r3 then
            bif (decide (c0.2.2.2.2.1 = (27 : Int))) then
              True
            else
              keys_wants_P c0
          else
            keys_wants_P c0))
def keys_is_F (c0 : (Int × Int × List Int × List Int × Int × List Int)) : Bool :=
  let r1 : Bool := bank_Valid_F c0.1
  bif (!r1) then
    false
  else
    bif (decide (c0.2.1 < (0 : Int))) then
      false
    else
      bif (decide ((9999 : Int) < c0.2.1)) then
        false
      else
        let r2 : Bool := keys_known_F c0
        bif (!r2) then
          false
        else
          let r3 : Bool := keys_wants_F c0
          bif r3 then
            bif (decide (c0.2.2.2.2.1 = (27 : Int))) then
              false
            else
              let r4 : Bool := keys_wants_F c0
              bif (!r4) then
                bif (!decide (c0.2.2.2.2.1 = (0 : Int))) then
                  false
                else
                  bif (decide (c0.2.2.1 = ([] : List Int))) then
                    bif (decide (c0.2.2.2.1 = ([48] : List Int))) then
                      bif (decide ((0 : Int) < c0.2.1)) then
                        false
                      else
                        bif (decide ((List.length c0.2.2.2.2.2 : Int) = (0 : Int))) then
                          true
                        else
                          bif (decide (c0.2.2.2.1 = ([47] : List Int))) then
                            true
                          else
                            bif (decide (c0.2.2.2.1 = ([63] : List Int))) then
                              true
                            else
                              (decide (c0.2.2.2.1 = ([58] : List Int)))
                    else
                      bif (decide ((List.length c0.2.2.2.2.2 : Int) = (0 : Int))) then
                        true
                      else
                        bif (decide (c0.2.2.2.1 = ([47] : List Int))) then
                          true
                        else
                          bif (decide (c0.2.2.2.1 = ([63] : List Int))) then
                            true
                          else
                            (decide (c0.2.2.2.1 = ([58] : List Int)))
                  else
                    bif (decide ((List.length c0.2.2.2.2.2 : Int) = (0 : Int))) then
                      true
                    else
                      bif (decide (c0.2.2.2.1 = ([47] : List Int))) then
                        true
                      else
                        bif (decide (c0.2.2.2.1 = ([63] : List Int))) then
                          true
                        else
                          (decide (c0.2.2.2.1 = ([58] : List Int)))
              else
                bif (decide (c0.2.2.1 = ([] : List Int))) then
                  bif (decide (c0.2.2.2.1 = ([48] : List Int))) then
                    bif (decide ((0 : Int) < c0.2.1)) then
                      false
                    else
                      bif (decide ((List.length c0.2.2.2.2.2 : Int) = (0 : Int))) then
                        true
                      else
                        bif (decide (c0.2.2.2.1 = ([47] : List Int))) then
                          true
                        else
                          bif (decide (c0.2.2.2.1 = ([63] : List Int))) then
                            true
                          else
                            (decide (c0.2.2.2.1 = ([58] : List Int)))
                  else
                    bif (decide ((List.length c0.2.2.2.2.2 : Int) = (0 : Int))) then
                      true
                    else
                      bif (decide (c0.2.2.2.1 = ([47] : List Int))) then
                        true
                      else
                        bif (decide (c0.2.2.2.1 = ([63] : List Int))) then
                          true
                        else
                          (decide (c0.2.2.2.1 = ([58] : List Int)))
                else
                  bif (decide ((List.length c0.2.2.2.2.2 : Int) = (0 : Int))) then
                    true
                  else
                    bif (decide (c0.2.2.2.1 = ([47] : List Int))) then
                      true
                    else
                      bif (decide (c0.2.2.2.1 = ([63] : List Int))) then
                        true
                      else
                        (decide (c0.2.2.2.1 = ([58] : List Int)))
          else
            let r5 : Bool := keys_wants_F c0
            bif (!r5) then
              bif (!decide (c0.2.2.2.2.1 = (0 : Int))) then
                false
              else
                bif (decide (c0.2.2.1 = ([] : List Int))) then
                  bif (decide (c0.2.2.2.1 = ([48] : List Int))) then
                    bif (decide ((0 : Int) < c0.2.1)) then
                      false
                    else
                      bif (decide ((List.length c0.2.2.2.2.2 : Int) = (0 : Int))) then
                        true
                      else
                        bif (decide (c0.2.2.2.1 = ([47] : List Int))) then
                          true
                        else
                          bif (decide (c0.2.2.2.1 = ([63] : List Int))) then
                            true
                          else
                            (decide (c0.2.2.2.1 = ([58] : List Int)))
                  else
                    bif (decide ((List.length c0.2.2.2.2.2 : Int) = (0 : Int))) then
                      true
                    else
                      bif (decide (c0.2.2.2.1 = ([47] : List Int))) then
                        true
                      else
                        bif (decide (c0.2.2.2.1 = ([63] : List Int))) then
                          true
                        else
                          (decide (c0.2.2.2.1 = ([58] : List Int)))
                else
                  bif (decide ((List.length c0.2.2.2.2.2 : Int) = (0 : Int))) then
                    true
                  else
                    bif (decide (c0.2.2.2.1 = ([47] : List Int))) then
                      true
                    else
                      bif (decide (c0.2.2.2.1 = ([63] : List Int))) then
                        true
                      else
                        (decide (c0.2.2.2.1 = ([58] : List Int)))
            else
              bif (decide (c0.2.2.1 = ([] : List Int))) then
                bif (decide (c0.2.2.2.1 = ([48] : List Int))) then
                  bif (decide ((0 : Int) < c0.2.1)) then
                    false
                  else
                    bif (decide ((List.length c0.2.2.2.2.2 : Int) = (0 : Int))) then
                      true
                    else
                      bif (decide (c0.2.2.2.1 = ([47] : List Int))) then
                        true
                      else
                        bif (decide (c0.2.2.2.1 = ([63] : List Int))) then
                          true
                        else
                          (decide (c0.2.2.2.1 = ([58] : List Int)))
                else
                  bif (decide ((List.length c0.2.2.2.2.2 : Int) = (0 : Int))) then
                    true
                  else
                    bif (decide (c0.2.2.2.1 = ([47] : List Int))) then
                      true
                    else
                      bif (decide (c0.2.2.2.1 = ([63] : List Int))) then
                        true
                      else
                        (decide (c0.2.2.2.1 = ([58] : List Int)))
              else
                bif (decide ((List.length c0.2.2.2.2.2 : Int) = (0 : Int))) then
                  true
                else
                  bif (decide (c0.2.2.2.1 = ([47] : List Int))) then
                    true
                  else
                    bif (decide (c0.2.2.2.1 = ([63] : List Int))) then
                      true
                    else
                      (decide (c0.2.2.2.1 = ([58] : List Int)))
set_option maxRecDepth 20000 in
theorem keys_is_sp (c0 : (Int × Int × List Int × List Int × Int × List Int)) (K : Res → List Cell → Prop) (_ : wfA keys_is_A (c0, ())) (hp : keys_is_P c0) (h : ∀ r : Bool, r = keys_is_F c0 → K (.one (.v (.bool) r)) []) : keys_is_raw c0 K := by
  unfold keys_is_raw
  unfold keys_is_P at hp
  intro r1 hr1
  subst hr1
  intro _
  refine brb (fun c_1 => ?_) (fun c_1 => ?_)
  ·
    clear hp
    exact h _ ((ctrue c_1) : keys_is_F c0 = _).symm
  ·
    replace hp := cF c_1 hp
    refine brb (fun c_2 => ?_) (fun c_2 => ?_)
    ·
      clear hp
      exact h _ ((Eq.trans (cfalse c_1) (ctrue c_2)) : keys_is_F c0 = _).symm
    ·
      replace hp := cF c_2 hp
      refine brb (fun c_3 => ?_) (fun c_3 => ?_)
      ·
        clear hp
        exact h _ ((Eq.trans (cfalse c_1) (Eq.trans (cfalse c_2) (ctrue c_3))) : keys_is_F c0 = _).symm
      ·
        replace hp := cF c_3 hp
        refine ⟨hp.1, ?_⟩
        replace hp := hp.2
        intro r2 hr2
        subst hr2
        intro _
        refine brb (fun c_4 => ?_) (fun c_4 => ?_)
        ·
          clear hp
          exact h _ ((Eq.trans (cfalse c_1) (Eq.trans (cfalse c_2) (Eq.trans (cfalse c_3) (ctrue c_4)))) : keys_is_F c0 = _).symm
        ·
          replace hp := cF c_4 hp
          refine ⟨hp.1, ?_⟩
          replace hp := hp.2
          intro r3 hr3
          subst hr3
          intro _
          refine brb (fun c_5 => ?_) (fun c_5 => ?_)
          ·
            replace hp := cT c_5 hp
            refine brb (fun c_6 => ?_) (fun c_6 => ?_)
            ·
              clear hp
              exact h _ ((Eq.trans (cfalse c_1) (Eq.trans (cfalse c_2) (Eq.trans (cfalse c_3) (Eq.trans (cfalse c_4) (Eq.trans (ctrue c_5) (ctrue c_6)))))) : keys_is_F c0 = _).symm
            ·
              replace hp := cF c_6 hp
              refine ⟨hp, ?_⟩
              intro r4 hr4
              subst hr4
              intro _
              refine brb (fun c_7 => ?_) (fun c_7 => ?_)
              ·
                refine brb (fun c_8 => ?_) (fun c_8 => ?_)
                ·
                  exact h _ ((Eq.trans (cfalse c_1) (Eq.trans (cfalse c_2) (Eq.trans (cfalse c_3) (Eq.trans (cfalse c_4) (Eq.trans (ctrue c_5) (Eq.trans (cfalse c_6) (Eq.trans (ctrue c_7) (ctrue c_8)))))))) : keys_is_F c0 = _).symm
                ·
                  refine brb (fun c_9 => ?_) (fun c_9 => ?_)
                  ·
                    refine brb (fun c_10 => ?_) (fun c_10 => ?_)
                    ·
                      refine brb (fun c_11 => ?_) (fun c_11 => ?_)
                      ·
                        exact h _ ((Eq.trans (cfalse c_1) (Eq.trans (cfalse c_2) (Eq.trans (cfalse c_3) (Eq.trans (cfalse c_4) (Eq.trans (ctrue c_5) (Eq.trans (cfalse c_6) (Eq.trans (ctrue c_7) (Eq.trans (cfalse c_8) (Eq.trans (ctrue c_9) (Eq.trans (ctrue c_10) (ctrue c_11))))))))))) : keys_is_F c0 = _).symm
                      ·
                        refine brb (fun c_12 => ?_) (fun c_12 => ?_)
                        ·
                          exact h _ ((Eq.trans (cfalse c_1) (Eq.trans (cfalse c_2) (Eq.trans (cfalse c_3) (Eq.trans (cfalse c_4) (Eq.trans (ctrue c_5) (Eq.trans (cfalse c_6) (Eq.trans (ctrue c_7) (Eq.trans (cfalse c_8) (Eq.trans (ctrue c_9) (Eq.trans (ctrue c_10) (Eq.trans (cfalse c_11) (ctrue c_12)))))))))))) : keys_is_F c0 = _).symm
                        ·
                          refine brb (fun c_13 => ?_) (fun c_13 => ?_)
                          ·
                            exact h _ ((Eq.trans (cfalse c_1) (Eq.trans (cfalse c_2) (Eq.trans (cfalse c_3) (Eq.trans (cfalse c_4) (Eq.trans (ctrue c_5) (Eq.trans (cfalse c_6) (Eq.trans (ctrue c_7) (Eq.trans (cfalse c_8) (Eq.trans (ctrue c_9) (Eq.trans (ctrue c_10) (Eq.trans (cfalse c_11) (Eq.trans (cfalse c_12) (ctrue c_13))))))))))))) : keys_is_F c0 = _).symm
                          ·
                            refine brb (fun c_14 => ?_) (fun c_14 => ?_)
                            ·
                              exact h _ ((Eq.trans (cfalse c_1) (Eq.trans (cfalse c_2) (Eq.trans (cfalse c_3) (Eq.trans (cfalse c_4) (Eq.trans (ctrue c_5) (Eq.trans (cfalse c_6) (Eq.trans (ctrue c_7) (Eq.trans (cfalse c_8) (Eq.trans (ctrue c_9) (Eq.trans (ctrue c_10) (Eq.trans (cfalse c_11) (Eq.trans (cfalse c_12) (Eq.trans (cfalse c_13) (ctrue c_14)))))))))))))) : keys_is_F c0 = _).symm
                            ·
                              exact h _ ((Eq.trans (cfalse c_1) (Eq.trans (cfalse c_2) (Eq.trans (cfalse c_3) (Eq.trans (cfalse c_4) (Eq.trans (ctrue c_5) (Eq.trans (cfalse c_6) (Eq.trans (ctrue c_7) (Eq.trans (cfalse c_8) (Eq.trans (ctrue c_9) (Eq.trans (ctrue c_10) (Eq.trans (cfalse c_11) (Eq.trans (cfalse c_12) (Eq.trans (cfalse c_13) (cfalse c_14)))))))))))))) : keys_is_F c0 = _).symm
                    ·
                      refine brb (fun c_15 => ?_) (fun c_15 => ?_)
                      ·
                        exact h _ ((Eq.trans (cfalse c_1) (Eq.trans (cfalse c_2) (Eq.trans (cfalse c_3) (Eq.trans (cfalse c_4) (Eq.trans (ctrue c_5) (Eq.trans (cfalse c_6) (Eq.trans (ctrue c_7) (Eq.trans (cfalse c_8) (Eq.trans (ctrue c_9) (Eq.trans (cfalse c_10) (ctrue c_15))))))))))) : keys_is_F c0 = _).symm
                      ·
                        refine brb (fun c_16 => ?_) (fun c_16 => ?_)
                        ·
                          exact h _ ((Eq.trans (cfalse c_1) (Eq.trans (cfalse c_2) (Eq.trans (cfalse c_3) (Eq.trans (cfalse c_4) (Eq.trans (ctrue c_5) (Eq.trans (cfalse c_6) (Eq.trans (ctrue c_7) (Eq.trans (cfalse c_8) (Eq.trans (ctrue c_9) (Eq.trans (cfalse c_10) (Eq.trans (cfalse c_15) (ctrue c_16)))))))))))) : keys_is_F c0 = _).symm
                        ·
                          refine brb (fun c_17 => ?_) (fun c_17 => ?_)
                          ·
                            exact h _ ((Eq.trans (cfalse c_1) (Eq.trans (cfalse c_2) (Eq.trans (cfalse c_3) (Eq.trans (cfalse c_4) (Eq.trans (ctrue c_5) (Eq.trans (cfalse c_6) (Eq.trans (ctrue c_7) (Eq.trans (cfalse c_8) (Eq.trans (ctrue c_9) (Eq.trans (cfalse c_10) (Eq.trans (cfalse c_15) (Eq.trans (cfalse c_16) (ctrue c_17))))))))))))) : keys_is_F c0 = _).symm
                          ·
                            exact h _ ((Eq.trans (cfalse c_1) (Eq.trans (cfalse c_2) (Eq.trans (cfalse c_3) (Eq.trans (cfalse c_4) (Eq.trans (ctrue c_5) (Eq.trans (cfalse c_6) (Eq.trans (ctrue c_7) (Eq.trans (cfalse c_8) (Eq.trans (ctrue c_9) (Eq.trans (cfalse c_10) (Eq.trans (cfalse c_15) (Eq.trans (cfalse c_16) (cfalse c_17))))))))))))) : keys_is_F c0 = _).symm
                  ·
                    refine brb (fun c_18 => ?_) (fun c_18 => ?_)
                    ·
                      exact h _ ((Eq.trans (cfalse c_1) (Eq.trans (cfalse c_2) (Eq.trans (cfalse c_3) (Eq.trans (cfalse c_4) (Eq.trans (ctrue c_5) (Eq.trans (cfalse c_6) (Eq.trans (ctrue c_7) (Eq.trans (cfalse c_8) (Eq.trans (cfalse c_9) (ctrue c_18)))))))))) : keys_is_F c0 = _).symm
                    ·
                      refine brb (fun c_19 => ?_) (fun c_19 => ?_)
                      ·
                        exact h _ ((Eq.trans (cfalse c_1) (Eq.trans (cfalse c_2) (Eq.trans (cfalse c_3) (Eq.trans (cfalse c_4) (Eq.trans (ctrue c_5) (Eq.trans (cfalse c_6) (Eq.trans (ctrue c_7) (Eq.trans (cfalse c_8) (Eq.trans (cfalse c_9) (Eq.trans (cfalse c_18) (ctrue c_19))))))))))) : keys_is_F c0 = _).symm
                      ·
                        refine brb (fun c_20 => ?_) (fun c_20 => ?_)
                        ·
                          exact h _ ((Eq.trans (cfalse c_1) (Eq.trans (cfalse c_2) (Eq.trans (cfalse c_3) (Eq.trans (cfalse c_4) (Eq.trans (ctrue c_5) (Eq.trans (cfalse c_6) (Eq.trans (ctrue c_7) (Eq.trans (cfalse c_8) (Eq.trans (cfalse c_9) (Eq.trans (cfalse c_18) (Eq.trans (cfalse c_19) (ctrue c_20)))))))))))) : keys_is_F c0 = _).symm
                        ·
                          exact h _ ((Eq.trans (cfalse c_1) (Eq.trans (cfalse c_2) (Eq.trans (cfalse c_3) (Eq.trans (cfalse c_4) (Eq.trans (ctrue c_5) (Eq.trans (cfalse c_6) (Eq.trans (ctrue c_7) (Eq.trans (cfalse c_8) (Eq.trans (cfalse c_9) (Eq.trans (cfalse c_18) (Eq.trans (cfalse c_19) (cfalse c_20)))))))))))) : keys_is_F c0 = _).symm
              ·
                refine brb (fun c_21 => ?_) (fun c_21 => ?_)
                ·
                  refine brb (fun c_22 => ?_) (fun c_22 => ?_)
                  ·
                    refine brb (fun c_23 => ?_) (fun c_23 => ?_)
                    ·
                      exact h _ ((Eq.trans (cfalse c_1) (Eq.trans (cfalse c_2) (Eq.trans (cfalse c_3) (Eq.trans (cfalse c_4) (Eq.trans (ctrue c_5) (Eq.trans (cfalse c_6) (Eq.trans (cfalse c_7) (Eq.trans (ctrue c_21) (Eq.trans (ctrue c_22) (ctrue c_23)))))))))) : keys_is_F c0 = _).symm
                    ·
                      refine brb (fun c_24 => ?_) (fun c_24 => ?_)
                      ·
                        exact h _ ((Eq.trans (cfalse c_1) (Eq.trans (cfalse c_2) (Eq.trans (cfalse c_3) (Eq.trans (cfalse c_4) (Eq.trans (ctrue c_5) (Eq.trans (cfalse c_6) (Eq.trans (cfalse c_7) (Eq.trans (ctrue c_21) (Eq.trans (ctrue c_22) (Eq.trans (cfalse c_23) (ctrue c_24))))))))))) : keys_is_F c0 = _).symm
                      ·
                        refine brb (fun c_25 => ?_) (fun c_25 => ?_)
                        ·
                          exact h _ ((Eq.trans (cfalse c_1) (Eq.trans (cfalse c_2) (Eq.trans (cfalse c_3) (Eq.trans (cfalse c_4) (Eq.trans (ctrue c_5) (Eq.trans (cfalse c_6) (Eq.trans (cfalse c_7) (Eq.trans (ctrue c_21) (Eq.trans (ctrue c_22) (Eq.trans (cfalse c_23) (Eq.trans (cfalse c_24) (ctrue c_25)))))))))))) : keys_is_F c0 = _).symm
                        ·
                          refine brb (fun c_26 => ?_) (fun c_26 => ?_)
                          ·
                            exact h _ ((Eq.trans (cfalse c_1) (Eq.trans (cfalse c_2) (Eq.trans (cfalse c_3) (Eq.trans (cfalse c_4) (Eq.trans (ctrue c_5) (Eq.trans (cfalse c_6) (Eq.trans (cfalse c_7) (Eq.trans (ctrue c_21) (Eq.trans (ctrue c_22) (Eq.trans (cfalse c_23) (Eq.trans (cfalse c_24) (Eq.trans (cfalse c_25) (ctrue c_26))))))))))))) : keys_is_F c0 = _).symm
                          ·
                            exact h _ ((Eq.trans (cfalse c_1) (Eq.trans (cfalse c_2) (Eq.trans (cfalse c_3) (Eq.trans (cfalse c_4) (Eq.trans (ctrue c_5) (Eq.trans (cfalse c_6) (Eq.trans (cfalse c_7) (Eq.trans (ctrue c_21) (Eq.trans (ctrue c_22) (Eq.trans (cfalse c_23) (Eq.trans (cfalse c_24) (Eq.trans (cfalse c_25) (cfalse c_26))))))))))))) : keys_is_F c0 = _).symm
                  ·
                    refine brb (fun c_27 => ?_) (fun c_27 => ?_)
                    ·
                      exact h _ ((Eq.trans (cfalse c_1) (Eq.trans (cfalse c_2) (Eq.trans (cfalse c_3) (Eq.trans (cfalse c_4) (Eq.trans (ctrue c_5) (Eq.trans (cfalse c_6) (Eq.trans (cfalse c_7) (Eq.trans (ctrue c_21) (Eq.trans (cfalse c_22) (ctrue c_27)))))))))) : keys_is_F c0 = _).symm
                    ·
                      refine brb (fun c_28 => ?_) (fun c_28 => ?_)
                      ·
                        exact h _ ((Eq.trans (cfalse c_1) (Eq.trans (cfalse c_2) (Eq.trans (cfalse c_3) (Eq.trans (cfalse c_4) (Eq.trans (ctrue c_5) (Eq.trans (cfalse c_6) (Eq.trans (cfalse c_7) (Eq.trans (ctrue c_21) (Eq.trans (cfalse c_22) (Eq.trans (cfalse c_27) (ctrue c_28))))))))))) : keys_is_F c0 = _).symm
                      ·
                        refine brb (fun c_29 => ?_) (fun c_29 => ?_)
                        ·
                          exact h _ ((Eq.trans (cfalse c_1) (Eq.trans (cfalse c_2) (Eq.trans (cfalse c_3) (Eq.trans (cfalse c_4) (Eq.trans (ctrue c_5) (Eq.trans (cfalse c_6) (Eq.trans (cfalse c_7) (Eq.trans (ctrue c_21) (Eq.trans (cfalse c_22) (Eq.trans (cfalse c_27) (Eq.trans (cfalse c_28) (ctrue c_29)))))))))))) : keys_is_F c0 = _).symm
                        ·
                          exact h _ ((Eq.trans (cfalse c_1) (Eq.trans (cfalse c_2) (Eq.trans (cfalse c_3) (Eq.trans (cfalse c_4) (Eq.trans (ctrue c_5) (Eq.trans (cfalse c_6) (Eq.trans (cfalse c_7) (Eq.trans (ctrue c_21) (Eq.trans (cfalse c_22) (Eq.trans (cfalse c_27) (Eq.trans (cfalse c_28) (cfalse c_29)))))))))))) : keys_is_F c0 = _).symm
                ·
                  refine brb (fun c_30 => ?_) (fun c_30 => ?_)
                  ·
                    exact h _ ((Eq.trans (cfalse c_1) (Eq.trans (cfalse c_2) (Eq.trans (cfalse c_3) (Eq.trans (cfalse c_4) (Eq.trans (ctrue c_5) (Eq.trans (cfalse c_6) (Eq.trans (cfalse c_7) (Eq.trans (cfalse c_21) (ctrue c_30))))))))) : keys_is_F c0 = _).symm
                  ·
                    refine brb (fun c_31 => ?_) (fun c_31 => ?_)
                    ·
                      exact h _ ((Eq.trans (cfalse c_1) (Eq.trans (cfalse c_2) (Eq.trans (cfalse c_3) (Eq.trans (cfalse c_4) (Eq.trans (ctrue c_5) (Eq.trans (cfalse c_6) (Eq.trans (cfalse c_7) (Eq.trans (cfalse c_21) (Eq.trans (cfalse c_30) (ctrue c_31)))))))))) : keys_is_F c0 = _).symm
                    ·
                      refine brb (fun c_32 => ?_) (fun c_32 => ?_)
                      ·
                        exact h _ ((Eq.trans (cfalse c_1) (Eq.trans (cfalse c_2) (Eq.trans (cfalse c_3) (Eq.trans (cfalse c_4) (Eq.trans (ctrue c_5) (Eq.trans (cfalse c_6) (Eq.trans (cfalse c_7) (Eq.trans (cfalse c_21) (Eq.trans (cfalse c_30) (Eq.trans (cfalse c_31) (ctrue c_32))))))))))) : keys_is_F c0 = _).symm
                      ·
                        exact h _ ((Eq.trans (cfalse c_1) (Eq.trans (cfalse c_2) (Eq.trans (cfalse c_3) (Eq.trans (cfalse c_4) (Eq.trans (ctrue c_5) (Eq.trans (cfalse c_6) (Eq.trans (cfalse c_7) (Eq.trans (cfalse c_21) (Eq.trans (cfalse c_30) (Eq.trans (cfalse c_31) (cfalse c_32))))))))))) : keys_is_F c0 = _).symm
          ·
            replace hp := cF c_5 hp
            refine ⟨hp, ?_⟩
            intro r5 hr5
            subst hr5
            intro _
            refine brb (fun c_33 => ?_) (fun c_33 => ?_)
            ·
              refine brb (fun c_34 => ?_) (fun c_34 => ?_)
              ·
                exact h _ ((Eq.trans (cfalse c_1) (Eq.trans (cfalse c_2) (Eq.trans (cfalse c_3) (Eq.trans (cfalse c_4) (Eq.trans (cfalse c_5) (Eq.trans (ctrue c_33) (ctrue c_34))))))) : keys_is_F c0 = _).symm
              ·
                refine brb (fun c_35 => ?_) (fun c_35 => ?_)
                ·
                  refine brb (fun c_36 => ?_) (fun c_36 => ?_)
                  ·
                    refine brb (fun c_37 => ?_) (fun c_37 => ?_)
                    ·
                      exact h _ ((Eq.trans (cfalse c_1) (Eq.trans (cfalse c_2) (Eq.trans (cfalse c_3) (Eq.trans (cfalse c_4) (Eq.trans (cfalse c_5) (Eq.trans (ctrue c_33) (Eq.trans (cfalse c_34) (Eq.trans (ctrue c_35) (Eq.trans (ctrue c_36) (ctrue c_37)))))))))) : keys_is_F c0 = _).symm
                    ·
                      refine brb (fun c_38 => ?_) (fun c_38 => ?_)
                      ·
                        exact h _ ((Eq.trans (cfalse c_1) (Eq.trans (cfalse c_2) (Eq.trans (cfalse c_3) (Eq.trans (cfalse c_4) (Eq.trans (cfalse c_5) (Eq.trans (ctrue c_33) (Eq.trans (cfalse c_34) (Eq.trans (ctrue c_35) (Eq.trans (ctrue c_36) (Eq.trans (cfalse c_37) (ctrue c_38))))))))))) : keys_is_F c0 = _).symm
                      ·
                        refine brb (fun c_39 => ?_) (fun c_39 => ?_)
                        ·
                          exact h _ ((Eq.trans (cfalse c_1) (Eq.trans (cfalse c_2) (Eq.trans (cfalse c_3) (Eq.trans (cfalse c_4) (Eq.trans (cfalse c_5) (Eq.trans (ctrue c_33) (Eq.trans (cfalse c_34) (Eq.trans (ctrue c_35) (Eq.trans (ctrue c_36) (Eq.trans (cfalse c_37) (Eq.trans (cfalse c_38) (ctrue c_39)))))))))))) : keys_is_F c0 = _).symm
                        ·
                          refine brb (fun c_40 => ?_) (fun c_40 => ?_)
                          ·
                            exact h _ ((Eq.trans (cfalse c_1) (Eq.trans (cfalse c_2) (Eq.trans (cfalse c_3) (Eq.trans (cfalse c_4) (Eq.trans (cfalse c_5) (Eq.trans (ctrue c_33) (Eq.trans (cfalse c_34) (Eq.trans (ctrue c_35) (Eq.trans (ctrue c_36) (Eq.trans (cfalse c_37) (Eq.trans (cfalse c_38) (Eq.trans (cfalse c_39) (ctrue c_40))))))))))))) : keys_is_F c0 = _).symm
                          ·
                            exact h _ ((Eq.trans (cfalse c_1) (Eq.trans (cfalse c_2) (Eq.trans (cfalse c_3) (Eq.trans (cfalse c_4) (Eq.trans (cfalse c_5) (Eq.trans (ctrue c_33) (Eq.trans (cfalse c_34) (Eq.trans (ctrue c_35) (Eq.trans (ctrue c_36) (Eq.trans (cfalse c_37) (Eq.trans (cfalse c_38) (Eq.trans (cfalse c_39) (cfalse c_40))))))))))))) : keys_is_F c0 = _).symm
                  ·
                    refine brb (fun c_41 => ?_) (fun c_41 => ?_)
                    ·
                      exact h _ ((Eq.trans (cfalse c_1) (Eq.trans (cfalse c_2) (Eq.trans (cfalse c_3) (Eq.trans (cfalse c_4) (Eq.trans (cfalse c_5) (Eq.trans (ctrue c_33) (Eq.trans (cfalse c_34) (Eq.trans (ctrue c_35) (Eq.trans (cfalse c_36) (ctrue c_41)))))))))) : keys_is_F c0 = _).symm
                    ·
                      refine brb (fun c_42 => ?_) (fun c_42 => ?_)
                      ·
                        exact h _ ((Eq.trans (cfalse c_1) (Eq.trans (cfalse c_2) (Eq.trans (cfalse c_3) (Eq.trans (cfalse c_4) (Eq.trans (cfalse c_5) (Eq.trans (ctrue c_33) (Eq.trans (cfalse c_34) (Eq.trans (ctrue c_35) (Eq.trans (cfalse c_36) (Eq.trans (cfalse c_41) (ctrue c_42))))))))))) : keys_is_F c0 = _).symm
                      ·
                        refine brb (fun c_43 => ?_) (fun c_43 => ?_)
                        ·
                          exact h _ ((Eq.trans (cfalse c_1) (Eq.trans (cfalse c_2) (Eq.trans (cfalse c_3) (Eq.trans (cfalse c_4) (Eq.trans (cfalse c_5) (Eq.trans (ctrue c_33) (Eq.trans (cfalse c_34) (Eq.trans (ctrue c_35) (Eq.trans (cfalse c_36) (Eq.trans (cfalse c_41) (Eq.trans (cfalse c_42) (ctrue c_43)))))))))))) : keys_is_F c0 = _).symm
                        ·
                          exact h _ ((Eq.trans (cfalse c_1) (Eq.trans (cfalse c_2) (Eq.trans (cfalse c_3) (Eq.trans (cfalse c_4) (Eq.trans (cfalse c_5) (Eq.trans (ctrue c_33) (Eq.trans (cfalse c_34) (Eq.trans (ctrue c_35) (Eq.trans (cfalse c_36) (Eq.trans (cfalse c_41) (Eq.trans (cfalse c_42) (cfalse c_43)))))))))))) : keys_is_F c0 = _).symm
                ·
                  refine brb (fun c_44 => ?_) (fun c_44 => ?_)
                  ·
                    exact h _ ((Eq.trans (cfalse c_1) (Eq.trans (cfalse c_2) (Eq.trans (cfalse c_3) (Eq.trans (cfalse c_4) (Eq.trans (cfalse c_5) (Eq.trans (ctrue c_33) (Eq.trans (cfalse c_34) (Eq.trans (cfalse c_35) (ctrue c_44))))))))) : keys_is_F c0 = _).symm
                  ·
                    refine brb (fun c_45 => ?_) (fun c_45 => ?_)
                    ·
                      exact h _ ((Eq.trans (cfalse c_1) (Eq.trans (cfalse c_2) (Eq.trans (cfalse c_3) (Eq.trans (cfalse c_4) (Eq.trans (cfalse c_5) (Eq.trans (ctrue c_33) (Eq.trans (cfalse c_34) (Eq.trans (cfalse c_35) (Eq.trans (cfalse c_44) (ctrue c_45)))))))))) : keys_is_F c0 = _).symm
                    ·
                      refine brb (fun c_46 => ?_) (fun c_46 => ?_)
                      ·
                        exact h _ ((Eq.trans (cfalse c_1) (Eq.trans (cfalse c_2) (Eq.trans (cfalse c_3) (Eq.trans (cfalse c_4) (Eq.trans (cfalse c_5) (Eq.trans (ctrue c_33) (Eq.trans (cfalse c_34) (Eq.trans (cfalse c_35) (Eq.trans (cfalse c_44) (Eq.trans (cfalse c_45) (ctrue c_46))))))))))) : keys_is_F c0 = _).symm
                      ·
                        exact h _ ((Eq.trans (cfalse c_1) (Eq.trans (cfalse c_2) (Eq.trans (cfalse c_3) (Eq.trans (cfalse c_4) (Eq.trans (cfalse c_5) (Eq.trans (ctrue c_33) (Eq.trans (cfalse c_34) (Eq.trans (cfalse c_35) (Eq.trans (cfalse c_44) (Eq.trans (cfalse c_45) (cfalse c_46))))))))))) : keys_is_F c0 = _).symm
            ·
              refine brb (fun c_47 => ?_) (fun c_47 => ?_)
              ·
                refine brb (fun c_48 => ?_) (fun c_48 => ?_)
                ·
                  refine brb (fun c_49 => ?_) (fun c_49 => ?_)
                  ·
                    exact h _ ((Eq.trans (cfalse c_1) (Eq.trans (cfalse c_2) (Eq.trans (cfalse c_3) (Eq.trans (cfalse c_4) (Eq.trans (cfalse c_5) (Eq.trans (cfalse c_33) (Eq.trans (ctrue c_47) (Eq.trans (ctrue c_48) (ctrue c_49))))))))) : keys_is_F c0 = _).symm
                  ·
                    refine brb (fun c_50 => ?_) (fun c_50 => ?_)
                    ·
                      exact h _ ((Eq.trans (cfalse c_1) (Eq.trans (cfalse c_2) (Eq.trans (cfalse c_3) (Eq.trans (cfalse c_4) (Eq.trans (cfalse c_5) (Eq.trans (cfalse c_33) (Eq.trans (ctrue c_47) (Eq.trans (ctrue c_48) (Eq.trans (cfalse c_49) (ctrue c_50)))))))))) : keys_is_F c0 = _).symm
                    ·
                      refine brb (fun c_51 => ?_) (fun c_51 => ?_)
                      ·
                        exact h _ ((Eq.trans (cfalse c_1) (Eq.trans (cfalse c_2) (Eq.trans (cfalse c_3) (Eq.trans (cfalse c_4) (Eq.trans (cfalse c_5) (Eq.trans (cfalse c_33) (Eq.trans (ctrue c_47) (Eq.trans (ctrue c_48) (Eq.trans (cfalse c_49) (Eq.trans (cfalse c_50) (ctrue c_51))))))))))) : keys_is_F c0 = _).symm
                      ·
                        refine brb (fun c_52 => ?_) (fun c_52 => ?_)
                        ·
                          exact h _ ((Eq.trans (cfalse c_1) (Eq.trans (cfalse c_2) (Eq.trans (cfalse c_3) (Eq.trans (cfalse c_4) (Eq.trans (cfalse c_5) (Eq.trans (cfalse c_33) (Eq.trans (ctrue c_47) (Eq.trans (ctrue c_48) (Eq.trans (cfalse c_49) (Eq.trans (cfalse c_50) (Eq.trans (cfalse c_51) (ctrue c_52)))))))))))) : keys_is_F c0 = _).symm
                        ·
                          exact h _ ((Eq.trans (cfalse c_1) (Eq.trans (cfalse c_2) (Eq.trans (cfalse c_3) (Eq.trans (cfalse c_4) (Eq.trans (cfalse c_5) (Eq.trans (cfalse c_33) (Eq.trans (ctrue c_47) (Eq.trans (ctrue c_48) (Eq.trans (cfalse c_49) (Eq.trans (cfalse c_50) (Eq.trans (cfalse c_51) (cfalse c_52)))))))))))) : keys_is_F c0 = _).symm
                ·
                  refine brb (fun c_53 => ?_) (fun c_53 => ?_)
                  ·
                    exact h _ ((Eq.trans (cfalse c_1) (Eq.trans (cfalse c_2) (Eq.trans (cfalse c_3) (Eq.trans (cfalse c_4) (Eq.trans (cfalse c_5) (Eq.trans (cfalse c_33) (Eq.trans (ctrue c_47) (Eq.trans (cfalse c_48) (ctrue c_53))))))))) : keys_is_F c0 = _).symm
                  ·
                    refine brb (fun c_54 => ?_) (fun c_54 => ?_)
                    ·
                      exact h _ ((Eq.trans (cfalse c_1) (Eq.trans (cfalse c_2) (Eq.trans (cfalse c_3) (Eq.trans (cfalse c_4) (Eq.trans (cfalse c_5) (Eq.trans (cfalse c_33) (Eq.trans (ctrue c_47) (Eq.trans (cfalse c_48) (Eq.trans (cfalse c_53) (ctrue c_54)))))))))) : keys_is_F c0 = _).symm
                    ·
                      refine brb (fun c_55 => ?_) (fun c_55 => ?_)
                      ·
                        exact h _ ((Eq.trans (cfalse c_1) (Eq.trans (cfalse c_2) (Eq.trans (cfalse c_3) (Eq.trans (cfalse c_4) (Eq.trans (cfalse c_5) (Eq.trans (cfalse c_33) (Eq.trans (ctrue c_47) (Eq.trans (cfalse c_48) (Eq.trans (cfalse c_53) (Eq.trans (cfalse c_54) (ctrue c_55))))))))))) : keys_is_F c0 = _).symm
                      ·
                        exact h _ ((Eq.trans (cfalse c_1) (Eq.trans (cfalse c_2) (Eq.trans (cfalse c_3) (Eq.trans (cfalse c_4) (Eq.trans (cfalse c_5) (Eq.trans (cfalse c_33) (Eq.trans (ctrue c_47) (Eq.trans (cfalse c_48) (Eq.trans (cfalse c_53) (Eq.trans (cfalse c_54) (cfalse c_55))))))))))) : keys_is_F c0 = _).symm
              ·
                refine brb (fun c_56 => ?_) (fun c_56 => ?_)
                ·
                  exact h _ ((Eq.trans (cfalse c_1) (Eq.trans (cfalse c_2) (Eq.trans (cfalse c_3) (Eq.trans (cfalse c_4) (Eq.trans (cfalse c_5) (Eq.trans (cfalse c_33) (Eq.trans (cfalse c_47) (ctrue c_56)))))))) : keys_is_F c0 = _).symm
                ·
                  refine brb (fun c_57 => ?_) (fun c_57 => ?_)
                  ·
                    exact h _ ((Eq.trans (cfalse c_1) (Eq.trans (cfalse c_2) (Eq.trans (cfalse c_3) (Eq.trans (cfalse c_4) (Eq.trans (cfalse c_5) (Eq.trans (cfalse c_33) (Eq.trans (cfalse c_47) (Eq.trans (cfalse c_56) (ctrue c_57))))))))) : keys_is_F c0 = _).symm
                  ·
                    refine brb (fun c_58 => ?_) (fun c_58 => ?_)
                    ·
                      exact h _ ((Eq.trans (cfalse c_1) (Eq.trans (cfalse c_2) (Eq.trans (cfalse c_3) (Eq.trans (cfalse c_4) (Eq.trans (cfalse c_5) (Eq.trans (cfalse c_33) (Eq.trans (cfalse c_47) (Eq.trans (cfalse c_56) (Eq.trans (cfalse c_57) (ctrue c_58)))))))))) : keys_is_F c0 = _).symm
                    ·
                      exact h _ ((Eq.trans (cfalse c_1) (Eq.trans (cfalse c_2) (Eq.trans (cfalse c_3) (Eq.trans (cfalse c_4) (Eq.trans (cfalse c_5) (Eq.trans (cfalse c_33) (Eq.trans (cfalse c_47) (Eq.trans (cfalse c_56) (Eq.trans (cfalse c_57) (cfalse c_58)))))))))) : keys_is_F c0 = _).symm
def keys_is_C (v : valsA keys_is_A) (K : Res → List Cell → Prop) : Prop := keys_is_P v.1 ∧ ∀ r : Bool, r = keys_is_F v.1 → K (.one (.v (.bool) r)) []
def keys_is_S : App := specW keys_is_A keys_is_C
theorem keys_is_wv (K : Res → List Cell → Prop) : ∀ v : valsA keys_is_A, runF tb (getG keys_is_G) [] Tryd.f35 [true] (mkA keys_is_A v) K = keys_is_raw v.1 K
  | (c0, ()) => keys_is_walk c0 K
set_option maxRecDepth 20000 in
theorem keys_is_ok : AppOk Tryd.prog 35 keys_is_S :=
  AppOk.specW (spec_ok (runF_ok tb_M tb_ok keys_is_Gok (LabsOk.nil) (f := 35) (fn := Tryd.f35) (by kernel_rfl) (by kernel_rfl) (by kernel_rfl) [true]) fun v K hw h => (keys_is_wv K v).mpr (keys_is_sp v.1 K hw h.1 h.2))

end Go.VE
namespace Go.VE
open Go Go.Proofs
/-! ### quoin/keys.Name -/
def keys_Name_G : List (Nat × App) := [(35, keys_is_S), (36, keys_wants_S)]
theorem keys_Name_Gok : GOk Tryd.prog (getG keys_Name_G) := GOk.cons keys_is_ok (GOk.cons keys_wants_ok (GOk.nil))
def keys_Name_raw (c0 : (Int × Int × List Int × List Int × Int × List Int)) (K : Res → List Cell → Prop) : Prop :=
  keys_is_P c0 ∧ (
  ∀ (r1 : Bool), r1 = keys_is_F c0 → (
  wfR (.one (.v (.bool) r1)) → (
  bif (!r1) then
    K (.one (.fr 5 (.int .u8) ([] : List Int))) []
  else
  bif (!decide (c0.2.2.1 = ([] : List Int))) then
    bif (decide (c0.2.2.2.1 = c0.2.2.1)) then
      bif decide (0 ≤ (IntKind.wrap .i64 ((List.length c0.2.2.1 : Int) - (1 : Int))) ∧ (IntKind.wrap .i64 ((List.length c0.2.2.1 : Int) - (1 : Int))) < (List.length c0.2.2.1 : Int)) then
      bif decide (List.length c0.2.2.1 + List.length ([(rd (0 : Int) c0.2.2.1 (IntKind.wrap .i64 ((List.length c0.2.2.1 : Int) - (1 : Int))))] : List Int) ≤ lim) then
      K (.one (.fr 5 (.int .u8) (c0.2.2.1 ++ ([(rd (0 : Int) c0.2.2.1 (IntKind.wrap .i64 ((List.length c0.2.2.1 : Int) - (1 : Int))))] : List Int)))) []
      else False
      else False
    else
      bif decide (List.length c0.2.2.1 + List.length c0.2.2.2.1 ≤ lim) then
      keys_wants_P c0 ∧ (
      ∀ (r2 : Bool), r2 = keys_wants_F c0 → (
      wfR (.one (.v (.bool) r2)) → (
      bif r2 then
        bif decide (List.length (c0.2.2.1 ++ c0.2.2.2.1) + List.length ([c0.2.2.2.2.1] : List Int) ≤ lim) then
        K (.one (.fr 5 (.int .u8) ((c0.2.2.1 ++ c0.2.2.2.1) ++ ([c0.2.2.2.2.1] : List Int)))) []
        else False
      else
        K (.one (.fr 5 (.int .u8) (c0.2.2.1 ++ c0.2.2.2.1))) [])))
      else False
  else
    bif decide (List.length c0.2.2.1 + List.length c0.2.2.2.1 ≤ lim) then
    keys_wants_P c0 ∧ (
    ∀ (r3 : Bool), r3 = keys_wants_F c0 → (
    wfR (.one (.v (.bool) r3)) → (
    bif r3 then
      bif decide (List.length (c0.2.2.1 ++ c0.2.2.2.1) + List.length ([c0.2.2.2.2.1] : List Int) ≤ lim) then
      K (.one (.fr 5 (.int .u8) ((c0.2.2.1 ++ c0.2.2.2.1) ++ ([c0.2.2.2.2.1] : List Int)))) []
      else False
    else
      K (.one (.fr 5 (.int .u8) (c0.2.2.1 ++ c0.2.2.2.1))) [])))
    else False)))
def keys_Name_A : List AS := [.v (.st (.pair (.int .u8) (.pair (.int .i64) (.pair (.str) (.pair (.str) (.pair (.int .u8) (.sl (.int .u8))))))))]
theorem keys_Name_walk (c0 : (Int × Int × List Int × List Int × Int × List Int)) (K : Res → List Cell → Prop) : runF tb (getG keys_Name_G) [] Tryd.f16 [true] (mkA keys_Name_A (c0, ())) K = keys_Name_raw c0 K := by kernel_rfl

def keys_Name_P (c0 : (Int × Int × List Int × List Int × Int × List Int)) : Prop :=
  keys_is_P c0 ∧ (
  let r1 : Bool := keys_is_F c0
  bif (!r1) then
    True
  else
    bif (!decide (c0.2.2.1 = ([] : List Int))) then
      bif (decide (c0.2.2.2.1 = c0.2.2.1)) then
        (0 ≤ (IntKind.wrap .i64 ((List.length c0.2.2.1 : Int) - (1 : Int))) ∧ (IntKind.wrap .i64 ((List.length c0.2.2.1 : Int) - (1 : Int))) < (List.length c0.2.2.1 : Int)) ∧ (
        (List.length c0.2.2.1 + List.length ([(rd (0 : Int) c0.2.2.1 (IntKind.wrap .i64 ((List.length c0.2.2.1 : Int) - (1 : Int))))] : List Int) ≤ lim))
      else
        (List.length c0.2.2.1 + List.length c0.2.2.2.1 ≤ lim) ∧ (
        keys_wants_P c0 ∧ (
        let r2 : Bool := keys_wants_F c0
        bif r2 then
          (List.length (c0.2.2.1 ++ c0.2.2.2.1) + List.length ([c0.2.2.2.2.1] : List Int) ≤ lim)
        else
          True))
    else
      (List.length c0.2.2.1 + List.length c0.2.2.2.1 ≤ lim) ∧ (
      keys_wants_P c0 ∧ (
      let r3 : Bool := keys_wants_F c0
      bif r3 then
        (List.length (c0.2.2.1 ++ c0.2.2.2.1) + List.length ([c0.2.2.2.2.1] : List Int) ≤ lim)
      else
        True)))
def keys_Name_F (c0 : (Int × Int × List Int × List Int × Int × List Int)) : List Int :=
  let r1 : Bool := keys_is_F c0
  bif (!r1) then
    ([] : List Int)
  else
    bif (!decide (c0.2.2.1 = ([] : List Int))) then
      bif (decide (c0.2.2.2.1 = c0.2.2.1)) then
        (c0.2.2.1 ++ ([(rd (0 : Int) c0.2.2.1 (IntKind.wrap .i64 ((List.length c0.2.2.1 : Int) - (1 : Int))))] : List Int))
      else
        let r2 : Bool := keys_wants_F c0
        bif r2 then
          ((c0.2.2.1 ++ c0.2.2.2.1) ++ ([c0.2.2.2.2.1] : List Int))
        else
          (c0.2.2.1 ++ c0.2.2.2.1)
    else
      let r3 : Bool := keys_wants_F c0
      bif r3 then
        ((c0.2.2.1 ++ c0.2.2.2.1) ++ ([c0.2.2.2.2.1] : List Int))
      else
        (c0.2.2.1 ++ c0.2.2.2.1)
set_option maxRecDepth 20000 in
theorem keys_Name_sp (c0 : (Int × Int × List Int × List Int × Int × List Int)) (K : Res → List Cell → Prop) (_ : wfA keys_Name_A (c0, ())) (hp : keys_Name_P c0) (h : ∀ r : List Int, r = keys_Name_F c0 → K (.one (.fr 5 (.int .u8) r)) []) : keys_Name_raw c0 K := by
  unfold keys_Name_raw
  unfold keys_Name_P at hp
  refine ⟨hp.1, ?_⟩
  replace hp := hp.2
  intro r1 hr1
  subst hr1
  intro _
  refine brb (fun c_1 => ?_) (fun c_1 => ?_)
  ·
    clear hp
    exact h _ ((ctrue c_1) : keys_Name_F c0 = _).symm
  ·
    replace hp := cF c_1 hp
    refine brb (fun c_2 => ?_) (fun c_2 => ?_)
    ·
      replace hp := cT c_2 hp
      refine brb (fun c_3 => ?_) (fun c_3 => ?_)
      ·
        replace hp := cT c_3 hp
        refine asrt hp.1 ?_
        replace hp := hp.2
        refine asrt hp ?_
        exact h _ ((Eq.trans (cfalse c_1) (Eq.trans (ctrue c_2) (ctrue c_3))) : keys_Name_F c0 = _).symm
      ·
        replace hp := cF c_3 hp
        refine asrt hp.1 ?_
        replace hp := hp.2
        refine ⟨hp.1, ?_⟩
        replace hp := hp.2
        intro r2 hr2
        subst hr2
        intro _
        refine brb (fun c_4 => ?_) (fun c_4 => ?_)
        ·
          replace hp := cT c_4 hp
          refine asrt hp ?_
          exact h _ ((Eq.trans (cfalse c_1) (Eq.trans (ctrue c_2) (Eq.trans (cfalse c_3) (ctrue c_4)))) : keys_Name_F c0 = _).symm
        ·
          clear hp
          exact h _ ((Eq.trans (cfalse c_1) (Eq.trans (ctrue c_2) (Eq.trans (cfalse c_3) (cfalse c_4)))) : keys_Name_F c0 = _).symm
    ·
      replace hp := cF c_2 hp
      refine asrt hp.1 ?_
      replace hp := hp.2
      refine ⟨hp.1, ?_⟩
      replace hp := hp.2
      intro r3 hr3
      subst hr3
      intro _
      refine brb (fun c_5 => ?_) (fun c_5 => ?_)
      ·
        replace hp := cT c_5 hp
        refine asrt hp ?_
        exact h _ ((Eq.trans (cfalse c_1) (Eq.trans (cfalse c_2) (ctrue c_5))) : keys_Name_F c0 = _).symm
      ·
        clear hp
        exact h _ ((Eq.trans (cfalse c_1) (Eq.trans (cfalse c_2) (cfalse c_5))) : keys_Name_F c0 = _).symm
def keys_Name_C (v : valsA keys_Name_A) (K : Res → List Cell → Prop) : Prop := keys_Name_P v.1 ∧ ∀ r : List Int, r = keys_Name_F v.1 → K (.one (.fr 5 (.int .u8) r)) []
def keys_Name_S : App := specW keys_Name_A keys_Name_C
theorem keys_Name_wv (K : Res → List Cell → Prop) : ∀ v : valsA keys_Name_A, runF tb (getG keys_Name_G) [] Tryd.f16 [true] (mkA keys_Name_A v) K = keys_Name_raw v.1 K
  | (c0, ()) => keys_Name_walk c0 K
set_option maxRecDepth 20000 in
theorem keys_Name_ok : AppOk Tryd.prog 16 keys_Name_S :=
  AppOk.specW (spec_ok (runF_ok tb_M tb_ok keys_Name_Gok (LabsOk.nil) (f := 16) (fn := Tryd.f16) (by kernel_rfl) (by kernel_rfl) (by kernel_rfl) [true]) fun v K hw h => (keys_Name_wv K v).mpr (keys_Name_sp v.1 K hw h.1 h.2))

end Go.VE
namespace Go.VE
open Go Go.Proofs
/-! ### internal/strconv.small -/
def internal_strconv_small_G : List (Nat × App) := []
theorem internal_strconv_small_Gok : GOk Tryd.prog (getG internal_strconv_small_G) := GOk.nil
def internal_strconv_small_raw (i0 : Int) (K : Res → List Cell → Prop) : Prop :=
  bif (decide (i0 < (10 : Int))) then
    bif decide (0 ≤ i0 ∧ i0 ≤ (IntKind.wrap .i64 (i0 + (1 : Int))) ∧ (IntKind.wrap .i64 (i0 + (1 : Int))) ≤ (List.length ([48, 49, 50, 51, 52, 53, 54, 55, 56, 57, 97, 98, 99, 100, 101, 102, 103, 104, 105, 106, 107, 108, 109, 110, 111, 112, 113, 114, 115, 116, 117, 118, 119, 120, 121, 122] : List Int) : Int)) then
    K (.one (.v (.str) (slc ([48, 49, 50, 51, 52, 53, 54, 55, 56, 57, 97, 98, 99, 100, 101, 102, 103, 104, 105, 106, 107, 108, 109, 110, 111, 112, 113, 114, 115, 116, 117, 118, 119, 120, 121, 122] : List Int) i0 (IntKind.wrap .i64 (i0 + (1 : Int)))))) []
    else False
  else
    bif decide (0 ≤ (IntKind.wrap .i64 (i0 * (2 : Int))) ∧ (IntKind.wrap .i64 (i0 * (2 : Int))) ≤ (IntKind.wrap .i64 ((IntKind.wrap .i64 (i0 * (2 : Int))) + (2 : Int))) ∧ (IntKind.wrap .i64 ((IntKind.wrap .i64 (i0 * (2 : Int))) + (2 : Int))) ≤ (List.length ([48, 48, 48, 49, 48, 50, 48, 51, 48, 52, 48, 53, 48, 54, 48, 55, 48, 56, 48, 57, 49, 48, 49, 49, 49, 50, 49, 51, 49, 52, 49, 53, 49, 54, 49, 55, 49, 56, 49, 57, 50, 48, 50, 49, 50, 50, 50, 51, 50, 52, 50, 53, 50, 54, 50, 55, 50, 56, 50, 57, 51, 48, 51, 49, 51, 50, 51, 51, 51, 52, 51, 53, 51, 54, 51, 55, 51, 56, 51, 57, 52, 48, 52, 49, 52, 50, 52, 51, 52, 52, 52, 53, 52, 54, 52, 55, 52, 56, 52, 57, 53, 48, 53, 49, 53, 50, 53, 51, 53, 52, 53, 53, 53, 54, 53, 55, 53, 56, 53, 57, 54, 48, 54, 49, 54, 50, 54, 51, 54, 52, 54, 53, 54, 54, 54, 55, 54, 56, 54, 57, 55, 48, 55, 49, 55, 50, 55, 51, 55, 52, 55, 53, 55, 54, 55, 55, 55, 56, 55, 57, 56, 48, 56, 49, 56, 50, 56, 51, 56, 52, 56, 53, 56, 54, 56, 55, 56, 56, 56, 57, 57, 48, 57, 49, 57, 50, 57, 51, 57, 52, 57, 53, 57, 54, 57, 55, 57, 56, 57, 57] : List Int) : Int)) then
    K (.one (.v (.str) (slc ([48, 48, 48, 49, 48, 50, 48, 51, 48, 52, 48, 53, 48, 54, 48, 55, 48, 56, 48, 57, 49, 48, 49, 49, 49, 50, 49, 51, 49, 52, 49, 53, 49, 54, 49, 55, 49, 56, 49, 57, 50, 48, 50, 49, 50, 50, 50, 51, 50, 52, 50, 53, 50, 54, 50, 55, 50, 56, 50, 57, 51, 48, 51, 49, 51, 50, 51, 51, 51, 52, 51, 53, 51, 54, 51, 55, 51, 56, 51, 57, 52, 48, 52, 49, 52, 50, 52, 51, 52, 52, 52, 53, 52, 54, 52, 55, 52, 56, 52, 57, 53, 48, 53, 49, 53, 50, 53, 51, 53, 52, 53, 53, 53, 54, 53, 55, 53, 56, 53, 57, 54, 48, 54, 49, 54, 50, 54, 51, 54, 52, 54, 53, 54, 54, 54, 55, 54, 56, 54, 57, 55, 48, 55, 49, 55, 50, 55, 51, 55, 52, 55, 53, 55, 54, 55, 55, 55, 56, 55, 57, 56, 48, 56, 49, 56, 50, 56, 51, 56, 52, 56, 53, 56, 54, 56, 55, 56, 56, 56, 57, 57, 48, 57, 49, 57, 50, 57, 51, 57, 52, 57, 53, 57, 54, 57, 55, 57, 56, 57, 57] : List Int) (IntKind.wrap .i64 (i0 * (2 : Int))) (IntKind.wrap .i64 ((IntKind.wrap .i64 (i0 * (2 : Int))) + (2 : Int)))))) []
    else False
def internal_strconv_small_A : List AS := [.v (.int .i64)]
theorem internal_strconv_small_walk (i0 : Int) (K : Res → List Cell → Prop) : runF tb (getG internal_strconv_small_G) [] Tryd.f57 [true] (mkA internal_strconv_small_A (i0, ())) K = internal_strconv_small_raw i0 K := by kernel_rfl

def internal_strconv_small_P (i0 : Int) : Prop :=
  bif (decide (i0 < (10 : Int))) then
    (0 ≤ i0 ∧ i0 ≤ (IntKind.wrap .i64 (i0 + (1 : Int))) ∧ (IntKind.wrap .i64 (i0 + (1 : Int))) ≤ (List.length ([48, 49, 50, 51, 52, 53, 54, 55, 56, 57, 97, 98, 99, 100, 101, 102, 103, 104, 105, 106, 107, 108, 109, 110, 111, 112, 113, 114, 115, 116, 117, 118, 119, 120, 121, 122] : List Int) : Int))
  else
    (0 ≤ (IntKind.wrap .i64 (i0 * (2 : Int))) ∧ (IntKind.wrap .i64 (i0 * (2 : Int))) ≤ (IntKind.wrap .i64 ((IntKind.wrap .i64 (i0 * (2 : Int))) + (2 : Int))) ∧ (IntKind.wrap .i64 ((IntKind.wrap .i64 (i0 * (2 : Int))) + (2 : Int))) ≤ (List.length ([48, 48, 48, 49, 48, 50, 48, 51, 48, 52, 48, 53, 48, 54, 48, 55, 48, 56, 48, 57, 49, 48, 49, 49, 49, 50, 49, 51, 49, 52, 49, 53, 49, 54, 49, 55, 49, 56, 49, 57, 50, 48, 50, 49, 50, 50, 50, 51, 50, 52, 50, 53, 50, 54, 50, 55, 50, 56, 50, 57, 51, 48, 51, 49, 51, 50, 51, 51, 51, 52, 51, 53, 51, 54, 51, 55, 51, 56, 51, 57, 52, 48, 52, 49, 52, 50, 52, 51, 52, 52, 52, 53, 52, 54, 52, 55, 52, 56, 52, 57, 53, 48, 53, 49, 53, 50, 53, 51, 53, 52, 53, 53, 53, 54, 53, 55, 53, 56, 53, 57, 54, 48, 54, 49, 54, 50, 54, 51, 54, 52, 54, 53, 54, 54, 54, 55, 54, 56, 54, 57, 55, 48, 55, 49, 55, 50, 55, 51, 55, 52, 55, 53, 55, 54, 55, 55, 55, 56, 55, 57, 56, 48, 56, 49, 56, 50, 56, 51, 56, 52, 56, 53, 56, 54, 56, 55, 56, 56, 56, 57, 57, 48, 57, 49, 57, 50, 57, 51, 57, 52, 57, 53, 57, 54, 57, 55, 57, 56, 57, 57] : List Int) : Int))
def internal_strconv_small_F (i0 : Int) : List Int :=
  bif (decide (i0 < (10 : Int))) then
    (slc ([48, 49, 50, 51, 52, 53, 54, 55, 56, 57, 97, 98, 99, 100, 101, 102, 103, 104, 105, 106, 107, 108, 109, 110, 111, 112, 113, 114, 115, 116, 117, 118, 119, 120, 121, 122] : List Int) i0 (IntKind.wrap .i64 (i0 + (1 : Int))))
  else
    (slc ([48, 48, 48, 49, 48, 50, 48, 51, 48, 52, 48, 53, 48, 54, 48, 55, 48, 56, 48, 57, 49, 48, 49, 49, 49, 50, 49, 51, 49, 52, 49, 53, 49, 54, 49, 55, 49, 56, 49, 57, 50, 48, 50, 49, 50, 50, 50, 51, 50, 52, 50, 53, 50, 54, 50, 55, 50, 56, 50, 57, 51, 48, 51, 49, 51, 50, 51, 51, 51, 52, 51, 53, 51, 54, 51, 55, 51, 56, 51, 57, 52, 48, 52, 49, 52, 50, 52, 51, 52, 52, 52, 53, 52, 54, 52, 55, 52, 56, 52, 57, 53, 48, 53, 49, 53, 50, 53, 51, 53, 52, 53, 53, 53, 54, 53, 55, 53, 56, 53, 57, 54, 48, 54, 49, 54, 50, 54, 51, 54, 52, 54, 53, 54, 54, 54, 55, 54, 56, 54, 57, 55, 48, 55, 49, 55, 50, 55, 51, 55, 52, 55, 53, 55, 54, 55, 55, 55, 56, 55, 57, 56, 48, 56, 49, 56, 50, 56, 51, 56, 52, 56, 53, 56, 54, 56, 55, 56, 56, 56, 57, 57, 48, 57, 49, 57, 50, 57, 51, 57, 52, 57, 53, 57, 54, 57, 55, 57, 56, 57, 57] : List Int) (IntKind.wrap .i64 (i0 * (2 : Int))) (IntKind.wrap .i64 ((IntKind.wrap .i64 (i0 * (2 : Int))) + (2 : Int))))
set_option maxRecDepth 20000 in
theorem internal_strconv_small_sp (i0 : Int) (K : Res → List Cell → Prop) (_ : wfA internal_strconv_small_A (i0, ())) (hp : internal_strconv_small_P i0) (h : ∀ r : List Int, r = internal_strconv_small_F i0 → K (.one (.v (.str) r)) []) : internal_strconv_small_raw i0 K := by
  unfold internal_strconv_small_raw
  unfold internal_strconv_small_P at hp
  refine brb (fun c_1 => ?_) (fun c_1 => ?_)
  ·
    replace hp := cT c_1 hp
    refine asrt hp ?_
    exact h _ ((ctrue c_1) : internal_strconv_small_F i0 = _).symm
  ·
    replace hp := cF c_1 hp
    refine asrt hp ?_
    exact h _ ((cfalse c_1) : internal_strconv_small_F i0 = _).symm
def internal_strconv_small_C (v : valsA internal_strconv_small_A) (K : Res → List Cell → Prop) : Prop := internal_strconv_small_P v.1 ∧ ∀ r : List Int, r = internal_strconv_small_F v.1 → K (.one (.v (.str) r)) []
def internal_strconv_small_S : App := specW internal_strconv_small_A internal_strconv_small_C
theorem internal_strconv_small_wv (K : Res → List Cell → Prop) : ∀ v : valsA internal_strconv_small_A, runF tb (getG internal_strconv_small_G) [] Tryd.f57 [true] (mkA internal_strconv_small_A v) K = internal_strconv_small_raw v.1 K
  | (i0, ()) => internal_strconv_small_walk i0 K
set_option maxRecDepth 20000 in
theorem internal_strconv_small_ok : AppOk Tryd.prog 57 internal_strconv_small_S :=
  AppOk.specW (spec_ok (runF_ok tb_M tb_ok internal_strconv_small_Gok (LabsOk.nil) (f := 57) (fn := Tryd.f57) (by kernel_rfl) (by kernel_rfl) (by kernel_rfl) [true]) fun v K hw h => (internal_strconv_small_wv K v).mpr (internal_strconv_small_sp v.1 K hw h.1 h.2))

end Go.VE
namespace Go.VE
open Go Go.Proofs
def internal_strconv_formatBits_A : List AS := []
def internal_strconv_formatBits_S : App := specW internal_strconv_formatBits_A fun _ _ => False
theorem internal_strconv_formatBits_ok : AppOk Tryd.prog 60 internal_strconv_formatBits_S := AppOk.never
end Go.VE
namespace Go.VE
open Go Go.Proofs
/-! ### internal/strconv.AppendUint -/
def internal_strconv_AppendUint0_G : List (Nat × App) := [(57, internal_strconv_small_S), (60, internal_strconv_formatBits_S)]
theorem internal_strconv_AppendUint0_Gok : GOk Tryd.prog (getG internal_strconv_AppendUint0_G) := GOk.cons internal_strconv_small_ok (GOk.cons internal_strconv_formatBits_ok (GOk.nil))
def internal_strconv_AppendUint0_raw (dst0 : List Int) (i1 : Int) (base2 : Int) (K : Res → List Cell → Prop) : Prop :=
  bif (decide (base2 = (10 : Int))) then
    bif (decide (i1 < (100 : Int))) then
      internal_strconv_small_P (IntKind.wrap .i64 i1) ∧ (
      ∀ (r1 : List Int), r1 = internal_strconv_small_F (IntKind.wrap .i64 i1) → (
      wfR (.one (.v (.str) r1)) → (
      bif decide (List.length dst0 + List.length r1 ≤ lim) then
      K (.one (.fr 5 (.int .u8) (dst0 ++ r1))) []
      else False)))
    else
      False
  else
    False
def internal_strconv_AppendUint0_A : List AS := [.o 5 (.int .u8), .v (.int .u64), .v (.int .i64)]
theorem internal_strconv_AppendUint0_walk (dst0 : List Int) (i1 : Int) (base2 : Int) (K : Res → List Cell → Prop) : runF tb (getG internal_strconv_AppendUint0_G) [] Tryd.f54 [true] (mkA internal_strconv_AppendUint0_A (dst0, i1, base2, ())) K = internal_strconv_AppendUint0_raw dst0 i1 base2 K := by kernel_rfl
--! own 0
--! soft 1

def internal_strconv_AppendUint0_P (dst0 : List Int) (i1 : Int) (base2 : Int) : Prop :=
  bif (decide (base2 = (10 : Int))) then
    bif (decide (i1 < (100 : Int))) then
      internal_strconv_small_P (IntKind.wrap .i64 i1) ∧ (
      let r1 : List Int := internal_strconv_small_F (IntKind.wrap .i64 i1)
      (List.length dst0 + List.length r1 ≤ lim))
    else
      False
  else
    False
def internal_strconv_AppendUint0_F (dst0 : List Int) (i1 : Int) (base2 : Int) : List Int :=
  bif (decide (base2 = (10 : Int))) then
    bif (decide (i1 < (100 : Int))) then
      let r1 : List Int := internal_strconv_small_F (IntKind.wrap .i64 i1)
      (dst0 ++ r1)
    else
      default
  else
    default
set_option maxRecDepth 20000 in
theorem internal_strconv_AppendUint0_sp (dst0 : List Int) (i1 : Int) (base2 : Int) (K : Res → List Cell → Prop) (_ : wfA internal_strconv_AppendUint0_A (dst0, i1, base2, ())) (hp : internal_strconv_AppendUint0_P dst0 i1 base2) (h : ∀ r : List Int, r = internal_strconv_AppendUint0_F dst0 i1 base2 → K (.one (.fr 5 (.int .u8) r)) []) : internal_strconv_AppendUint0_raw dst0 i1 base2 K := by
  unfold internal_strconv_AppendUint0_raw
  unfold internal_strconv_AppendUint0_P at hp
  refine brb (fun c_1 => ?_) (fun c_1 => ?_)
  ·
    replace hp := cT c_1 hp
    refine brb (fun c_2 => ?_) (fun c_2 => ?_)
    ·
      replace hp := cT c_2 hp
      refine ⟨hp.1, ?_⟩
      replace hp := hp.2
      intro r1 hr1
      subst hr1
      intro _
      refine asrt hp ?_
      exact h _ ((Eq.trans (ctrue c_1) (ctrue c_2)) : internal_strconv_AppendUint0_F dst0 i1 base2 = _).symm
    ·
      replace hp := cF c_2 hp
      exact hp.elim
  ·
    replace hp := cF c_1 hp
    exact hp.elim
def internal_strconv_AppendUint0_C (v : valsA internal_strconv_AppendUint0_A) (K : Res → List Cell → Prop) : Prop := internal_strconv_AppendUint0_P v.1 v.2.1 v.2.2.1 ∧ ∀ r : List Int, r = internal_strconv_AppendUint0_F v.1 v.2.1 v.2.2.1 → K (.one (.fr 5 (.int .u8) r)) []
def internal_strconv_AppendUint0_S : App := specW internal_strconv_AppendUint0_A internal_strconv_AppendUint0_C
theorem internal_strconv_AppendUint0_wv (K : Res → List Cell → Prop) : ∀ v : valsA internal_strconv_AppendUint0_A, runF tb (getG internal_strconv_AppendUint0_G) [] Tryd.f54 [true] (mkA internal_strconv_AppendUint0_A v) K = internal_strconv_AppendUint0_raw v.1 v.2.1 v.2.2.1 K
  | (dst0, i1, base2, ()) => internal_strconv_AppendUint0_walk dst0 i1 base2 K
set_option maxRecDepth 20000 in
theorem internal_strconv_AppendUint0_ok : AppOk Tryd.prog 54 internal_strconv_AppendUint0_S :=
  AppOk.specW (spec_ok (runF_ok tb_M tb_ok internal_strconv_AppendUint0_Gok (LabsOk.nil) (f := 54) (fn := Tryd.f54) (by kernel_rfl) (by kernel_rfl) (by kernel_rfl) [true]) fun v K hw h => (internal_strconv_AppendUint0_wv K v).mpr (internal_strconv_AppendUint0_sp v.1 v.2.1 v.2.2.1 K hw h.1 h.2))
end Go.VE
