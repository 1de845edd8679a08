/- OperBack: whatever the input, up to the bulk that the statement names, the law answers true, and what was handed in reads as it did. Its conditions: the bound of the given statement and the tables that its card ties, no other. -/
import Derived.Test.YtmnhjhamgacdnaaDoorOK115
set_option linter.unusedVariables false
set_option linter.unusedSectionVars false
set_option linter.unusedSimpArgs false
namespace Go.VE
open Go Go.Proofs
theorem begins_ten {t : List Int} {n p : Nat} (h : Begins t n p) (hp : 0 < p) : t[p - 1]? = some 10 := by
  rcases h.2.2 with h | h
  · omega
  · exact h
theorem back_raw (t : List Int) (q : Int × Int × Bool) (K : Res → List Cell → Prop) (hw : wfA quoinlaw19_OperBack_A (t, q, ())) (h : K (.one (.v .bool true)) []) : quoinlaw19_OperBack_raw t q K := by
  have hq1 : -9223372036854775808 ≤ q.1 ∧ q.1 ≤ 9223372036854775807 := hw.2.1.1
  have hq2 : -9223372036854775808 ≤ q.2.1 ∧ q.2.1 ≤ 9223372036854775807 := hw.2.1.2.1
  have hlim : lim = 1099511627776 := rfl
  have hcl := cnt_le t
  unfold quoinlaw19_OperBack_raw
  intro r1 h1 _
  subst h1
  refine brb (fun c => by cases c) (fun _ => ?_)
  refine brn (fun _ => h) (fun hl => ?_)
  have hl : t.length ≤ 16384 := by omega
  refine ⟨Count_P _, fun r2 h2 _ => ?_⟩
  rw [count_eq] at h2
  refine brb (fun hql => ?_) (fun hql => ?_)
  · refine ⟨place_P (by omega), fun r3 h3 _ => ⟨place_P (by omega), fun r4 h4 _ => ?_⟩⟩
    obtain ⟨a, ha, ha2⟩ := place_F (i := q.1) (n := t.length) (by omega) hq1.1 hq1.2
    obtain ⟨b, hb1, hb2⟩ := place_F (i := q.2.1) (n := t.length) (by omega) hq2.1 hq2.2
    rw [ha] at h3
    rw [hb1] at h4
    subst h3; subst h4
    rw [(mnmx (a := a) (b := b)).1, (mnmx (a := a) (b := b)).2]
    have h12 : min a b ≤ max a b := by omega
    have hg : max a b ≤ t.length := by omega
    generalize min a b = f at *
    generalize max a b = g at *
    refine ⟨do_any (.inl rfl) (by omega), fun r5 h5 _ => ?_⟩
    refine brn (fun hab => ?_) (fun hab => ?_)
    · have e : f = g := by omega
      subst e
      rw [h5, do_d_none (by omega) (by omega) (spanned_plain _ (Nat.le_refl _) hg false)]
      exact h
    · have hlt : f < g := by omega
      obtain ⟨e1, e2, e3⟩ := back_plain t 0 0 K h hl f g hlt hg r5 h5
      have hcut := cutL_length t h12 hg
      rw [e2, e3]
      refine ⟨apply_P t [] _ _ (by simp; omega), fun r6 h6 _ => ?_⟩
      rw [apply_cut t h12 hg (by omega)] at h6
      subst h6
      have hml : ((t.take g).drop f).length = g - f := by rw [List.length_drop, List.length_take]; omega
      have hcl2 : (cutL t f g).length ≤ 4294967296 := by omega
      have hml2 : ((t.take g).drop f).length < 4294967295 := by omega
      refine ⟨put_P hcl2 hml2, fun r7 h7 _ => ?_⟩
      obtain ⟨c, e7⟩ := put_plain (u := cutL t f g) (p := (t.take g).drop f) (f := f) (by omega) (by omega) (fun hh => by rw [hh] at hml; simp at hml; omega)
      have h7 := h7.trans e7
      subst h7
      have hP : change_Apply_P (cutL t f g) (oper_edited_F (cutL t f g) (f : Int) (f : Int) ((t.take g).drop f)) := apply_P _ _ _ _ (by omega)
      refine ⟨hP, fun r8 h8 _ => ?_⟩
      have h8 := h8.trans (back_at t h12 hg (by omega))
      subst h8
      refine brn (fun _ => ?_) (fun hh => absurd e1 hh)
      refine brn (fun _ => ?_) (fun hh => absurd rfl hh)
      refine brn (fun _ => ?_) (fun hh => absurd rfl hh)
      refine brn (fun _ => ?_) (fun hh => absurd rfl hh)
      refine asrt ⟨by omega, by omega, by omega⟩ ?_
      refine brn (fun _ => ?_) (fun hh => absurd (slc_nat t f g).symm hh)
      refine brb (fun _ => ?_) (fun hh => by cases hh)
      refine brn (fun _ => ?_) (fun hh => absurd rfl hh)
      have : ((cutL t f g).length : Int) = IntKind.wrap .i64 ((t.length : Int) - IntKind.wrap .i64 ((g : Int) - (f : Int))) := by
        rw [wrap_i64 (n := (g : Int) - f) (by omega) (by omega), wrap_i64 (by omega) (by omega), hcut]; omega
      show K (.one (.v .bool (decide (((cutL t f g).length : Int) = _)))) []
      rw [decide_eq_true this]; exact h
  · subst h2
    refine ⟨place_P (by omega), fun r9 h9 _ => ⟨place_P (by omega), fun r10 h10 _ => ?_⟩⟩
    obtain ⟨x, ha, ha2⟩ := place_F (i := q.1) (n := cnt t) (by omega) hq1.1 hq1.2
    obtain ⟨y, hb1, hb2⟩ := place_F (i := q.2.1) (n := cnt t) (by omega) hq2.1 hq2.2
    rw [ha] at h9
    rw [hb1] at h10
    subst h9; subst h10
    rw [(mnmx (a := x) (b := y)).1, (mnmx (a := x) (b := y)).2]
    have h12 : min x y ≤ max x y := by omega
    have hg : max x y ≤ cnt t := by omega
    generalize min x y = a at *
    generalize max x y = b at *
    obtain ⟨pa, hpa⟩ := begins_ex (t := t) (n := a) (by omega)
    have hpal := hpa.1
    intro r11 h11 _ r12 h12s _
    rw [start_at hpa] at h12s
    subst h12s
    refine ⟨do_any (.inl rfl) (by omega), fun r13 h13 _ => ?_⟩
    have hw1 : IntKind.wrap .i64 (IntKind.wrap .i64 ((cnt t : Int) + 1) - 1) = (cnt t : Int) := by
      rw [wrap_i64 (n := (cnt t : Int) + 1) (by omega) (by omega), wrap_i64 (by omega) (by omega)]; omega
    -- what d does over a range of lines
    have doit : ∀ (f g : Nat) (lead : Bool) (b' : Nat) (own : List Int), f < g → g ≤ t.length → r11 = (((f : Int), (g : Int), true, lead), 0) →
        extent_Whole_F t (((cnt (t.take f) + (if lead then 1 else 0) : Nat)) : Int) (b' : Int) = (((f : Int), (g : Int), true, lead), 0) → (b' + 1 = cnt (t.take g) ∨ b' = cnt t) → extent_Take_F t ((f : Int), (g : Int), true, lead) = ((true, true, own), 0) →
        r13.2 = 0 ∧ r13.1.1 = oper_edited_F t (f : Int) (g : Int) [] ∧ r13.1.2.2.1 = (true, true, own) ∧ r13.1.2.2.2.1 = 2 := by
      intro f g lead b' own hfg hgl e11 hwh hb' htk
      have hs := spanned_lines (at_ := (pa : Int)) hl (by omega) hgl hwh hb'
      obtain ⟨cur, how, e, hh⟩ := do_d (t := t) (at_ := (pa : Int)) (f := f) (g := g) (l := true) (lead := lead) (by omega) (by omega) hs hfg
      rw [e11] at h13
      have h13 := h13.trans e
      rw [htk] at h13
      subst h13
      exact ⟨rfl, rfl, rfl, hh rfl⟩
    by_cases hbn : b < cnt t
    · -- lines with another behind them
      obtain ⟨pe, hpe⟩ := begins_ex (t := t) (n := b + 1) (by omega)
      have hlt : pa < pe := hpa.lt hpe (by omega)
      have hpel := hpe.1
      have e11 : r11 = (((pa : Int), (pe : Int), true, false), 0) := h11.trans (whole_mid hl hpa hpe h12)
      have hten := begins_ten hpe (by omega)
      have htk := take_mid (t := t) hlt hpel (by omega) hten
      have hml : ((t.take pe).drop pa).length = pe - pa := by rw [List.length_drop, List.length_take]; omega
      have hlast : ((t.take pe).drop pa).getLast? = some 10 := by
        rw [List.getLast?_eq_getElem?, hml, List.getElem?_drop, List.getElem?_take_of_lt (by omega), show pa + (pe - pa - 1) = pe - 1 by omega]; exact hten
      obtain ⟨g1, g2, g3, g4⟩ := doit pa pe false b _ hlt hpel e11 (by
        have hw2 := whole_mid hl hpa hpe h12
        rw [← hpa.2.1] at hw2
        simpa using hw2) (.inl hpe.2.1.symm) htk
      have hcut := cutL_length t (Nat.le_of_lt hlt) hpel
      rw [e11]
      refine brx (fun hh => absurd rfl hh) (fun _ => ?_)
      refine brn (fun hh => absurd hh (by omega)) (fun _ => ?_)
      rw [g2]
      refine ⟨apply_P t [] _ _ (by simp; omega), fun r14 h14 _ => ?_⟩
      rw [apply_cut t (by omega) hpel (by omega)] at h14
      subst h14
      refine brx (fun hh => absurd g1 hh) (fun _ => ?_)
      refine brx (fun hh => absurd rfl hh) (fun _ => ?_)
      refine brb (fun hh => by rw [g3] at hh; cases hh) (fun _ => ?_)
      refine brx (fun hh => absurd g4 hh) (fun _ => ?_)
      have hbe : Begins (cutL t pa pe) a pa := hpa.same (Nat.le_refl _) (cutL_take t (by omega) hpel).symm hpal
      have J : quoinlaw19_OperBack_J0 (fun x4 => wfD quoinlaw19_OperBack_d0r (x4, ()) → K (.one (.v .bool x4)) []) t (IntKind.wrap .i64 ((cnt t : Int) + 1)) (a : Int) (b : Int) (cutL t pa pe) (a : Int) true r13.1 := by
        refine back_J0 t hl _ (fun _ => h) a b h12 (by omega) (cutL t pa pe) ((t.take pe).drop pa) (by omega) (by omega) a pa hbe true r13.1 g3 ?_ ?_
        · rw [cutL_cnt, hpa.2.1, hpe.2.1]; omega
        · obtain ⟨c, e⟩ := put_ahead (u := cutL t pa pe) (p := (t.take pe).drop pa) hbe (by omega) hlast
          exact ⟨c, pa, _, e, by omega, back_at t (by omega) hpel (by omega)⟩
      have hne : ¬ (b : Int) = IntKind.wrap .i64 (IntKind.wrap .i64 ((cnt t : Int) + 1) - 1) := by rw [hw1]; omega
      refine brn (fun _ => brn (fun hh => absurd hh hne) (fun _ => brn (fun hh => absurd hh hne) (fun _ _ => J))) (fun _ => brn (fun hh => absurd hh hne) (fun _ _ => J))
    · have hbe : b = cnt t := by omega
      subst hbe
      have hwh := whole_end hl hpa
      by_cases ha0 : 0 < a
      · -- the last lines, and others ahead of them
        rw [if_pos ha0] at hwh
        obtain ⟨hpp, hten⟩ := hpa.pos ha0
        have hof : cnt (t.take (pa - 1)) + 1 = a := by
          have h5 := cnt_take_succ hten
          rw [show pa - 1 + 1 = pa by omega, hpa.2.1] at h5
          omega
        have htk := take_lead (t := t) (f := pa - 1) hl (by omega) hten
        rw [show pa - 1 + 1 = pa by omega] at htk
        have e11 := h11.trans hwh
        obtain ⟨g1, g2, g3, g4⟩ := doit (pa - 1) t.length true (cnt t) _ (by omega) (Nat.le_refl _) e11 (by
          have : cnt (t.take (pa - 1)) + (if (true : Bool) then 1 else 0) = a := by simp; omega
          rw [this]; exact hwh) (.inr rfl) htk
        have hcut := cutL_length t (f := pa - 1) (g := t.length) (by omega) (Nat.le_refl _)
        have hcu : cutL t (pa - 1) t.length = t.take (pa - 1) := by unfold cutL; rw [List.drop_length, List.append_nil]
        rw [e11]
        refine brx (fun hh => absurd rfl hh) (fun _ => ?_)
        refine brn (fun hh => absurd hh (by omega)) (fun _ => ?_)
        rw [g2]
        refine ⟨apply_P t [] _ _ (by simp; omega), fun r14 h14 _ => ?_⟩
        rw [apply_cut t (by omega) (Nat.le_refl _) (by omega), hcu] at h14
        subst h14
        refine brx (fun hh => absurd g1 hh) (fun _ => ?_)
        refine brx (fun hh => absurd rfl hh) (fun _ => ?_)
        refine brb (fun hh => by rw [g3] at hh; cases hh) (fun _ => ?_)
        refine brx (fun hh => absurd g4 hh) (fun _ => ?_)
        refine brn (fun hh => absurd hh (by omega)) (fun _ => ?_)
        refine brn (fun _ => ?_) (fun hh => absurd hw1.symm hh)
        intro _
        rw [wrap_i64 (n := (a : Int) - 1) (by omega) (by omega), show (a : Int) - 1 = ((a - 1 : Nat) : Int) by omega]
        obtain ⟨q', hq'⟩ := begins_ex (t := t) (n := a - 1) (by omega)
        have hqlt : q' < pa := hq'.lt hpa (by omega)
        have hul : (t.take (pa - 1)).length = pa - 1 := by rw [List.length_take]; omega
        have hbu : Begins (t.take (pa - 1)) (a - 1) q' := hq'.same (q := pa - 1) (by omega) (by rw [List.take_take, Nat.min_self]) (by omega)
        have hown : (t.drop pa ++ [10]).length = t.length - pa + 1 := by rw [List.length_append, List.length_drop, List.length_singleton]
        refine back_J0 t hl _ (fun _ => h) a (cnt t) h12 (Nat.le_refl _) (t.take (pa - 1)) (t.drop pa ++ [10]) (by omega) (by omega) (a - 1) q' hbu false r13.1 g3 (by omega) ?_
        have hbu2 : Begins (t.take (pa - 1)) (cnt (t.take (pa - 1))) q' := by rw [show cnt (t.take (pa - 1)) = a - 1 by omega]; exact hbu
        obtain ⟨c, e⟩ := put_behind (u := t.take (pa - 1)) (p := t.drop pa ++ [10]) (by omega) hbu2 (by omega) (by simp)
        have e2 : (t.drop pa ++ [10]).take ((t.drop pa ++ [10]).length - 1) = t.drop pa := by
          rw [List.take_append_of_le_length (by rw [hown, List.length_drop]; omega), List.take_of_length_le (by rw [hown, List.length_drop]; omega)]
        rw [e2] at e
        refine ⟨c, (t.take (pa - 1)).length, _, e, by rw [List.length_append, List.length_singleton, List.length_drop]; omega, ?_⟩
        rw [apply_edited _ _ (Nat.le_refl _) (Nat.le_refl _) (by omega), List.take_length, List.drop_length, List.append_nil]
        have e3 : [(10 : Int)] ++ t.drop pa = t.drop (pa - 1) := by
          rw [List.drop_eq_getElem_cons (show pa - 1 < t.length by omega), show pa - 1 + 1 = pa by omega]
          have : t[pa - 1] = 10 := by
            rw [List.getElem?_eq_getElem (by omega)] at hten
            exact Option.some.inj hten
          rw [this]; rfl
        rw [e3, List.take_append_drop]
      · -- all lines
        rw [if_neg ha0] at hwh
        have ha0 : a = 0 := by omega
        subst ha0
        have e11 := h11.trans hwh
        rw [e11]
        refine brx (fun hh => absurd rfl hh) (fun _ => ?_)
        refine brn (fun hz => ?_) (fun hz => ?_)
        · refine brn (fun _ => ?_) (fun hh => absurd rfl hh)
          have ht0 : t = [] := List.eq_nil_of_length_eq_zero (by omega)
          have hs := spanned_lines (t := t) (at_ := (pa : Int)) (f := 0) (g := t.length) (lead := false) (b := cnt t) hl (by omega) (Nat.le_refl _) (by simpa [cnt] using hwh) (.inr rfl)
          have : (oper_Do_F t (pa : Int) [100] (0, (t.length : Int), true, false) 1).2 = 190 := by
            have hn := do_d_none (t := t) (at_ := (pa : Int)) (f := 0) (l := true) (lead := false) (by omega) (by omega) (by
              have hz' : (t.length : Int) = ((0 : Nat) : Int) := by omega
              rw [← hz']
              rw [hz'] at hs ⊢
              exact hs)
            have hz' : (t.length : Int) = ((0 : Nat) : Int) := by omega
            rw [hz']
            exact hn
          rw [e11] at h13
          rw [h13, this]
          exact h
        · have hpos : 0 < t.length := by omega
          have hs := spanned_lines (t := t) (at_ := (pa : Int)) (f := 0) (g := t.length) (lead := false) (b := cnt t) hl (by omega) (Nat.le_refl _) (by simpa [cnt] using hwh) (.inr rfl)
          obtain ⟨cur, how, e, hh⟩ := do_d (t := t) (at_ := (pa : Int)) (f := 0) (g := t.length) (l := true) (lead := false) (by omega) (by omega) hs hpos
          have hlt : (extent_Take_F t (((0 : Nat) : Int), (t.length : Int), true, false)).1.2.1 = true := by
            unfold extent_Take_F
            dsimp only
            rw [decide_eq_false (by omega : ¬ ((0 : Nat) : Int) < 0), decide_eq_false (by omega : ¬ (t.length : Int) < ((0 : Nat) : Int)), decide_eq_false (by omega : ¬ (t.length : Int) < t.length)]
            show (extent_Take_J0_F (slc t ((0 : Nat) : Int) (t.length : Int)) _ _).2.2.1 = true
            unfold extent_Take_J0_F
            dsimp only
            generalize (slices_Clone_byte_byte_F (slc t ((0 : Nat) : Int) (t.length : Int))) = z
            cases decide ((z.length : Int) = 0)
            · cases !decide (rd (0 : Int) z (IntKind.wrap .i64 ((z.length : Int) - 1)) = 10) <;> rfl
            · rfl
          rw [e11] at h13
          have h13 := h13.trans e
          subst h13
          have hcu : cutL t 0 t.length = [] := by unfold cutL; simp
          refine ⟨apply_P t [] _ _ (by simp; omega), fun r14 h14 _ => ?_⟩
          have h14 := h14.trans (apply_cut t (f := 0) (g := t.length) (by omega) (Nat.le_refl _) (by omega))
          rw [hcu] at h14
          subst h14
          refine brx (fun hh => absurd rfl hh) (fun _ => ?_)
          refine brx (fun hh => absurd rfl hh) (fun _ => ?_)
          refine brb (fun hh2 => by rw [hlt] at hh2; cases hh2) (fun _ => ?_)
          refine brx (fun hh2 => absurd (hh rfl) hh2) (fun _ => ?_)
          refine brn (fun _ => ?_) (fun hh2 => absurd rfl hh2)
          refine brn (fun _ => h) (fun hh2 => absurd hw1.symm hh2)
set_option maxRecDepth 100000 in
theorem back_law (v : valsA quoinlaw19_OperBack_A) (hw : wfA quoinlaw19_OperBack_A v) (_ : bulkA quoinlaw19_OperBack_A v ≤ 1048576) : quoinlaw19_OperBack_R (mkA quoinlaw19_OperBack_A v) (fun r _ => r = .one (.v .bool true)) := by
  obtain ⟨t, q, ⟨⟩⟩ := v
  exact (quoinlaw19_OperBack_walk t q _).mpr (back_raw t q _ hw rfl)
end Go.VE
