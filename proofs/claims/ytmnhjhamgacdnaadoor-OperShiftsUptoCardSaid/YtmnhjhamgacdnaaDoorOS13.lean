/- OperShifts: whatever the input, up to the bulk that the statement names, the law answers true, and what was handed in reads as it did. Its conditions: the bound of the given statement and the tables that its card ties, no other. -/
import Derived.Test.YtmnhjhamgacdnaaDoorOS12
import Derived.Shelf.Spec.SlicesInsert
set_option linter.unusedVariables false
set_option linter.unusedSectionVars false
set_option linter.unusedSimpArgs false
namespace Go.VE
open Go Go.RowKit Go.Lib

theorem rowRd {P : Program} {w : World} {b : Nat} {cur : Array Value} {el : TypeId} {fr : Nat × Nat} (hh : w.heap[b]? = some (.cells cur el fr)) (o l c : Nat) : Reads P w (.slice (some ⟨b, o, none⟩) l c) (cur.toList.drop o) :=
  reads_of fun j v hj => by
    rw [List.getElem?_drop, Array.getElem?_toList] at hj
    simp [World.cell?, hh, hj]

theorem Reads.take {P : Program} {w : World} {v : Value} {xs : List Value} (h : Reads P w v xs) (k : Nat) : Reads P w v (xs.take k) := fun n d hn => by
  rw [List.length_take] at hn
  rw [List.take_take, Nat.min_eq_left (by omega)]
  exact h n d (by omega)

theorem lay_get {cur : Array Value} {o : Nat} {vs : List Value} (h : o + vs.length ≤ cur.size) (q : Nat) : (lay cur o vs).toList[q]? = if o ≤ q ∧ q < o + vs.length then vs[q - o]? else cur.toList[q]? := by
  have := splice_get (l := cur.toList) (vs := vs) (s := o) (by rw [Array.length_toList]; exact h) q
  simpa [lay] using this

structure SrcB (P : Program) (w : World) (b : Nat) (A : Option Addr) (m vc : Nat) (xs : List Int) : Prop where
  len : xs.length = m
  byte : ∀ x ∈ xs, inR .u8 x
  rd : ∀ w' : World, (∀ k, k ≠ b → k < w.heap.size → w'.heap[k]? = w.heap[k]?) → Reads P w' (.slice A m vc) (bv xs)
  at' : 0 < m → ∃ vb vo, A = some ⟨vb, vo, none⟩ ∧ vb ≠ b ∧ vb < w.heap.size ∧ ∃ tA kA, w.shape? vb = some (tA, kA) ∧ kA ≠ 0

theorem SrcB.src {P : Program} {w : World} {b : Nat} {A : Option Addr} {m vc : Nat} {xs : List Int} (h : SrcB P w b A m vc xs) {t' el : Nat} (hu : P.underlying t' = some (.slice el)) : Src P (fun _ => True) w t' (.int .u8) xs (.slice A m vc) (bv xs) where
  ty := ⟨_, hu, fun k h => by cases h⟩
  len := fun n => by simp [Builtin.lenOf, h.len]
  cells := fun n => by
    have := h.rd w (fun _ _ _ => rfl) xs.length n (Nat.le_of_eq (bv_length xs).symm)
    rw [List.take_of_length_le (Nat.le_of_eq (bv_length xs))] at this
    exact this
  size := by rw [bv_length]; simp [Ty.cells]
  one := bv_one xs
  rep := fun i hi => ⟨[.int .u8 xs[i]], ⟨h.byte _ (List.getElem_mem hi), rfl⟩, fun j u hu => by
    cases j with
    | succ j => simp at hu
    | zero => simp at hu; subst hu; simp [bv, Ty.cells, hi]⟩

theorem app_room {P : Program} {w : World} {t ty el : TypeId} {i : TypeInfo} (ht : P.underlying t = some (.slice el)) (hi : P.info? el = some i) (hz : i.zero = some (.int .u8 0)) (hs : i.size = 1) (hby : i.bytes ≤ 128)
    {b n c : Nat} {cur : Array Value} {fr : Nat × Nat} (hh : w.heap[b]? = some (.cells cur el fr)) (hfr : fr.1 = fr.2) (hcz : c ≤ cur.size) (hnc : n ≤ c) {A : Option Addr} {m vc : Nat} {xs : List Int} (h : SrcB P w b A m vc xs) (hroom : n + m ≤ c) :
    (Builtin.append_ #[t, t] ty #[.slice (some ⟨b, 0, none⟩) n c, .slice A m vc]).run P w = .ok (.slice (some ⟨b, 0, none⟩) (n + m) c) (w.setRow b (lay cur n (bv xs))) := by
  have := ((run_append_src (w := w) (ty := ty) (e := .int .u8) ht hi hz hs hby (h.src ht)).2 b n c cur fr hh (.inl hfr) (by simpa [Ty.cells] using hcz) hnc).1 (by rw [h.len]; exact hroom)
  simpa [Ty.cells, h.len, lay] using this

theorem app_grow {P : Program} {w : World} {t ty el : TypeId} {i : TypeInfo} (ht : P.underlying t = some (.slice el)) (hi : P.info? el = some i) (hz : i.zero = some (.int .u8 0)) (hs : i.size = 1) (hby : i.bytes ≤ 128)
    {b n c : Nat} {cur : Array Value} {fr : Nat × Nat} (hh : w.heap[b]? = some (.cells cur el fr)) (hfr : fr.1 = fr.2) (hcz : c ≤ cur.size) (hnc : n ≤ c) {A : Option Addr} {m vc : Nat} {xs : List Int} (h : SrcB P w b A m vc xs) (hg : c < n + m) (hl : n + m ≤ lim) :
    ∃ R, (Builtin.append_ #[t, t] ty #[.slice (some ⟨b, 0, none⟩) n c, .slice A m vc]).run P w = .ok (.slice (some ⟨w.heap.size, 0, none⟩) (n + m) (grownCap w (n + m) c el)) (w.drew.alloc (.cells R el)) ∧
      R.toList.take (n + m) = cur.toList.take n ++ bv xs ∧ grownCap w (n + m) c el ≤ R.size := by
  have := ((run_append_src (w := w) (ty := ty) (e := .int .u8) ht hi hz hs hby (h.src ht)).2 b n c cur fr hh (.inl hfr) (by simpa [Ty.cells] using hcz) hnc).2 (by rw [h.len]; exact hg) (by rw [h.len]; exact hl)
  rw [h.len] at this
  have hge := grownCap_ge w (n + m) c el
  have hl1 : (cur.toList.take n).length = n := by rw [List.length_take, Array.length_toList]; omega
  refine ⟨_, this, ?_, ?_⟩
  · simp only [Ty.cells, Nat.mul_one, Array.toList_append]
    rw [List.take_append_of_le_length (by simp [h.len, bv_length]; omega)]
    rw [List.take_of_length_le (by simp [h.len, bv_length]; omega)]
  · simp only [Ty.cells, Nat.mul_one, Array.size_append, List.size_toArray, bv_length, h.len, hl1, size_zeroCells, zeroV, Value.cells]
    simp [Ty.agg, zeroC]
    omega

theorem app_zeros {P : Program} {w : World} {t tn el : TypeId} {i : TypeInfo} (ht : P.underlying t = some (.slice el)) (htn : P.underlying tn = some (.int .i64)) (hi : P.info? el = some i) (hz : i.zero = some (.int .u8 0)) (hs : i.size = 1) (hby : i.bytes = 1)
    {b n c : Nat} {cur : Array Value} {fr : Nat × Nat} (hh : w.heap[b]? = some (.cells cur el fr)) (hcz : n ≤ cur.size) (k : Nat) (h0 : 0 < k) (hg : c < n + k) (hl : n + k ≤ lim) :
    ∃ R, (∀ ty, (Builtin.append_ #[t, tn] ty #[.slice (some ⟨b, 0, none⟩) n c, .int .i64 (k : Int)]).run P w = .ok (.slice (some ⟨w.heap.size, 0, none⟩) (n + k) (grownCap w (n + k) c el)) (w.drew.alloc (.cells R el))) ∧
      R.toList.take n = cur.toList.take n ∧ grownCap w (n + k) c el ≤ R.size := by
  have hl1 : (cur.toList.take n).length = n := by rw [List.length_take, Array.length_toList]; omega
  have hold : (Builtin.firstCells i.size n (.slice (some ⟨b, 0, none⟩) n c)).run P w.drew = .ok (cur.toList.take n).toArray w.drew := by
    rw [hs]
    have := rowRd (P := P) hh 0 n c n (w.drawn + 1) (by rw [List.drop_zero, Array.length_toList]; exact hcz)
    rw [List.drop_zero] at this
    exact this
  have hge := grownCap_ge w (n + k) c el
  have h1 := nextslicecap_le hg
  unfold lim at hl
  refine ⟨_, fun ty => Lib.run_append_grow_zeros w t tn ty el i (.int .u8 0) .i64 .i64 ht htn hi hz (some ⟨b, 0, none⟩) n c (cur.toList.take n) hold k h0 (by omega) hg (by omega) (by rw [hby]; omega) (by rw [hby]; omega), ?_, ?_⟩
  · simp only [Array.toList_append]
    rw [List.append_assoc, List.take_append_of_le_length (by simp only [hl1]; exact Nat.le_refl _), List.take_of_length_le (by simp only [hl1]; exact Nat.le_refl _)]
  · simp only [Array.size_append, List.size_toArray, hl1, size_zeroCells, Value.cells]
    simp
    omega

def DoneB (w : World) (b : Nat) (zs : List Value) (v : Value) (w' : World) : Prop :=
  ∃ b' cap cur fr, v = .slice (some ⟨b', 0, none⟩) zs.length cap ∧ (b' = b ∨ b' = w.heap.size) ∧ zs.length ≤ cap ∧ cap ≤ maxLen ∧ w'.heap[b']? = some (.cells cur 5 fr) ∧ fr.1 = fr.2 ∧ cap ≤ cur.size ∧
    cur.toList.take zs.length = zs ∧ w.heap.size ≤ w'.heap.size ∧ (∀ k, k ≠ b → k < w.heap.size → w'.heap[k]? = w.heap[k]?) ∧ w'.os = w.os ∧ w'.tape = w.tape ∧ w'.output = w.output

end Go.VE
namespace Go.Proofs
open Go.Shelf Go.RowKit Go.Lib Go.VE
section
variable (b n c : Nat) (cur : Array Value) (fr : Nat × Nat) (w : World)

set_option maxHeartbeats 4000000 in
set_option maxRecDepth 100000 in
theorem ins_shift (hh : w.heap[b]? = some (.cells cur 5 fr)) (hfr : fr.1 = fr.2) (hnc : n ≤ c) (hcm : c ≤ maxLen) (hcz : c ≤ cur.size) (A : Option Addr) (m vc : Nat) (xs : List Int) (hs : SrcB Tryd.prog w b A m vc xs) (hm : 0 < m)
    (i : Nat) (hi : i < n) (hroom : n + m ≤ c) (h1c : ∀ v ∈ cur.toList.take n, v.oneCell' = true) :
    Calls Tryd.prog 112 #[.slice (some ⟨b, 0, none⟩) n c, .int .i64 i, .slice A m vc] w fun e w' =>
      e = .returned (.slice (some ⟨b, 0, none⟩) (n + m) c) ∧ w' = w.drew.setRow b (lay (lay cur (i + m) ((cur.toList.drop i).take (n - i))) i (bv xs)) := by
  obtain ⟨vb, vo, rfl, hvb, hvw, tA, kA, hsa, hkA⟩ := hs.at' hm
  have hz1 : ¬ ((m : Int) = 0) := by omega
  have hz2 : ¬ ((i : Int) = (n : Int)) := by omega
  have hc63 : c ≤ 9223372036854775807 := hcm
  have hyl := hs.len
  have hu22 : Tryd.prog.underlying 22 = some (.slice 5) := by kernel_rfl
  have hsz : (Tryd.prog.info? 5).map (·.size) = some 1 := by kernel_rfl
  have hsz5 : ∀ w, (sizeOf 5).run Tryd.prog w = .ok 1 w := fun w => by
    cases hq : Tryd.prog.info? 5 with
    | none => simp [hq] at hsz
    | some i => simp [sizeOf, typeInfo, hq]; simpa [hq] using hsz
  have hsb : w.shape? b = some (5, cur.size) := by simp [World.shape?, hh]
  have hfz : ∀ o, w.frozen? ⟨b, o, none⟩ = false := fun o => by simp [World.frozen?, hh]; omega
  have hov : ∀ lb cb, (callFunc 113 #[.slice (some ⟨vb, vo, none⟩) m vc, .slice (some ⟨b, i + m, none⟩) lb cb]).run Tryd.prog w = .ok (.value (.bool false)) w := fun lb cb => by
    rw [run_callFunc_extern (fn := Tryd.f113) rfl (by kernel_rfl) (by kernel_rfl) (by kernel_rfl) (e := Extern.SlicesOverlaps.overlaps #[22, 22] #[4]) (by kernel_rfl),
      overlaps_own w 22 4 5 hu22 1 hsz5 ⟨vb, vo, none⟩ ⟨b, i + m, none⟩ m vc lb cb hvb tA 5 kA cur.size hsa hsb hkA (by omega) (.inl fun o => ⟨hfz o, hfz _⟩)]
    rfl
  have hw1 : IntKind.i64.wrap ((i : Int) + (m : Int)) = (i : Int) + (m : Int) := by rw [IntKind.wrap_i64]; omega
  have hb1 : (0 : Int) ≤ (i : Int) + (m : Int) := by omega
  have hin : i ≤ n := by omega
  have htn : ((i : Int) + (m : Int)).toNat = i + m := by omega
  have hb2 : ¬ (c = i + m) := by omega
  have hb3 : (i : Int) ≤ (n : Int) + (m : Int) := by omega
  have hb4 : ¬ (c = i) := by omega
  have hmin : Nat.min (n + m - i) (n + m - (i + m)) = n - i := by simp only [Nat.min_def]; split <;> omega
  have hmin2 : Nat.min m (n + m - i) = m := by simp only [Nat.min_def]; split <;> omega
  have hcp1 : ∀ ty dc sc, (Builtin.copy_ #[22, 22] ty #[.slice (some ⟨b, i + m, none⟩) (n + m - (i + m)) dc, .slice (some ⟨b, i, none⟩) (n + m - i) sc]).run Tryd.prog w.drew =   .ok (goInt ((n - i : Nat) : Int)) (w.drew.setRow b (lay cur (i + m) ((cur.toList.drop i).take (n - i)))) := fun ty dc sc => by
    have := copy_run (P := Tryd.prog) w.drew 22 22 ty 5 hu22 hsz b (i + m) (n + m - (i + m)) dc cur fr hh hfr (some ⟨b, i, none⟩) (n + m - i) sc ((cur.toList.drop i).take (n - i)) ((rowRd (w := w.drew) hh _ _ _).take _) (by rw [hmin]; simp; omega) (fun v hv => h1c v (by rw [← List.drop_take] at hv; exact List.mem_of_mem_drop hv)) (by rw [hmin]; omega)
    rw [hmin, List.take_take, Nat.min_self] at this
    exact this
  obtain ⟨cur1, hc1⟩ : ∃ x, x = lay cur (i + m) ((cur.toList.drop i).take (n - i)) := ⟨_, rfl⟩
  have hcs1 : cur1.size = cur.size := by rw [hc1, lay_size]; simp; omega
  have hcp2 : ∀ ty dc, (Builtin.copy_ #[22, 22] ty #[.slice (some ⟨b, i, none⟩) (n + m - i) dc, .slice (some ⟨vb, vo, none⟩) m vc]).run Tryd.prog (w.drew.setRow b cur1) = .ok (goInt m) (w.drew.setRow b (lay cur1 i (bv xs))) := fun ty dc => by
    have := copy_run (P := Tryd.prog) (w.drew.setRow b cur1) 22 22 ty 5 hu22 hsz b i (n + m - i) dc cur1 fr (setRow_heap w.drew b cur cur1 _ fr hh) hfr (some ⟨vb, vo, none⟩) m vc (bv xs) (hs.rd _ fun k hk _ => setRow_other w.drew b k cur1 hk) (by rw [hmin2, bv_length]; omega) (bv_one xs) (by rw [hmin2]; omega)
    rw [hmin2, List.take_of_length_le (by rw [bv_length]; omega), setRow_setRow] at this
    exact this
  rw [← hc1] at hcp1 ⊢
  have mixed := tb_M
  clear hc1 hs hh hsa hsb hfz
  go_enter Tryd.func112, Tryd.ntmps112
  go_wp2_with (simp only [hov])
  go_region_law_o (refine step_copy_runI rfl _ _ 22 22 rfl _ _ (by simp [Act.eval, Act.put]) (by simp [Act.eval, Act.put]) (hcp1 _ _ _) ?_)
  go_wp2_with (at_builtin; refine wpList_copy_runI _ rfl _ _ 22 22 rfl _ _ rfl rfl (hcp2 _ _) ?_)
  go_ret
  exact ⟨rfl, rfl⟩

theorem u8info : ∃ i, Tryd.prog.info? 5 = some i ∧ i.zero = some (.int .u8 0) ∧ i.size = 1 ∧ i.bytes = 1 := by
  obtain ⟨i, hi, h1, h2, h3⟩ := (tb_ok 5 ⟨.int .u8, 0, [], 1⟩ rfl).info
  exact ⟨i, hi, h3, h1, h2⟩

set_option maxHeartbeats 4000000 in
set_option maxRecDepth 100000 in
theorem ins_end (c : Nat) (A : Option Addr) (m vc : Nat) (hm : 0 < m) (v' : Value) (w' : World)
    (hrun : ∀ ty, (Builtin.append_ #[22, 22] ty #[.slice (some ⟨b, 0, none⟩) n c, .slice A m vc]).run Tryd.prog w = .ok v' w') :
    Calls Tryd.prog 112 #[.slice (some ⟨b, 0, none⟩) n c, .int .i64 n, .slice A m vc] w fun e w'' => e = .returned v' ∧ w'' = w' := by
  have hz1 : ¬ ((m : Int) = 0) := by omega
  have mixed := tb_M
  go_enter Tryd.func112, Tryd.ntmps112
  go_wp2_with (at_builtin; refine Lib.wpList_append_run _ rfl _ _ _ _ rfl _ _ rfl rfl _ _ (hrun _) ?_)
  all_goals (go_ret; exact ⟨rfl, rfl⟩)

set_option maxHeartbeats 4000000 in
set_option maxRecDepth 100000 in
theorem ins_grow (hh : w.heap[b]? = some (.cells cur 5 fr)) (hfr : fr.1 = fr.2) (hnc : n ≤ c) (hcm : c ≤ maxLen) (hcz : c ≤ cur.size) (A : Option Addr) (m vc : Nat) (xs : List Int) (hs : SrcB Tryd.prog w b A m vc xs) (hm : 0 < m)
    (i : Nat) (hi : i < n) (hroom : c < n + m) (hl : n + m ≤ lim) (h1c : ∀ v ∈ cur.toList.take n, v.oneCell' = true)
    (R : Array Value) (hR : ∀ ty, (Builtin.append_ #[22, 3] ty #[.slice (some ⟨b, 0, none⟩) i c, .int .i64 ((n + m - i : Nat) : Int)]).run Tryd.prog w = .ok (.slice (some ⟨w.heap.size, 0, none⟩) (i + (n + m - i)) (grownCap w (i + (n + m - i)) c 5)) (w.drew.alloc (.cells R 5)))
    (hRz : grownCap w (i + (n + m - i)) c 5 ≤ R.size) :
    Calls Tryd.prog 112 #[.slice (some ⟨b, 0, none⟩) n c, .int .i64 i, .slice A m vc] w fun e w' =>
      e = .returned (.slice (some ⟨w.heap.size, 0, none⟩) (n + m) (grownCap w (n + m) c 5)) ∧ w' = (((w.alloc (.cells R 5)).drew.setRow w.heap.size (lay R i (bv xs))).drew).setRow w.heap.size (lay (lay R i (bv xs)) (i + m) ((cur.toList.drop i).take (n - i))) := by
  have hz1 : ¬ ((m : Int) = 0) := by omega
  have hz2 : ¬ ((i : Int) = (n : Int)) := by omega
  have hz3 : (c : Int) < (n : Int) + (m : Int) := by omega
  have hc63 : c ≤ 9223372036854775807 := hcm
  have hxl := hs.len
  have hu22 : Tryd.prog.underlying 22 = some (.slice 5) := by kernel_rfl
  have hsz : (Tryd.prog.info? 5).map (·.size) = some 1 := by kernel_rfl
  have hbw : b < w.heap.size := by
    rcases Nat.lt_or_ge b w.heap.size with h | h
    · exact h
    · rw [Array.getElem?_eq_none h] at hh; cases hh
  have hkk : (n : Int) + (m : Int) - (i : Int) = ((n + m - i : Nat) : Int) := by omega
  have hik : i + (n + m - i) = n + m := by omega
  rw [hik] at hR hRz
  rw [← hkk] at hR
  have hGn := grownCap_ge w (n + m) c 5
  have hG63 := grownCap_le_maxLen w (n + m) c 5 (by unfold lim at hl; unfold maxLen; omega)
  generalize hG : grownCap w (n + m) c 5 = G at *
  have hG63 : G ≤ 9223372036854775807 := hG63
  have hGi : ¬ (G = i) := by omega
  have hGim : ¬ (G = i + m) := by omega
  have hci : ¬ (c = i) := by omega
  have hmin1 : Nat.min m (n + m - i) = m := by simp only [Nat.min_def]; split <;> omega
  have hmin2 : Nat.min (n - i) (n + m - (i + m)) = n - i := by simp only [Nat.min_def]; split <;> omega
  have hnew : (w.alloc (.cells R 5)).drew.heap[w.heap.size]? = some (.cells R 5 (0, 0)) := heap_alloc_new w _
  have hold : ∀ k, k < w.heap.size → (w.alloc (.cells R 5)).drew.heap[k]? = w.heap[k]? := fun k hk => heap_alloc_old w _ hk
  have hcp1 : ∀ ty dc, (Builtin.copy_ #[22, 22] ty #[.slice (some ⟨w.heap.size, i, none⟩) (n + m - i) dc, .slice A m vc]).run Tryd.prog (w.alloc (.cells R 5)).drew = .ok (goInt m) ((w.alloc (.cells R 5)).drew.setRow w.heap.size (lay R i (bv xs))) := fun ty dc => by
    have := copy_run (P := Tryd.prog) (w.alloc (.cells R 5)).drew 22 22 ty 5 hu22 hsz w.heap.size i (n + m - i) dc R (0, 0) hnew rfl A m vc (bv xs) (hs.rd _ fun k _ hk => hold k hk) (by rw [hmin1, bv_length]; omega) (bv_one xs) (by rw [hmin1]; omega)
    rw [hmin1, List.take_of_length_le (by rw [bv_length]; omega)] at this
    exact this
  have hls : (lay R i (bv xs)).size = R.size := lay_size (by rw [bv_length]; omega)
  have hcp2 : ∀ ty dc sc, (Builtin.copy_ #[22, 22] ty #[.slice (some ⟨w.heap.size, i + m, none⟩) (n + m - (i + m)) dc, .slice (some ⟨b, i, none⟩) (n - i) sc]).run Tryd.prog ((w.alloc (.cells R 5)).drew.setRow w.heap.size (lay R i (bv xs))).drew = .ok (goInt ((n - i : Nat) : Int)) (((w.alloc (.cells R 5)).drew.setRow w.heap.size (lay R i (bv xs))).drew.setRow w.heap.size (lay (lay R i (bv xs)) (i + m) ((cur.toList.drop i).take (n - i)))) := fun ty dc sc => by
    have hhb : ((w.alloc (.cells R 5)).drew.setRow w.heap.size (lay R i (bv xs))).drew.heap[b]? = some (.cells cur 5 fr) := by
      show ((w.alloc (.cells R 5)).drew.setRow w.heap.size (lay R i (bv xs))).heap[b]? = _
      rw [setRow_other _ _ _ _ (by omega), hold b hbw]; exact hh
    have := copy_run (P := Tryd.prog) ((w.alloc (.cells R 5)).drew.setRow w.heap.size (lay R i (bv xs))).drew 22 22 ty 5 hu22 hsz w.heap.size (i + m) (n + m - (i + m)) dc (lay R i (bv xs)) (0, 0) (setRow_heap (w.alloc (.cells R 5)).drew w.heap.size R _ _ _ hnew) rfl (some ⟨b, i, none⟩) (n - i) sc ((cur.toList.drop i).take (n - i)) ((rowRd hhb _ _ _).take _) (by rw [hmin2]; simp; omega) (fun v hv => h1c v (by rw [← List.drop_take] at hv; exact List.mem_of_mem_drop hv)) (by rw [hmin2]; omega)
    rw [hmin2, List.take_take, Nat.min_self] at this
    exact this
  have hw1 : IntKind.i64.wrap ((i : Int) + (m : Int)) = (i : Int) + (m : Int) := by rw [IntKind.wrap_i64]; omega
  have hb1 : (0 : Int) ≤ (i : Int) + (m : Int) := by omega
  have hin : i ≤ n := by omega
  have htn : ((i : Int) + (m : Int)).toNat = i + m := by omega
  have hb3 : (i : Int) ≤ (n : Int) := by omega
  have mixed := tb_M
  generalize lay (lay R i (bv xs)) (i + m) ((cur.toList.drop i).take (n - i)) = R2 at hcp2 ⊢
  generalize lay R i (bv xs) = R1 at hcp1 hcp2 ⊢
  clear hkk hik hs hh hnew hold hls hG
  go_enter Tryd.func112, Tryd.ntmps112
  go_wp2_with (first
    | (at_builtin; refine Lib.wpList_append_run _ rfl _ _ _ _ rfl _ _ rfl rfl _ _ (hR _) ?_)
    | (at_builtin; refine wpList_copy_runI _ rfl _ _ 22 22 rfl _ _ rfl rfl (hcp1 _ _) ?_))
  go_region_law_o (refine step_copy_runI rfl _ _ 22 22 rfl (.slice (some ⟨w.heap.size, i + m, none⟩) (n + m - (i + m)) (G - (i + m))) (.slice (some ⟨b, i, none⟩) (n - i) (c - i)) (by simp [Act.eval, Act.put]) (by simp [Act.eval, Act.put]) (hcp2 3 (G - (i + m)) (c - i)) ?_)
  go_wp2
  go_ret
  exact ⟨rfl, rfl⟩

set_option maxHeartbeats 4000000 in
set_option maxRecDepth 100000 in
theorem ins_none (c : Nat) (A : Option Addr) (vc i : Nat) (hi : i ≤ n) :
    Calls Tryd.prog 112 #[.slice (some ⟨b, 0, none⟩) n c, .int .i64 i, .slice A 0 vc] w fun e w'' => e = .returned (.slice (some ⟨b, 0, none⟩) n c) ∧ w'' = w := by
  have mixed := tb_M
  go_enter Tryd.func112, Tryd.ntmps112
  go_wp2
  all_goals (go_ret; exact ⟨rfl, rfl⟩)
end
end Go.Proofs
namespace Go.VE
open Go
theorem wpList_clear_run {P : Program} (w : World) {ops : Array Oper} {rest : List Oper} {o : Oper} {a : Act} {Q : Exit → Act → World → Prop} (hgd : o.guard = none) (x : Operand) (t : TypeId)
    (ho : o.op = .call { callee := .builtin .clear, args := #[x], argTypes := #[t] }) (vx : Value) (hx : a.eval x = vx)
    (v' : Value) (w' : World) (hr : (Builtin.clear_ #[t] o.type #[vx]).run P w = .ok v' w') (h : wpList P ops Q rest (a.put o.dst v') w') : wpList P ops Q (o :: rest) a w := by
  refine wpList_plain hgd fun K hK => ?_
  unfold Oper.wp
  have e : (execOp a.eval o).run P w = .ok (.value v') w' := by
    unfold execOp
    rw [ho]
    simp [invoke, resolve, builtin, hx, hr]
  rw [e]
  exact hK _ _ h
end Go.VE
namespace Go.Proofs
open Go.Shelf Go.RowKit Go.Lib Go.VE
section
variable (b n c : Nat) (cur : Array Value) (fr : Nat × Nat) (w : World)

set_option maxHeartbeats 4000000 in
set_option maxRecDepth 100000 in
theorem rep_ins (i : Nat) (hi : i ≤ n) (hnc : n ≤ c) (A : Option Addr) (m vc : Nat) (Post : Value → World → Prop)
    (hc : Calls Tryd.prog 112 #[.slice (some ⟨b, 0, none⟩) n c, .int .i64 i, .slice A m vc] w fun e w' => ∃ u, e = .returned u ∧ Post u w') :
    Calls Tryd.prog 72 #[.slice (some ⟨b, 0, none⟩) n c, .int .i64 i, .int .i64 i, .slice A m vc] w fun e w' => ∃ u, e = .returned u ∧ Post u w' := by
  have mixed := tb_M
  have e58 : ∀ args w, (callFunc 112 args).run Tryd.prog w = .ok (.enter 112 args) w := VE.enters_of Tryd.func112 (by kernel_rfl)
  have hic : i ≤ c := by omega
  go_enter Tryd.func72, Tryd.ntmps72
  go_wp2_with (first
    | (go_at_fn 112; refine hc.mono ?_; rintro e w' ⟨u, rfl, hp⟩))
  all_goals (go_ret; exact ⟨_, rfl, hp⟩)

set_option maxHeartbeats 4000000 in
set_option maxRecDepth 100000 in
theorem rep_end (i : Nat) (hi : i < n) (hnc : n ≤ c) (A : Option Addr) (m vc : Nat) (hm : n ≤ i + m) (B : Option Addr) (c' : Nat) (w' : World)
    (hrun : ∀ ty, (Builtin.append_ #[22, 22] ty #[.slice (some ⟨b, 0, none⟩) i c, .slice A m vc]).run Tryd.prog w = .ok (.slice B (i + m) c') w') :
    Calls Tryd.prog 72 #[.slice (some ⟨b, 0, none⟩) n c, .int .i64 i, .int .i64 n, .slice A m vc] w fun e w'' => e = .returned (.slice B (i + m) c') ∧ w'' = w' := by
  have mixed := tb_M
  have hin : i ≤ n := by omega
  have hic : i ≤ c := by omega
  have hz1 : ¬ ((i : Int) = (n : Int)) := by omega
  have hz2 : ¬ ((i : Int) + (m : Int) < (n : Int)) := by omega
  have hb4 : ¬ (c = i) := by omega
  go_enter Tryd.func72, Tryd.ntmps72
  go_wp2_with (at_builtin; refine Lib.wpList_append_run _ rfl _ _ _ _ rfl _ _ rfl rfl _ _ (hrun _) ?_)
  all_goals (go_ret; exact ⟨rfl, rfl⟩)

set_option maxHeartbeats 4000000 in
set_option maxRecDepth 100000 in
theorem rep_cut (hh : w.heap[b]? = some (.cells cur 5 fr)) (hfr : fr.1 = fr.2) (i : Nat) (hi : i < n) (hnc : n ≤ c) (hcz : c ≤ cur.size) (A : Option Addr) (m vc : Nat) (xs : List Int) (hs : SrcB Tryd.prog w b A m vc xs) (hm : i + m < n) :
    Calls Tryd.prog 72 #[.slice (some ⟨b, 0, none⟩) n c, .int .i64 i, .int .i64 n, .slice A m vc] w fun e w' =>
      e = .returned (.slice (some ⟨b, 0, none⟩) (i + m) c) ∧ w' = w.setRow b (lay (lay cur i (bv xs)) (i + m) (List.replicate (n - (i + m)) (.int .u8 0))) := by
  have mixed := tb_M
  have hin : i ≤ n := by omega
  have hic : i ≤ c := by omega
  have hz1 : ¬ ((i : Int) = (n : Int)) := by omega
  have hz2 : (i : Int) + (m : Int) < (n : Int) := by omega
  have hb4 : ¬ (c = i) := by omega
  have hb5 : ¬ (c = i + m) := by omega
  have hb1 : (0 : Int) ≤ (i : Int) + (m : Int) := by omega
  have hb6 : (i : Int) + (m : Int) ≤ (n : Int) := by omega
  have htn : ((i : Int) + (m : Int)).toNat = i + m := by omega
  have hu22 : Tryd.prog.underlying 22 = some (.slice 5) := by kernel_rfl
  obtain ⟨ti, h1, h2, h3, h4⟩ := u8info
  have hz : ∀ w, (zeroValue 5).run Tryd.prog w = .ok (.int .u8 0) w := fun w => by simp [zeroValue, typeInfo, h1, h2]
  have hxl := hs.len
  have hrun : ∀ ty, (Builtin.append_ #[22, 22] ty #[.slice (some ⟨b, 0, none⟩) i c, .slice A m vc]).run Tryd.prog w = .ok (.slice (some ⟨b, 0, none⟩) (i + m) c) (w.setRow b (lay cur i (bv xs))) := fun ty =>
    app_room (w := w) hu22 h1 h2 h3 (by omega) hh hfr hcz hic hs (by omega)
  have hls : (lay cur i (bv xs)).size = cur.size := lay_size (by rw [bv_length]; omega)
  have hcl : ∀ ty cc, (Builtin.clear_ #[22] ty #[.slice (some ⟨b, i + m, none⟩) (n - (i + m)) cc]).run Tryd.prog (w.setRow b (lay cur i (bv xs))) = .ok (.tuple #[]) (w.setRow b (lay (lay cur i (bv xs)) (i + m) (List.replicate (n - (i + m)) (.int .u8 0)))) := fun ty cc => by
    have := clear_run (P := Tryd.prog) (w.setRow b (lay cur i (bv xs))) 22 ty 5 hu22 hz b (i + m) (n - (i + m)) cc (lay cur i (bv xs)) fr (setRow_heap w b cur _ _ fr hh) hfr (by omega)
    rw [setRow_setRow] at this
    exact this
  generalize lay (lay cur i (bv xs)) (i + m) (List.replicate (n - (i + m)) (.int .u8 0)) = R2 at hcl ⊢
  generalize lay cur i (bv xs) = R1 at hrun hcl hls ⊢
  clear hs hh hls
  go_enter Tryd.func72, Tryd.ntmps72
  go_wp2_with (first
    | (at_builtin; refine Lib.wpList_append_run _ rfl _ _ _ _ rfl _ _ rfl rfl _ _ (hrun _) ?_)
    | (at_builtin; refine wpList_clear_run _ rfl _ _ rfl _ rfl _ _ (hcl _ _) ?_))
  all_goals (go_ret; exact ⟨rfl, rfl⟩)

set_option maxHeartbeats 4000000 in
set_option maxRecDepth 100000 in
theorem rep_small (hh : w.heap[b]? = some (.cells cur 5 fr)) (hfr : fr.1 = fr.2) (i j : Nat) (hi : i < j) (hj : j < n) (hnc : n ≤ c) (hcm : c ≤ maxLen) (hcz : c ≤ cur.size) (A : Option Addr) (m vc : Nat) (xs : List Int) (hs : SrcB Tryd.prog w b A m vc xs) (hm : i + m ≤ j) (h1c : ∀ v ∈ cur.toList.take n, v.oneCell' = true) :
    Calls Tryd.prog 72 #[.slice (some ⟨b, 0, none⟩) n c, .int .i64 i, .int .i64 j, .slice A m vc] w fun e w' =>
      e = .returned (.slice (some ⟨b, 0, none⟩) (i + m + (n - j)) c) ∧
        ∃ R3, w' = (w.drew.setRow b (lay cur i (bv xs))).drew.setRow b R3 ∧ R3.size = cur.size ∧ ∀ q, q < i + m + (n - j) → R3.toList[q]? = (lay (lay cur i (bv xs)) (i + m) ((cur.toList.drop j).take (n - j))).toList[q]? := by
  have mixed := tb_M
  have hc63 : c ≤ 9223372036854775807 := hcm
  have hxl := hs.len
  have hu22 : Tryd.prog.underlying 22 = some (.slice 5) := by kernel_rfl
  have hsz : (Tryd.prog.info? 5).map (·.size) = some 1 := by kernel_rfl
  have hz1 : ¬ ((i : Int) = (j : Int)) := by omega
  have hz2 : ¬ ((j : Int) = (n : Int)) := by omega
  have hin : i ≤ n := by omega
  have hjn : j ≤ n := by omega
  have hij : i ≤ j := by omega
  have hic : i ≤ c := by omega
  have hjc : j ≤ c := by omega
  have hci : ¬ (c = i) := by omega
  have hcj : ¬ (c = j) := by omega
  have hsub : ((n - j : Nat) : Int) = (n : Int) - (j : Int) := by omega
  have hw1 : IntKind.i64.wrap ((i : Int) + (m : Int)) = (i : Int) + (m : Int) := by rw [IntKind.wrap_i64]; omega
  have hw2 : IntKind.i64.wrap ((i : Int) + (m : Int) + ((n : Int) - (j : Int))) = (i : Int) + (m : Int) + ((n : Int) - (j : Int)) := by rw [IntKind.wrap_i64]; omega
  have hw3 : IntKind.i64.wrap ((n : Int) - (j : Int)) = (n : Int) - (j : Int) := by rw [IntKind.wrap_i64]; omega
  have hb1 : (0 : Int) ≤ (i : Int) + (m : Int) := by omega
  have htn : ((i : Int) + (m : Int)).toNat = i + m := by omega
  have hT0 : (0 : Int) ≤ (i : Int) + (m : Int) + ((n : Int) - (j : Int)) := by omega
  have hTn : ((i : Int) + (m : Int) + ((n : Int) - (j : Int))).toNat = i + m + (n - j) := by rw [show (i : Int) + (m : Int) + ((n : Int) - (j : Int)) = ((i + m + (n - j) : Nat) : Int) by omega, Int.toNat_natCast]
  have hT : ¬ ((c : Int) < (i : Int) + (m : Int) + ((n : Int) - (j : Int))) := by omega
  have hT2 : (i : Int) + (m : Int) + ((n : Int) - (j : Int)) ≤ (c : Int) := by omega
  have hT3 : (i : Int) + (m : Int) + ((n : Int) - (j : Int)) ≤ (n : Int) := by omega
  have hT4 : (i : Int) + (m : Int) ≤ (i : Int) + (m : Int) + ((n : Int) - (j : Int)) := by omega
  have hT5 : (i : Int) ≤ (i : Int) + (m : Int) + ((n : Int) - (j : Int)) := by omega
  have hM : (i : Int) + (m : Int) ≤ (j : Int) := by omega
  have hcim : ¬ (c = i + m) := by omega
  obtain ⟨ti, g1, g2, g3, g4⟩ := u8info
  have hz : ∀ w, (zeroValue 5).run Tryd.prog w = .ok (.int .u8 0) w := fun w => by simp [zeroValue, typeInfo, g1, g2]
  have hmin1 : Nat.min m (i + m + (n - j) - i) = m := by simp only [Nat.min_def]; split <;> omega
  have hmin2 : Nat.min (n - j) (i + m + (n - j) - (i + m)) = n - j := by simp only [Nat.min_def]; split <;> omega
  have hcp1 : ∀ ty dc, (Builtin.copy_ #[22, 22] ty #[.slice (some ⟨b, i, none⟩) (i + m + (n - j) - i) dc, .slice A m vc]).run Tryd.prog w.drew = .ok (goInt m) (w.drew.setRow b (lay cur i (bv xs))) := fun ty dc => by
    have := copy_run (P := Tryd.prog) w.drew 22 22 ty 5 hu22 hsz b i (i + m + (n - j) - i) dc cur fr hh hfr A m vc (bv xs) (hs.rd _ fun k _ hk => rfl) (by rw [hmin1, bv_length]; omega) (bv_one xs) (by rw [hmin1]; omega)
    rw [hmin1, List.take_of_length_le (by rw [bv_length]; omega)] at this
    exact this
  have hls : (lay cur i (bv xs)).size = cur.size := lay_size (by rw [bv_length]; omega)
  have hdr : ((lay cur i (bv xs)).toList.drop j).take (n - j) = (cur.toList.drop j).take (n - j) := by
    refine List.ext_getElem? fun q => ?_
    rw [List.getElem?_take, List.getElem?_take, List.getElem?_drop, List.getElem?_drop, lay_get (by rw [bv_length]; omega), bv_length, if_neg (c := i ≤ j + q ∧ j + q < i + xs.length) (by omega)]
  have hcp2 : ∀ ty dc sc, (Builtin.copy_ #[22, 22] ty #[.slice (some ⟨b, i + m, none⟩) (i + m + (n - j) - (i + m)) dc, .slice (some ⟨b, j, none⟩) (n - j) sc]).run Tryd.prog (w.drew.setRow b (lay cur i (bv xs))).drew = .ok (goInt ((n - j : Nat) : Int)) ((w.drew.setRow b (lay cur i (bv xs))).drew.setRow b (lay (lay cur i (bv xs)) (i + m) ((cur.toList.drop j).take (n - j)))) := fun ty dc sc => by
    have hhb : (w.drew.setRow b (lay cur i (bv xs))).drew.heap[b]? = some (.cells (lay cur i (bv xs)) 5 fr) := setRow_heap w.drew b cur _ _ fr hh
    have := copy_run (P := Tryd.prog) (w.drew.setRow b (lay cur i (bv xs))).drew 22 22 ty 5 hu22 hsz b (i + m) (i + m + (n - j) - (i + m)) dc (lay cur i (bv xs)) fr hhb hfr (some ⟨b, j, none⟩) (n - j) sc (((lay cur i (bv xs)).toList.drop j).take (n - j)) ((rowRd hhb _ _ _).take _) (by rw [hmin2]; simp; omega) (fun v hv => h1c v (by rw [hdr, ← List.drop_take] at hv; exact List.mem_of_mem_drop hv)) (by rw [hmin2]; omega)
    rw [hmin2, List.take_take, Nat.min_self, hdr] at this
    exact this
  have hls2 : (lay (lay cur i (bv xs)) (i + m) ((cur.toList.drop j).take (n - j))).size = cur.size := by rw [lay_size (by simp; omega), hls]
  have hcl : ∀ ty cc, (Builtin.clear_ #[22] ty #[.slice (some ⟨b, i + m + (n - j), none⟩) (n - (i + m + (n - j))) cc]).run Tryd.prog ((w.drew.setRow b (lay cur i (bv xs))).drew.setRow b (lay (lay cur i (bv xs)) (i + m) ((cur.toList.drop j).take (n - j)))) = .ok (.tuple #[]) ((w.drew.setRow b (lay cur i (bv xs))).drew.setRow b (lay (lay (lay cur i (bv xs)) (i + m) ((cur.toList.drop j).take (n - j))) (i + m + (n - j)) (List.replicate (n - (i + m + (n - j))) (.int .u8 0)))) := fun ty cc => by
    have hhb : (w.drew.setRow b (lay cur i (bv xs))).drew.heap[b]? = some (.cells (lay cur i (bv xs)) 5 fr) := setRow_heap w.drew b cur _ _ fr hh
    have := clear_run (P := Tryd.prog) ((w.drew.setRow b (lay cur i (bv xs))).drew.setRow b (lay (lay cur i (bv xs)) (i + m) ((cur.toList.drop j).take (n - j)))) 22 ty 5 hu22 hz b (i + m + (n - j)) (n - (i + m + (n - j))) cc _ fr (setRow_heap _ b _ _ _ fr hhb) hfr (by rw [hls2]; omega)
    rw [setRow_setRow] at this
    exact this
  have hR3 : (lay (lay (lay cur i (bv xs)) (i + m) ((cur.toList.drop j).take (n - j))) (i + m + (n - j)) (List.replicate (n - (i + m + (n - j))) (.int .u8 0))).size = cur.size ∧ ∀ q, q < i + m + (n - j) → (lay (lay (lay cur i (bv xs)) (i + m) ((cur.toList.drop j).take (n - j))) (i + m + (n - j)) (List.replicate (n - (i + m + (n - j))) (.int .u8 0))).toList[q]? = (lay (lay cur i (bv xs)) (i + m) ((cur.toList.drop j).take (n - j))).toList[q]? :=
    ⟨by rw [lay_size (by rw [List.length_replicate]; omega), hls2], fun q hq => by rw [lay_get (by rw [List.length_replicate]; omega), if_neg (by omega)]⟩
  have hcl0 : n - (i + m + (n - j)) = 0 → ∀ W ty a cc, (Builtin.clear_ #[22] ty #[.slice a (n - (i + m + (n - j))) cc]).run Tryd.prog W = .ok (.tuple #[]) W := fun h0 W ty a cc => by
    rw [h0]; cases a <;> simp [Builtin.clear_, run_underlying hu22]
  generalize lay (lay (lay cur i (bv xs)) (i + m) ((cur.toList.drop j).take (n - j))) (i + m + (n - j)) (List.replicate (n - (i + m + (n - j))) (.int .u8 0)) = R3 at hcl hR3 ⊢
  generalize lay (lay cur i (bv xs)) (i + m) ((cur.toList.drop j).take (n - j)) = R2 at hcp2 hcl hls2 hR3 ⊢
  generalize lay cur i (bv xs) = R1 at hcp1 hcp2 hcl hls ⊢
  clear hs hh hls hdr
  by_cases hcT : c = i + m + (n - j)
  · have hcl0 := hcl0 (by omega)
    clear hcl hR3
    go_enter Tryd.func72, Tryd.ntmps72
    go_wp2
    go_region_law_o (fail)
    all_goals (
    go_wp2_with (first
      | (at_builtin; refine wpList_copy_runI _ rfl _ _ 22 22 rfl _ _ rfl rfl (hcp1 _ _) ?_))
    go_region_law_o (refine step_copy_runI rfl _ _ 22 22 rfl (.slice (some ⟨b, i + m, none⟩) (i + m + (n - j) - (i + m)) (c - (i + m))) (.slice (some ⟨b, j, none⟩) (n - j) (c - j)) (by simp [Act.eval, Act.put] <;> omega) (by simp [Act.eval, Act.put] <;> omega) (hcp2 3 (c - (i + m)) (c - j)) ?_)
    go_wp2_with (first
      | (at_builtin; refine wpList_clear_run _ rfl _ _ rfl _ rfl _ _ (hcl0 _ _ _ _) ?_))
    all_goals (go_ret; exact ⟨rfl, R2, rfl, hls2, fun _ _ => rfl⟩))
  · clear hcl0
    go_enter Tryd.func72, Tryd.ntmps72
    go_wp2
    go_region_law_o (fail)
    all_goals (
    go_wp2_with (first
      | (at_builtin; refine wpList_copy_runI _ rfl _ _ 22 22 rfl _ _ rfl rfl (hcp1 _ _) ?_))
    go_region_law_o (refine step_copy_runI rfl _ _ 22 22 rfl (.slice (some ⟨b, i + m, none⟩) (i + m + (n - j) - (i + m)) (c - (i + m))) (.slice (some ⟨b, j, none⟩) (n - j) (c - j)) (by simp [Act.eval, Act.put] <;> omega) (by simp [Act.eval, Act.put] <;> omega) (hcp2 3 (c - (i + m)) (c - j)) ?_)
    go_wp2_with (first
      | (at_builtin; refine wpList_clear_run _ rfl _ _ rfl _ rfl _ _ (hcl _ _) ?_))
    all_goals (go_ret; exact ⟨rfl, R3, rfl, hR3.1, hR3.2⟩))
end
end Go.Proofs
namespace Go.Proofs
open Go.Shelf Go.RowKit Go.Lib Go.VE
section
variable (b n c : Nat) (cur : Array Value) (fr : Nat × Nat) (w : World)

set_option maxHeartbeats 4000000 in
set_option maxRecDepth 100000 in
theorem rep_big (hh : w.heap[b]? = some (.cells cur 5 fr)) (hfr : fr.1 = fr.2) (i j : Nat) (hi : i < j) (hj : j < n) (hnc : n ≤ c) (hcm : c ≤ maxLen) (hcz : c ≤ cur.size) (A : Option Addr) (m vc : Nat) (xs : List Int) (hs : SrcB Tryd.prog w b A m vc xs) (hm : j < i + m) (hroom : i + m + (n - j) ≤ c) (h1c : ∀ v ∈ cur.toList.take n, v.oneCell' = true) :
    Calls Tryd.prog 72 #[.slice (some ⟨b, 0, none⟩) n c, .int .i64 i, .int .i64 j, .slice A m vc] w fun e w' =>
      e = .returned (.slice (some ⟨b, 0, none⟩) (i + m + (n - j)) c) ∧ w' = w.drew.drew.setRow b (lay (lay cur (i + m) ((cur.toList.drop j).take (n - j))) i (bv xs)) := by
  obtain ⟨vb, vo, rfl, hvb, hvw, tA, kA, hsa, hkA⟩ := hs.at' (by omega)
  have mixed := tb_M
  have hc63 : c ≤ 9223372036854775807 := hcm
  have hxl := hs.len
  have hu22 : Tryd.prog.underlying 22 = some (.slice 5) := by kernel_rfl
  have hsz : (Tryd.prog.info? 5).map (·.size) = some 1 := by kernel_rfl
  have hz1 : ¬ ((i : Int) = (j : Int)) := by omega
  have hz2 : ¬ ((j : Int) = (n : Int)) := by omega
  have hin : i ≤ n := by omega
  have hjn : j ≤ n := by omega
  have hij : i ≤ j := by omega
  have hic : i ≤ c := by omega
  have hjc : j ≤ c := by omega
  have hci : ¬ (c = i) := by omega
  have hcj : ¬ (c = j) := by omega
  have hsub : ((n - j : Nat) : Int) = (n : Int) - (j : Int) := by omega
  have hw1 : IntKind.i64.wrap ((i : Int) + (m : Int)) = (i : Int) + (m : Int) := by rw [IntKind.wrap_i64]; omega
  have hw2 : IntKind.i64.wrap ((i : Int) + (m : Int) + ((n : Int) - (j : Int))) = (i : Int) + (m : Int) + ((n : Int) - (j : Int)) := by rw [IntKind.wrap_i64]; omega
  have hw3 : IntKind.i64.wrap ((n : Int) - (j : Int)) = (n : Int) - (j : Int) := by rw [IntKind.wrap_i64]; omega
  have hb1 : (0 : Int) ≤ (i : Int) + (m : Int) := by omega
  have htn : ((i : Int) + (m : Int)).toNat = i + m := by omega
  have hT0 : (0 : Int) ≤ (i : Int) + (m : Int) + ((n : Int) - (j : Int)) := by omega
  have hTn : ((i : Int) + (m : Int) + ((n : Int) - (j : Int))).toNat = i + m + (n - j) := by rw [show (i : Int) + (m : Int) + ((n : Int) - (j : Int)) = ((i + m + (n - j) : Nat) : Int) by omega, Int.toNat_natCast]
  have hT : ¬ ((c : Int) < (i : Int) + (m : Int) + ((n : Int) - (j : Int))) := by omega
  have hT2 : (i : Int) + (m : Int) + ((n : Int) - (j : Int)) ≤ (c : Int) := by omega
  have hT4 : (i : Int) + (m : Int) ≤ (i : Int) + (m : Int) + ((n : Int) - (j : Int)) := by omega
  have hT5 : (i : Int) ≤ (i : Int) + (m : Int) + ((n : Int) - (j : Int)) := by omega
  have hM : ¬ ((i : Int) + (m : Int) ≤ (j : Int)) := by omega
  have hcim : ¬ (c = i + m) := by omega
  have hsz5 : ∀ w, (sizeOf 5).run Tryd.prog w = .ok 1 w := fun w => by
    cases hq : Tryd.prog.info? 5 with
    | none => simp [hq] at hsz
    | some i => simp [sizeOf, typeInfo, hq]; simpa [hq] using hsz
  have hsb : w.shape? b = some (5, cur.size) := by simp [World.shape?, hh]
  have hfz : ∀ o, w.frozen? ⟨b, o, none⟩ = false := fun o => by simp [World.frozen?, hh]; omega
  have hov : ∀ lb cb, (callFunc 113 #[.slice (some ⟨b, i + m, none⟩) lb cb, .slice (some ⟨vb, vo, none⟩) m vc]).run Tryd.prog w.drew = .ok (.value (.bool false)) w.drew := fun lb cb => by
    rw [run_callFunc_extern (fn := Tryd.f113) rfl (by kernel_rfl) (by kernel_rfl) (by kernel_rfl) (e := Extern.SlicesOverlaps.overlaps #[22, 22] #[4]) (by kernel_rfl),
      overlaps_own w.drew 22 4 5 hu22 1 hsz5 ⟨b, i + m, none⟩ ⟨vb, vo, none⟩ lb cb m vc (Ne.symm hvb) 5 tA cur.size kA hsb hsa (by omega) hkA (.inr fun o => ⟨hfz o, hfz _⟩)]
    rfl
  have hmin1 : Nat.min (n - j) (i + m + (n - j) - (i + m)) = n - j := by simp only [Nat.min_def]; split <;> omega
  have hmin2 : Nat.min m (i + m + (n - j) - i) = m := by simp only [Nat.min_def]; split <;> omega
  have hcp1 : ∀ ty dc sc, (Builtin.copy_ #[22, 22] ty #[.slice (some ⟨b, i + m, none⟩) (i + m + (n - j) - (i + m)) dc, .slice (some ⟨b, j, none⟩) (n - j) sc]).run Tryd.prog w.drew.drew = .ok (goInt ((n - j : Nat) : Int)) (w.drew.drew.setRow b (lay cur (i + m) ((cur.toList.drop j).take (n - j)))) := fun ty dc sc => by
    have := copy_run (P := Tryd.prog) w.drew.drew 22 22 ty 5 hu22 hsz b (i + m) (i + m + (n - j) - (i + m)) dc cur fr hh hfr (some ⟨b, j, none⟩) (n - j) sc ((cur.toList.drop j).take (n - j)) ((rowRd (w := w.drew.drew) hh _ _ _).take _) (by rw [hmin1]; simp; omega) (fun v hv => h1c v (by rw [← List.drop_take] at hv; exact List.mem_of_mem_drop hv)) (by rw [hmin1]; omega)
    rw [hmin1, List.take_take, Nat.min_self] at this
    exact this
  have hls : (lay cur (i + m) ((cur.toList.drop j).take (n - j))).size = cur.size := lay_size (by simp; omega)
  have hcp2 : ∀ ty dc, (Builtin.copy_ #[22, 22] ty #[.slice (some ⟨b, i, none⟩) (i + m + (n - j) - i) dc, .slice (some ⟨vb, vo, none⟩) m vc]).run Tryd.prog (w.drew.drew.setRow b (lay cur (i + m) ((cur.toList.drop j).take (n - j)))) = .ok (goInt m) (w.drew.drew.setRow b (lay (lay cur (i + m) ((cur.toList.drop j).take (n - j))) i (bv xs))) := fun ty dc => by
    have := copy_run (P := Tryd.prog) (w.drew.drew.setRow b (lay cur (i + m) ((cur.toList.drop j).take (n - j)))) 22 22 ty 5 hu22 hsz b i (i + m + (n - j) - i) dc (lay cur (i + m) ((cur.toList.drop j).take (n - j))) fr (setRow_heap w.drew.drew b cur _ _ fr hh) hfr (some ⟨vb, vo, none⟩) m vc (bv xs) (hs.rd _ fun k hk _ => setRow_other w.drew.drew b k _ hk) (by rw [hmin2, bv_length]; omega) (bv_one xs) (by rw [hmin2]; omega)
    rw [hmin2, List.take_of_length_le (l := bv xs) (by rw [bv_length]; omega), setRow_setRow] at this
    exact this
  generalize lay (lay cur (i + m) ((cur.toList.drop j).take (n - j))) i (bv xs) = R2 at hcp2 ⊢
  generalize lay cur (i + m) ((cur.toList.drop j).take (n - j)) = R1 at hcp1 hcp2 hls ⊢
  clear hs hh hls hsa hsb hfz
  go_enter Tryd.func72, Tryd.ntmps72
  go_wp2
  go_region_law_o (fail)
  all_goals (
  go_wp2_with (simp only [hov])
  go_region_law_o (refine step_copy_runI rfl _ _ 22 22 rfl (.slice (some ⟨b, i + m, none⟩) (i + m + (n - j) - (i + m)) (c - (i + m))) (.slice (some ⟨b, j, none⟩) (n - j) (c - j)) (by simp [Act.eval, Act.put] <;> omega) (by simp [Act.eval, Act.put] <;> omega) (hcp1 3 (c - (i + m)) (c - j)) ?_)
  go_wp2_with (first
    | (at_builtin; refine wpList_copy_runI _ rfl _ _ 22 22 rfl _ _ rfl rfl (hcp2 _ _) ?_))
  all_goals (go_ret; exact ⟨rfl, rfl⟩))

set_option maxHeartbeats 4000000 in
set_option maxRecDepth 100000 in
theorem rep_grow (hh : w.heap[b]? = some (.cells cur 5 fr)) (hfr : fr.1 = fr.2) (i j : Nat) (hi : i < j) (hj : j < n) (hnc : n ≤ c) (hcm : c ≤ maxLen) (hcz : c ≤ cur.size) (A : Option Addr) (m vc : Nat) (xs : List Int) (hs : SrcB Tryd.prog w b A m vc xs) (hroom : c < i + m + (n - j)) (hl : n + m ≤ lim) (h1c : ∀ v ∈ cur.toList.take n, v.oneCell' = true)
    (R : Array Value) (hR : ∀ ty, (Builtin.append_ #[22, 3] ty #[.slice (some ⟨b, 0, none⟩) i c, .int .i64 ((m + (n - j) : Nat) : Int)]).run Tryd.prog w.drew = .ok (.slice (some ⟨w.heap.size, 0, none⟩) (i + (m + (n - j))) (grownCap w.drew (i + (m + (n - j))) c 5)) (w.drew.drew.alloc (.cells R 5)))
    (hRz : grownCap w.drew (i + (m + (n - j))) c 5 ≤ R.size) :
    Calls Tryd.prog 72 #[.slice (some ⟨b, 0, none⟩) n c, .int .i64 i, .int .i64 j, .slice A m vc] w fun e w' =>
      e = .returned (.slice (some ⟨w.heap.size, 0, none⟩) (i + m + (n - j)) (grownCap w.drew (i + m + (n - j)) c 5)) ∧ w' = (((w.alloc (.cells R 5)).drew.drew.setRow w.heap.size (lay R i (bv xs))).drew).setRow w.heap.size (lay (lay R i (bv xs)) (i + m) ((cur.toList.drop j).take (n - j))) := by
  have hlim : n + m ≤ 1099511627776 := hl
  have mixed := tb_M
  have hc63 : c ≤ 9223372036854775807 := hcm
  have hxl := hs.len
  have hu22 : Tryd.prog.underlying 22 = some (.slice 5) := by kernel_rfl
  have hsz : (Tryd.prog.info? 5).map (·.size) = some 1 := by kernel_rfl
  have hz1 : ¬ ((i : Int) = (j : Int)) := by omega
  have hz2 : ¬ ((j : Int) = (n : Int)) := by omega
  have hin : i ≤ n := by omega
  have hjn : j ≤ n := by omega
  have hij : i ≤ j := by omega
  have hic : i ≤ c := by omega
  have hjc : j ≤ c := by omega
  have hci : ¬ (c = i) := by omega
  have hcj : ¬ (c = j) := by omega
  have hsub : ((n - j : Nat) : Int) = (n : Int) - (j : Int) := by omega
  have hw1 : IntKind.i64.wrap ((i : Int) + (m : Int)) = (i : Int) + (m : Int) := by rw [IntKind.wrap_i64]; omega
  have hw2 : IntKind.i64.wrap ((i : Int) + (m : Int) + ((n : Int) - (j : Int))) = (i : Int) + (m : Int) + ((n : Int) - (j : Int)) := by rw [IntKind.wrap_i64]; omega
  have hw3 : IntKind.i64.wrap ((n : Int) - (j : Int)) = (n : Int) - (j : Int) := by rw [IntKind.wrap_i64]; omega
  have hb1 : (0 : Int) ≤ (i : Int) + (m : Int) := by omega
  have htn : ((i : Int) + (m : Int)).toNat = i + m := by omega
  have hT0 : (0 : Int) ≤ (i : Int) + (m : Int) + ((n : Int) - (j : Int)) := by omega
  have hTn : ((i : Int) + (m : Int) + ((n : Int) - (j : Int))).toNat = i + m + (n - j) := by rw [show (i : Int) + (m : Int) + ((n : Int) - (j : Int)) = ((i + m + (n - j) : Nat) : Int) by omega, Int.toNat_natCast]
  have hT : (c : Int) < (i : Int) + (m : Int) + ((n : Int) - (j : Int)) := by omega
  have hT4 : (i : Int) + (m : Int) ≤ (i : Int) + (m : Int) + ((n : Int) - (j : Int)) := by omega
  have hT5 : (i : Int) ≤ (i : Int) + (m : Int) + ((n : Int) - (j : Int)) := by omega
  have hbw : b < w.heap.size := by
    rcases Nat.lt_or_ge b w.heap.size with h | h
    · exact h
    · rw [Array.getElem?_eq_none h] at hh; cases hh
  have hkk : (i : Int) + (m : Int) + ((n : Int) - (j : Int)) - (i : Int) = ((m + (n - j) : Nat) : Int) := by omega
  have hwk : IntKind.i64.wrap ((i : Int) + (m : Int) + ((n : Int) - (j : Int)) - (i : Int)) = (i : Int) + (m : Int) + ((n : Int) - (j : Int)) - (i : Int) := by rw [IntKind.wrap_i64]; unfold lim at hl; omega
  rw [← Nat.add_assoc] at hR hRz
  rw [← hkk] at hR
  have hGn := grownCap_ge w.drew (i + m + (n - j)) c 5
  have hG63 := grownCap_le_maxLen w.drew (i + m + (n - j)) c 5 (by unfold lim at hl; unfold maxLen; omega)
  generalize hG : grownCap w.drew (i + m + (n - j)) c 5 = G at *
  have hG63 : G ≤ 9223372036854775807 := hG63
  have hGi : ¬ (G = i) := by omega
  have hGim : ¬ (G = i + m) := by omega
  have hmin1 : Nat.min m (i + m + (n - j) - i) = m := by simp only [Nat.min_def]; split <;> omega
  have hmin2 : Nat.min (n - j) (i + m + (n - j) - (i + m)) = n - j := by simp only [Nat.min_def]; split <;> omega
  have hnew : (w.alloc (.cells R 5)).drew.drew.heap[w.heap.size]? = some (.cells R 5 (0, 0)) := heap_alloc_new w _
  have hold : ∀ k, k < w.heap.size → (w.alloc (.cells R 5)).drew.drew.heap[k]? = w.heap[k]? := fun k hk => heap_alloc_old w _ hk
  have hcp1 : ∀ ty dc, (Builtin.copy_ #[22, 22] ty #[.slice (some ⟨w.heap.size, i, none⟩) (i + m + (n - j) - i) dc, .slice A m vc]).run Tryd.prog (w.alloc (.cells R 5)).drew.drew = .ok (goInt m) ((w.alloc (.cells R 5)).drew.drew.setRow w.heap.size (lay R i (bv xs))) := fun ty dc => by
    have := copy_run (P := Tryd.prog) (w.alloc (.cells R 5)).drew.drew 22 22 ty 5 hu22 hsz w.heap.size i (i + m + (n - j) - i) dc R (0, 0) hnew rfl A m vc (bv xs) (hs.rd _ fun k _ hk => hold k hk) (by rw [hmin1, bv_length]; omega) (bv_one xs) (by rw [hmin1]; omega)
    rw [hmin1, List.take_of_length_le (by rw [bv_length]; omega)] at this
    exact this
  have hls : (lay R i (bv xs)).size = R.size := lay_size (by rw [bv_length]; omega)
  have hcp2 : ∀ ty dc sc, (Builtin.copy_ #[22, 22] ty #[.slice (some ⟨w.heap.size, i + m, none⟩) (i + m + (n - j) - (i + m)) dc, .slice (some ⟨b, j, none⟩) (n - j) sc]).run Tryd.prog ((w.alloc (.cells R 5)).drew.drew.setRow w.heap.size (lay R i (bv xs))).drew = .ok (goInt ((n - j : Nat) : Int)) (((w.alloc (.cells R 5)).drew.drew.setRow w.heap.size (lay R i (bv xs))).drew.setRow w.heap.size (lay (lay R i (bv xs)) (i + m) ((cur.toList.drop j).take (n - j)))) := fun ty dc sc => by
    have hhb : ((w.alloc (.cells R 5)).drew.drew.setRow w.heap.size (lay R i (bv xs))).drew.heap[b]? = some (.cells cur 5 fr) := by
      show ((w.alloc (.cells R 5)).drew.drew.setRow w.heap.size (lay R i (bv xs))).heap[b]? = _
      rw [setRow_other _ _ _ _ (by omega), hold b hbw]; exact hh
    have := copy_run (P := Tryd.prog) ((w.alloc (.cells R 5)).drew.drew.setRow w.heap.size (lay R i (bv xs))).drew 22 22 ty 5 hu22 hsz w.heap.size (i + m) (i + m + (n - j) - (i + m)) dc (lay R i (bv xs)) (0, 0) (setRow_heap (w.alloc (.cells R 5)).drew.drew w.heap.size R _ _ _ hnew) rfl (some ⟨b, j, none⟩) (n - j) sc ((cur.toList.drop j).take (n - j)) ((rowRd hhb _ _ _).take _) (by rw [hmin2]; simp; omega) (fun v hv => h1c v (by rw [← List.drop_take] at hv; exact List.mem_of_mem_drop hv)) (by rw [hmin2]; omega)
    rw [hmin2, List.take_take, Nat.min_self] at this
    exact this
  have mixed := tb_M
  generalize lay (lay R i (bv xs)) (i + m) ((cur.toList.drop j).take (n - j)) = R2 at hcp2 ⊢
  generalize lay R i (bv xs) = R1 at hcp1 hcp2 ⊢
  clear hkk hs hh hnew hold hls hG
  go_enter Tryd.func72, Tryd.ntmps72
  go_wp2
  go_region_law_o (fail)
  all_goals (
  go_wp2_with (first
    | (at_builtin; refine Lib.wpList_append_run _ rfl _ _ _ _ rfl _ _ rfl rfl _ _ (hR _) ?_)
    | (at_builtin; refine wpList_copy_runI _ rfl _ _ 22 22 rfl _ _ rfl rfl (hcp1 _ _) ?_))
  go_region_law_o (refine step_copy_runI rfl _ _ 22 22 rfl (.slice (some ⟨w.heap.size, i + m, none⟩) (i + m + (n - j) - (i + m)) (G - (i + m))) (.slice (some ⟨b, j, none⟩) (n - j) (c - j)) (by simp [Act.eval, Act.put] <;> omega) (by simp [Act.eval, Act.put] <;> omega) (hcp2 3 (G - (i + m)) (c - j)) ?_)
  go_wp2
  go_ret
  exact ⟨rfl, rfl⟩)
end
end Go.Proofs
namespace Go.VE
open Go Go.RowKit Go.Lib

theorem bv_append (a b : List Int) : bv (a ++ b) = bv a ++ bv b := List.map_append
theorem bv_take (n : Nat) (a : List Int) : bv (a.take n) = (bv a).take n := List.map_take
theorem bv_drop (n : Nat) (a : List Int) : bv (a.drop n) = (bv a).drop n := List.map_drop

theorem laid_eq {R cur : List Value} {ys xs : List Int} {n i j m : Nat} (hcs : cur.take n = bv ys) (hy : ys.length = n) (hx : xs.length = m) (hij : i ≤ j) (hjn : j ≤ n)
    (h1 : ∀ q, q < i → R[q]? = cur[q]?) (h2 : ∀ q, q < m → R[i + q]? = (bv xs)[q]?) (h3 : ∀ q, q < n - j → R[i + m + q]? = cur[j + q]?) :
    R.take (i + m + (n - j)) = bv (ys.take i ++ xs ++ ys.drop j) := by
  have hc : ∀ q, q < n → cur[q]? = (bv ys)[q]? := fun q hq => by rw [← hcs, List.getElem?_take, if_pos hq]
  have hl : (bv ys).length = n := by rw [bv_length, hy]
  have hX : (bv xs).length = m := by rw [bv_length, hx]
  rw [bv_append, bv_append, bv_take, bv_drop]
  generalize bv xs = X at *
  generalize bv ys = Y at *
  refine List.ext_getElem? fun q => ?_
  rw [List.getElem?_take]
  have ht : (Y.take i).length = i := by rw [List.length_take]; omega
  by_cases hq : q < i + m + (n - j)
  · rw [if_pos hq]
    by_cases a : q < i
    · rw [List.append_assoc, List.getElem?_append_left (by omega), List.getElem?_take, if_pos a, h1 q a, hc q (by omega)]
    · by_cases b : q < i + m
      · rw [List.append_assoc, List.getElem?_append_right (by omega), List.getElem?_append_left (by omega), ht, ← h2 (q - i) (by omega)]
        congr 1; omega
      · rw [List.getElem?_append_right (by rw [List.length_append]; omega), List.length_append, ht, hX, List.getElem?_drop, ← hc _ (by omega), ← h3 _ (by omega)]
        congr 1; omega
  · rw [if_neg hq, List.getElem?_eq_none]
    simp only [List.length_append, List.length_take, List.length_drop]; omega

theorem done_len (ys xs : List Int) (n i j m : Nat) (hy : ys.length = n) (hx : xs.length = m) (hij : i ≤ j) (hjn : j ≤ n) : (bv (ys.take i ++ xs ++ ys.drop j)).length = i + m + (n - j) := by
  simp only [bv_length, List.length_append, List.length_take, List.length_drop]; omega

theorem done_in {w w' : World} {b c : Nat} {R : Array Value} {fr : Nat × Nat} {zs : List Value} {L : Nat} (hz : zs.length = L) (hL : L ≤ c) (hcm : c ≤ maxLen) (hh : w'.heap[b]? = some (.cells R 5 fr)) (hfr : fr.1 = fr.2) (hR : c ≤ R.size) (ht : R.toList.take L = zs)
    (hs : w'.heap.size = w.heap.size) (ho : ∀ k, k ≠ b → w'.heap[k]? = w.heap[k]?) (h1 : w'.os = w.os) (h2 : w'.tape = w.tape) (h3 : w'.output = w.output) : DoneB w b zs (.slice (some ⟨b, 0, none⟩) L c) w' := by
  subst hz
  exact ⟨b, c, R, fr, rfl, .inl rfl, hL, hcm, hh, hfr, hR, ht, by omega, fun k hk _ => ho k hk, h1, h2, h3⟩

theorem done_new {w w' : World} {b c : Nat} {R : Array Value} {zs : List Value} {L : Nat} (hz : zs.length = L) (hL : L ≤ c) (hcm : c ≤ maxLen) (hh : w'.heap[w.heap.size]? = some (.cells R 5 (0, 0))) (hR : c ≤ R.size) (ht : R.toList.take L = zs)
    (hs : w.heap.size ≤ w'.heap.size) (ho : ∀ k, k < w.heap.size → w'.heap[k]? = w.heap[k]?) (h1 : w'.os = w.os) (h2 : w'.tape = w.tape) (h3 : w'.output = w.output) : DoneB w b zs (.slice (some ⟨w.heap.size, 0, none⟩) L c) w' := by
  subst hz
  exact ⟨w.heap.size, c, R, (0, 0), rfl, .inr rfl, hL, hcm, hh, rfl, hR, ht, hs, fun k _ hk => ho k hk, h1, h2, h3⟩
end Go.VE
namespace Go.Proofs
open Go.Shelf Go.RowKit Go.Lib Go.VE
section
variable (b n c : Nat) (cur : Array Value) (fr : Nat × Nat) (w : World)

set_option maxRecDepth 20000 in
theorem rep_all (hh : w.heap[b]? = some (.cells cur 5 fr)) (hfr : fr.1 = fr.2) (hnc : n ≤ c) (hcm : c ≤ maxLen) (hcz : c ≤ cur.size) (A : Option Addr) (m vc : Nat) (xs ys : List Int) (hs : SrcB Tryd.prog w b A m vc xs) (hcs : cur.toList.take n = bv ys)
    (i j : Nat) (hij : i ≤ j) (hjn : j ≤ n) (hl : n + m ≤ lim) :
    Calls Tryd.prog 72 #[.slice (some ⟨b, 0, none⟩) n c, .int .i64 i, .int .i64 j, .slice A m vc] w fun e w' => ∃ v', e = .returned v' ∧ DoneB w b (bv (ys.take i ++ xs ++ ys.drop j)) v' w' := by
  have hu22 : Tryd.prog.underlying 22 = some (.slice 5) := by kernel_rfl
  have hu3 : Tryd.prog.underlying 3 = some (.int .i64) := by kernel_rfl
  obtain ⟨ti, g1, g2, g3, g4⟩ := u8info
  have hx := hs.len
  have hy : ys.length = n := by
    have := congrArg List.length hcs
    rw [bv_length, List.length_take, Array.length_toList] at this; omega
  have h1c : ∀ v ∈ cur.toList.take n, v.oneCell' = true := by rw [hcs]; exact bv_one ys
  have hdl := done_len ys xs n i j m hy hx hij hjn
  have hlim : n + m ≤ 1099511627776 := hl
  have hG : ∀ (w : World) L, L ≤ n + m → grownCap w L c 5 ≤ maxLen := fun w L h => grownCap_le_maxLen w L c _ (by unfold maxLen; omega)
  -- an append at i, and no more
  have appI : ∀ i, i ≤ n → n ≤ i + m → ∀ j, j = n → i ≤ j → ∃ B c' w', (∀ ty, (Builtin.append_ #[22, 22] ty #[.slice (some ⟨b, 0, none⟩) i c, .slice A m vc]).run Tryd.prog w = .ok (.slice B (i + m) c') w') ∧ DoneB w b (bv (ys.take i ++ xs ++ ys.drop j)) (.slice B (i + m) c') w' := by
    intro i hi him j hj hij
    subst hj
    have hdl := done_len ys xs j i j m hy hx hij (Nat.le_refl _)
    rw [Nat.sub_self, Nat.add_zero] at hdl
    by_cases hroom : i + m ≤ c
    · refine ⟨_, _, _, fun ty => app_room (w := w) hu22 g1 g2 g3 (by omega) hh hfr hcz (by omega) hs hroom, done_in hdl hroom hcm (setRow_heap w b cur _ _ fr hh) hfr (by rw [lay_size (by rw [bv_length]; omega)]; exact hcz) ?_ (by simp) (fun k hk => setRow_other w b k _ hk) rfl rfl rfl⟩
      have := laid_eq (R := (lay cur i (bv xs)).toList) hcs hy hx hij (Nat.le_refl _) (fun q hq => by rw [lay_get (by rw [bv_length]; omega), if_neg (by omega)]) (fun q hq => by rw [lay_get (by rw [bv_length]; omega), bv_length, if_pos (by omega)]; congr 1; omega) (fun q hq => by omega)
      rw [Nat.sub_self, Nat.add_zero] at this
      exact this
    · obtain ⟨R, h1, h2, h3⟩ := app_grow (w := w) (ty := 0) hu22 g1 g2 g3 (by omega) hh hfr hcz (by omega) hs (show c < i + m by omega) (show i + m ≤ lim by unfold lim; omega)
      refine ⟨_, _, _, fun ty => h1, done_new hdl (grownCap_ge w (i + m) c _) (hG w _ (by omega)) (heap_alloc_new w.drew _) h3 ?_ (by show _ ≤ (w.heap.push _).size; simp) (fun k hk => heap_alloc_old w.drew _ hk) rfl rfl rfl⟩
      rw [h2, bv_append, bv_append, bv_take, bv_drop, List.drop_of_length_le (by rw [bv_length]; omega), List.append_nil, ← hcs, List.take_take, Nat.min_eq_left hi]
  rcases Nat.lt_or_ge i j with hlt | hge
  · rcases Nat.lt_or_ge j n with hjlt | hjge
    · rcases Nat.lt_or_ge c (i + m + (n - j)) with hg | hroom
      · obtain ⟨R, h1, h2, h3⟩ := app_zeros (P := Tryd.prog) (w := w.drew) hu22 hu3 g1 g2 g3 g4 (b := b) (n := i) (c := c) (fr := fr) hh (by omega) (m + (n - j)) (by omega) (by omega) (by unfold lim; omega)
        refine (rep_grow b n c cur fr w hh hfr i j hlt hjlt hnc hcm hcz A m vc xs hs hg hl h1c R h1 h3).mono ?_
        rintro e w' ⟨rfl, rfl⟩
        have hge := grownCap_ge w.drew (i + m + (n - j)) c 5
        have hRz : grownCap w.drew (i + m + (n - j)) c 5 ≤ R.size := by rw [← Nat.add_assoc] at h3; exact h3
        have hnew : (w.alloc (.cells R 5)).drew.drew.heap[w.heap.size]? = some (.cells R 5 (0, 0)) := heap_alloc_new w _
        have hs1 : (lay R i (bv xs)).size = R.size := lay_size (by rw [bv_length]; omega)
        have hs2 : (lay (lay R i (bv xs)) (i + m) ((cur.toList.drop j).take (n - j))).size = R.size := by rw [lay_size (by simp; omega), hs1]
        refine ⟨_, rfl, done_new hdl hge (hG w.drew _ (by omega)) (setRow_heap ((w.alloc (.cells R 5)).drew.drew.setRow w.heap.size (lay R i (bv xs))).drew w.heap.size _ _ _ _ (setRow_heap (w.alloc (.cells R 5)).drew.drew w.heap.size _ _ _ _ hnew)) (by rw [hs2]; exact hRz) ?_ (by simp) (fun k hk => ?_) rfl rfl rfl⟩
        · refine laid_eq hcs hy hx hij hjn (fun q hq => ?_) (fun q hq => ?_) (fun q hq => ?_)
          · rw [lay_get (by simp; omega), if_neg (by omega), lay_get (by rw [bv_length]; omega), if_neg (by omega)]
            have := congrArg (fun l : List Value => l[q]?) h2
            simpa [hq] using this
          · rw [lay_get (by simp; omega), if_neg (by omega), lay_get (by rw [bv_length]; omega), bv_length, if_pos (by omega)]
            congr 1; omega
          · rw [lay_get (by simp; omega), if_pos (by simp; omega), List.getElem?_take, if_pos (by omega), List.getElem?_drop]
            congr 1; omega
        · rw [setRow_other _ _ _ _ (by omega)]
          show ((w.alloc (.cells R 5)).drew.drew.setRow w.heap.size (lay R i (bv xs))).heap[k]? = _
          rw [setRow_other _ _ _ _ (by omega)]
          exact heap_alloc_old w _ hk
      · rcases Nat.lt_or_ge j (i + m) with hbig | hsm
        · refine (rep_big b n c cur fr w hh hfr i j hlt hjlt hnc hcm hcz A m vc xs hs hbig hroom h1c).mono ?_
          rintro e w' ⟨rfl, rfl⟩
          have hs1 : (lay cur (i + m) ((cur.toList.drop j).take (n - j))).size = cur.size := lay_size (by simp; omega)
          refine ⟨_, rfl, done_in hdl hroom hcm (setRow_heap w.drew.drew b cur _ _ fr hh) hfr (by rw [lay_size (by rw [bv_length]; omega), hs1]; exact hcz) ?_ (by simp) (fun k hk => setRow_other w.drew.drew b k _ hk) rfl rfl rfl⟩
          refine laid_eq hcs hy hx hij hjn (fun q hq => ?_) (fun q hq => ?_) (fun q hq => ?_)
          · rw [lay_get (by rw [bv_length]; omega), if_neg (by omega), lay_get (by simp; omega), if_neg (by omega)]
          · rw [lay_get (by rw [bv_length]; omega), bv_length, if_pos (by omega)]
            congr 1; omega
          · rw [lay_get (by rw [bv_length]; omega), bv_length, if_neg (by omega), lay_get (by simp; omega), if_pos (by simp; omega), List.getElem?_take, if_pos (by omega), List.getElem?_drop]
            congr 1; omega
        · refine (rep_small b n c cur fr w hh hfr i j hlt hjlt hnc hcm hcz A m vc xs hs hsm h1c).mono ?_
          rintro e w' ⟨rfl, R3, rfl, hR3, hR4⟩
          have hs1 : (lay cur i (bv xs)).size = cur.size := lay_size (by rw [bv_length]; omega)
          refine ⟨_, rfl, done_in hdl (by omega) hcm (setRow_heap (w.drew.setRow b (lay cur i (bv xs))).drew b _ _ _ fr (setRow_heap w.drew b cur _ _ fr hh)) hfr (by rw [hR3]; exact hcz) ?_ (by simp) (fun k hk => ?_) rfl rfl rfl⟩
          · refine laid_eq hcs hy hx hij hjn (fun q hq => ?_) (fun q hq => ?_) (fun q hq => ?_)
            · rw [hR4 _ (by omega), lay_get (by simp; omega), if_neg (by omega), lay_get (by rw [bv_length]; omega), if_neg (by omega)]
            · rw [hR4 _ (by omega), lay_get (by simp; omega), if_neg (by omega), lay_get (by rw [bv_length]; omega), bv_length, if_pos (by omega)]
              congr 1; omega
            · rw [hR4 _ (by omega), lay_get (by simp; omega), if_pos (by simp; omega), List.getElem?_take, if_pos (by omega), List.getElem?_drop]
              congr 1; omega
          · rw [setRow_other _ _ _ _ hk]
            show (w.drew.setRow b (lay cur i (bv xs))).heap[k]? = _
            rw [setRow_other _ _ _ _ hk]
            rfl
    · obtain rfl : j = n := by omega
      rcases Nat.lt_or_ge (i + m) j with hcut | hend
      · refine (rep_cut b j c cur fr w hh hfr i hlt hnc hcz A m vc xs hs hcut).mono ?_
        rintro e w' ⟨rfl, rfl⟩
        have hs1 : (lay cur i (bv xs)).size = cur.size := lay_size (by rw [bv_length]; omega)
        have := laid_eq (R := (lay (lay cur i (bv xs)) (i + m) (List.replicate (j - (i + m)) (.int .u8 0))).toList) hcs hy hx hij (Nat.le_refl _) (fun q hq => by rw [lay_get (by simp; omega), if_neg (by omega), lay_get (by rw [bv_length]; omega), if_neg (by omega)])
          (fun q hq => by rw [lay_get (by simp; omega), if_neg (by omega), lay_get (by rw [bv_length]; omega), bv_length, if_pos (by omega)]; congr 1; omega) (fun q hq => by omega)
        rw [Nat.sub_self, Nat.add_zero] at this hdl
        exact ⟨_, rfl, done_in hdl (by omega) hcm (setRow_heap w b cur _ _ fr hh) hfr (by rw [lay_size (by simp; omega), hs1]; exact hcz) this (by simp) (fun k hk => setRow_other w b k _ hk) rfl rfl rfl⟩
      · obtain ⟨B, c', w', h1, h2⟩ := appI i hij hend j rfl hij
        refine (rep_end b j c w i hlt hnc A m vc hend B c' w' h1).mono ?_
        rintro e w'' ⟨rfl, rfl⟩
        exact ⟨_, rfl, h2⟩
  · obtain rfl : i = j := by omega
    refine rep_ins b n c w i hjn hnc A m vc (DoneB w b (bv (ys.take i ++ xs ++ ys.drop i))) ?_
    rcases Nat.eq_zero_or_pos m with rfl | hm
    · refine (ins_none b n w c A vc i hjn).mono ?_
      rintro e w' ⟨rfl, rfl⟩
      have hx0 : xs = [] := List.eq_nil_of_length_eq_zero hx
      have e1 : ys.take i ++ xs ++ ys.drop i = ys := by rw [hx0, List.append_nil, List.take_append_drop]
      rw [e1]
      exact ⟨_, rfl, done_in (by rw [bv_length, hy]) hnc hcm hh hfr hcz hcs rfl (fun _ _ => rfl) rfl rfl rfl⟩
    · rcases Nat.lt_or_ge i n with hin | hin
      · rcases Nat.lt_or_ge c (n + m) with hg | hroom
        · obtain ⟨R, h1, h2, h3⟩ := app_zeros (P := Tryd.prog) (w := w) hu22 hu3 g1 g2 g3 g4 (b := b) (n := i) (c := c) (fr := fr) hh (by omega) (n + m - i) (by omega) (by omega) (by unfold lim; omega)
          refine (ins_grow b n c cur fr w hh hfr hnc hcm hcz A m vc xs hs hm i hin hg hl h1c R h1 h3).mono ?_
          rintro e w' ⟨rfl, rfl⟩
          have hge := grownCap_ge w (n + m) c 5
          have hRz : grownCap w (n + m) c 5 ≤ R.size := by rw [show i + (n + m - i) = n + m by omega] at h3; exact h3
          have hnew : (w.alloc (.cells R 5)).drew.heap[w.heap.size]? = some (.cells R 5 (0, 0)) := heap_alloc_new w _
          have hs1 : (lay R i (bv xs)).size = R.size := lay_size (by rw [bv_length]; omega)
          have hs2 : (lay (lay R i (bv xs)) (i + m) ((cur.toList.drop i).take (n - i))).size = R.size := by rw [lay_size (by simp; omega), hs1]
          have eL : i + m + (n - i) = n + m := by omega
          rw [eL] at hdl
          refine ⟨_, rfl, done_new hdl hge (hG w _ (by omega)) (setRow_heap ((w.alloc (.cells R 5)).drew.setRow w.heap.size (lay R i (bv xs))).drew w.heap.size _ _ _ _ (setRow_heap (w.alloc (.cells R 5)).drew w.heap.size _ _ _ _ hnew)) (by rw [hs2]; exact hRz) ?_ (by simp) (fun k hk => ?_) rfl rfl rfl⟩
          · rw [← eL]
            refine laid_eq hcs hy hx hij hjn (fun q hq => ?_) (fun q hq => ?_) (fun q hq => ?_)
            · rw [lay_get (by simp; omega), if_neg (by omega), lay_get (by rw [bv_length]; omega), if_neg (by omega)]
              have := congrArg (fun l : List Value => l[q]?) h2
              simpa [hq] using this
            · rw [lay_get (by simp; omega), if_neg (by omega), lay_get (by rw [bv_length]; omega), bv_length, if_pos (by omega)]
              congr 1; omega
            · rw [lay_get (by simp; omega), if_pos (by simp; omega), List.getElem?_take, if_pos (by omega), List.getElem?_drop]
              congr 1; omega
          · rw [setRow_other _ _ _ _ (by omega)]
            show ((w.alloc (.cells R 5)).drew.setRow w.heap.size (lay R i (bv xs))).heap[k]? = _
            rw [setRow_other _ _ _ _ (by omega)]
            exact heap_alloc_old w _ hk
        · refine (ins_shift b n c cur fr w hh hfr hnc hcm hcz A m vc xs hs hm i hin hroom h1c).mono ?_
          rintro e w' ⟨rfl, rfl⟩
          have hs1 : (lay cur (i + m) ((cur.toList.drop i).take (n - i))).size = cur.size := lay_size (by simp; omega)
          have eL : i + m + (n - i) = n + m := by omega
          rw [eL] at hdl
          refine ⟨_, rfl, done_in hdl hroom hcm (setRow_heap w.drew b cur _ _ fr hh) hfr (by rw [lay_size (by rw [bv_length]; omega), hs1]; exact hcz) ?_ (by simp) (fun k hk => setRow_other w.drew b k _ hk) rfl rfl rfl⟩
          rw [← eL]
          refine laid_eq hcs hy hx hij hjn (fun q hq => ?_) (fun q hq => ?_) (fun q hq => ?_)
          · rw [lay_get (by rw [bv_length]; omega), if_neg (by omega), lay_get (by simp; omega), if_neg (by omega)]
          · rw [lay_get (by rw [bv_length]; omega), bv_length, if_pos (by omega)]
            congr 1; omega
          · rw [lay_get (by rw [bv_length]; omega), bv_length, if_neg (by omega), lay_get (by simp; omega), if_pos (by simp; omega), List.getElem?_take, if_pos (by omega), List.getElem?_drop]
            congr 1; omega
      · obtain rfl : i = n := by omega
        obtain ⟨B, c', w', h1, h2⟩ := appI i hij (by omega) i rfl hij
        refine (ins_end b i w c A m vc hm _ w' h1).mono ?_
        rintro e w'' ⟨rfl, rfl⟩
        exact ⟨_, rfl, h2⟩
end
end Go.Proofs
