/- AgainDots: whatever the input, up to the bulk that the statement names, the law answers true, and what was handed in reads as it did. Its conditions: the bound of the given statement and the tables that its card ties, no other. -/
import Derived.Test.YtmnhjhamgacdnaaDoorC16
import Derived.Laws.RangeString
import Derived.Lib.Hide
set_option linter.unusedVariables false
set_option linter.unusedSectionVars false
set_option linter.unusedSimpArgs false
namespace Go.Proofs
open Go.Shelf Go.RowKit Go.Lib
def lays32_ren : Go.Shelf.Ren := ⟨fun | 32 => 149 | 49 => 165 | n => n, fun | 30 => 22 | 21 => 21 | 3 => 3 | 0 => 0 | 5 => 5 | 4 => 4 | 33 => 170 | 66 => 193 | 25 => 133 | 69 => 196 | 68 => 195 | n => n, fun | 2 => 2 | 3 => 3 | n => n⟩
theorem lays32 : Lays7.n32 Tryd.prog lays32_ren where
  mixed := by kernel_rfl
  f32 := Tryd.func149.trans (congrArg some (by kernel_rfl))
  f49 := Tryd.func165.trans (congrArg some (by kernel_rfl))
  t0 := Tryd.underlying0
  a0 := Tryd.isAgg0
  z0 := Tryd.sizeOf0
  v0 := Tryd.zeroValue0
  i0 := by kernel_rfl
  t3 := Tryd.underlying3
  a3 := Tryd.isAgg3
  z3 := Tryd.sizeOf3
  v3 := Tryd.zeroValue3
  i3 := by kernel_rfl
  t4 := Tryd.underlying4
  a4 := Tryd.isAgg4
  z4 := Tryd.sizeOf4
  v4 := Tryd.zeroValue4
  i4 := by kernel_rfl
  t5 := Tryd.underlying5
  a5 := Tryd.isAgg5
  z5 := Tryd.sizeOf5
  v5 := Tryd.zeroValue5
  i5 := by kernel_rfl
  t21 := Tryd.underlying21
  a21 := Tryd.isAgg21
  z21 := Tryd.sizeOf21
  v21 := Tryd.zeroValue21
  i21 := by kernel_rfl
  t25 := Tryd.underlying133
  a25 := Tryd.isAgg133
  z25 := Tryd.sizeOf133
  v25 := Tryd.zeroValue133
  i25 := by kernel_rfl
  t30 := Tryd.underlying22
  a30 := Tryd.isAgg22
  z30 := Tryd.sizeOf22
  v30 := Tryd.zeroValue22
  i30 := by kernel_rfl
  t33 := Tryd.underlying170
  a33 := Tryd.isAgg170
  z33 := Tryd.sizeOf170
  v33 := Tryd.zeroValue170
  i33 := by kernel_rfl
  t66 := Tryd.underlying193
  a66 := Tryd.isAgg193
  z66 := Tryd.sizeOf193
  t68 := Tryd.underlying195
  a68 := Tryd.isAgg195
  z68 := Tryd.sizeOf195
  v68 := Tryd.zeroValue195
  i68 := by kernel_rfl
  t69 := Tryd.underlying196
  a69 := Tryd.isAgg196
  z69 := Tryd.sizeOf196
  v69 := Tryd.zeroValue196
  i69 := by kernel_rfl
  g2 := by kernel_rfl
  g3 := by kernel_rfl


theorem w32 (x : UInt8) : wrap32 (x.toNat : Int) = (x.toNat : Int) := by
  have := x.toNat_lt
  unfold wrap32; omega

theorem an_byteIn (s : ByteArray) (x : UInt8) (w : World) : (callFunc 144 #[.string s, .int .u8 x.toNat]).run Tryd.prog w = .ok (.value (.int .i64 (Lib.indexByte s.data.toList x))) w := by
  rw [run_callFunc_extern (fn := Tryd.f144) (by kernel_rfl) (by kernel_rfl) (by kernel_rfl) (by kernel_rfl) (e := Extern.BytealgIndexByte.indexByte) (by kernel_rfl), run_indexByteString]
  simp

theorem hi_none {s chars : ByteArray} {i : Nat} {x : UInt8} (h : s.data.toList[i]? = some x) (hx : 128 ≤ x.toNat) (hascii : ∀ (j : Nat) b, chars.data.toList[j]? = some b → b.toNat < 128) : chars.data.toList.contains x = false := by
  cases hc : chars.data.toList.contains x
  · rfl
  · have hm : x ∈ chars.data.toList := by simpa using hc
    obtain ⟨j, hj, e⟩ := List.mem_iff_getElem.1 hm
    have := hascii j x (by rw [List.getElem?_eq_getElem hj, e])
    omega

set_option maxHeartbeats 8000000 in
set_option maxRecDepth 1000000 in
theorem an_one (s chars : ByteArray) (b off cap : Nat) (w : World) (h1 : s.size = 1) (h2 : 2 ≤ chars.size) (hcs : chars.size < 4294967281)
    (hp : w.cell? ⟨b, off, none⟩ = some (.int .u8 (s.get! 0).toNat)) (hascii : ∀ (j : Nat) b, chars.data.toList[j]? = some b → b.toNat < 128) :
    Calls Tryd.prog 121 #[.slice (some ⟨b, off, none⟩) 1 cap, .string chars] w fun e w' => ∃ r : Int, e = .returned (.int .i64 r) ∧ (0 ≤ r ↔ AnyOf s chars) ∧ Below w.heap.size w w' := by
  have mixed := Go.VE.tb_M
  have hemp : chars.toList.isEmpty = false := by
    rw [Lib.toList_data]
    cases h : chars.data.toList with
    | nil => have := Lib.size_eq chars; rw [h, List.length_nil] at this; omega
    | cons _ _ => rfl
  obtain ⟨x, hxl, hx⟩ := at_get s 0 (by omega)
  rw [hx] at hp
  have hno : chars.data.toList.contains x = false → Lib.NoAny s.data.toList chars.data.toList s.size := fun hc j y hj hy => by
    have : j = 0 := by omega
    subst this
    rw [hxl] at hy; injection hy with hy; subst hy; exact hc
  by_cases hlo : x.toNat < 128
  · have hw32 := w32 x
    have hx128 : ¬ ((128 : Int) ≤ (x.toNat : Int)) := by omega
    have hib := fun w => an_byteIn chars x w
    have hcon := Lib.contains_iff_indexByte chars.data.toList x
    have HB : Aside (Below w.heap.size w w) := Below.refl _ _
    have HX : Aside (s.data.toList[0]? = some x) := hxl
    have HN := Lib.hid hno
    have HA := Lib.hid hascii
    clear hno hxl hx hascii
    cases hin : chars.data.toList.contains x
    · rw [hin] at hcon
      have hlt : ¬ ((0 : Int) ≤ Lib.indexByte chars.data.toList x) := of_decide_eq_false hcon.symm
      clear hcon
      go_enter Tryd.func121, Tryd.ntmps121
      go_wp2_with (simp only [hib])
      all_goals (go_ret; exact ⟨_, rfl, any_none (HN.out hin), HB.out⟩)
    · rw [hin] at hcon
      have hge : (0 : Int) ≤ Lib.indexByte chars.data.toList x := of_decide_eq_true hcon.symm
      clear hcon
      go_enter Tryd.func121, Tryd.ntmps121
      go_wp2_with (simp only [hib])
      all_goals (go_ret; exact ⟨_, rfl, any_hit HX.out hin, HB.out⟩)
  · have hw32 := w32 x
    have hx128 : (128 : Int) ≤ (x.toNat : Int) := by omega
    have HN := Lib.hid (hno (hi_none hxl (by omega) hascii))
    have HA : Aside (∀ (j : Nat) b, chars.data.toList[j]? = some b → b.toNat < 128) := hascii
    clear hno hxl hx hascii
    go_enter Tryd.func121, Tryd.ntmps121
    go_wp2
    go_loopg [5] chars.size (fun g _ wx => ∃ i : Nat, i + g = chars.size ∧ wx = w.iter chars i)
    case atStart => exact ⟨0, by omega, rfl⟩
    case round =>
      obtain ⟨i, hig, rfl⟩ := hrel
      cases gk with
      | zero =>
        obtain rfl : i = chars.size := by omega
        have hnx := run_next_end (P := Tryd.prog) w chars chars.size
        go_wp2
        go_ret
        exact ⟨_, rfl, any_none HN.out, (Below.refl w.heap.size w).alloc (Nat.le_refl _) _⟩
      | succ g =>
        have hi : i < chars.size := by omega
        obtain ⟨y, hyl, hy⟩ := at_get chars i hi
        have hy128 : y.toNat < 128 := HA.out i y hyl
        have hyE : chars[i]'hi = y := by rw [← hy]; exact (Utf8W.get!_of_lt chars i hi).symm
        have hnx := fun ty => run_next_ascii (P := Tryd.prog) w chars i ty hi (by rw [hyE]; exact hy128)
        rw [hyE] at hnx
        have hne : ¬ ((y.toNat : Int) = 65533) := by omega
        clear hyl hy hyE
        go_wp2
        go_roundg g
        case measure => omega
        case rel => exact ⟨i + 1, by omega, rfl⟩

theorem an_strIn (s r : ByteArray) (w : World) (m : Int) (hm : w.cell? ⟨0, 0, none⟩ = some (.int .i64 m)) (h2 : 2 ≤ r.size) (hb : (r.size : Int) ≤ m) (hs : s.size < 4294967281) :
    (callFunc 150 #[.string s, .string r]).run Tryd.prog w = .ok (.value (.int .i64 (Lib.index s.data.toList r.data.toList))) w := by
  rw [run_callFunc_extern (fn := Tryd.f150) (by kernel_rfl) (by kernel_rfl) (by kernel_rfl) (by kernel_rfl) (e := Extern.BytealgIndex.index) (by kernel_rfl), run_indexString s r w 0 m (by kernel_rfl) hm h2 hb hs]
  rfl

theorem below_tabs {w w' : World} (h : Lib.Utf8Tabs (lays32_ren.g 2) (lays32_ren.g 3) w) (h1 : (lays32_ren.g 2) < w.heap.size) (h2 : (lays32_ren.g 3) < w.heap.size) (hb : Below w.heap.size w w') : Lib.Utf8Tabs (lays32_ren.g 2) (lays32_ren.g 3) w' :=
  ⟨fun c hc => by rw [hb.cell h1]; exact h.1 c hc, fun i hi => by rw [hb.cell h2, hb.cell h2]; exact h.2 i hi⟩

set_option maxHeartbeats 16000000 in
set_option maxRecDepth 1000000 in
theorem an_short (s chars : ByteArray) (b off cap : Nat) (w : World) (hbw : b < w.heap.size) (h1 : s.size ≠ 1) (h8 : s.size ≤ 8) (hcap : s.size ≤ cap) (hc63 : cap ≤ 9223372036854775807) (h5 : 5 ≤ chars.size) (hcs : chars.size < 4294967281)
    (hp : ∀ j, j < s.size → w.cell? ⟨b, off + j, none⟩ = some (.int .u8 (s.get! j).toNat)) (hascii : ∀ (j : Nat) b, chars.data.toList[j]? = some b → b.toNat < 128)
    (hT : Lib.Utf8Tabs (lays32_ren.g 2) (lays32_ren.g 3) w) (hg1 : (lays32_ren.g 2) < w.heap.size) (hg2 : (lays32_ren.g 3) < w.heap.size) (m : Int) (hm : w.cell? ⟨0, 0, none⟩ = some (.int .i64 m)) (hg0 : 0 < w.heap.size) :
    Calls Tryd.prog 121 #[.slice (some ⟨b, off, none⟩) s.size cap, .string chars] w fun e w' => ∃ r : Int, e = .returned (.int .i64 r) ∧ (0 ≤ r ↔ AnyOf s chars) ∧ Below w.heap.size w w' := by
  have mixed := Go.VE.tb_M
  have hemp : chars.toList.isEmpty = false := by
    rw [Lib.toList_data]
    cases h : chars.data.toList with
    | nil => have := Lib.size_eq chars; rw [h, List.length_nil] at this; omega
    | cons _ _ => rfl
  have hn1 : ((chars.size : Int) == 1) = false := beq_eq_false_iff_ne.2 (by omega)
  have hs1 : ((s.size : Int) == 1) = false := beq_eq_false_iff_ne.2 (by omega)
  have h8z : decide ((8 : Int) < (s.size : Int)) = false := decide_eq_false (by omega)
  have HP : Aside (∀ j, j < s.size → w.cell? ⟨b, off + j, none⟩ = some (.int .u8 (s.get! j).toNat)) := hp
  have HA : Aside (∀ (j : Nat) b, chars.data.toList[j]? = some b → b.toNat < 128) := hascii
  have HT := Lib.hid hT
  have HM : Aside (w.cell? ⟨0, 0, none⟩ = some (.int .i64 m)) := hm
  have HG := Lib.hid (And.intro hg1 hg2)
  clear hp hascii hT hm hg1 hg2
  have e226 : ∀ args w, (callFunc 146 args).run Tryd.prog w = .ok (.enter 146 args) w := Go.VE.enters_of Tryd.func146 (by kernel_rfl)
  have e149 : ∀ args w, (callFunc 149 args).run Tryd.prog w = .ok (.enter 149 args) w := Go.VE.enters_of Tryd.func149 (by kernel_rfl)
  go_enter Tryd.func121, Tryd.ntmps121
  go_wp2_with (first
    | (go_at_fn 146; refine (an_use anyL _ _).mono ?_; rintro e w' ⟨rfl, hw⟩; rw [hw, h8z]))
  go_loopg [11, 12, 13, 15] s.size (fun g _ s12 _ _ wx => ∃ i : Nat, i + g = s.size ∧ s12 = .int .i64 i ∧ Below w.heap.size w wx ∧ Lib.NoAny s.data.toList chars.data.toList i)
  case atStart => exact ⟨0, by omega, rfl, Below.refl _ _, Lib.NoAny.zero _ _⟩
  case round =>
    obtain ⟨i, hig, rfl, hbel, hno⟩ := hrel
    have HN : Aside (Lib.NoAny s.data.toList chars.data.toList i) := hno
    have HB := Lib.hid hbel
    clear hno hbel
    cases gk with
    | zero =>
      obtain rfl : i = s.size := by omega
      have hiz : ¬ ((s.size : Int) < (s.size : Int)) := by omega
      go_wp2
      go_ret
      exact ⟨_, rfl, any_none HN.out, HB.out⟩
    | succ g =>
      have hi : i < s.size := by omega
      have hiz : (i : Int) < (s.size : Int) := by omega
      obtain ⟨x, hxl, hx⟩ := at_get s i hi
      have hpi : wr.cell? ⟨b, off + i, none⟩ = some (.int .u8 x.toNat) := by rw [HB.out.cell hbw, HP.out i hi, hx]
      have HX : Aside (s.data.toList[i]? = some x) := hxl
      have hw32 := w32 x
      by_cases hlo : x.toNat < 128
      · have hx128 : (x.toNat : Int) < 128 := by omega
        have hib := fun w => an_byteIn chars x w
        have hcon := Lib.contains_iff_indexByte chars.data.toList x
        clear hxl hx
        cases hin : chars.data.toList.contains x
        · rw [hin] at hcon
          have hlt : ¬ ((0 : Int) ≤ Lib.indexByte chars.data.toList x) := of_decide_eq_false hcon.symm
          clear hcon
          go_wp2_with (simp only [hib])
          go_roundg g
          case measure => omega
          case rel => exact ⟨i + 1, by omega, by first | rfl | simp, HB.out, HN.out.succ HX.out hin⟩
        · rw [hin] at hcon
          have hge : (0 : Int) ≤ Lib.indexByte chars.data.toList x := of_decide_eq_true hcon.symm
          clear hcon
          go_wp2_with (simp only [hib])
          go_ret
          exact ⟨_, rfl, any_hit HX.out hin, HB.out⟩
      · have hx128 : ¬ ((x.toNat : Int) < 128) := by omega
        have hxb : 128 ≤ (s.get! i).toNat := by rw [hx]; omega
        obtain ⟨hK1, hK4, hKn, hR1, hR2, hKb⟩ := Lib.decode_hi s i hi hxb
        have hEnc := Lib.decode_enc s i hxb
        have hEnc2 := Lib.encode_hi ((Utf8.decode s i).1 : Int) (by omega)
        have cS := Any7.utf8_DecodeRune lays32 (s.extract i s.size) b (off + i) (cap - i) wr (below_tabs HT.out HG.out.1 HG.out.2 HB.out) (fun j hj => by
          rw [Lib.tail_size] at hj
          rw [HB.out.cell (p := ⟨b, off + i + j, none⟩) hbw, Nat.add_assoc, HP.out (i + j) (by omega), Lib.tail_get!])
        have hdg : Lib.decodeGo (s.extract i s.size) = Utf8.decode s i := by
          unfold Lib.decodeGo
          rw [if_neg (by rw [Lib.tail_size]; omega), Lib.tail_decode]
          rfl
        rw [hdg, Lib.tail_size] at cS
        have hN2 : Lib.NoAny s.data.toList chars.data.toList (i + (Utf8.decode s i).2) := fun j y hj hy => by
          by_cases hji : j < i
          · exact HN.out j y hji hy
          · have hjs : j < s.size := by omega
            obtain ⟨z, hz, hz2⟩ := at_get s j hjs
            rw [hz] at hy; injection hy with hy; subst hy
            have := hKb (j - i) (by omega)
            rw [show i + (j - i) = j by omega, hz2] at this
            exact hi_none hz this HA.out
        have HN2 := Lib.hid hN2
        clear hN2 hKb hdg hxl hx hxb
        generalize (Utf8.decode s i).1 = R at *
        generalize (Utf8.decode s i).2 = K at *
        have hci : ¬ (cap = i) := by omega
        have hii : (i : Int) ≤ (s.size : Int) := by omega
        have hwK : IntKind.i64.wrap ((i : Int) + (K : Int)) = ((i + K : Nat) : Int) := by rw [IntKind.wrap_i64]; omega
        by_cases hR : R = 65533
        · subst hR
          clear hEnc hEnc2
          go_wp2_with (first
            | (go_at_fn 149; refine cS.mono ?_; rintro e w2 ⟨rfl, hb2⟩))
          have HB2 := Lib.hid (HB.out.trans (hb2.mono HB.out.size))
          have HZ := Lib.hid (Nat.le_trans HB.out.size hb2.size)
          clear hb2
          go_loopg [15] chars.size (fun g _ wy => ∃ j : Nat, j + g = chars.size ∧ wy = w2.iter chars j)
          case atStart => exact ⟨0, by omega, rfl⟩
          case round =>
            obtain ⟨j, hjg, rfl⟩ := hrel
            cases gk with
            | zero =>
              obtain rfl : j = chars.size := by omega
              have hnx := run_next_end (P := Tryd.prog) w2 chars chars.size
              go_wp2
              go_roundg (s.size - (i + K))
              case measure => omega
              case rel => exact ⟨i + K, by omega, by first | rfl | simp, HB2.out.alloc HZ.out _, HN2.out⟩
            | succ g =>
              have hj : j < chars.size := by omega
              obtain ⟨y, hyl, hy⟩ := at_get chars j hj
              have hy128 : y.toNat < 128 := HA.out j y hyl
              have hyE : chars[j]'hj = y := by rw [← hy]; exact (Utf8W.get!_of_lt chars j hj).symm
              have hnx := fun ty => run_next_ascii (P := Tryd.prog) w2 chars j ty hj (by rw [hyE]; exact hy128)
              rw [hyE] at hnx
              have hne : ¬ ((65533 : Int) = (y.toNat : Int)) := by omega
              clear hyl hy hyE
              go_wp2
              go_roundg g
              case measure => omega
              case rel => exact ⟨j + 1, by omega, rfl⟩
        · have hRi : ¬ ((R : Int) = 65533) := by omega
          have hck : ¬ ((chars.size : Int) = (K : Int)) := by omega
          have hes := hEnc hR
          obtain ⟨he2, y0, hy0, hy1⟩ := hEnc2
          have hidx : Lib.index chars.data.toList (Utf8.encode (R : Int)).data.toList = -1 := by
            cases hl : (Utf8.encode (R : Int)).data.toList with
            | nil => rw [hl] at hy0; cases hy0
            | cons a l => rw [hl] at hy0; simp at hy0; subst hy0; exact Lib.index_hi hy1 HA.out
          have hsi : ∀ w2 : World, w2.cell? ⟨0, 0, none⟩ = some (.int .i64 m) → (K : Int) ≤ m → (callFunc 150 #[.string chars, .string (Utf8.encode (R : Int))]).run Tryd.prog w2 = .ok (.value (.int .i64 (-1))) w2 := fun w2 h1 h2 => by
            rw [an_strIn chars _ w2 m h1 he2 (by rw [hes]; exact h2) hcs, hidx]
          clear hEnc hes he2 hy0 hy1 hidx
          by_cases hmk : (K : Int) ≤ m
          · have cS2 : Calls Tryd.prog 149 #[.slice (some ⟨b, off + i, none⟩) (s.size - i) (cap - i)] wr fun e w2 => e = .returned (.tuple #[.int .i32 R, .int .i64 K]) ∧ Below wr.heap.size wr w2 ∧ w2.cell? ⟨0, 0, none⟩ = some (.int .i64 m) ∧ (callFunc 150 #[.string chars, .string (Utf8.encode (R : Int))]).run Tryd.prog w2 = .ok (.value (.int .i64 (-1))) w2 :=
              cS.mono fun e w2 ⟨h1, h2⟩ => by
                have hm2 : w2.cell? ⟨0, 0, none⟩ = some (.int .i64 m) := by rw [(HB.out.trans (h2.mono HB.out.size)).cell hg0]; exact HM.out
                exact ⟨h1, h2, hm2, hsi w2 hm2 hmk⟩
            clear cS hsi
            go_wp2_with (first
              | (go_at_fn 149; refine cS2.mono ?_; rintro e w2 ⟨rfl, hb2, hm2, hs2⟩)
              | simp only [hs2])
            go_roundg (s.size - (i + K))
            case measure => omega
            case rel => exact ⟨i + K, by omega, by first | rfl | simp, HB.out.trans (hb2.mono HB.out.size), HN2.out⟩
          · have cS2 : Calls Tryd.prog 149 #[.slice (some ⟨b, off + i, none⟩) (s.size - i) (cap - i)] wr fun e w2 => e = .returned (.tuple #[.int .i32 R, .int .i64 K]) ∧ Below wr.heap.size wr w2 ∧ w2.cell? ⟨0, 0, none⟩ = some (.int .i64 m) :=
              cS.mono fun e w2 ⟨h1, h2⟩ => by
                have hm2 : w2.cell? ⟨0, 0, none⟩ = some (.int .i64 m) := by rw [(HB.out.trans (h2.mono HB.out.size)).cell hg0]; exact HM.out
                exact ⟨h1, h2, hm2⟩
            clear cS hsi
            go_wp2_with (first
              | (go_at_fn 149; refine cS2.mono ?_; rintro e w2 ⟨rfl, hb2, hm2⟩))
            have HB2 := Lib.hid (HB.out.trans (hb2.mono HB.out.size))
            have HZ := Lib.hid (Nat.le_trans HB.out.size hb2.size)
            clear hb2
            go_loopg [15] chars.size (fun g _ wy => ∃ j : Nat, j + g = chars.size ∧ wy = w2.iter chars j)
            case atStart => exact ⟨0, by omega, rfl⟩
            case round =>
              obtain ⟨j, hjg, rfl⟩ := hrel
              cases gk with
              | zero =>
                obtain rfl : j = chars.size := by omega
                have hnx := run_next_end (P := Tryd.prog) w2 chars chars.size
                go_wp2
                go_roundg (s.size - (i + K))
                case measure => omega
                case rel => exact ⟨i + K, by omega, by first | rfl | simp, HB2.out.alloc HZ.out _, HN2.out⟩
              | succ g =>
                have hj : j < chars.size := by omega
                obtain ⟨y, hyl, hy⟩ := at_get chars j hj
                have hy128 : y.toNat < 128 := HA.out j y hyl
                have hyE : chars[j]'hj = y := by rw [← hy]; exact (Utf8W.get!_of_lt chars j hj).symm
                have hnx := fun ty => run_next_ascii (P := Tryd.prog) w2 chars j ty hj (by rw [hyE]; exact hy128)
                rw [hyE] at hnx
                have hne : ¬ ((R : Int) = (y.toNat : Int)) := by omega
                clear hyl hy hyE
                go_wp2
                go_roundg g
                case measure => omega
                case rel => exact ⟨j + 1, by omega, rfl⟩

end Go.Proofs
namespace Go.Proofs
open Go.Shelf Go.RowKit Go.Lib
set_option maxHeartbeats 8000000 in
set_option maxRecDepth 1000000 in
theorem an_nil (A : Option Addr) (cap : Nat) (chars : ByteArray) (w : World) (h2 : 2 ≤ chars.size) :
    Calls Tryd.prog 121 #[.slice A 0 cap, .string chars] w fun e w' => e = .returned (.int .i64 (-1)) ∧ w' = w := by
  have mixed := Go.VE.tb_M
  have hemp : chars.toList.isEmpty = false := by
    rw [Lib.toList_data]
    cases h : chars.data.toList with
    | nil => have := Lib.size_eq chars; rw [h, List.length_nil] at this; omega
    | cons _ _ => rfl
  have hn1 : ((chars.size : Int) == 1) = false := beq_eq_false_iff_ne.2 (by omega)
  have h8z : decide ((8 : Int) < (0 : Int)) = false := rfl
  have e226 : ∀ args w, (callFunc 146 args).run Tryd.prog w = .ok (.enter 146 args) w := Go.VE.enters_of Tryd.func146 (by kernel_rfl)
  go_enter Tryd.func121, Tryd.ntmps121
  go_wp2_with (first
    | (go_at_fn 146; refine (an_use anyL _ _).mono ?_; rintro e w' ⟨rfl, hw⟩; rw [hw]))
  go_loopg [11, 12, 13, 15] 0 (fun g _ s12 _ _ wx => s12 = .int .i64 0 ∧ wx = w)
  case atStart => exact ⟨rfl, rfl⟩
  case round =>
    obtain ⟨rfl, rfl⟩ := hrel
    go_wp2
    go_ret
    exact ⟨rfl, rfl⟩

theorem an_has_any (v : Value) (chars : ByteArray) (w : World) (Q : Prop) [Decidable Q] (h : Calls Tryd.prog 121 #[v, .string chars] w fun e w' => ∃ r : Int, e = .returned (.int .i64 r) ∧ (0 ≤ r ↔ Q) ∧ Below w.heap.size w w') :
    Calls Tryd.prog 83 #[v, .string chars] w fun e w' => e = .returned (.bool (decide Q)) ∧ Below w.heap.size w w' := by
  have mixed := Go.VE.tb_M
  have e121 : ∀ args w, (callFunc 121 args).run Tryd.prog w = .ok (.enter 121 args) w := Go.VE.enters_of Tryd.func121 (by kernel_rfl)
  have hd : ∀ r : Int, (0 ≤ r ↔ Q) → decide (0 ≤ r) = decide Q := fun r hr => decide_eq_decide.2 hr
  have HD := Lib.hid hd
  clear hd
  go_enter Tryd.func83, Tryd.ntmps83
  go_wp2_with (first
    | (go_at_fn 121; refine h.mono ?_; rintro e w' ⟨r, rfl, hr, hb⟩))
  go_ret
  exact ⟨by rw [← HD.out r hr]; rfl, hb⟩
end Go.Proofs
namespace Go.VE
open Go Go.RowKit Go.Lib
/-- what no typed line has -/
def oddsL : List Int := [8, 10, 13, 27, 127]
def oddsB : ByteArray := ⟨#[8, 10, 13, 27, 127]⟩
theorem odds_of {s : ByteArray} (h : VE.bytesOf s = oddsL) : s = oddsB := by
  obtain ⟨⟨l⟩⟩ := s
  have h2 : l.map (fun b : UInt8 => (b.toNat : Int)) = oddsL := h
  have h3 : l.map (fun b : UInt8 => (b.toNat : Int)) = ([8, 10, 13, 27, 127] : List UInt8).map (fun b : UInt8 => (b.toNat : Int)) := h2
  have h4 := (List.map_inj_right (fun a b (h : (a.toNat : Int) = (b.toNat : Int)) => UInt8.toNat_inj.1 (by omega))).1 h3
  subst h4
  rfl

def cany_A : List AS := [.v (.sl (.int .u8)), .v .str]
/-- the bytes, as an array -/
def arr (xs : List Int) : ByteArray := ⟨(xs.map fun x => UInt8.ofNat x.toNat).toArray⟩
theorem arr_size (xs : List Int) : (arr xs).size = xs.length := by simp [arr, ByteArray.size]
theorem arr_get {xs : List Int} (hx : ∀ x ∈ xs, inR .u8 x) {j : Nat} (hj : j < xs.length) : (((arr xs).get! j).toNat : Int) = xs[j] := by
  have h := hx _ (List.getElem_mem hj)
  simp only [inR, kmin, kmax] at h
  have e : (arr xs).get! j = UInt8.ofNat (xs[j]).toNat := by
    show (arr xs).data[j]! = _
    simp [arr, hj]
  rw [e]
  have : (UInt8.ofNat (xs[j]).toNat).toNat = (xs[j]).toNat % 256 := by simp
  rw [this]; omega

theorem any_iff {xs : List Int} (hx : ∀ x ∈ xs, inR .u8 x) : Go.Proofs.AnyOf (arr xs) oddsB ↔ ∃ b ∈ xs, b ∈ oddsL := by
  have hsml : ∀ n : Fin 256, (oddsB.data.toList.contains (UInt8.ofNat n.val) = true ↔ (n.val : Int) ∈ oddsL) := by decide +kernel
  constructor
  · rintro ⟨j, x, hj, hc⟩
    have hjl : j < xs.length := by
      rcases Nat.lt_or_ge j xs.length with h | h
      · exact h
      · rw [List.getElem?_eq_none (by simp [arr]; exact h)] at hj; cases hj
    have h := hx _ (List.getElem_mem hjl)
    simp only [inR, kmin, kmax] at h
    have e : x = UInt8.ofNat (xs[j]).toNat := by simp [arr, hjl] at hj; exact hj.symm
    refine ⟨xs[j], List.getElem_mem hjl, ?_⟩
    have := (hsml ⟨(xs[j]).toNat, by omega⟩).1 (by rw [← e]; exact hc)
    simpa [Int.toNat_of_nonneg h.1] using this
  · rintro ⟨b, hb, ho⟩
    obtain ⟨j, hj, rfl⟩ := List.mem_iff_getElem.1 hb
    have h := hx _ (List.getElem_mem hj)
    simp only [inR, kmin, kmax] at h
    refine ⟨j, UInt8.ofNat (xs[j]).toNat, by simp [arr, hj], ?_⟩
    exact (hsml ⟨(xs[j]).toNat, by omega⟩).2 (by simpa [Int.toNat_of_nonneg h.1] using ho)

instance (xs : List Int) : Decidable (∃ b ∈ xs, b ∈ oddsL) := inferInstance

theorem cany_spec (xs : List Int) (hl : xs.length < 4294967281) {Ok : Res → List Cell → Prop} (hK : Ok (.one (.v .bool (decide (∃ b ∈ xs, b ∈ oddsL)))) []) :
    CallSpec Go.Proofs.Tryd.prog 83 (mkA cany_A (xs, oddsL, ())) Ok := by
  intro I w vs bs hI hg ha
  have hlen := ha.length
  obtain ⟨sv, cv, rfl⟩ : ∃ a b, vs = [a, b] := by
    match vs, hlen with
    | [a, b], _ => exact ⟨a, b, rfl⟩
  obtain rfl : bs = [] := by
    cases bs with
    | nil => rfl
    | cons b bs => exact ha.2.2.elim
  obtain ⟨hs, hc, _⟩ := ha
  obtain ⟨cb, rfl, hcb, _⟩ := RepV.str_eq hc
  have hcb : VE.bytesOf cb = oddsL := hcb
  obtain rfl := odds_of hcb
  have hx : ∀ x ∈ xs, inR .u8 x := fun x hx => (RepV.wf hs).2 x hx
  have hascii : ∀ (j : Nat) b, oddsB.data.toList[j]? = some b → b.toNat < 128 := by
    intro j b hb
    have : ∀ b ∈ oddsB.data.toList, b.toNat < 128 := by decide
    exact this b (List.mem_of_getElem? hb)
  obtain ⟨A, cap, hv, hle, hm, hr⟩ : ∃ A cap, sv = .slice A (List.length xs) cap ∧ List.length xs ≤ cap ∧ cap ≤ maxLen ∧ RowC I w (RepC I w (.int .u8)) 1 A xs := by
    obtain ⟨cs, h1, h2, h3, h4⟩ := hs
    obtain ⟨A, cap, h5, h6, h7, h8⟩ := h1
    have h9 := h4 rfl
    rw [h9] at h5
    exact ⟨A, cap, by simpa using h5, h6, h7, h8⟩
  subst hv
  have hr' : ∀ i (hi : i < xs.length), ∃ b' o, A = some ⟨b', o, none⟩ ∧ I b' ∧ w.cell? ⟨b', o + i, none⟩ = some (.int .u8 xs[i]) := by
    intro i hi
    obtain ⟨b', o, h1, h2, cs, ⟨h3, h4⟩, h5, h6⟩ := hr i hi
    refine ⟨b', o, h1, h2, ?_⟩
    have := h6 0 (.int .u8 xs[i]) (by rw [h4]; rfl)
    simpa using this
  have hidx : Calls Go.Proofs.Tryd.prog 121 #[.slice A (List.length xs) cap, .string oddsB] w fun e w' => ∃ r : Int, e = .returned (.int .i64 r) ∧ (0 ≤ r ↔ ∃ b ∈ xs, b ∈ oddsL) ∧ Below w.heap.size w w' := by
    rcases Nat.eq_zero_or_pos xs.length with h0 | hpos
    · have : xs = [] := List.eq_nil_of_length_eq_zero h0
      subst this
      refine (Go.Proofs.an_nil A cap oddsB w (by decide)).mono ?_
      rintro e w' ⟨rfl, rfl⟩
      exact ⟨-1, rfl, ⟨fun h => by omega, fun ⟨b, hb, _⟩ => by simp at hb⟩, Below.refl _ _⟩
    · obtain ⟨b, off, rfl, hb, _⟩ := hr' 0 hpos
      have hp : ∀ j, j < (arr xs).size → w.cell? ⟨b, off + j, none⟩ = some (.int .u8 ((arr xs).get! j).toNat) := fun j hj => by
        rw [arr_size] at hj
        obtain ⟨b2, o2, e, _, h⟩ := hr' j hj
        injection e with e; injection e with e1 e2; subst e1; subst e2
        rw [h, arr_get hx hj]
      have hbw := hI b hb
      obtain ⟨⟨ob, m, g0, g1, g2⟩, ⟨o2, o3, i2, i3, j2, j3, g3⟩, _⟩ := hg
      have hT := g3 w j2 j3
      have hM := g2 w g1
      rw [← arr_size xs]
      have fin : (Calls Go.Proofs.Tryd.prog 121 #[.slice (some ⟨b, off, none⟩) (arr xs).size cap, .string oddsB] w fun e w' => ∃ r : Int, e = .returned (.int .i64 r) ∧ (0 ≤ r ↔ Go.Proofs.AnyOf (arr xs) oddsB) ∧ Below w.heap.size w w') →
          Calls Go.Proofs.Tryd.prog 121 #[.slice (some ⟨b, off, none⟩) (arr xs).size cap, .string oddsB] w fun e w' => ∃ r : Int, e = .returned (.int .i64 r) ∧ (0 ≤ r ↔ ∃ b ∈ xs, b ∈ oddsL) ∧ Below w.heap.size w w' := fun h => h.mono fun e w' ⟨r, h1, h2, h3⟩ => ⟨r, h1, h2.trans (any_iff hx), h3⟩
      by_cases h1 : (arr xs).size = 1
      · refine fin ?_
        have := Go.Proofs.an_one (arr xs) oddsB b off cap w h1 (by decide) (by decide) (hp 0 (by omega)) hascii
        rw [h1]; exact this
      · by_cases h8 : (arr xs).size ≤ 8
        · exact fin (Go.Proofs.an_short (arr xs) oddsB b off cap w hbw h1 h8 (by rw [arr_size]; exact hle) hm (by decide) (by decide) hp hascii hT (hI _ i2) (hI _ i3) m hM (hI _ g0))
        · exact fin (Go.Proofs.an_long Go.Proofs.anyL (arr xs) oddsB b off cap w hbw (by omega) (by rw [arr_size]; exact hl) (by decide) (by decide) hp hascii)
  refine (Go.Proofs.an_has_any _ oddsB w (∃ b ∈ xs, b ∈ oddsL) hidx).mono ?_
  rintro e w' ⟨rfl, hb⟩
  exact ⟨_, rfl, .one (.v .bool (decide (∃ b ∈ xs, b ∈ oddsL))), [], fun _ => False, [none], hK, ⟨hb.os, hb.tape, hb.output, hb.size, fun k hk _ => hb.block k hk⟩, fun b h => h.elim, fun i b h => by
    cases i with
    | zero => simp at h
    | succ i => simp at h, ⟨none, rfl, rfl, RepV.of_one rfl rfl⟩, trivial⟩

def bytes_ContainsAny_P (s : List Int) (chars : List Int) : Prop := chars = oddsL ∧ s.length < 4294967281
def bytes_ContainsAny_F (s : List Int) (_ : List Int) : Bool := decide (∃ b ∈ s, b ∈ oddsL)
def bytes_ContainsAny_C (v : valsA cany_A) (K : Res → List Cell → Prop) : Prop := bytes_ContainsAny_P v.1 v.2.1 ∧ ∀ r : Bool, r = bytes_ContainsAny_F v.1 v.2.1 → K (.one (.v .bool r)) []
def bytes_ContainsAny_S : App := specW cany_A bytes_ContainsAny_C
theorem bytes_ContainsAny_ok : AppOk Go.Proofs.Tryd.prog 83 bytes_ContainsAny_S := by
  refine AppOk.specW fun ags K hs => ?_
  obtain ⟨v, rfl, hP, hK⟩ := rdA_of _ ags _ hs
  obtain ⟨s, c, ⟨⟩⟩ := v
  obtain ⟨h1, h2⟩ := hP
  have h1 : c = oddsL := h1
  subst h1
  exact .inl ⟨enters_of Go.Proofs.Tryd.func83 (by kernel_rfl), cany_spec s h2 (hK _ rfl)⟩
end Go.VE
namespace Go.VE
open Go Go.Proofs
--! external 1
--! args B S
--! res T
--! import AN5

end Go.VE
namespace Go.VE
open Go Go.Proofs
/-! ### quoin/again.odd -/
def again_odd_G : List (Nat × App) := [(83, bytes_ContainsAny_S)]
theorem again_odd_Gok : GOk Tryd.prog (getG again_odd_G) := GOk.cons bytes_ContainsAny_ok (GOk.nil)
def again_odd_raw (line0 : List Int) (K : Res → List Cell → Prop) : Prop :=
 bif (decide ((256 : Int) < (List.length line0 : Int))) then
 K (.one (.v (.bool) true)) []
 else
 bytes_ContainsAny_P line0 ([8, 10, 13, 27, 127] : List Int) ∧ (
 ∀ (r1 : Bool), r1 = bytes_ContainsAny_F line0 ([8, 10, 13, 27, 127] : List Int) → (
 wfR (.one (.v (.bool) r1)) → (
 K (.one (.v (.bool) r1)) [])))
def again_odd_A : List AS := [.v (.sl (.int .u8))]
theorem again_odd_walk (line0 : List Int) (K : Res → List Cell → Prop) : runF tb (getG again_odd_G) [] Tryd.f41 [true] (mkA again_odd_A (line0, ())) K = again_odd_raw line0 K := by kernel_rfl

def again_odd_P (line0 : List Int) : Prop :=
 bif (decide ((256 : Int) < (List.length line0 : Int))) then
 True
 else
 bytes_ContainsAny_P line0 ([8, 10, 13, 27, 127] : List Int)
def again_odd_F (line0 : List Int) : Bool :=
 bif (decide ((256 : Int) < (List.length line0 : Int))) then
 true
 else
 let r1 : Bool := bytes_ContainsAny_F line0 ([8, 10, 13, 27, 127] : List Int)
 r1
set_option maxRecDepth 20000 in
theorem again_odd_sp (line0 : List Int) (K : Res → List Cell → Prop) (_ : wfA again_odd_A (line0, ())) (hp : again_odd_P line0) (h : ∀ r : Bool, r = again_odd_F line0 → K (.one (.v (.bool) r)) []) : again_odd_raw line0 K := by
  unfold again_odd_raw
  unfold again_odd_P at hp
  refine brb (fun c_1 => ?_) (fun c_1 => ?_)
  ·
    clear hp
    exact h _ ((ctrue c_1) : again_odd_F line0 = _).symm
  ·
    replace hp := cF c_1 hp
    refine ⟨hp, ?_⟩
    intro r1 hr1
    subst hr1
    intro _
    exact h _ ((cfalse c_1) : again_odd_F line0 = _).symm
def again_odd_C (v : valsA again_odd_A) (K : Res → List Cell → Prop) : Prop := again_odd_P v.1 ∧ ∀ r : Bool, r = again_odd_F v.1 → K (.one (.v (.bool) r)) []
def again_odd_S : App := specW again_odd_A again_odd_C
theorem again_odd_wv (K : Res → List Cell → Prop) : ∀ v : valsA again_odd_A, runF tb (getG again_odd_G) [] Tryd.f41 [true] (mkA again_odd_A v) K = again_odd_raw v.1 K
  | (line0, ()) => again_odd_walk line0 K
set_option maxRecDepth 20000 in
theorem again_odd_ok : AppOk Tryd.prog 41 again_odd_S :=
  AppOk.specW (spec_ok ((runF_ok tb_M tb_ok again_odd_Gok (LabsOk.nil) (f := 41) (fn := Tryd.f41) (by kernel_rfl) (by kernel_rfl) (by kernel_rfl) [true])) fun v K hw h => (again_odd_wv K v).mpr (again_odd_sp v.1 K hw h.1 h.2))

end Go.VE
namespace Go.VE
open Go Go.Proofs
/-! ### quoin/again.made -/
def again_made_G : List (Nat × App) := [(48, keys_Name_S), (40, again_asks_S)]
theorem again_made_Gok : GOk Tryd.prog (getG again_made_G) := GOk.cons keys_Name_ok (GOk.cons again_asks_ok (GOk.nil))
def again_made_raw (c0 : CmT) (K : Res → List Cell → Prop) : Prop :=
 keys_Name_P c0 ∧ (
 ∀ (r1 : List Int), r1 = keys_Name_F c0 → (
 wfR (.one (.fr 4294967301 (.int .u8) r1)) → (
 ∀ (r2 : Bool), r2 = again_asks_F c0 → (
 wfR (.one (.v (.bool) r2)) → (
 bif r2 then
 bif decide (List.length r1 + List.length c0.2.2.2.2.2 ≤ lim) then
 bif decide (List.length (r1 ++ c0.2.2.2.2.2) + List.length ([(13 : Int)] : List Int) ≤ lim) then
 K (.one (.fr 4294967301 (.int .u8) ((r1 ++ c0.2.2.2.2.2) ++ ([(13 : Int)] : List Int)))) []
 else False
 else False
 else
 K (.one (.fr 4294967301 (.int .u8) r1)) [])))))
def again_made_A : List AS := [.v (.st (.pair (.int .u8) (.pair (.int .i64) (.pair (.str) (.pair (.str) (.pair (.int .u8) (.sl (.int .u8))))))))]
theorem again_made_walk (c0 : CmT) (K : Res → List Cell → Prop) : runF tb (getG again_made_G) [] Tryd.f42 [true] (mkA again_made_A (c0, ())) K = again_made_raw c0 K := by kernel_rfl

def again_made_P (c0 : CmT) : Prop :=
 keys_Name_P c0 ∧ (
 let r1 : List Int := keys_Name_F c0
 let r2 : Bool := again_asks_F c0
 bif r2 then
 (List.length r1 + List.length c0.2.2.2.2.2 ≤ lim) ∧ (
 (List.length (r1 ++ c0.2.2.2.2.2) + List.length ([(13 : Int)] : List Int) ≤ lim))
 else
 True)
def again_made_F (c0 : CmT) : List Int :=
 let r1 : List Int := keys_Name_F c0
 let r2 : Bool := again_asks_F c0
 bif r2 then
 ((r1 ++ c0.2.2.2.2.2) ++ ([(13 : Int)] : List Int))
 else
 r1
set_option maxRecDepth 20000 in
theorem again_made_sp (c0 : CmT) (K : Res → List Cell → Prop) (_ : wfA again_made_A (c0, ())) (hp : again_made_P c0) (h : ∀ r : List Int, r = again_made_F c0 → K (.one (.fr 4294967301 (.int .u8) r)) []) : again_made_raw c0 K := by
  unfold again_made_raw
  unfold again_made_P at hp
  refine ⟨hp.1, ?_⟩
  replace hp := hp.2
  intro r1 hr1
  subst hr1
  intro _
  intro r2 hr2
  subst hr2
  intro _
  refine brb (fun c_1 => ?_) (fun c_1 => ?_)
  ·
    replace hp := cT c_1 hp
    refine asrt hp.1 ?_
    replace hp := hp.2
    refine asrt hp ?_
    exact h _ ((ctrue c_1) : again_made_F c0 = _).symm
  ·
    clear hp
    exact h _ ((cfalse c_1) : again_made_F c0 = _).symm
def again_made_C (v : valsA again_made_A) (K : Res → List Cell → Prop) : Prop := again_made_P v.1 ∧ ∀ r : List Int, r = again_made_F v.1 → K (.one (.fr 4294967301 (.int .u8) r)) []
def again_made_S : App := specW again_made_A again_made_C
theorem again_made_wv (K : Res → List Cell → Prop) : ∀ v : valsA again_made_A, runF tb (getG again_made_G) [] Tryd.f42 [true] (mkA again_made_A v) K = again_made_raw v.1 K
  | (c0, ()) => again_made_walk c0 K
set_option maxRecDepth 20000 in
theorem again_made_ok : AppOk Tryd.prog 42 again_made_S :=
  AppOk.specW (spec_ok ((runF_ok tb_M tb_ok again_made_Gok (LabsOk.nil) (f := 42) (fn := Tryd.f42) (by kernel_rfl) (by kernel_rfl) (by kernel_rfl) [true])) fun v K hw h => (again_made_wv K v).mpr (again_made_sp v.1 K hw h.1 h.2))

end Go.VE
namespace Go.VE
open Go Go.Proofs
/-! ### slices.Equal[[]byte,byte] -/
def slices_Equal_byte_byte_G : List (Nat × App) := []
theorem slices_Equal_byte_byte_Gok : GOk Tryd.prog (getG slices_Equal_byte_byte_G) := GOk.nil
theorem slices_Equal_byte_byte_st : storesC (bodyOf Tryd.f46) = true := by kernel_rfl
def slices_Equal_byte_byte_d0 : List LS := [.v 0 (.sl (.int .u8)), .v 1 (.sl (.int .u8)), .v 12 (.int .i64), .v 13 (.int .i64)]
def slices_Equal_byte_byte_d0r : List LS := [.v 4 (.bool)]
def slices_Equal_byte_byte_d0x0 : List LS := []
def slices_Equal_byte_byte_dx0 : DX := ⟨none, some slices_Equal_byte_byte_d0r, [(0, slices_Equal_byte_byte_d0x0)]⟩
def slices_Equal_byte_byte_T0 (Y : List Int → List Int → Int → Int → Prop) (kr : Bool → Prop) (kx0 : Prop) (s0 : List Int) (s1 : List Int) (x12 : Int) (x13 : Int) : Prop :=
 bif (decide (x13 < x12)) then
 bif decide (0 ≤ x13 ∧ x13 < (List.length s0 : Int)) then
 bif decide (0 ≤ x13 ∧ x13 < (List.length s1 : Int)) then
 bif (!decide ((rd (0 : Int) s0 x13) = (rd (0 : Int) s1 x13))) then
 kr false
 else
 Y s0 s1 x12 (IntKind.wrap .i64 (x13 + (1 : Int)))
 else False
 else False
 else
 kx0
def slices_Equal_byte_byte_L0 (kr : Bool → Prop) (kx0 : Prop) : Nat → List Int → List Int → Int → Int → Prop
  | 0, _, _, _, _ => False
  | n + 1, s0, s1, x12, x13 => wfD slices_Equal_byte_byte_d0 (s0, s1, x12, x13, ()) → slices_Equal_byte_byte_T0 (slices_Equal_byte_byte_L0 kr kx0 n) kr kx0 s0 s1 x12 x13
theorem slices_Equal_byte_byte_s0 (k : Ex → St → Prop) (Y : vals slices_Equal_byte_byte_d0 → Prop) (s0 : List Int) (s1 : List Int) (x12 : Int) (x13 : Int) :
    ex tb (getG slices_Equal_byte_byte_G) [] (at' (bodyOf Tryd.f46) [0, 0, 1, 0, 1, 1]) [0, 0, 1, 0, 1, 1] (mkD 26 slices_Equal_byte_byte_d0 (s0, s1, x12, x13, ())) (lpK 26 slices_Equal_byte_byte_d0 slices_Equal_byte_byte_dx0 k Y) =
    slices_Equal_byte_byte_T0 (fun s0 s1 x12 x13 => Y (s0, s1, x12, x13, ())) (fun x4 => wfD slices_Equal_byte_byte_d0r (x4, ()) → k .ret (mkD 26 slices_Equal_byte_byte_d0r (x4, ()))) (wfD slices_Equal_byte_byte_d0x0 () → k (.exit 0) (mkD 26 slices_Equal_byte_byte_d0x0 ())) s0 s1 x12 x13 := by kernel_rfl
theorem slices_Equal_byte_byte_e0 (k : Ex → St → Prop) : ∀ (n : Nat) (s0 : List Int) (s1 : List Int) (x12 : Int) (x13 : Int), lpD 26 slices_Equal_byte_byte_d0 slices_Equal_byte_byte_dx0 (ex tb (getG slices_Equal_byte_byte_G) [] (at' (bodyOf Tryd.f46) [0, 0, 1, 0, 1, 1]) [0, 0, 1, 0, 1, 1]) k n (s0, s1, x12, x13, ()) = slices_Equal_byte_byte_L0 (fun x4 => wfD slices_Equal_byte_byte_d0r (x4, ()) → k .ret (mkD 26 slices_Equal_byte_byte_d0r (x4, ()))) (wfD slices_Equal_byte_byte_d0x0 () → k (.exit 0) (mkD 26 slices_Equal_byte_byte_d0x0 ())) n s0 s1 x12 x13
  | 0, _, _, _, _ => rfl
  | n + 1, s0, s1, x12, x13 => congrArg (fun Z : Prop => wfD slices_Equal_byte_byte_d0 (s0, s1, x12, x13, ()) → Z) ((slices_Equal_byte_byte_s0 k (lpD 26 slices_Equal_byte_byte_d0 slices_Equal_byte_byte_dx0 (ex tb (getG slices_Equal_byte_byte_G) [] (at' (bodyOf Tryd.f46) [0, 0, 1, 0, 1, 1]) [0, 0, 1, 0, 1, 1]) k n) s0 s1 x12 x13).trans (congrArg (fun Y => slices_Equal_byte_byte_T0 Y (fun x4 => wfD slices_Equal_byte_byte_d0r (x4, ()) → k .ret (mkD 26 slices_Equal_byte_byte_d0r (x4, ()))) (wfD slices_Equal_byte_byte_d0x0 () → k (.exit 0) (mkD 26 slices_Equal_byte_byte_d0x0 ())) s0 s1 x12 x13) (funext fun s0 => funext fun s1 => funext fun x12 => funext fun x13 => slices_Equal_byte_byte_e0 k n s0 s1 x12 x13)))
theorem slices_Equal_byte_byte_v0 (k : Ex → St → Prop) (n : Nat) : ∀ v : vals slices_Equal_byte_byte_d0, lpD 26 slices_Equal_byte_byte_d0 slices_Equal_byte_byte_dx0 (ex tb (getG slices_Equal_byte_byte_G) [] (at' (bodyOf Tryd.f46) [0, 0, 1, 0, 1, 1]) [0, 0, 1, 0, 1, 1]) k n v = slices_Equal_byte_byte_L0 (fun x4 => wfD slices_Equal_byte_byte_d0r (x4, ()) → k .ret (mkD 26 slices_Equal_byte_byte_d0r (x4, ()))) (wfD slices_Equal_byte_byte_d0x0 () → k (.exit 0) (mkD 26 slices_Equal_byte_byte_d0x0 ())) n v.1 v.2.1 v.2.2.1 v.2.2.2.1
  | (s0, s1, x12, x13, ()) => slices_Equal_byte_byte_e0 k n s0 s1 x12 x13
def slices_Equal_byte_byte_X0 : Pce := fun st k => ckD 26 slices_Equal_byte_byte_d0 st fun v => wfD slices_Equal_byte_byte_d0 v → ∃ n, slices_Equal_byte_byte_L0 (fun x4 => wfD slices_Equal_byte_byte_d0r (x4, ()) → k .ret (mkD 26 slices_Equal_byte_byte_d0r (x4, ()))) (wfD slices_Equal_byte_byte_d0x0 () → k (.exit 0) (mkD 26 slices_Equal_byte_byte_d0x0 ())) n v.1 v.2.1 v.2.2.1 v.2.2.2.1
set_option maxRecDepth 20000 in
theorem slices_Equal_byte_byte_x0 : SemOk Tryd.prog (at' (bodyOf Tryd.f46) [0, 1, 0, 1, 1]) slices_Equal_byte_byte_X0 :=
  (SemOk.loop (ex_sound tb_M tb_ok slices_Equal_byte_byte_Gok (LabsOk.nil) (at' (bodyOf Tryd.f46) [0, 0, 1, 0, 1, 1]) [0, 0, 1, 0, 1, 1] rfl (storesC_at slices_Equal_byte_byte_st [0, 0, 1, 0, 1, 1])) 26 slices_Equal_byte_byte_d0 slices_Equal_byte_byte_dx0).mono fun st k h => ckD_mono h fun v hv hw => (hv hw).elim fun n hn => ⟨n, Eq.mpr (slices_Equal_byte_byte_v0 k n v) hn⟩
def slices_Equal_byte_byte_B0 : Labs := ([0, 1, 0, 1, 1], slices_Equal_byte_byte_X0) :: []
theorem slices_Equal_byte_byte_b0 : LabsOk Tryd.prog (bodyOf Tryd.f46) slices_Equal_byte_byte_B0 := LabsOk.cons slices_Equal_byte_byte_x0 (LabsOk.nil)
def slices_Equal_byte_byte_raw (s0 : List Int) (s1 : List Int) (K : Res → List Cell → Prop) : Prop :=
 bif (!decide ((List.length s0 : Int) = (List.length s1 : Int))) then
 K (.one (.v (.bool) false)) []
 else
 (wfD slices_Equal_byte_byte_d0 (s0, s1, (List.length s0 : Int), (0 : Int), ()) → ∃ n, slices_Equal_byte_byte_L0 (fun (x4 : Bool) => wfD slices_Equal_byte_byte_d0r (x4, ()) → (
 K (.one (.v (.bool) x4)) [])) (wfD slices_Equal_byte_byte_d0x0 () → (
 K (.one (.v (.bool) true)) [])) n s0 s1 (List.length s0 : Int) (0 : Int))
def slices_Equal_byte_byte_A : List AS := [.v (.sl (.int .u8)), .v (.sl (.int .u8))]
theorem slices_Equal_byte_byte_walk (s0 : List Int) (s1 : List Int) (K : Res → List Cell → Prop) : runF tb (getG slices_Equal_byte_byte_G) slices_Equal_byte_byte_B0 Tryd.f46 [true] (mkA slices_Equal_byte_byte_A (s0, s1, ())) K = slices_Equal_byte_byte_raw s0 s1 K := by kernel_rfl
--! pre 0
def slices_Equal_byte_byte_F (a b : List Int) : Bool := decide (a = b)
theorem slices_Equal_byte_byte_l0 (kr : Bool → Prop) (kx0 : Prop) (a b : List Int) (hl : a.length = b.length) (hz : a.length ≤ 9223372036854775807) (hf : a ≠ b → kr false) (hx : a = b → kx0) :
    ∀ (m i : Nat), a.length < m + i → i ≤ a.length → a.take i = b.take i → slices_Equal_byte_byte_L0 kr kx0 m a b (a.length : Int) (i : Int)
  | 0, i, h, h2, _ => by omega
  | m + 1, i, h, h2, h3 => by
    intro _
    unfold slices_Equal_byte_byte_T0
    refine brn (fun hlt => asrt ⟨by omega, by omega⟩ (asrt ⟨by omega, by omega⟩ ?_)) (fun hge => hx ?_)
    · have hi : i < a.length := by omega
      rw [rd_nat _ _ _ hi, rd_nat _ _ _ (by omega)]
      refine brb (fun hc => hf fun e => ?_) (fun hc => ?_)
      · subst e; simp at hc
      · rw [wrap_i64 (by omega) (by omega), show (i : Int) + 1 = ((i + 1 : Nat) : Int) by omega]
        refine slices_Equal_byte_byte_l0 kr kx0 a b hl hz hf hx m (i + 1) (by omega) (by omega) ?_
        have he : a[i] = b[i]'(by omega) := by simpa using hc
        rw [List.take_add_one, List.take_add_one, h3, List.getElem?_eq_getElem hi, List.getElem?_eq_getElem (by omega), he]
    · have hi : i = a.length := by omega
      subst hi
      rw [List.take_length, hl, List.take_length] at h3
      exact h3
theorem slices_Equal_byte_byte_sp (a b : List Int) (K : Res → List Cell → Prop) (hw : wfA slices_Equal_byte_byte_A (a, b, ())) (h : ∀ r : Bool, r = slices_Equal_byte_byte_F a b → K (.one (.v (.bool) r)) []) : slices_Equal_byte_byte_raw a b K := by
  unfold slices_Equal_byte_byte_raw
  refine brb (fun hc => h _ ?_) (fun hc _ => ?_)
  · have : ¬ a = b := fun e => by subst e; simp at hc
    exact (decide_eq_false this).symm
  · have hl : a.length = b.length := by
      have : (a.length : Int) = b.length := by simpa using hc
      omega
    exact ⟨a.length + 1, slices_Equal_byte_byte_l0 _ _ a b hl hw.1.1 (fun hne _ => h _ (decide_eq_false hne).symm) (fun he _ => h _ (decide_eq_true he).symm) _ 0 (by omega) (Nat.zero_le _) rfl⟩

def slices_Equal_byte_byte_C (v : valsA slices_Equal_byte_byte_A) (K : Res → List Cell → Prop) : Prop := ∀ r : Bool, r = slices_Equal_byte_byte_F v.1 v.2.1 → K (.one (.v (.bool) r)) []
def slices_Equal_byte_byte_S : App := specW slices_Equal_byte_byte_A slices_Equal_byte_byte_C
theorem slices_Equal_byte_byte_wv (K : Res → List Cell → Prop) : ∀ v : valsA slices_Equal_byte_byte_A, runF tb (getG slices_Equal_byte_byte_G) slices_Equal_byte_byte_B0 Tryd.f46 [true] (mkA slices_Equal_byte_byte_A v) K = slices_Equal_byte_byte_raw v.1 v.2.1 K
  | (s0, s1, ()) => slices_Equal_byte_byte_walk s0 s1 K
set_option maxRecDepth 20000 in
theorem slices_Equal_byte_byte_ok : AppOk Tryd.prog 46 slices_Equal_byte_byte_S :=
  AppOk.specW (spec_ok ((runF_ok tb_M tb_ok slices_Equal_byte_byte_Gok (slices_Equal_byte_byte_b0) (f := 46) (fn := Tryd.f46) (by kernel_rfl) (by kernel_rfl) slices_Equal_byte_byte_st [true])) fun v K hw h => (slices_Equal_byte_byte_wv K v).mpr (slices_Equal_byte_byte_sp v.1 v.2.1 K hw h))

end Go.VE
namespace Go.VE
open Go Go.Proofs
/-! ### quoin/again.Types -/
def again_Types_G : List (Nat × App) := [(15, again_Repeats_S), (49, strings_Contains_S)]
theorem again_Types_Gok : GOk Tryd.prog (getG again_Types_G) := GOk.cons again_Repeats_ok (GOk.cons strings_Contains_ok (GOk.nil))
def again_Types_raw (c0 : CmT) (K : Res → List Cell → Prop) : Prop :=
 again_Repeats_P c0 ∧ (
 ∀ (r1 : Bool), r1 = again_Repeats_F c0 → (
 wfR (.one (.v (.bool) r1)) → (
 bif r1 then
 bif (decide (c0.2.2.1 = ([99] : List Int))) then
 K (.one (.v (.bool) true)) []
 else
 bif (decide (c0.2.2.1 = ([] : List Int))) then
 strings_Contains_P ([67, 83, 115, 105, 97, 73, 65, 111, 79, 82] : List Int) c0.2.2.2.1 ∧ (
 ∀ (r2 : Bool), r2 = strings_Contains_F ([67, 83, 115, 105, 97, 73, 65, 111, 79, 82] : List Int) c0.2.2.2.1 → (
 wfR (.one (.v (.bool) r2)) → (
 K (.one (.v (.bool) r2)) [])))
 else
 K (.one (.v (.bool) false)) []
 else
 K (.one (.v (.bool) false)) [])))
def again_Types_A : List AS := [.v (.st (.pair (.int .u8) (.pair (.int .i64) (.pair (.str) (.pair (.str) (.pair (.int .u8) (.sl (.int .u8))))))))]
theorem again_Types_walk (c0 : CmT) (K : Res → List Cell → Prop) : runF tb (getG again_Types_G) [] Tryd.f17 [true] (mkA again_Types_A (c0, ())) K = again_Types_raw c0 K := by kernel_rfl

def again_Types_P (c0 : CmT) : Prop :=
 again_Repeats_P c0 ∧ (
 let r1 : Bool := again_Repeats_F c0
 bif r1 then
 bif (decide (c0.2.2.1 = ([99] : List Int))) then
 True
 else
 bif (decide (c0.2.2.1 = ([] : List Int))) then
 strings_Contains_P ([67, 83, 115, 105, 97, 73, 65, 111, 79, 82] : List Int) c0.2.2.2.1
 else
 True
 else
 True)
def again_Types_F (c0 : CmT) : Bool :=
 let r1 : Bool := again_Repeats_F c0
 bif r1 then
 bif (decide (c0.2.2.1 = ([99] : List Int))) then
 true
 else
 bif (decide (c0.2.2.1 = ([] : List Int))) then
 let r2 : Bool := strings_Contains_F ([67, 83, 115, 105, 97, 73, 65, 111, 79, 82] : List Int) c0.2.2.2.1
 r2
 else
 false
 else
 false
set_option maxRecDepth 20000 in
theorem again_Types_sp (c0 : CmT) (K : Res → List Cell → Prop) (_ : wfA again_Types_A (c0, ())) (hp : again_Types_P c0) (h : ∀ r : Bool, r = again_Types_F c0 → K (.one (.v (.bool) r)) []) : again_Types_raw c0 K := by
  unfold again_Types_raw
  unfold again_Types_P at hp
  refine ⟨hp.1, ?_⟩
  replace hp := hp.2
  intro r1 hr1
  subst hr1
  intro _
  refine brb (fun c_1 => ?_) (fun c_1 => ?_)
  ·
    replace hp := cT c_1 hp
    refine brb (fun c_2 => ?_) (fun c_2 => ?_)
    ·
      clear hp
      exact h _ ((Eq.trans (ctrue c_1) (ctrue c_2)) : again_Types_F c0 = _).symm
    ·
      replace hp := cF c_2 hp
      refine brb (fun c_3 => ?_) (fun c_3 => ?_)
      ·
        replace hp := cT c_3 hp
        refine ⟨hp, ?_⟩
        intro r2 hr2
        subst hr2
        intro _
        exact h _ ((Eq.trans (ctrue c_1) (Eq.trans (cfalse c_2) (ctrue c_3))) : again_Types_F c0 = _).symm
      ·
        clear hp
        exact h _ ((Eq.trans (ctrue c_1) (Eq.trans (cfalse c_2) (cfalse c_3))) : again_Types_F c0 = _).symm
  ·
    clear hp
    exact h _ ((cfalse c_1) : again_Types_F c0 = _).symm
def again_Types_C (v : valsA again_Types_A) (K : Res → List Cell → Prop) : Prop := again_Types_P v.1 ∧ ∀ r : Bool, r = again_Types_F v.1 → K (.one (.v (.bool) r)) []
def again_Types_S : App := specW again_Types_A again_Types_C
theorem again_Types_wv (K : Res → List Cell → Prop) : ∀ v : valsA again_Types_A, runF tb (getG again_Types_G) [] Tryd.f17 [true] (mkA again_Types_A v) K = again_Types_raw v.1 K
  | (c0, ()) => again_Types_walk c0 K
set_option maxRecDepth 20000 in
theorem again_Types_ok : AppOk Tryd.prog 17 again_Types_S :=
  AppOk.specW (spec_ok ((runF_ok tb_M tb_ok again_Types_Gok (LabsOk.nil) (f := 17) (fn := Tryd.f17) (by kernel_rfl) (by kernel_rfl) (by kernel_rfl) [true])) fun v K hw h => (again_Types_wv K v).mpr (again_Types_sp v.1 K hw h.1 h.2))

end Go.VE
namespace Go.VE
open Go Go.Proofs
/-! ### quoin/again.Check -/
def again_Check_G : List (Nat × App) := [(38, again_named_S), (39, again_counted_S), (45, again_head_S), (15, again_Repeats_S), (40, again_asks_S), (41, again_odd_S), (42, again_made_S), (46, slices_Equal_byte_byte_S), (17, again_Types_S), (43, bytes_IndexByte_S)]
theorem again_Check_Gok : GOk Tryd.prog (getG again_Check_G) := GOk.cons again_named_ok (GOk.cons again_counted_ok (GOk.cons again_head_ok (GOk.cons again_Repeats_ok (GOk.cons again_asks_ok (GOk.cons again_odd_ok (GOk.cons again_made_ok (GOk.cons slices_Equal_byte_byte_ok (GOk.cons again_Types_ok (GOk.cons bytes_IndexByte_ok (GOk.nil))))))))))
def again_Check_raw (r0 : (Bool × Int × Int × List Int)) (K : Res → List Cell → Prop) : Prop :=
 bif (!r0.1) then
 bif (decide (r0.2.1 = (0 : Int))) then
 bif (decide (r0.2.2.1 = (0 : Int))) then
 bif (decide ((List.length r0.2.2.2 : Int) = (0 : Int))) then
 K (.one (.v (.int .i64) (0 : Int))) []
 else
 bif (!r0.1) then
 K (.one (.v (.int .i64) (220 : Int))) []
 else
 ∀ (r1 : Bool), r1 = again_named_F r0.2.1 → (
 wfR (.one (.v (.bool) r1)) → (
 bif (!r1) then
 K (.one (.v (.int .i64) (220 : Int))) []
 else
 ∀ (r2 : Bool), r2 = again_counted_F r0.2.2.1 → (
 wfR (.one (.v (.bool) r2)) → (
 bif (!r2) then
 K (.one (.v (.int .i64) (220 : Int))) []
 else
 bif (decide ((65536 : Int) < (List.length r0.2.2.2 : Int))) then
 K (.one (.v (.int .i64) (220 : Int))) []
 else
 again_head_P r0.2.2.2 ∧ (
 ∀ (r3 : CmT × Int × Bool), r3 = again_head_F r0.2.2.2 → (
 wfR (.tup [.v (.st (.pair (.int .u8) (.pair (.int .i64) (.pair (.str) (.pair (.str) (.pair (.int .u8) (.sl (.int .u8)))))))) r3.1, .v (.int .i64) r3.2.1, .v (.bool) r3.2.2]) → (
 bif (!r3.2.2) then
 K (.one (.v (.int .i64) (220 : Int))) []
 else
 bif (!decide (r3.1.1 = (0 : Int))) then
 K (.one (.v (.int .i64) (220 : Int))) []
 else
 bif (!decide (r3.1.2.1 = (0 : Int))) then
 K (.one (.v (.int .i64) (220 : Int))) []
 else
 again_Repeats_P r3.1 ∧ (
 ∀ (r4 : Bool), r4 = again_Repeats_F r3.1 → (
 wfR (.one (.v (.bool) r4)) → (
 bif (!r4) then
 K (.one (.v (.int .i64) (220 : Int))) []
 else
 ∀ (r5 : Bool), r5 = again_asks_F r3.1 → (
 wfR (.one (.v (.bool) r5)) → (
 bif r5 then
 again_odd_P r3.1.2.2.2.2.2 ∧ (
 ∀ (r6 : Bool), r6 = again_odd_F r3.1.2.2.2.2.2 → (
 wfR (.one (.v (.bool) r6)) → (
 bif r6 then
 K (.one (.v (.int .i64) (220 : Int))) []
 else
 bif decide (0 ≤ r3.2.1 ∧ r3.2.1 ≤ (List.length r0.2.2.2 : Int)) then
 again_made_P r3.1 ∧ (
 ∀ (r7 : List Int), r7 = again_made_F r3.1 → (
 wfR (.one (.fr 4294967301 (.int .u8) r7)) → (
 ∀ (r8 : Bool), r8 = slices_Equal_byte_byte_F r7 (List.take (Int.toNat r3.2.1) r0.2.2.2) → (
 wfR (.one (.v (.bool) r8)) → (
 bif (!r8) then
 K (.one (.v (.int .i64) (220 : Int))) []
 else
 bif decide (0 ≤ r3.2.1 ∧ r3.2.1 ≤ (List.length r0.2.2.2 : Int)) then
 again_Types_P r3.1 ∧ (
 ∀ (r9 : Bool), r9 = again_Types_F r3.1 → (
 wfR (.one (.v (.bool) r9)) → (
 bif (!r9) then
 bif (decide ((0 : Int) < (List.length (List.drop (Int.toNat r3.2.1) r0.2.2.2) : Int))) then
 K (.one (.v (.int .i64) (220 : Int))) []
 else
 again_Types_P r3.1 ∧ (
 ∀ (r10 : Bool), r10 = again_Types_F r3.1 → (
 wfR (.one (.v (.bool) r10)) → (
 bif r10 then
 bif (decide ((List.length (List.drop (Int.toNat r3.2.1) r0.2.2.2) : Int) = (0 : Int))) then
 K (.one (.v (.int .i64) (220 : Int))) []
 else
 ∀ (r11 : Int), r11 = bytes_IndexByte_F (List.drop (Int.toNat r3.2.1) r0.2.2.2) (27 : Int) → (
 wfR (.one (.v (.int .i64) r11)) → (
 bif (!decide (r11 = (IntKind.wrap .i64 ((List.length (List.drop (Int.toNat r3.2.1) r0.2.2.2) : Int) - (1 : Int))))) then
 K (.one (.v (.int .i64) (220 : Int))) []
 else
 K (.one (.v (.int .i64) (0 : Int))) []))
 else
 K (.one (.v (.int .i64) (0 : Int))) [])))
 else
 again_Types_P r3.1 ∧ (
 ∀ (r12 : Bool), r12 = again_Types_F r3.1 → (
 wfR (.one (.v (.bool) r12)) → (
 bif r12 then
 bif (decide ((List.length (List.drop (Int.toNat r3.2.1) r0.2.2.2) : Int) = (0 : Int))) then
 K (.one (.v (.int .i64) (220 : Int))) []
 else
 ∀ (r13 : Int), r13 = bytes_IndexByte_F (List.drop (Int.toNat r3.2.1) r0.2.2.2) (27 : Int) → (
 wfR (.one (.v (.int .i64) r13)) → (
 bif (!decide (r13 = (IntKind.wrap .i64 ((List.length (List.drop (Int.toNat r3.2.1) r0.2.2.2) : Int) - (1 : Int))))) then
 K (.one (.v (.int .i64) (220 : Int))) []
 else
 K (.one (.v (.int .i64) (0 : Int))) []))
 else
 K (.one (.v (.int .i64) (0 : Int))) []))))))
 else False)))))
 else False)))
 else
 bif decide (0 ≤ r3.2.1 ∧ r3.2.1 ≤ (List.length r0.2.2.2 : Int)) then
 again_made_P r3.1 ∧ (
 ∀ (r14 : List Int), r14 = again_made_F r3.1 → (
 wfR (.one (.fr 4294967301 (.int .u8) r14)) → (
 ∀ (r15 : Bool), r15 = slices_Equal_byte_byte_F r14 (List.take (Int.toNat r3.2.1) r0.2.2.2) → (
 wfR (.one (.v (.bool) r15)) → (
 bif (!r15) then
 K (.one (.v (.int .i64) (220 : Int))) []
 else
 bif decide (0 ≤ r3.2.1 ∧ r3.2.1 ≤ (List.length r0.2.2.2 : Int)) then
 again_Types_P r3.1 ∧ (
 ∀ (r16 : Bool), r16 = again_Types_F r3.1 → (
 wfR (.one (.v (.bool) r16)) → (
 bif (!r16) then
 bif (decide ((0 : Int) < (List.length (List.drop (Int.toNat r3.2.1) r0.2.2.2) : Int))) then
 K (.one (.v (.int .i64) (220 : Int))) []
 else
 again_Types_P r3.1 ∧ (
 ∀ (r17 : Bool), r17 = again_Types_F r3.1 → (
 wfR (.one (.v (.bool) r17)) → (
 bif r17 then
 bif (decide ((List.length (List.drop (Int.toNat r3.2.1) r0.2.2.2) : Int) = (0 : Int))) then
 K (.one (.v (.int .i64) (220 : Int))) []
 else
 ∀ (r18 : Int), r18 = bytes_IndexByte_F (List.drop (Int.toNat r3.2.1) r0.2.2.2) (27 : Int) → (
 wfR (.one (.v (.int .i64) r18)) → (
 bif (!decide (r18 = (IntKind.wrap .i64 ((List.length (List.drop (Int.toNat r3.2.1) r0.2.2.2) : Int) - (1 : Int))))) then
 K (.one (.v (.int .i64) (220 : Int))) []
 else
 K (.one (.v (.int .i64) (0 : Int))) []))
 else
 K (.one (.v (.int .i64) (0 : Int))) [])))
 else
 again_Types_P r3.1 ∧ (
 ∀ (r19 : Bool), r19 = again_Types_F r3.1 → (
 wfR (.one (.v (.bool) r19)) → (
 bif r19 then
 bif (decide ((List.length (List.drop (Int.toNat r3.2.1) r0.2.2.2) : Int) = (0 : Int))) then
 K (.one (.v (.int .i64) (220 : Int))) []
 else
 ∀ (r20 : Int), r20 = bytes_IndexByte_F (List.drop (Int.toNat r3.2.1) r0.2.2.2) (27 : Int) → (
 wfR (.one (.v (.int .i64) r20)) → (
 bif (!decide (r20 = (IntKind.wrap .i64 ((List.length (List.drop (Int.toNat r3.2.1) r0.2.2.2) : Int) - (1 : Int))))) then
 K (.one (.v (.int .i64) (220 : Int))) []
 else
 K (.one (.v (.int .i64) (0 : Int))) []))
 else
 K (.one (.v (.int .i64) (0 : Int))) []))))))
 else False)))))
 else False))))))))))))
 else
 bif (!r0.1) then
 K (.one (.v (.int .i64) (220 : Int))) []
 else
 ∀ (r21 : Bool), r21 = again_named_F r0.2.1 → (
 wfR (.one (.v (.bool) r21)) → (
 bif (!r21) then
 K (.one (.v (.int .i64) (220 : Int))) []
 else
 ∀ (r22 : Bool), r22 = again_counted_F r0.2.2.1 → (
 wfR (.one (.v (.bool) r22)) → (
 bif (!r22) then
 K (.one (.v (.int .i64) (220 : Int))) []
 else
 bif (decide ((65536 : Int) < (List.length r0.2.2.2 : Int))) then
 K (.one (.v (.int .i64) (220 : Int))) []
 else
 again_head_P r0.2.2.2 ∧ (
 ∀ (r23 : CmT × Int × Bool), r23 = again_head_F r0.2.2.2 → (
 wfR (.tup [.v (.st (.pair (.int .u8) (.pair (.int .i64) (.pair (.str) (.pair (.str) (.pair (.int .u8) (.sl (.int .u8)))))))) r23.1, .v (.int .i64) r23.2.1, .v (.bool) r23.2.2]) → (
 bif (!r23.2.2) then
 K (.one (.v (.int .i64) (220 : Int))) []
 else
 bif (!decide (r23.1.1 = (0 : Int))) then
 K (.one (.v (.int .i64) (220 : Int))) []
 else
 bif (!decide (r23.1.2.1 = (0 : Int))) then
 K (.one (.v (.int .i64) (220 : Int))) []
 else
 again_Repeats_P r23.1 ∧ (
 ∀ (r24 : Bool), r24 = again_Repeats_F r23.1 → (
 wfR (.one (.v (.bool) r24)) → (
 bif (!r24) then
 K (.one (.v (.int .i64) (220 : Int))) []
 else
 ∀ (r25 : Bool), r25 = again_asks_F r23.1 → (
 wfR (.one (.v (.bool) r25)) → (
 bif r25 then
 again_odd_P r23.1.2.2.2.2.2 ∧ (
 ∀ (r26 : Bool), r26 = again_odd_F r23.1.2.2.2.2.2 → (
 wfR (.one (.v (.bool) r26)) → (
 bif r26 then
 K (.one (.v (.int .i64) (220 : Int))) []
 else
 bif decide (0 ≤ r23.2.1 ∧ r23.2.1 ≤ (List.length r0.2.2.2 : Int)) then
 again_made_P r23.1 ∧ (
 ∀ (r27 : List Int), r27 = again_made_F r23.1 → (
 wfR (.one (.fr 4294967301 (.int .u8) r27)) → (
 ∀ (r28 : Bool), r28 = slices_Equal_byte_byte_F r27 (List.take (Int.toNat r23.2.1) r0.2.2.2) → (
 wfR (.one (.v (.bool) r28)) → (
 bif (!r28) then
 K (.one (.v (.int .i64) (220 : Int))) []
 else
 bif decide (0 ≤ r23.2.1 ∧ r23.2.1 ≤ (List.length r0.2.2.2 : Int)) then
 again_Types_P r23.1 ∧ (
 ∀ (r29 : Bool), r29 = again_Types_F r23.1 → (
 wfR (.one (.v (.bool) r29)) → (
 bif (!r29) then
 bif (decide ((0 : Int) < (List.length (List.drop (Int.toNat r23.2.1) r0.2.2.2) : Int))) then
 K (.one (.v (.int .i64) (220 : Int))) []
 else
 again_Types_P r23.1 ∧ (
 ∀ (r30 : Bool), r30 = again_Types_F r23.1 → (
 wfR (.one (.v (.bool) r30)) → (
 bif r30 then
 bif (decide ((List.length (List.drop (Int.toNat r23.2.1) r0.2.2.2) : Int) = (0 : Int))) then
 K (.one (.v (.int .i64) (220 : Int))) []
 else
 ∀ (r31 : Int), r31 = bytes_IndexByte_F (List.drop (Int.toNat r23.2.1) r0.2.2.2) (27 : Int) → (
 wfR (.one (.v (.int .i64) r31)) → (
 bif (!decide (r31 = (IntKind.wrap .i64 ((List.length (List.drop (Int.toNat r23.2.1) r0.2.2.2) : Int) - (1 : Int))))) then
 K (.one (.v (.int .i64) (220 : Int))) []
 else
 K (.one (.v (.int .i64) (0 : Int))) []))
 else
 K (.one (.v (.int .i64) (0 : Int))) [])))
 else
 again_Types_P r23.1 ∧ (
 ∀ (r32 : Bool), r32 = again_Types_F r23.1 → (
 wfR (.one (.v (.bool) r32)) → (
 bif r32 then
 bif (decide ((List.length (List.drop (Int.toNat r23.2.1) r0.2.2.2) : Int) = (0 : Int))) then
 K (.one (.v (.int .i64) (220 : Int))) []
 else
 ∀ (r33 : Int), r33 = bytes_IndexByte_F (List.drop (Int.toNat r23.2.1) r0.2.2.2) (27 : Int) → (
 wfR (.one (.v (.int .i64) r33)) → (
 bif (!decide (r33 = (IntKind.wrap .i64 ((List.length (List.drop (Int.toNat r23.2.1) r0.2.2.2) : Int) - (1 : Int))))) then
 K (.one (.v (.int .i64) (220 : Int))) []
 else
 K (.one (.v (.int .i64) (0 : Int))) []))
 else
 K (.one (.v (.int .i64) (0 : Int))) []))))))
 else False)))))
 else False)))
 else
 bif decide (0 ≤ r23.2.1 ∧ r23.2.1 ≤ (List.length r0.2.2.2 : Int)) then
 again_made_P r23.1 ∧ (
 ∀ (r34 : List Int), r34 = again_made_F r23.1 → (
 wfR (.one (.fr 4294967301 (.int .u8) r34)) → (
 ∀ (r35 : Bool), r35 = slices_Equal_byte_byte_F r34 (List.take (Int.toNat r23.2.1) r0.2.2.2) → (
 wfR (.one (.v (.bool) r35)) → (
 bif (!r35) then
 K (.one (.v (.int .i64) (220 : Int))) []
 else
 bif decide (0 ≤ r23.2.1 ∧ r23.2.1 ≤ (List.length r0.2.2.2 : Int)) then
 again_Types_P r23.1 ∧ (
 ∀ (r36 : Bool), r36 = again_Types_F r23.1 → (
 wfR (.one (.v (.bool) r36)) → (
 bif (!r36) then
 bif (decide ((0 : Int) < (List.length (List.drop (Int.toNat r23.2.1) r0.2.2.2) : Int))) then
 K (.one (.v (.int .i64) (220 : Int))) []
 else
 again_Types_P r23.1 ∧ (
 ∀ (r37 : Bool), r37 = again_Types_F r23.1 → (
 wfR (.one (.v (.bool) r37)) → (
 bif r37 then
 bif (decide ((List.length (List.drop (Int.toNat r23.2.1) r0.2.2.2) : Int) = (0 : Int))) then
 K (.one (.v (.int .i64) (220 : Int))) []
 else
 ∀ (r38 : Int), r38 = bytes_IndexByte_F (List.drop (Int.toNat r23.2.1) r0.2.2.2) (27 : Int) → (
 wfR (.one (.v (.int .i64) r38)) → (
 bif (!decide (r38 = (IntKind.wrap .i64 ((List.length (List.drop (Int.toNat r23.2.1) r0.2.2.2) : Int) - (1 : Int))))) then
 K (.one (.v (.int .i64) (220 : Int))) []
 else
 K (.one (.v (.int .i64) (0 : Int))) []))
 else
 K (.one (.v (.int .i64) (0 : Int))) [])))
 else
 again_Types_P r23.1 ∧ (
 ∀ (r39 : Bool), r39 = again_Types_F r23.1 → (
 wfR (.one (.v (.bool) r39)) → (
 bif r39 then
 bif (decide ((List.length (List.drop (Int.toNat r23.2.1) r0.2.2.2) : Int) = (0 : Int))) then
 K (.one (.v (.int .i64) (220 : Int))) []
 else
 ∀ (r40 : Int), r40 = bytes_IndexByte_F (List.drop (Int.toNat r23.2.1) r0.2.2.2) (27 : Int) → (
 wfR (.one (.v (.int .i64) r40)) → (
 bif (!decide (r40 = (IntKind.wrap .i64 ((List.length (List.drop (Int.toNat r23.2.1) r0.2.2.2) : Int) - (1 : Int))))) then
 K (.one (.v (.int .i64) (220 : Int))) []
 else
 K (.one (.v (.int .i64) (0 : Int))) []))
 else
 K (.one (.v (.int .i64) (0 : Int))) []))))))
 else False)))))
 else False))))))))))))
 else
 bif (!r0.1) then
 K (.one (.v (.int .i64) (220 : Int))) []
 else
 ∀ (r41 : Bool), r41 = again_named_F r0.2.1 → (
 wfR (.one (.v (.bool) r41)) → (
 bif (!r41) then
 K (.one (.v (.int .i64) (220 : Int))) []
 else
 ∀ (r42 : Bool), r42 = again_counted_F r0.2.2.1 → (
 wfR (.one (.v (.bool) r42)) → (
 bif (!r42) then
 K (.one (.v (.int .i64) (220 : Int))) []
 else
 bif (decide ((65536 : Int) < (List.length r0.2.2.2 : Int))) then
 K (.one (.v (.int .i64) (220 : Int))) []
 else
 again_head_P r0.2.2.2 ∧ (
 ∀ (r43 : CmT × Int × Bool), r43 = again_head_F r0.2.2.2 → (
 wfR (.tup [.v (.st (.pair (.int .u8) (.pair (.int .i64) (.pair (.str) (.pair (.str) (.pair (.int .u8) (.sl (.int .u8)))))))) r43.1, .v (.int .i64) r43.2.1, .v (.bool) r43.2.2]) → (
 bif (!r43.2.2) then
 K (.one (.v (.int .i64) (220 : Int))) []
 else
 bif (!decide (r43.1.1 = (0 : Int))) then
 K (.one (.v (.int .i64) (220 : Int))) []
 else
 bif (!decide (r43.1.2.1 = (0 : Int))) then
 K (.one (.v (.int .i64) (220 : Int))) []
 else
 again_Repeats_P r43.1 ∧ (
 ∀ (r44 : Bool), r44 = again_Repeats_F r43.1 → (
 wfR (.one (.v (.bool) r44)) → (
 bif (!r44) then
 K (.one (.v (.int .i64) (220 : Int))) []
 else
 ∀ (r45 : Bool), r45 = again_asks_F r43.1 → (
 wfR (.one (.v (.bool) r45)) → (
 bif r45 then
 again_odd_P r43.1.2.2.2.2.2 ∧ (
 ∀ (r46 : Bool), r46 = again_odd_F r43.1.2.2.2.2.2 → (
 wfR (.one (.v (.bool) r46)) → (
 bif r46 then
 K (.one (.v (.int .i64) (220 : Int))) []
 else
 bif decide (0 ≤ r43.2.1 ∧ r43.2.1 ≤ (List.length r0.2.2.2 : Int)) then
 again_made_P r43.1 ∧ (
 ∀ (r47 : List Int), r47 = again_made_F r43.1 → (
 wfR (.one (.fr 4294967301 (.int .u8) r47)) → (
 ∀ (r48 : Bool), r48 = slices_Equal_byte_byte_F r47 (List.take (Int.toNat r43.2.1) r0.2.2.2) → (
 wfR (.one (.v (.bool) r48)) → (
 bif (!r48) then
 K (.one (.v (.int .i64) (220 : Int))) []
 else
 bif decide (0 ≤ r43.2.1 ∧ r43.2.1 ≤ (List.length r0.2.2.2 : Int)) then
 again_Types_P r43.1 ∧ (
 ∀ (r49 : Bool), r49 = again_Types_F r43.1 → (
 wfR (.one (.v (.bool) r49)) → (
 bif (!r49) then
 bif (decide ((0 : Int) < (List.length (List.drop (Int.toNat r43.2.1) r0.2.2.2) : Int))) then
 K (.one (.v (.int .i64) (220 : Int))) []
 else
 again_Types_P r43.1 ∧ (
 ∀ (r50 : Bool), r50 = again_Types_F r43.1 → (
 wfR (.one (.v (.bool) r50)) → (
 bif r50 then
 bif (decide ((List.length (List.drop (Int.toNat r43.2.1) r0.2.2.2) : Int) = (0 : Int))) then
 K (.one (.v (.int .i64) (220 : Int))) []
 else
 ∀ (r51 : Int), r51 = bytes_IndexByte_F (List.drop (Int.toNat r43.2.1) r0.2.2.2) (27 : Int) → (
 wfR (.one (.v (.int .i64) r51)) → (
 bif (!decide (r51 = (IntKind.wrap .i64 ((List.length (List.drop (Int.toNat r43.2.1) r0.2.2.2) : Int) - (1 : Int))))) then
 K (.one (.v (.int .i64) (220 : Int))) []
 else
 K (.one (.v (.int .i64) (0 : Int))) []))
 else
 K (.one (.v (.int .i64) (0 : Int))) [])))
 else
 again_Types_P r43.1 ∧ (
 ∀ (r52 : Bool), r52 = again_Types_F r43.1 → (
 wfR (.one (.v (.bool) r52)) → (
 bif r52 then
 bif (decide ((List.length (List.drop (Int.toNat r43.2.1) r0.2.2.2) : Int) = (0 : Int))) then
 K (.one (.v (.int .i64) (220 : Int))) []
 else
 ∀ (r53 : Int), r53 = bytes_IndexByte_F (List.drop (Int.toNat r43.2.1) r0.2.2.2) (27 : Int) → (
 wfR (.one (.v (.int .i64) r53)) → (
 bif (!decide (r53 = (IntKind.wrap .i64 ((List.length (List.drop (Int.toNat r43.2.1) r0.2.2.2) : Int) - (1 : Int))))) then
 K (.one (.v (.int .i64) (220 : Int))) []
 else
 K (.one (.v (.int .i64) (0 : Int))) []))
 else
 K (.one (.v (.int .i64) (0 : Int))) []))))))
 else False)))))
 else False)))
 else
 bif decide (0 ≤ r43.2.1 ∧ r43.2.1 ≤ (List.length r0.2.2.2 : Int)) then
 again_made_P r43.1 ∧ (
 ∀ (r54 : List Int), r54 = again_made_F r43.1 → (
 wfR (.one (.fr 4294967301 (.int .u8) r54)) → (
 ∀ (r55 : Bool), r55 = slices_Equal_byte_byte_F r54 (List.take (Int.toNat r43.2.1) r0.2.2.2) → (
 wfR (.one (.v (.bool) r55)) → (
 bif (!r55) then
 K (.one (.v (.int .i64) (220 : Int))) []
 else
 bif decide (0 ≤ r43.2.1 ∧ r43.2.1 ≤ (List.length r0.2.2.2 : Int)) then
 again_Types_P r43.1 ∧ (
 ∀ (r56 : Bool), r56 = again_Types_F r43.1 → (
 wfR (.one (.v (.bool) r56)) → (
 bif (!r56) then
 bif (decide ((0 : Int) < (List.length (List.drop (Int.toNat r43.2.1) r0.2.2.2) : Int))) then
 K (.one (.v (.int .i64) (220 : Int))) []
 else
 again_Types_P r43.1 ∧ (
 ∀ (r57 : Bool), r57 = again_Types_F r43.1 → (
 wfR (.one (.v (.bool) r57)) → (
 bif r57 then
 bif (decide ((List.length (List.drop (Int.toNat r43.2.1) r0.2.2.2) : Int) = (0 : Int))) then
 K (.one (.v (.int .i64) (220 : Int))) []
 else
 ∀ (r58 : Int), r58 = bytes_IndexByte_F (List.drop (Int.toNat r43.2.1) r0.2.2.2) (27 : Int) → (
 wfR (.one (.v (.int .i64) r58)) → (
 bif (!decide (r58 = (IntKind.wrap .i64 ((List.length (List.drop (Int.toNat r43.2.1) r0.2.2.2) : Int) - (1 : Int))))) then
 K (.one (.v (.int .i64) (220 : Int))) []
 else
 K (.one (.v (.int .i64) (0 : Int))) []))
 else
 K (.one (.v (.int .i64) (0 : Int))) [])))
 else
 again_Types_P r43.1 ∧ (
 ∀ (r59 : Bool), r59 = again_Types_F r43.1 → (
 wfR (.one (.v (.bool) r59)) → (
 bif r59 then
 bif (decide ((List.length (List.drop (Int.toNat r43.2.1) r0.2.2.2) : Int) = (0 : Int))) then
 K (.one (.v (.int .i64) (220 : Int))) []
 else
 ∀ (r60 : Int), r60 = bytes_IndexByte_F (List.drop (Int.toNat r43.2.1) r0.2.2.2) (27 : Int) → (
 wfR (.one (.v (.int .i64) r60)) → (
 bif (!decide (r60 = (IntKind.wrap .i64 ((List.length (List.drop (Int.toNat r43.2.1) r0.2.2.2) : Int) - (1 : Int))))) then
 K (.one (.v (.int .i64) (220 : Int))) []
 else
 K (.one (.v (.int .i64) (0 : Int))) []))
 else
 K (.one (.v (.int .i64) (0 : Int))) []))))))
 else False)))))
 else False))))))))))))
 else
 bif (!r0.1) then
 K (.one (.v (.int .i64) (220 : Int))) []
 else
 ∀ (r61 : Bool), r61 = again_named_F r0.2.1 → (
 wfR (.one (.v (.bool) r61)) → (
 bif (!r61) then
 K (.one (.v (.int .i64) (220 : Int))) []
 else
 ∀ (r62 : Bool), r62 = again_counted_F r0.2.2.1 → (
 wfR (.one (.v (.bool) r62)) → (
 bif (!r62) then
 K (.one (.v (.int .i64) (220 : Int))) []
 else
 bif (decide ((65536 : Int) < (List.length r0.2.2.2 : Int))) then
 K (.one (.v (.int .i64) (220 : Int))) []
 else
 again_head_P r0.2.2.2 ∧ (
 ∀ (r63 : CmT × Int × Bool), r63 = again_head_F r0.2.2.2 → (
 wfR (.tup [.v (.st (.pair (.int .u8) (.pair (.int .i64) (.pair (.str) (.pair (.str) (.pair (.int .u8) (.sl (.int .u8)))))))) r63.1, .v (.int .i64) r63.2.1, .v (.bool) r63.2.2]) → (
 bif (!r63.2.2) then
 K (.one (.v (.int .i64) (220 : Int))) []
 else
 bif (!decide (r63.1.1 = (0 : Int))) then
 K (.one (.v (.int .i64) (220 : Int))) []
 else
 bif (!decide (r63.1.2.1 = (0 : Int))) then
 K (.one (.v (.int .i64) (220 : Int))) []
 else
 again_Repeats_P r63.1 ∧ (
 ∀ (r64 : Bool), r64 = again_Repeats_F r63.1 → (
 wfR (.one (.v (.bool) r64)) → (
 bif (!r64) then
 K (.one (.v (.int .i64) (220 : Int))) []
 else
 ∀ (r65 : Bool), r65 = again_asks_F r63.1 → (
 wfR (.one (.v (.bool) r65)) → (
 bif r65 then
 again_odd_P r63.1.2.2.2.2.2 ∧ (
 ∀ (r66 : Bool), r66 = again_odd_F r63.1.2.2.2.2.2 → (
 wfR (.one (.v (.bool) r66)) → (
 bif r66 then
 K (.one (.v (.int .i64) (220 : Int))) []
 else
 bif decide (0 ≤ r63.2.1 ∧ r63.2.1 ≤ (List.length r0.2.2.2 : Int)) then
 again_made_P r63.1 ∧ (
 ∀ (r67 : List Int), r67 = again_made_F r63.1 → (
 wfR (.one (.fr 4294967301 (.int .u8) r67)) → (
 ∀ (r68 : Bool), r68 = slices_Equal_byte_byte_F r67 (List.take (Int.toNat r63.2.1) r0.2.2.2) → (
 wfR (.one (.v (.bool) r68)) → (
 bif (!r68) then
 K (.one (.v (.int .i64) (220 : Int))) []
 else
 bif decide (0 ≤ r63.2.1 ∧ r63.2.1 ≤ (List.length r0.2.2.2 : Int)) then
 again_Types_P r63.1 ∧ (
 ∀ (r69 : Bool), r69 = again_Types_F r63.1 → (
 wfR (.one (.v (.bool) r69)) → (
 bif (!r69) then
 bif (decide ((0 : Int) < (List.length (List.drop (Int.toNat r63.2.1) r0.2.2.2) : Int))) then
 K (.one (.v (.int .i64) (220 : Int))) []
 else
 again_Types_P r63.1 ∧ (
 ∀ (r70 : Bool), r70 = again_Types_F r63.1 → (
 wfR (.one (.v (.bool) r70)) → (
 bif r70 then
 bif (decide ((List.length (List.drop (Int.toNat r63.2.1) r0.2.2.2) : Int) = (0 : Int))) then
 K (.one (.v (.int .i64) (220 : Int))) []
 else
 ∀ (r71 : Int), r71 = bytes_IndexByte_F (List.drop (Int.toNat r63.2.1) r0.2.2.2) (27 : Int) → (
 wfR (.one (.v (.int .i64) r71)) → (
 bif (!decide (r71 = (IntKind.wrap .i64 ((List.length (List.drop (Int.toNat r63.2.1) r0.2.2.2) : Int) - (1 : Int))))) then
 K (.one (.v (.int .i64) (220 : Int))) []
 else
 K (.one (.v (.int .i64) (0 : Int))) []))
 else
 K (.one (.v (.int .i64) (0 : Int))) [])))
 else
 again_Types_P r63.1 ∧ (
 ∀ (r72 : Bool), r72 = again_Types_F r63.1 → (
 wfR (.one (.v (.bool) r72)) → (
 bif r72 then
 bif (decide ((List.length (List.drop (Int.toNat r63.2.1) r0.2.2.2) : Int) = (0 : Int))) then
 K (.one (.v (.int .i64) (220 : Int))) []
 else
 ∀ (r73 : Int), r73 = bytes_IndexByte_F (List.drop (Int.toNat r63.2.1) r0.2.2.2) (27 : Int) → (
 wfR (.one (.v (.int .i64) r73)) → (
 bif (!decide (r73 = (IntKind.wrap .i64 ((List.length (List.drop (Int.toNat r63.2.1) r0.2.2.2) : Int) - (1 : Int))))) then
 K (.one (.v (.int .i64) (220 : Int))) []
 else
 K (.one (.v (.int .i64) (0 : Int))) []))
 else
 K (.one (.v (.int .i64) (0 : Int))) []))))))
 else False)))))
 else False)))
 else
 bif decide (0 ≤ r63.2.1 ∧ r63.2.1 ≤ (List.length r0.2.2.2 : Int)) then
 again_made_P r63.1 ∧ (
 ∀ (r74 : List Int), r74 = again_made_F r63.1 → (
 wfR (.one (.fr 4294967301 (.int .u8) r74)) → (
 ∀ (r75 : Bool), r75 = slices_Equal_byte_byte_F r74 (List.take (Int.toNat r63.2.1) r0.2.2.2) → (
 wfR (.one (.v (.bool) r75)) → (
 bif (!r75) then
 K (.one (.v (.int .i64) (220 : Int))) []
 else
 bif decide (0 ≤ r63.2.1 ∧ r63.2.1 ≤ (List.length r0.2.2.2 : Int)) then
 again_Types_P r63.1 ∧ (
 ∀ (r76 : Bool), r76 = again_Types_F r63.1 → (
 wfR (.one (.v (.bool) r76)) → (
 bif (!r76) then
 bif (decide ((0 : Int) < (List.length (List.drop (Int.toNat r63.2.1) r0.2.2.2) : Int))) then
 K (.one (.v (.int .i64) (220 : Int))) []
 else
 again_Types_P r63.1 ∧ (
 ∀ (r77 : Bool), r77 = again_Types_F r63.1 → (
 wfR (.one (.v (.bool) r77)) → (
 bif r77 then
 bif (decide ((List.length (List.drop (Int.toNat r63.2.1) r0.2.2.2) : Int) = (0 : Int))) then
 K (.one (.v (.int .i64) (220 : Int))) []
 else
 ∀ (r78 : Int), r78 = bytes_IndexByte_F (List.drop (Int.toNat r63.2.1) r0.2.2.2) (27 : Int) → (
 wfR (.one (.v (.int .i64) r78)) → (
 bif (!decide (r78 = (IntKind.wrap .i64 ((List.length (List.drop (Int.toNat r63.2.1) r0.2.2.2) : Int) - (1 : Int))))) then
 K (.one (.v (.int .i64) (220 : Int))) []
 else
 K (.one (.v (.int .i64) (0 : Int))) []))
 else
 K (.one (.v (.int .i64) (0 : Int))) [])))
 else
 again_Types_P r63.1 ∧ (
 ∀ (r79 : Bool), r79 = again_Types_F r63.1 → (
 wfR (.one (.v (.bool) r79)) → (
 bif r79 then
 bif (decide ((List.length (List.drop (Int.toNat r63.2.1) r0.2.2.2) : Int) = (0 : Int))) then
 K (.one (.v (.int .i64) (220 : Int))) []
 else
 ∀ (r80 : Int), r80 = bytes_IndexByte_F (List.drop (Int.toNat r63.2.1) r0.2.2.2) (27 : Int) → (
 wfR (.one (.v (.int .i64) r80)) → (
 bif (!decide (r80 = (IntKind.wrap .i64 ((List.length (List.drop (Int.toNat r63.2.1) r0.2.2.2) : Int) - (1 : Int))))) then
 K (.one (.v (.int .i64) (220 : Int))) []
 else
 K (.one (.v (.int .i64) (0 : Int))) []))
 else
 K (.one (.v (.int .i64) (0 : Int))) []))))))
 else False)))))
 else False))))))))))))
def again_Check_A : List AS := [.v (.st (.pair (.bool) (.pair (.int .u8) (.pair (.int .i64) (.sl (.int .u8))))))]
theorem again_Check_walk (r0 : (Bool × Int × Int × List Int)) (K : Res → List Cell → Prop) : runF tb (getG again_Check_G) [] Tryd.f13 [true] (mkA again_Check_A (r0, ())) K = again_Check_raw r0 K := by kernel_rfl

def again_Check_P (r0 : (Bool × Int × Int × List Int)) : Prop :=
 bif (!r0.1) then
 True
 else
 let r61 : Bool := again_named_F r0.2.1
 bif (!r61) then
 True
 else
 let r62 : Bool := again_counted_F r0.2.2.1
 bif (!r62) then
 True
 else
 bif (decide ((65536 : Int) < (List.length r0.2.2.2 : Int))) then
 True
 else
 again_head_P r0.2.2.2 ∧ (
 let r63 : CmT × Int × Bool := again_head_F r0.2.2.2
 bif (!r63.2.2) then
 True
 else
 bif (!decide (r63.1.1 = (0 : Int))) then
 True
 else
 bif (!decide (r63.1.2.1 = (0 : Int))) then
 True
 else
 again_Repeats_P r63.1 ∧ (
 let r64 : Bool := again_Repeats_F r63.1
 bif (!r64) then
 True
 else
 let r65 : Bool := again_asks_F r63.1
 bif r65 then
 again_odd_P r63.1.2.2.2.2.2 ∧ (
 let r66 : Bool := again_odd_F r63.1.2.2.2.2.2
 bif r66 then
 True
 else
 (0 ≤ r63.2.1 ∧ r63.2.1 ≤ (List.length r0.2.2.2 : Int)) ∧ (
 again_made_P r63.1 ∧ (
 let r67 : List Int := again_made_F r63.1
 let r68 : Bool := slices_Equal_byte_byte_F r67 (List.take (Int.toNat r63.2.1) r0.2.2.2)
 bif (!r68) then
 True
 else
 (0 ≤ r63.2.1 ∧ r63.2.1 ≤ (List.length r0.2.2.2 : Int)) ∧ (
 again_Types_P r63.1 ∧ (
 let r69 : Bool := again_Types_F r63.1
 bif (!r69) then
 bif (decide ((0 : Int) < (List.length (List.drop (Int.toNat r63.2.1) r0.2.2.2) : Int))) then
 True
 else
 again_Types_P r63.1
 else
 again_Types_P r63.1)))))
 else
 (0 ≤ r63.2.1 ∧ r63.2.1 ≤ (List.length r0.2.2.2 : Int)) ∧ (
 again_made_P r63.1 ∧ (
 let r74 : List Int := again_made_F r63.1
 let r75 : Bool := slices_Equal_byte_byte_F r74 (List.take (Int.toNat r63.2.1) r0.2.2.2)
 bif (!r75) then
 True
 else
 (0 ≤ r63.2.1 ∧ r63.2.1 ≤ (List.length r0.2.2.2 : Int)) ∧ (
 again_Types_P r63.1 ∧ (
 let r76 : Bool := again_Types_F r63.1
 bif (!r76) then
 bif (decide ((0 : Int) < (List.length (List.drop (Int.toNat r63.2.1) r0.2.2.2) : Int))) then
 True
 else
 again_Types_P r63.1
 else
 again_Types_P r63.1))))))
def again_Check_F (r0 : (Bool × Int × Int × List Int)) : Int :=
 bif (!r0.1) then
 bif (decide (r0.2.1 = (0 : Int))) then
 bif (decide (r0.2.2.1 = (0 : Int))) then
 bif (decide ((List.length r0.2.2.2 : Int) = (0 : Int))) then
 (0 : Int)
 else
 (220 : Int)
 else
 (220 : Int)
 else
 (220 : Int)
 else
 let r61 : Bool := again_named_F r0.2.1
 bif (!r61) then
 (220 : Int)
 else
 let r62 : Bool := again_counted_F r0.2.2.1
 bif (!r62) then
 (220 : Int)
 else
 bif (decide ((65536 : Int) < (List.length r0.2.2.2 : Int))) then
 (220 : Int)
 else
 let r63 : CmT × Int × Bool := again_head_F r0.2.2.2
 bif (!r63.2.2) then
 (220 : Int)
 else
 bif (!decide (r63.1.1 = (0 : Int))) then
 (220 : Int)
 else
 bif (!decide (r63.1.2.1 = (0 : Int))) then
 (220 : Int)
 else
 let r64 : Bool := again_Repeats_F r63.1
 bif (!r64) then
 (220 : Int)
 else
 let r65 : Bool := again_asks_F r63.1
 bif r65 then
 let r66 : Bool := again_odd_F r63.1.2.2.2.2.2
 bif r66 then
 (220 : Int)
 else
 let r67 : List Int := again_made_F r63.1
 let r68 : Bool := slices_Equal_byte_byte_F r67 (List.take (Int.toNat r63.2.1) r0.2.2.2)
 bif (!r68) then
 (220 : Int)
 else
 let r69 : Bool := again_Types_F r63.1
 bif (!r69) then
 bif (decide ((0 : Int) < (List.length (List.drop (Int.toNat r63.2.1) r0.2.2.2) : Int))) then
 (220 : Int)
 else
 let r70 : Bool := again_Types_F r63.1
 bif r70 then
 bif (decide ((List.length (List.drop (Int.toNat r63.2.1) r0.2.2.2) : Int) = (0 : Int))) then
 (220 : Int)
 else
 let r71 : Int := bytes_IndexByte_F (List.drop (Int.toNat r63.2.1) r0.2.2.2) (27 : Int)
 bif (!decide (r71 = (IntKind.wrap .i64 ((List.length (List.drop (Int.toNat r63.2.1) r0.2.2.2) : Int) - (1 : Int))))) then
 (220 : Int)
 else
 (0 : Int)
 else
 (0 : Int)
 else
 let r72 : Bool := again_Types_F r63.1
 bif r72 then
 bif (decide ((List.length (List.drop (Int.toNat r63.2.1) r0.2.2.2) : Int) = (0 : Int))) then
 (220 : Int)
 else
 let r73 : Int := bytes_IndexByte_F (List.drop (Int.toNat r63.2.1) r0.2.2.2) (27 : Int)
 bif (!decide (r73 = (IntKind.wrap .i64 ((List.length (List.drop (Int.toNat r63.2.1) r0.2.2.2) : Int) - (1 : Int))))) then
 (220 : Int)
 else
 (0 : Int)
 else
 (0 : Int)
 else
 let r74 : List Int := again_made_F r63.1
 let r75 : Bool := slices_Equal_byte_byte_F r74 (List.take (Int.toNat r63.2.1) r0.2.2.2)
 bif (!r75) then
 (220 : Int)
 else
 let r76 : Bool := again_Types_F r63.1
 bif (!r76) then
 bif (decide ((0 : Int) < (List.length (List.drop (Int.toNat r63.2.1) r0.2.2.2) : Int))) then
 (220 : Int)
 else
 let r77 : Bool := again_Types_F r63.1
 bif r77 then
 bif (decide ((List.length (List.drop (Int.toNat r63.2.1) r0.2.2.2) : Int) = (0 : Int))) then
 (220 : Int)
 else
 let r78 : Int := bytes_IndexByte_F (List.drop (Int.toNat r63.2.1) r0.2.2.2) (27 : Int)
 bif (!decide (r78 = (IntKind.wrap .i64 ((List.length (List.drop (Int.toNat r63.2.1) r0.2.2.2) : Int) - (1 : Int))))) then
 (220 : Int)
 else
 (0 : Int)
 else
 (0 : Int)
 else
 let r79 : Bool := again_Types_F r63.1
 bif r79 then
 bif (decide ((List.length (List.drop (Int.toNat r63.2.1) r0.2.2.2) : Int) = (0 : Int))) then
 (220 : Int)
 else
 let r80 : Int := bytes_IndexByte_F (List.drop (Int.toNat r63.2.1) r0.2.2.2) (27 : Int)
 bif (!decide (r80 = (IntKind.wrap .i64 ((List.length (List.drop (Int.toNat r63.2.1) r0.2.2.2) : Int) - (1 : Int))))) then
 (220 : Int)
 else
 (0 : Int)
 else
 (0 : Int)
set_option maxRecDepth 20000 in
theorem again_Check_sp (r0 : (Bool × Int × Int × List Int)) (K : Res → List Cell → Prop) (_ : wfA again_Check_A (r0, ())) (hp : again_Check_P r0) (h : ∀ r : Int, r = again_Check_F r0 → K (.one (.v (.int .i64) r)) []) : again_Check_raw r0 K := by
  unfold again_Check_raw
  unfold again_Check_P at hp
  refine brb (fun c_1 => ?_) (fun c_1 => ?_)
  ·
    clear hp
    refine brb (fun c_2 => ?_) (fun c_2 => ?_)
    ·
      refine brb (fun c_3 => ?_) (fun c_3 => ?_)
      ·
        refine brb (fun c_4 => ?_) (fun c_4 => ?_)
        ·
          exact h _ ((Eq.trans (ctrue c_1) (Eq.trans (ctrue c_2) (Eq.trans (ctrue c_3) (ctrue c_4)))) : again_Check_F r0 = _).symm
        ·
          refine brb (fun c_5 => ?_) (fun c_5 => ?_)
          ·
            exact h _ ((Eq.trans (ctrue c_1) (Eq.trans (ctrue c_2) (Eq.trans (ctrue c_3) (cfalse c_4)))) : again_Check_F r0 = _).symm
          ·
            exact absurd c_1 (by simp only [decide_eq_true_eq, decide_eq_false_iff_not, Bool.not_eq_eq_eq_not, Bool.not_true, Bool.not_false, Bool.not_eq_true, Bool.not_eq_false] at c_5 ⊢; first | exact c_5 | omega)
      ·
        refine brb (fun c_6 => ?_) (fun c_6 => ?_)
        ·
          exact h _ ((Eq.trans (ctrue c_1) (Eq.trans (ctrue c_2) (cfalse c_3))) : again_Check_F r0 = _).symm
        ·
          exact absurd c_1 (by simp only [decide_eq_true_eq, decide_eq_false_iff_not, Bool.not_eq_eq_eq_not, Bool.not_true, Bool.not_false, Bool.not_eq_true, Bool.not_eq_false] at c_6 ⊢; first | exact c_6 | omega)
    ·
      refine brb (fun c_7 => ?_) (fun c_7 => ?_)
      ·
        exact h _ ((Eq.trans (ctrue c_1) (cfalse c_2)) : again_Check_F r0 = _).symm
      ·
        exact absurd c_1 (by simp only [decide_eq_true_eq, decide_eq_false_iff_not, Bool.not_eq_eq_eq_not, Bool.not_true, Bool.not_false, Bool.not_eq_true, Bool.not_eq_false] at c_7 ⊢; first | exact c_7 | omega)
  ·
    replace hp := cF c_1 hp
    refine brb (fun c_8 => ?_) (fun c_8 => ?_)
    ·
      exact absurd c_1 (by simp only [decide_eq_true_eq, decide_eq_false_iff_not, Bool.not_eq_eq_eq_not, Bool.not_true, Bool.not_false, Bool.not_eq_true, Bool.not_eq_false] at c_8 ⊢; first | exact c_8 | omega)
    ·
      intro r61 hr61
      subst hr61
      intro _
      refine brb (fun c_9 => ?_) (fun c_9 => ?_)
      ·
        clear hp
        exact h _ ((Eq.trans (cfalse c_1) (ctrue c_9)) : again_Check_F r0 = _).symm
      ·
        replace hp := cF c_9 hp
        intro r62 hr62
        subst hr62
        intro _
        refine brb (fun c_10 => ?_) (fun c_10 => ?_)
        ·
          clear hp
          exact h _ ((Eq.trans (cfalse c_1) (Eq.trans (cfalse c_9) (ctrue c_10))) : again_Check_F r0 = _).symm
        ·
          replace hp := cF c_10 hp
          refine brb (fun c_11 => ?_) (fun c_11 => ?_)
          ·
            clear hp
            exact h _ ((Eq.trans (cfalse c_1) (Eq.trans (cfalse c_9) (Eq.trans (cfalse c_10) (ctrue c_11)))) : again_Check_F r0 = _).symm
          ·
            replace hp := cF c_11 hp
            refine ⟨hp.1, ?_⟩
            replace hp := hp.2
            intro r63 hr63
            subst hr63
            intro _
            refine brb (fun c_12 => ?_) (fun c_12 => ?_)
            ·
              clear hp
              exact h _ ((Eq.trans (cfalse c_1) (Eq.trans (cfalse c_9) (Eq.trans (cfalse c_10) (Eq.trans (cfalse c_11) (ctrue c_12))))) : again_Check_F r0 = _).symm
            ·
              replace hp := cF c_12 hp
              refine brb (fun c_13 => ?_) (fun c_13 => ?_)
              ·
                clear hp
                exact h _ ((Eq.trans (cfalse c_1) (Eq.trans (cfalse c_9) (Eq.trans (cfalse c_10) (Eq.trans (cfalse c_11) (Eq.trans (cfalse c_12) (ctrue c_13)))))) : again_Check_F r0 = _).symm
              ·
                replace hp := cF c_13 hp
                refine brb (fun c_14 => ?_) (fun c_14 => ?_)
                ·
                  clear hp
                  exact h _ ((Eq.trans (cfalse c_1) (Eq.trans (cfalse c_9) (Eq.trans (cfalse c_10) (Eq.trans (cfalse c_11) (Eq.trans (cfalse c_12) (Eq.trans (cfalse c_13) (ctrue c_14))))))) : again_Check_F r0 = _).symm
                ·
                  replace hp := cF c_14 hp
                  refine ⟨hp.1, ?_⟩
                  replace hp := hp.2
                  intro r64 hr64
                  subst hr64
                  intro _
                  refine brb (fun c_15 => ?_) (fun c_15 => ?_)
                  ·
                    clear hp
                    exact h _ ((Eq.trans (cfalse c_1) (Eq.trans (cfalse c_9) (Eq.trans (cfalse c_10) (Eq.trans (cfalse c_11) (Eq.trans (cfalse c_12) (Eq.trans (cfalse c_13) (Eq.trans (cfalse c_14) (ctrue c_15)))))))) : again_Check_F r0 = _).symm
                  ·
                    replace hp := cF c_15 hp
                    intro r65 hr65
                    subst hr65
                    intro _
                    refine brb (fun c_16 => ?_) (fun c_16 => ?_)
                    ·
                      replace hp := cT c_16 hp
                      refine ⟨hp.1, ?_⟩
                      replace hp := hp.2
                      intro r66 hr66
                      subst hr66
                      intro _
                      refine brb (fun c_17 => ?_) (fun c_17 => ?_)
                      ·
                        clear hp
                        exact h _ ((Eq.trans (cfalse c_1) (Eq.trans (cfalse c_9) (Eq.trans (cfalse c_10) (Eq.trans (cfalse c_11) (Eq.trans (cfalse c_12) (Eq.trans (cfalse c_13) (Eq.trans (cfalse c_14) (Eq.trans (cfalse c_15) (Eq.trans (ctrue c_16) (ctrue c_17)))))))))) : again_Check_F r0 = _).symm
                      ·
                        replace hp := cF c_17 hp
                        refine asrt hp.1 ?_
                        replace hp := hp.2
                        refine ⟨hp.1, ?_⟩
                        replace hp := hp.2
                        intro r67 hr67
                        subst hr67
                        intro _
                        intro r68 hr68
                        subst hr68
                        intro _
                        refine brb (fun c_18 => ?_) (fun c_18 => ?_)
                        ·
                          clear hp
                          exact h _ ((Eq.trans (cfalse c_1) (Eq.trans (cfalse c_9) (Eq.trans (cfalse c_10) (Eq.trans (cfalse c_11) (Eq.trans (cfalse c_12) (Eq.trans (cfalse c_13) (Eq.trans (cfalse c_14) (Eq.trans (cfalse c_15) (Eq.trans (ctrue c_16) (Eq.trans (cfalse c_17) (ctrue c_18))))))))))) : again_Check_F r0 = _).symm
                        ·
                          replace hp := cF c_18 hp
                          refine asrt hp.1 ?_
                          replace hp := hp.2
                          refine ⟨hp.1, ?_⟩
                          replace hp := hp.2
                          intro r69 hr69
                          subst hr69
                          intro _
                          refine brb (fun c_19 => ?_) (fun c_19 => ?_)
                          ·
                            replace hp := cT c_19 hp
                            refine brb (fun c_20 => ?_) (fun c_20 => ?_)
                            ·
                              clear hp
                              exact h _ ((Eq.trans (cfalse c_1) (Eq.trans (cfalse c_9) (Eq.trans (cfalse c_10) (Eq.trans (cfalse c_11) (Eq.trans (cfalse c_12) (Eq.trans (cfalse c_13) (Eq.trans (cfalse c_14) (Eq.trans (cfalse c_15) (Eq.trans (ctrue c_16) (Eq.trans (cfalse c_17) (Eq.trans (cfalse c_18) (Eq.trans (ctrue c_19) (ctrue c_20))))))))))))) : again_Check_F r0 = _).symm
                            ·
                              replace hp := cF c_20 hp
                              refine ⟨hp, ?_⟩
                              intro r70 hr70
                              subst hr70
                              intro _
                              refine brb (fun c_21 => ?_) (fun c_21 => ?_)
                              ·
                                refine brb (fun c_22 => ?_) (fun c_22 => ?_)
                                ·
                                  exact h _ ((Eq.trans (cfalse c_1) (Eq.trans (cfalse c_9) (Eq.trans (cfalse c_10) (Eq.trans (cfalse c_11) (Eq.trans (cfalse c_12) (Eq.trans (cfalse c_13) (Eq.trans (cfalse c_14) (Eq.trans (cfalse c_15) (Eq.trans (ctrue c_16) (Eq.trans (cfalse c_17) (Eq.trans (cfalse c_18) (Eq.trans (ctrue c_19) (Eq.trans (cfalse c_20) (Eq.trans (ctrue c_21) (ctrue c_22))))))))))))))) : again_Check_F r0 = _).symm
                                ·
                                  intro r71 hr71
                                  subst hr71
                                  intro _
                                  refine brb (fun c_23 => ?_) (fun c_23 => ?_)
                                  ·
                                    exact h _ ((Eq.trans (cfalse c_1) (Eq.trans (cfalse c_9) (Eq.trans (cfalse c_10) (Eq.trans (cfalse c_11) (Eq.trans (cfalse c_12) (Eq.trans (cfalse c_13) (Eq.trans (cfalse c_14) (Eq.trans (cfalse c_15) (Eq.trans (ctrue c_16) (Eq.trans (cfalse c_17) (Eq.trans (cfalse c_18) (Eq.trans (ctrue c_19) (Eq.trans (cfalse c_20) (Eq.trans (ctrue c_21) (Eq.trans (cfalse c_22) (ctrue c_23)))))))))))))))) : again_Check_F r0 = _).symm
                                  ·
                                    exact h _ ((Eq.trans (cfalse c_1) (Eq.trans (cfalse c_9) (Eq.trans (cfalse c_10) (Eq.trans (cfalse c_11) (Eq.trans (cfalse c_12) (Eq.trans (cfalse c_13) (Eq.trans (cfalse c_14) (Eq.trans (cfalse c_15) (Eq.trans (ctrue c_16) (Eq.trans (cfalse c_17) (Eq.trans (cfalse c_18) (Eq.trans (ctrue c_19) (Eq.trans (cfalse c_20) (Eq.trans (ctrue c_21) (Eq.trans (cfalse c_22) (cfalse c_23)))))))))))))))) : again_Check_F r0 = _).symm
                              ·
                                exact h _ ((Eq.trans (cfalse c_1) (Eq.trans (cfalse c_9) (Eq.trans (cfalse c_10) (Eq.trans (cfalse c_11) (Eq.trans (cfalse c_12) (Eq.trans (cfalse c_13) (Eq.trans (cfalse c_14) (Eq.trans (cfalse c_15) (Eq.trans (ctrue c_16) (Eq.trans (cfalse c_17) (Eq.trans (cfalse c_18) (Eq.trans (ctrue c_19) (Eq.trans (cfalse c_20) (cfalse c_21)))))))))))))) : again_Check_F r0 = _).symm
                          ·
                            replace hp := cF c_19 hp
                            refine ⟨hp, ?_⟩
                            intro r72 hr72
                            subst hr72
                            intro _
                            refine brb (fun c_24 => ?_) (fun c_24 => ?_)
                            ·
                              refine brb (fun c_25 => ?_) (fun c_25 => ?_)
                              ·
                                exact h _ ((Eq.trans (cfalse c_1) (Eq.trans (cfalse c_9) (Eq.trans (cfalse c_10) (Eq.trans (cfalse c_11) (Eq.trans (cfalse c_12) (Eq.trans (cfalse c_13) (Eq.trans (cfalse c_14) (Eq.trans (cfalse c_15) (Eq.trans (ctrue c_16) (Eq.trans (cfalse c_17) (Eq.trans (cfalse c_18) (Eq.trans (cfalse c_19) (Eq.trans (ctrue c_24) (ctrue c_25)))))))))))))) : again_Check_F r0 = _).symm
                              ·
                                intro r73 hr73
                                subst hr73
                                intro _
                                refine brb (fun c_26 => ?_) (fun c_26 => ?_)
                                ·
                                  exact h _ ((Eq.trans (cfalse c_1) (Eq.trans (cfalse c_9) (Eq.trans (cfalse c_10) (Eq.trans (cfalse c_11) (Eq.trans (cfalse c_12) (Eq.trans (cfalse c_13) (Eq.trans (cfalse c_14) (Eq.trans (cfalse c_15) (Eq.trans (ctrue c_16) (Eq.trans (cfalse c_17) (Eq.trans (cfalse c_18) (Eq.trans (cfalse c_19) (Eq.trans (ctrue c_24) (Eq.trans (cfalse c_25) (ctrue c_26))))))))))))))) : again_Check_F r0 = _).symm
                                ·
                                  exact h _ ((Eq.trans (cfalse c_1) (Eq.trans (cfalse c_9) (Eq.trans (cfalse c_10) (Eq.trans (cfalse c_11) (Eq.trans (cfalse c_12) (Eq.trans (cfalse c_13) (Eq.trans (cfalse c_14) (Eq.trans (cfalse c_15) (Eq.trans (ctrue c_16) (Eq.trans (cfalse c_17) (Eq.trans (cfalse c_18) (Eq.trans (cfalse c_19) (Eq.trans (ctrue c_24) (Eq.trans (cfalse c_25) (cfalse c_26))))))))))))))) : again_Check_F r0 = _).symm
                            ·
                              exact h _ ((Eq.trans (cfalse c_1) (Eq.trans (cfalse c_9) (Eq.trans (cfalse c_10) (Eq.trans (cfalse c_11) (Eq.trans (cfalse c_12) (Eq.trans (cfalse c_13) (Eq.trans (cfalse c_14) (Eq.trans (cfalse c_15) (Eq.trans (ctrue c_16) (Eq.trans (cfalse c_17) (Eq.trans (cfalse c_18) (Eq.trans (cfalse c_19) (cfalse c_24))))))))))))) : again_Check_F r0 = _).symm
                    ·
                      replace hp := cF c_16 hp
                      refine asrt hp.1 ?_
                      replace hp := hp.2
                      refine ⟨hp.1, ?_⟩
                      replace hp := hp.2
                      intro r74 hr74
                      subst hr74
                      intro _
                      intro r75 hr75
                      subst hr75
                      intro _
                      refine brb (fun c_27 => ?_) (fun c_27 => ?_)
                      ·
                        clear hp
                        exact h _ ((Eq.trans (cfalse c_1) (Eq.trans (cfalse c_9) (Eq.trans (cfalse c_10) (Eq.trans (cfalse c_11) (Eq.trans (cfalse c_12) (Eq.trans (cfalse c_13) (Eq.trans (cfalse c_14) (Eq.trans (cfalse c_15) (Eq.trans (cfalse c_16) (ctrue c_27)))))))))) : again_Check_F r0 = _).symm
                      ·
                        replace hp := cF c_27 hp
                        refine asrt hp.1 ?_
                        replace hp := hp.2
                        refine ⟨hp.1, ?_⟩
                        replace hp := hp.2
                        intro r76 hr76
                        subst hr76
                        intro _
                        refine brb (fun c_28 => ?_) (fun c_28 => ?_)
                        ·
                          replace hp := cT c_28 hp
                          refine brb (fun c_29 => ?_) (fun c_29 => ?_)
                          ·
                            clear hp
                            exact h _ ((Eq.trans (cfalse c_1) (Eq.trans (cfalse c_9) (Eq.trans (cfalse c_10) (Eq.trans (cfalse c_11) (Eq.trans (cfalse c_12) (Eq.trans (cfalse c_13) (Eq.trans (cfalse c_14) (Eq.trans (cfalse c_15) (Eq.trans (cfalse c_16) (Eq.trans (cfalse c_27) (Eq.trans (ctrue c_28) (ctrue c_29)))))))))))) : again_Check_F r0 = _).symm
                          ·
                            replace hp := cF c_29 hp
                            refine ⟨hp, ?_⟩
                            intro r77 hr77
                            subst hr77
                            intro _
                            refine brb (fun c_30 => ?_) (fun c_30 => ?_)
                            ·
                              refine brb (fun c_31 => ?_) (fun c_31 => ?_)
                              ·
                                exact h _ ((Eq.trans (cfalse c_1) (Eq.trans (cfalse c_9) (Eq.trans (cfalse c_10) (Eq.trans (cfalse c_11) (Eq.trans (cfalse c_12) (Eq.trans (cfalse c_13) (Eq.trans (cfalse c_14) (Eq.trans (cfalse c_15) (Eq.trans (cfalse c_16) (Eq.trans (cfalse c_27) (Eq.trans (ctrue c_28) (Eq.trans (cfalse c_29) (Eq.trans (ctrue c_30) (ctrue c_31)))))))))))))) : again_Check_F r0 = _).symm
                              ·
                                intro r78 hr78
                                subst hr78
                                intro _
                                refine brb (fun c_32 => ?_) (fun c_32 => ?_)
                                ·
                                  exact h _ ((Eq.trans (cfalse c_1) (Eq.trans (cfalse c_9) (Eq.trans (cfalse c_10) (Eq.trans (cfalse c_11) (Eq.trans (cfalse c_12) (Eq.trans (cfalse c_13) (Eq.trans (cfalse c_14) (Eq.trans (cfalse c_15) (Eq.trans (cfalse c_16) (Eq.trans (cfalse c_27) (Eq.trans (ctrue c_28) (Eq.trans (cfalse c_29) (Eq.trans (ctrue c_30) (Eq.trans (cfalse c_31) (ctrue c_32))))))))))))))) : again_Check_F r0 = _).symm
                                ·
                                  exact h _ ((Eq.trans (cfalse c_1) (Eq.trans (cfalse c_9) (Eq.trans (cfalse c_10) (Eq.trans (cfalse c_11) (Eq.trans (cfalse c_12) (Eq.trans (cfalse c_13) (Eq.trans (cfalse c_14) (Eq.trans (cfalse c_15) (Eq.trans (cfalse c_16) (Eq.trans (cfalse c_27) (Eq.trans (ctrue c_28) (Eq.trans (cfalse c_29) (Eq.trans (ctrue c_30) (Eq.trans (cfalse c_31) (cfalse c_32))))))))))))))) : again_Check_F r0 = _).symm
                            ·
                              exact h _ ((Eq.trans (cfalse c_1) (Eq.trans (cfalse c_9) (Eq.trans (cfalse c_10) (Eq.trans (cfalse c_11) (Eq.trans (cfalse c_12) (Eq.trans (cfalse c_13) (Eq.trans (cfalse c_14) (Eq.trans (cfalse c_15) (Eq.trans (cfalse c_16) (Eq.trans (cfalse c_27) (Eq.trans (ctrue c_28) (Eq.trans (cfalse c_29) (cfalse c_30))))))))))))) : again_Check_F r0 = _).symm
                        ·
                          replace hp := cF c_28 hp
                          refine ⟨hp, ?_⟩
                          intro r79 hr79
                          subst hr79
                          intro _
                          refine brb (fun c_33 => ?_) (fun c_33 => ?_)
                          ·
                            refine brb (fun c_34 => ?_) (fun c_34 => ?_)
                            ·
                              exact h _ ((Eq.trans (cfalse c_1) (Eq.trans (cfalse c_9) (Eq.trans (cfalse c_10) (Eq.trans (cfalse c_11) (Eq.trans (cfalse c_12) (Eq.trans (cfalse c_13) (Eq.trans (cfalse c_14) (Eq.trans (cfalse c_15) (Eq.trans (cfalse c_16) (Eq.trans (cfalse c_27) (Eq.trans (cfalse c_28) (Eq.trans (ctrue c_33) (ctrue c_34))))))))))))) : again_Check_F r0 = _).symm
                            ·
                              intro r80 hr80
                              subst hr80
                              intro _
                              refine brb (fun c_35 => ?_) (fun c_35 => ?_)
                              ·
                                exact h _ ((Eq.trans (cfalse c_1) (Eq.trans (cfalse c_9) (Eq.trans (cfalse c_10) (Eq.trans (cfalse c_11) (Eq.trans (cfalse c_12) (Eq.trans (cfalse c_13) (Eq.trans (cfalse c_14) (Eq.trans (cfalse c_15) (Eq.trans (cfalse c_16) (Eq.trans (cfalse c_27) (Eq.trans (cfalse c_28) (Eq.trans (ctrue c_33) (Eq.trans (cfalse c_34) (ctrue c_35)))))))))))))) : again_Check_F r0 = _).symm
                              ·
                                exact h _ ((Eq.trans (cfalse c_1) (Eq.trans (cfalse c_9) (Eq.trans (cfalse c_10) (Eq.trans (cfalse c_11) (Eq.trans (cfalse c_12) (Eq.trans (cfalse c_13) (Eq.trans (cfalse c_14) (Eq.trans (cfalse c_15) (Eq.trans (cfalse c_16) (Eq.trans (cfalse c_27) (Eq.trans (cfalse c_28) (Eq.trans (ctrue c_33) (Eq.trans (cfalse c_34) (cfalse c_35)))))))))))))) : again_Check_F r0 = _).symm
                          ·
                            exact h _ ((Eq.trans (cfalse c_1) (Eq.trans (cfalse c_9) (Eq.trans (cfalse c_10) (Eq.trans (cfalse c_11) (Eq.trans (cfalse c_12) (Eq.trans (cfalse c_13) (Eq.trans (cfalse c_14) (Eq.trans (cfalse c_15) (Eq.trans (cfalse c_16) (Eq.trans (cfalse c_27) (Eq.trans (cfalse c_28) (cfalse c_33)))))))))))) : again_Check_F r0 = _).symm
def again_Check_C (v : valsA again_Check_A) (K : Res → List Cell → Prop) : Prop := again_Check_P v.1 ∧ ∀ r : Int, r = again_Check_F v.1 → K (.one (.v (.int .i64) r)) []
def again_Check_S : App := specW again_Check_A again_Check_C
theorem again_Check_wv (K : Res → List Cell → Prop) : ∀ v : valsA again_Check_A, runF tb (getG again_Check_G) [] Tryd.f13 [true] (mkA again_Check_A v) K = again_Check_raw v.1 K
  | (r0, ()) => again_Check_walk r0 K
set_option maxRecDepth 20000 in
theorem again_Check_ok : AppOk Tryd.prog 13 again_Check_S :=
  AppOk.specW (spec_ok ((runF_ok tb_M tb_ok again_Check_Gok (LabsOk.nil) (f := 13) (fn := Tryd.f13) (by kernel_rfl) (by kernel_rfl) (by kernel_rfl) [true])) fun v K hw h => (again_Check_wv K v).mpr (again_Check_sp v.1 K hw h.1 h.2))

end Go.VE
namespace Go.VE
open Go Go.Proofs
/-! ### quoin/again.Keys -/
def again_Keys_G : List (Nat × App) := [(39, again_counted_S), (13, again_Check_S), (44, strconv_AppendInt_S)]
theorem again_Keys_Gok : GOk Tryd.prog (getG again_Keys_G) := GOk.cons again_counted_ok (GOk.cons again_Check_ok (GOk.cons strconv_AppendInt_ok (GOk.nil)))
theorem again_Keys_st : storesC (bodyOf Tryd.f12) = true := by kernel_rfl
def again_Keys_d0 : List LS := [.b 2 16 [], .o 6 53 5 (.int .u8), .c 16 (.st (.pair (.bool) (.pair (.int .u8) (.pair (.int .i64) (.sl (.int .u8))))))]
def again_Keys_d0r : List LS := [.o 4 37 5 (.int .u8), .v 5 (.int .i64)]
def again_Keys_dx0 : DX := ⟨none, some again_Keys_d0r, []⟩
def again_Keys_J0 (kr : List Int → Int → Prop) (p6 : List Int) (r2b : (Bool × Int × Int × List Int)) : Prop :=
 bif decide (List.length p6 + List.length r2b.2.2.2 ≤ lim) then
 bif (decide ((65536 : Int) < (List.length (p6 ++ r2b.2.2.2) : Int))) then
 kr ([] : List Int) (1 : Int)
 else
 kr (p6 ++ r2b.2.2.2) (0 : Int)
 else False
theorem again_Keys_s0 (k : Ex → St → Prop) (p6 : List Int) (r2b : (Bool × Int × Int × List Int)) :
    ex tb (getG again_Keys_G) [] (at' (bodyOf Tryd.f12) [1, 1, 1, 1, 1, 1, 1]) [1, 1, 1, 1, 1, 1, 1] (mkD 43 again_Keys_d0 (p6, r2b, ())) (wk 43 again_Keys_dx0 k) =
    again_Keys_J0 (fun x4 x5 => wfD again_Keys_d0r (x4, x5, ()) → k .ret (mkD 43 again_Keys_d0r (x4, x5, ()))) p6 r2b := by kernel_rfl
theorem again_Keys_v0 (k : Ex → St → Prop) : ∀ v : vals again_Keys_d0, ex tb (getG again_Keys_G) [] (at' (bodyOf Tryd.f12) [1, 1, 1, 1, 1, 1, 1]) [1, 1, 1, 1, 1, 1, 1] (mkD 43 again_Keys_d0 v) (wk 43 again_Keys_dx0 k) = again_Keys_J0 (fun x4 x5 => wfD again_Keys_d0r (x4, x5, ()) → k .ret (mkD 43 again_Keys_d0r (x4, x5, ()))) v.1 v.2.1
  | (p6, r2b, ()) => again_Keys_s0 k p6 r2b
def again_Keys_X0 : Pce := fun st k => ckD 43 again_Keys_d0 st fun v => wfD again_Keys_d0 v → again_Keys_J0 (fun x4 x5 => wfD again_Keys_d0r (x4, x5, ()) → k .ret (mkD 43 again_Keys_d0r (x4, x5, ()))) v.1 v.2.1
set_option maxRecDepth 20000 in
theorem again_Keys_x0 : SemOk Tryd.prog (at' (bodyOf Tryd.f12) [1, 1, 1, 1, 1, 1, 1]) again_Keys_X0 :=
  (SemOk.wk (N := 43) (ds := again_Keys_d0) (dx := again_Keys_dx0) (ex_sound tb_M tb_ok again_Keys_Gok (LabsOk.nil) (at' (bodyOf Tryd.f12) [1, 1, 1, 1, 1, 1, 1]) [1, 1, 1, 1, 1, 1, 1] rfl (storesC_at again_Keys_st [1, 1, 1, 1, 1, 1, 1]))).mono fun st k h => ckD_mono h fun v hv hw => Eq.mpr (again_Keys_v0 k v) (hv hw)
def again_Keys_B0 : Labs := ([1, 1, 1, 1, 1, 1, 1], again_Keys_X0) :: []
theorem again_Keys_b0 : LabsOk Tryd.prog (bodyOf Tryd.f12) again_Keys_B0 := LabsOk.cons again_Keys_x0 (LabsOk.nil)
def again_Keys_d1 : List LS := [.v 1 (.int .i64), .b 2 16 [], .o 6 53 5 (.int .u8), .c 16 (.st (.pair (.bool) (.pair (.int .u8) (.pair (.int .i64) (.sl (.int .u8))))))]
def again_Keys_d1r : List LS := [.o 4 37 5 (.int .u8), .v 5 (.int .i64)]
def again_Keys_dx1 : DX := ⟨none, some again_Keys_d1r, []⟩
def again_Keys_J1 (kr : List Int → Int → Prop) (count1 : Int) (p6 : List Int) (r2b : (Bool × Int × Int × List Int)) : Prop :=
 bif (decide ((0 : Int) < count1)) then
 strconv_AppendInt_P p6 count1 (10 : Int) ∧ (
 ∀ (r3 : List Int), r3 = strconv_AppendInt_F p6 count1 (10 : Int) → (
 wfR (.one (.fr 5 (.int .u8) r3)) → (
 (wfD again_Keys_d0 (r3, r2b, ()) → again_Keys_J0 (fun (x4 : List Int) (x5 : Int) => wfD again_Keys_d0r (x4, x5, ()) → (
 kr x4 x5)) r3 r2b))))
 else
 (wfD again_Keys_d0 (p6, r2b, ()) → again_Keys_J0 (fun (x4 : List Int) (x5 : Int) => wfD again_Keys_d0r (x4, x5, ()) → (
 kr x4 x5)) p6 r2b)
theorem again_Keys_s1 (k : Ex → St → Prop) (count1 : Int) (p6 : List Int) (r2b : (Bool × Int × Int × List Int)) :
    ex tb (getG again_Keys_G) again_Keys_B0 (at' (bodyOf Tryd.f12) [1, 1, 1, 1, 1, 1]) [1, 1, 1, 1, 1, 1] (mkD 43 again_Keys_d1 (count1, p6, r2b, ())) (wk 43 again_Keys_dx1 k) =
    again_Keys_J1 (fun x4 x5 => wfD again_Keys_d1r (x4, x5, ()) → k .ret (mkD 43 again_Keys_d1r (x4, x5, ()))) count1 p6 r2b := by kernel_rfl
theorem again_Keys_v1 (k : Ex → St → Prop) : ∀ v : vals again_Keys_d1, ex tb (getG again_Keys_G) again_Keys_B0 (at' (bodyOf Tryd.f12) [1, 1, 1, 1, 1, 1]) [1, 1, 1, 1, 1, 1] (mkD 43 again_Keys_d1 v) (wk 43 again_Keys_dx1 k) = again_Keys_J1 (fun x4 x5 => wfD again_Keys_d1r (x4, x5, ()) → k .ret (mkD 43 again_Keys_d1r (x4, x5, ()))) v.1 v.2.1 v.2.2.1
  | (count1, p6, r2b, ()) => again_Keys_s1 k count1 p6 r2b
def again_Keys_X1 : Pce := fun st k => ckD 43 again_Keys_d1 st fun v => wfD again_Keys_d1 v → again_Keys_J1 (fun x4 x5 => wfD again_Keys_d1r (x4, x5, ()) → k .ret (mkD 43 again_Keys_d1r (x4, x5, ()))) v.1 v.2.1 v.2.2.1
set_option maxRecDepth 20000 in
theorem again_Keys_x1 : SemOk Tryd.prog (at' (bodyOf Tryd.f12) [1, 1, 1, 1, 1, 1]) again_Keys_X1 :=
  (SemOk.wk (N := 43) (ds := again_Keys_d1) (dx := again_Keys_dx1) (ex_sound tb_M tb_ok again_Keys_Gok (again_Keys_b0) (at' (bodyOf Tryd.f12) [1, 1, 1, 1, 1, 1]) [1, 1, 1, 1, 1, 1] rfl (storesC_at again_Keys_st [1, 1, 1, 1, 1, 1]))).mono fun st k h => ckD_mono h fun v hv hw => Eq.mpr (again_Keys_v1 k v) (hv hw)
def again_Keys_B1 : Labs := ([1, 1, 1, 1, 1, 1], again_Keys_X1) :: again_Keys_B0
theorem again_Keys_b1 : LabsOk Tryd.prog (bodyOf Tryd.f12) again_Keys_B1 := LabsOk.cons again_Keys_x1 (again_Keys_b0)
def again_Keys_d2 : List LS := [.v 1 (.int .i64), .b 2 16 [], .o 6 53 5 (.int .u8), .c 16 (.st (.pair (.bool) (.pair (.int .u8) (.pair (.int .i64) (.sl (.int .u8))))))]
def again_Keys_d2r : List LS := [.o 4 37 5 (.int .u8), .v 5 (.int .i64)]
def again_Keys_dx2 : DX := ⟨none, some again_Keys_d2r, []⟩
def again_Keys_J2 (kr : List Int → Int → Prop) (count1 : Int) (p6 : List Int) (r2b : (Bool × Int × Int × List Int)) : Prop :=
 bif (decide (count1 = (0 : Int))) then
 (wfD again_Keys_d1 (r2b.2.2.1, p6, r2b, ()) → again_Keys_J1 (fun (x4 : List Int) (x5 : Int) => wfD again_Keys_d1r (x4, x5, ()) → (
 kr x4 x5)) r2b.2.2.1 p6 r2b)
 else
 (wfD again_Keys_d1 (count1, p6, r2b, ()) → again_Keys_J1 (fun (x4 : List Int) (x5 : Int) => wfD again_Keys_d1r (x4, x5, ()) → (
 kr x4 x5)) count1 p6 r2b)
theorem again_Keys_s2 (k : Ex → St → Prop) (count1 : Int) (p6 : List Int) (r2b : (Bool × Int × Int × List Int)) :
    ex tb (getG again_Keys_G) again_Keys_B1 (at' (bodyOf Tryd.f12) [1, 1, 1, 1, 1]) [1, 1, 1, 1, 1] (mkD 43 again_Keys_d2 (count1, p6, r2b, ())) (wk 43 again_Keys_dx2 k) =
    again_Keys_J2 (fun x4 x5 => wfD again_Keys_d2r (x4, x5, ()) → k .ret (mkD 43 again_Keys_d2r (x4, x5, ()))) count1 p6 r2b := by kernel_rfl
theorem again_Keys_v2 (k : Ex → St → Prop) : ∀ v : vals again_Keys_d2, ex tb (getG again_Keys_G) again_Keys_B1 (at' (bodyOf Tryd.f12) [1, 1, 1, 1, 1]) [1, 1, 1, 1, 1] (mkD 43 again_Keys_d2 v) (wk 43 again_Keys_dx2 k) = again_Keys_J2 (fun x4 x5 => wfD again_Keys_d2r (x4, x5, ()) → k .ret (mkD 43 again_Keys_d2r (x4, x5, ()))) v.1 v.2.1 v.2.2.1
  | (count1, p6, r2b, ()) => again_Keys_s2 k count1 p6 r2b
def again_Keys_X2 : Pce := fun st k => ckD 43 again_Keys_d2 st fun v => wfD again_Keys_d2 v → again_Keys_J2 (fun x4 x5 => wfD again_Keys_d2r (x4, x5, ()) → k .ret (mkD 43 again_Keys_d2r (x4, x5, ()))) v.1 v.2.1 v.2.2.1
set_option maxRecDepth 20000 in
theorem again_Keys_x2 : SemOk Tryd.prog (at' (bodyOf Tryd.f12) [1, 1, 1, 1, 1]) again_Keys_X2 :=
  (SemOk.wk (N := 43) (ds := again_Keys_d2) (dx := again_Keys_dx2) (ex_sound tb_M tb_ok again_Keys_Gok (again_Keys_b1) (at' (bodyOf Tryd.f12) [1, 1, 1, 1, 1]) [1, 1, 1, 1, 1] rfl (storesC_at again_Keys_st [1, 1, 1, 1, 1]))).mono fun st k h => ckD_mono h fun v hv hw => Eq.mpr (again_Keys_v2 k v) (hv hw)
def again_Keys_B2 : Labs := ([1, 1, 1, 1, 1], again_Keys_X2) :: again_Keys_B1
theorem again_Keys_b2 : LabsOk Tryd.prog (bodyOf Tryd.f12) again_Keys_B2 := LabsOk.cons again_Keys_x2 (again_Keys_b1)
def again_Keys_raw (r0 : (Bool × Int × Int × List Int)) (count1 : Int) (K : Res → List Cell → Prop) : Prop :=
 bif (!r0.1) then
 K (.tup [.fr 5 (.int .u8) ([] : List Int), .v (.int .i64) (220 : Int)]) []
 else
 ∀ (r1 : Bool), r1 = again_counted_F count1 → (
 wfR (.one (.v (.bool) r1)) → (
 bif (!r1) then
 K (.tup [.fr 5 (.int .u8) ([] : List Int), .v (.int .i64) (2 : Int)]) []
 else
 again_Check_P r0 ∧ (
 ∀ (r2 : Int), r2 = again_Check_F r0 → (
 wfR (.one (.v (.int .i64) r2)) → (
 bif (!decide (r2 = (0 : Int))) then
 K (.tup [.fr 5 (.int .u8) ([] : List Int), .v (.int .i64) (2 : Int)]) []
 else
 bif (!decide (r0.2.1 = (0 : Int))) then
 bif decide (List.length ([] : List Int) + List.length ([(34 : Int), r0.2.1] : List Int) ≤ lim) then
 (wfD again_Keys_d2 (count1, (([] : List Int) ++ ([(34 : Int), r0.2.1] : List Int)), r0, ()) → again_Keys_J2 (fun (x4 : List Int) (x5 : Int) => wfD again_Keys_d2r (x4, x5, ()) → (
 K (.tup [.fr 5 (.int .u8) x4, .v (.int .i64) x5]) [])) count1 (([] : List Int) ++ ([(34 : Int), r0.2.1] : List Int)) r0)
 else False
 else
 (wfD again_Keys_d2 (count1, ([] : List Int), r0, ()) → again_Keys_J2 (fun (x4 : List Int) (x5 : Int) => wfD again_Keys_d2r (x4, x5, ()) → (
 K (.tup [.fr 5 (.int .u8) x4, .v (.int .i64) x5]) [])) count1 ([] : List Int) r0))))))
def again_Keys_A : List AS := [.v (.st (.pair (.bool) (.pair (.int .u8) (.pair (.int .i64) (.sl (.int .u8)))))), .v (.int .i64)]
theorem again_Keys_walk (r0 : (Bool × Int × Int × List Int)) (count1 : Int) (K : Res → List Cell → Prop) : runF tb (getG again_Keys_G) again_Keys_B2 Tryd.f12 [true, true] (mkA again_Keys_A (r0, count1, ())) K = again_Keys_raw r0 count1 K := by kernel_rfl

def again_Keys_J0_P (p6 : List Int) (r2b : (Bool × Int × Int × List Int)) : Prop :=
 (List.length p6 + List.length r2b.2.2.2 ≤ lim)
def again_Keys_J0_F (p6 : List Int) (r2b : (Bool × Int × Int × List Int)) : List Int × Int :=
 bif (decide ((65536 : Int) < (List.length (p6 ++ r2b.2.2.2) : Int))) then
 (([] : List Int), (1 : Int))
 else
 ((p6 ++ r2b.2.2.2), (0 : Int))
set_option maxRecDepth 20000 in
theorem again_Keys_J0_sp (kr : List Int → Int → Prop) (p6 : List Int) (r2b : (Bool × Int × Int × List Int)) (hp : again_Keys_J0_P p6 r2b) (hr : ∀ q : List Int × Int, q = again_Keys_J0_F p6 r2b → kr q.1 q.2) : again_Keys_J0 kr p6 r2b := by
  unfold again_Keys_J0
  unfold again_Keys_J0_P at hp
  refine asrt hp ?_
  refine brb (fun c_1 => ?_) (fun c_1 => ?_)
  ·
    have e := hr _ ((ctrue c_1) : again_Keys_J0_F p6 r2b = _).symm
    exact e
  ·
    have e := hr _ ((cfalse c_1) : again_Keys_J0_F p6 r2b = _).symm
    exact e
def again_Keys_J1_P (count1 : Int) (p6 : List Int) (r2b : (Bool × Int × Int × List Int)) : Prop :=
 bif (decide ((0 : Int) < count1)) then
 strconv_AppendInt_P p6 count1 (10 : Int) ∧ (
 let r3 : List Int := strconv_AppendInt_F p6 count1 (10 : Int)
 again_Keys_J0_P r3 r2b)
 else
 again_Keys_J0_P p6 r2b
def again_Keys_J1_F (count1 : Int) (p6 : List Int) (r2b : (Bool × Int × Int × List Int)) : List Int × Int :=
 bif (decide ((0 : Int) < count1)) then
 let r3 : List Int := strconv_AppendInt_F p6 count1 (10 : Int)
 let q0r : List Int × Int := again_Keys_J0_F r3 r2b
 let x4 : List Int := q0r.1
 let x5 : Int := q0r.2
 (x4, x5)
 else
 let q0r : List Int × Int := again_Keys_J0_F p6 r2b
 let x4 : List Int := q0r.1
 let x5 : Int := q0r.2
 (x4, x5)
set_option maxRecDepth 20000 in
theorem again_Keys_J1_sp (kr : List Int → Int → Prop) (count1 : Int) (p6 : List Int) (r2b : (Bool × Int × Int × List Int)) (hp : again_Keys_J1_P count1 p6 r2b) (hr : ∀ q : List Int × Int, q = again_Keys_J1_F count1 p6 r2b → kr q.1 q.2) : again_Keys_J1 kr count1 p6 r2b := by
  unfold again_Keys_J1
  unfold again_Keys_J1_P at hp
  refine brb (fun c_2 => ?_) (fun c_2 => ?_)
  ·
    replace hp := cT c_2 hp
    refine ⟨hp.1, ?_⟩
    replace hp := hp.2
    intro r3 hr3
    subst hr3
    intro _
    refine fun _ => again_Keys_J0_sp _ _ _ hp (fun q hq => ?_)
    subst hq
    intro _
    clear hp
    have e := hr _ ((ctrue c_2) : again_Keys_J1_F count1 p6 r2b = _).symm
    exact e
  ·
    replace hp := cF c_2 hp
    refine fun _ => again_Keys_J0_sp _ _ _ hp (fun q hq => ?_)
    subst hq
    intro _
    clear hp
    have e := hr _ ((cfalse c_2) : again_Keys_J1_F count1 p6 r2b = _).symm
    exact e
def again_Keys_J2_P (count1 : Int) (p6 : List Int) (r2b : (Bool × Int × Int × List Int)) : Prop :=
 bif (decide (count1 = (0 : Int))) then
 again_Keys_J1_P r2b.2.2.1 p6 r2b
 else
 again_Keys_J1_P count1 p6 r2b
def again_Keys_J2_F (count1 : Int) (p6 : List Int) (r2b : (Bool × Int × Int × List Int)) : List Int × Int :=
 bif (decide (count1 = (0 : Int))) then
 let q1r : List Int × Int := again_Keys_J1_F r2b.2.2.1 p6 r2b
 let x4 : List Int := q1r.1
 let x5 : Int := q1r.2
 (x4, x5)
 else
 let q1r : List Int × Int := again_Keys_J1_F count1 p6 r2b
 let x4 : List Int := q1r.1
 let x5 : Int := q1r.2
 (x4, x5)
set_option maxRecDepth 20000 in
theorem again_Keys_J2_sp (kr : List Int → Int → Prop) (count1 : Int) (p6 : List Int) (r2b : (Bool × Int × Int × List Int)) (hp : again_Keys_J2_P count1 p6 r2b) (hr : ∀ q : List Int × Int, q = again_Keys_J2_F count1 p6 r2b → kr q.1 q.2) : again_Keys_J2 kr count1 p6 r2b := by
  unfold again_Keys_J2
  unfold again_Keys_J2_P at hp
  refine brb (fun c_3 => ?_) (fun c_3 => ?_)
  ·
    replace hp := cT c_3 hp
    refine fun _ => again_Keys_J1_sp _ _ _ _ hp (fun q hq => ?_)
    subst hq
    intro _
    clear hp
    have e := hr _ ((ctrue c_3) : again_Keys_J2_F count1 p6 r2b = _).symm
    exact e
  ·
    replace hp := cF c_3 hp
    refine fun _ => again_Keys_J1_sp _ _ _ _ hp (fun q hq => ?_)
    subst hq
    intro _
    clear hp
    have e := hr _ ((cfalse c_3) : again_Keys_J2_F count1 p6 r2b = _).symm
    exact e
def again_Keys_P (r0 : (Bool × Int × Int × List Int)) (count1 : Int) : Prop :=
 bif (!r0.1) then
 True
 else
 let r1 : Bool := again_counted_F count1
 bif (!r1) then
 True
 else
 again_Check_P r0 ∧ (
 let r2 : Int := again_Check_F r0
 bif (!decide (r2 = (0 : Int))) then
 True
 else
 bif (!decide (r0.2.1 = (0 : Int))) then
 (List.length ([] : List Int) + List.length ([(34 : Int), r0.2.1] : List Int) ≤ lim) ∧ (
 again_Keys_J2_P count1 (([] : List Int) ++ ([(34 : Int), r0.2.1] : List Int)) r0)
 else
 again_Keys_J2_P count1 ([] : List Int) r0)
def again_Keys_F (r0 : (Bool × Int × Int × List Int)) (count1 : Int) : List Int × Int :=
 bif (!r0.1) then
 (([] : List Int), (220 : Int))
 else
 let r1 : Bool := again_counted_F count1
 bif (!r1) then
 (([] : List Int), (2 : Int))
 else
 let r2 : Int := again_Check_F r0
 bif (!decide (r2 = (0 : Int))) then
 (([] : List Int), (2 : Int))
 else
 bif (!decide (r0.2.1 = (0 : Int))) then
 let q2r : List Int × Int := again_Keys_J2_F count1 (([] : List Int) ++ ([(34 : Int), r0.2.1] : List Int)) r0
 let x4 : List Int := q2r.1
 let x5 : Int := q2r.2
 (x4, x5)
 else
 let q2r : List Int × Int := again_Keys_J2_F count1 ([] : List Int) r0
 let x4 : List Int := q2r.1
 let x5 : Int := q2r.2
 (x4, x5)
set_option maxRecDepth 20000 in
theorem again_Keys_sp (r0 : (Bool × Int × Int × List Int)) (count1 : Int) (K : Res → List Cell → Prop) (_ : wfA again_Keys_A (r0, count1, ())) (hp : again_Keys_P r0 count1) (h : ∀ r : List Int × Int, r = again_Keys_F r0 count1 → K (.tup [.fr 5 (.int .u8) r.1, .v (.int .i64) r.2]) []) : again_Keys_raw r0 count1 K := by
  unfold again_Keys_raw
  unfold again_Keys_P at hp
  refine brb (fun c_4 => ?_) (fun c_4 => ?_)
  ·
    clear hp
    have e := h _ ((ctrue c_4) : again_Keys_F r0 count1 = _).symm
    exact e
  ·
    replace hp := cF c_4 hp
    intro r1 hr1
    subst hr1
    intro _
    refine brb (fun c_5 => ?_) (fun c_5 => ?_)
    ·
      clear hp
      have e := h _ ((Eq.trans (cfalse c_4) (ctrue c_5)) : again_Keys_F r0 count1 = _).symm
      exact e
    ·
      replace hp := cF c_5 hp
      refine ⟨hp.1, ?_⟩
      replace hp := hp.2
      intro r2 hr2
      subst hr2
      intro _
      refine brb (fun c_6 => ?_) (fun c_6 => ?_)
      ·
        clear hp
        have e := h _ ((Eq.trans (cfalse c_4) (Eq.trans (cfalse c_5) (ctrue c_6))) : again_Keys_F r0 count1 = _).symm
        exact e
      ·
        replace hp := cF c_6 hp
        refine brb (fun c_7 => ?_) (fun c_7 => ?_)
        ·
          replace hp := cT c_7 hp
          refine asrt hp.1 ?_
          replace hp := hp.2
          refine fun _ => again_Keys_J2_sp _ _ _ _ hp (fun q hq => ?_)
          subst hq
          intro _
          clear hp
          have e := h _ ((Eq.trans (cfalse c_4) (Eq.trans (cfalse c_5) (Eq.trans (cfalse c_6) (ctrue c_7)))) : again_Keys_F r0 count1 = _).symm
          exact e
        ·
          replace hp := cF c_7 hp
          refine fun _ => again_Keys_J2_sp _ _ _ _ hp (fun q hq => ?_)
          subst hq
          intro _
          clear hp
          have e := h _ ((Eq.trans (cfalse c_4) (Eq.trans (cfalse c_5) (Eq.trans (cfalse c_6) (cfalse c_7)))) : again_Keys_F r0 count1 = _).symm
          exact e
def again_Keys_C (v : valsA again_Keys_A) (K : Res → List Cell → Prop) : Prop := again_Keys_P v.1 v.2.1 ∧ ∀ r : List Int × Int, r = again_Keys_F v.1 v.2.1 → K (.tup [.fr 5 (.int .u8) r.1, .v (.int .i64) r.2]) []
def again_Keys_S : App := specW again_Keys_A again_Keys_C
theorem again_Keys_wv (K : Res → List Cell → Prop) : ∀ v : valsA again_Keys_A, runF tb (getG again_Keys_G) again_Keys_B2 Tryd.f12 [true, true] (mkA again_Keys_A v) K = again_Keys_raw v.1 v.2.1 K
  | (r0, count1, ()) => again_Keys_walk r0 count1 K
set_option maxRecDepth 20000 in
theorem again_Keys_ok : AppOk Tryd.prog 12 again_Keys_S :=
  AppOk.specW (spec_ok ((runF_ok tb_M tb_ok again_Keys_Gok (again_Keys_b2) (f := 12) (fn := Tryd.f12) (by kernel_rfl) (by kernel_rfl) again_Keys_st [true, true])) fun v K hw h => (again_Keys_wv K v).mpr (again_Keys_sp v.1 v.2.1 K hw h.1 h.2))

end Go.VE
namespace Go.VE
open Go Go.Proofs
/-! ### quoin/again.Make -/
def again_Make_G : List (Nat × App) := [(15, again_Repeats_S), (38, again_named_S), (39, again_counted_S), (40, again_asks_S), (41, again_odd_S), (42, again_made_S), (17, again_Types_S), (43, bytes_IndexByte_S)]
theorem again_Make_Gok : GOk Tryd.prog (getG again_Make_G) := GOk.cons again_Repeats_ok (GOk.cons again_named_ok (GOk.cons again_counted_ok (GOk.cons again_asks_ok (GOk.cons again_odd_ok (GOk.cons again_made_ok (GOk.cons again_Types_ok (GOk.cons bytes_IndexByte_ok (GOk.nil))))))))
theorem again_Make_st : storesC (bodyOf Tryd.f11) = true := by kernel_rfl
def again_Make_d0 : List LS := [.b 2 16 [], .b 4 32 [], .o 6 53 4294967301 (.int .u8), .c 16 (.st (.pair (.int .u8) (.pair (.int .i64) (.pair (.str) (.pair (.str) (.pair (.int .u8) (.sl (.int .u8)))))))), .c 32 (.st (.pair (.bool) (.pair (.int .u8) (.pair (.int .i64) (.sl (.int .u8))))))]
def again_Make_d0r : List LS := [.b 4 32 [], .v 5 (.int .i64), .c 32 (.st (.pair (.bool) (.pair (.int .u8) (.pair (.int .i64) (.sl (.int .u8))))))]
def again_Make_dx0 : DX := ⟨none, some again_Make_d0r, []⟩
def again_Make_J0 (kr : Int → (Bool × Int × Int × List Int) → Prop) (p6 : List Int) (c2b : CmT) (x4b : (Bool × Int × Int × List Int)) : Prop :=
 bif (decide ((65536 : Int) < (List.length p6 : Int))) then
 kr (1 : Int) (false, (0 : Int), (0 : Int), ([] : List Int))
 else
 kr (0 : Int) (true, c2b.1, c2b.2.1, p6)
theorem again_Make_s0 (k : Ex → St → Prop) (p6 : List Int) (c2b : CmT) (x4b : (Bool × Int × Int × List Int)) :
    ex tb (getG again_Make_G) [] (at' (bodyOf Tryd.f11) [1, 1, 1, 1]) [1, 1, 1, 1] (mkD 68 again_Make_d0 (p6, c2b, x4b, ())) (wk 68 again_Make_dx0 k) =
    again_Make_J0 (fun x5 x4b => wfD again_Make_d0r (x5, x4b, ()) → k .ret (mkD 68 again_Make_d0r (x5, x4b, ()))) p6 c2b x4b := by kernel_rfl
theorem again_Make_v0 (k : Ex → St → Prop) : ∀ v : vals again_Make_d0, ex tb (getG again_Make_G) [] (at' (bodyOf Tryd.f11) [1, 1, 1, 1]) [1, 1, 1, 1] (mkD 68 again_Make_d0 v) (wk 68 again_Make_dx0 k) = again_Make_J0 (fun x5 x4b => wfD again_Make_d0r (x5, x4b, ()) → k .ret (mkD 68 again_Make_d0r (x5, x4b, ()))) v.1 v.2.1 v.2.2.1
  | (p6, c2b, x4b, ()) => again_Make_s0 k p6 c2b x4b
def again_Make_X0 : Pce := fun st k => ckD 68 again_Make_d0 st fun v => wfD again_Make_d0 v → again_Make_J0 (fun x5 x4b => wfD again_Make_d0r (x5, x4b, ()) → k .ret (mkD 68 again_Make_d0r (x5, x4b, ()))) v.1 v.2.1 v.2.2.1
set_option maxRecDepth 20000 in
theorem again_Make_x0 : SemOk Tryd.prog (at' (bodyOf Tryd.f11) [1, 1, 1, 1]) again_Make_X0 :=
  (SemOk.wk (N := 68) (ds := again_Make_d0) (dx := again_Make_dx0) (ex_sound tb_M tb_ok again_Make_Gok (LabsOk.nil) (at' (bodyOf Tryd.f11) [1, 1, 1, 1]) [1, 1, 1, 1] rfl (storesC_at again_Make_st [1, 1, 1, 1]))).mono fun st k h => ckD_mono h fun v hv hw => Eq.mpr (again_Make_v0 k v) (hv hw)
def again_Make_B0 : Labs := ([1, 1, 1, 1], again_Make_X0) :: []
theorem again_Make_b0 : LabsOk Tryd.prog (bodyOf Tryd.f11) again_Make_B0 := LabsOk.cons again_Make_x0 (LabsOk.nil)
def again_Make_raw (c0 : CmT) (typed1 : List Int) (K : Res → List Cell → Prop) : Prop :=
 again_Repeats_P c0 ∧ (
 ∀ (r1 : Bool), r1 = again_Repeats_F c0 → (
 wfR (.one (.v (.bool) r1)) → (
 bif (!r1) then
 K (.tup [.v (.st (.pair (.bool) (.pair (.int .u8) (.pair (.int .i64) (.sl (.int .u8)))))) (false, (0 : Int), (0 : Int), ([] : List Int)), .v (.int .i64) (2 : Int)]) []
 else
 ∀ (r2 : Bool), r2 = again_named_F c0.1 → (
 wfR (.one (.v (.bool) r2)) → (
 bif (!r2) then
 K (.tup [.v (.st (.pair (.bool) (.pair (.int .u8) (.pair (.int .i64) (.sl (.int .u8)))))) (false, (0 : Int), (0 : Int), ([] : List Int)), .v (.int .i64) (2 : Int)]) []
 else
 ∀ (r3 : Bool), r3 = again_counted_F c0.2.1 → (
 wfR (.one (.v (.bool) r3)) → (
 bif (!r3) then
 K (.tup [.v (.st (.pair (.bool) (.pair (.int .u8) (.pair (.int .i64) (.sl (.int .u8)))))) (false, (0 : Int), (0 : Int), ([] : List Int)), .v (.int .i64) (2 : Int)]) []
 else
 ∀ (r4 : Bool), r4 = again_asks_F c0 → (
 wfR (.one (.v (.bool) r4)) → (
 bif r4 then
 again_odd_P c0.2.2.2.2.2 ∧ (
 ∀ (r5 : Bool), r5 = again_odd_F c0.2.2.2.2.2 → (
 wfR (.one (.v (.bool) r5)) → (
 bif r5 then
 K (.tup [.v (.st (.pair (.bool) (.pair (.int .u8) (.pair (.int .i64) (.sl (.int .u8)))))) (false, (0 : Int), (0 : Int), ([] : List Int)), .v (.int .i64) (2 : Int)]) []
 else
 again_made_P c0 ∧ (
 ∀ (r6 : List Int), r6 = again_made_F c0 → (
 wfR (.one (.fr 4294967301 (.int .u8) r6)) → (
 again_Types_P c0 ∧ (
 ∀ (r7 : Bool), r7 = again_Types_F c0 → (
 wfR (.one (.v (.bool) r7)) → (
 bif (!r7) then
 bif (decide ((0 : Int) < (List.length typed1 : Int))) then
 K (.tup [.v (.st (.pair (.bool) (.pair (.int .u8) (.pair (.int .i64) (.sl (.int .u8)))))) (false, (0 : Int), (0 : Int), ([] : List Int)), .v (.int .i64) (2 : Int)]) []
 else
 ∀ (r8 : Int), r8 = bytes_IndexByte_F typed1 (27 : Int) → (
 wfR (.one (.v (.int .i64) r8)) → (
 bif (decide ((0 : Int) ≤ r8)) then
 K (.tup [.v (.st (.pair (.bool) (.pair (.int .u8) (.pair (.int .i64) (.sl (.int .u8)))))) (false, (0 : Int), (0 : Int), ([] : List Int)), .v (.int .i64) (2 : Int)]) []
 else
 again_Types_P c0 ∧ (
 ∀ (r9 : Bool), r9 = again_Types_F c0 → (
 wfR (.one (.v (.bool) r9)) → (
 bif r9 then
 bif decide (List.length r6 + List.length typed1 ≤ lim) then
 bif decide (List.length (r6 ++ typed1) + List.length ([(27 : Int)] : List Int) ≤ lim) then
 (wfD again_Make_d0 (((r6 ++ typed1) ++ ([(27 : Int)] : List Int)), c0, (false, (0 : Int), (0 : Int), ([] : List Int)), ()) → again_Make_J0 (fun (x5 : Int) (x4b : (Bool × Int × Int × List Int)) => wfD again_Make_d0r (x5, x4b, ()) → (
 K (.tup [.v (.st (.pair (.bool) (.pair (.int .u8) (.pair (.int .i64) (.sl (.int .u8)))))) x4b, .v (.int .i64) x5]) [])) ((r6 ++ typed1) ++ ([(27 : Int)] : List Int)) c0 (false, (0 : Int), (0 : Int), ([] : List Int)))
 else False
 else False
 else
 (wfD again_Make_d0 (r6, c0, (false, (0 : Int), (0 : Int), ([] : List Int)), ()) → again_Make_J0 (fun (x5 : Int) (x4b : (Bool × Int × Int × List Int)) => wfD again_Make_d0r (x5, x4b, ()) → (
 K (.tup [.v (.st (.pair (.bool) (.pair (.int .u8) (.pair (.int .i64) (.sl (.int .u8)))))) x4b, .v (.int .i64) x5]) [])) r6 c0 (false, (0 : Int), (0 : Int), ([] : List Int))))))))
 else
 ∀ (r10 : Int), r10 = bytes_IndexByte_F typed1 (27 : Int) → (
 wfR (.one (.v (.int .i64) r10)) → (
 bif (decide ((0 : Int) ≤ r10)) then
 K (.tup [.v (.st (.pair (.bool) (.pair (.int .u8) (.pair (.int .i64) (.sl (.int .u8)))))) (false, (0 : Int), (0 : Int), ([] : List Int)), .v (.int .i64) (2 : Int)]) []
 else
 again_Types_P c0 ∧ (
 ∀ (r11 : Bool), r11 = again_Types_F c0 → (
 wfR (.one (.v (.bool) r11)) → (
 bif r11 then
 bif decide (List.length r6 + List.length typed1 ≤ lim) then
 bif decide (List.length (r6 ++ typed1) + List.length ([(27 : Int)] : List Int) ≤ lim) then
 (wfD again_Make_d0 (((r6 ++ typed1) ++ ([(27 : Int)] : List Int)), c0, (false, (0 : Int), (0 : Int), ([] : List Int)), ()) → again_Make_J0 (fun (x5 : Int) (x4b : (Bool × Int × Int × List Int)) => wfD again_Make_d0r (x5, x4b, ()) → (
 K (.tup [.v (.st (.pair (.bool) (.pair (.int .u8) (.pair (.int .i64) (.sl (.int .u8)))))) x4b, .v (.int .i64) x5]) [])) ((r6 ++ typed1) ++ ([(27 : Int)] : List Int)) c0 (false, (0 : Int), (0 : Int), ([] : List Int)))
 else False
 else False
 else
 (wfD again_Make_d0 (r6, c0, (false, (0 : Int), (0 : Int), ([] : List Int)), ()) → again_Make_J0 (fun (x5 : Int) (x4b : (Bool × Int × Int × List Int)) => wfD again_Make_d0r (x5, x4b, ()) → (
 K (.tup [.v (.st (.pair (.bool) (.pair (.int .u8) (.pair (.int .i64) (.sl (.int .u8)))))) x4b, .v (.int .i64) x5]) [])) r6 c0 (false, (0 : Int), (0 : Int), ([] : List Int)))))))))))))))))
 else
 again_made_P c0 ∧ (
 ∀ (r12 : List Int), r12 = again_made_F c0 → (
 wfR (.one (.fr 4294967301 (.int .u8) r12)) → (
 again_Types_P c0 ∧ (
 ∀ (r13 : Bool), r13 = again_Types_F c0 → (
 wfR (.one (.v (.bool) r13)) → (
 bif (!r13) then
 bif (decide ((0 : Int) < (List.length typed1 : Int))) then
 K (.tup [.v (.st (.pair (.bool) (.pair (.int .u8) (.pair (.int .i64) (.sl (.int .u8)))))) (false, (0 : Int), (0 : Int), ([] : List Int)), .v (.int .i64) (2 : Int)]) []
 else
 ∀ (r14 : Int), r14 = bytes_IndexByte_F typed1 (27 : Int) → (
 wfR (.one (.v (.int .i64) r14)) → (
 bif (decide ((0 : Int) ≤ r14)) then
 K (.tup [.v (.st (.pair (.bool) (.pair (.int .u8) (.pair (.int .i64) (.sl (.int .u8)))))) (false, (0 : Int), (0 : Int), ([] : List Int)), .v (.int .i64) (2 : Int)]) []
 else
 again_Types_P c0 ∧ (
 ∀ (r15 : Bool), r15 = again_Types_F c0 → (
 wfR (.one (.v (.bool) r15)) → (
 bif r15 then
 bif decide (List.length r12 + List.length typed1 ≤ lim) then
 bif decide (List.length (r12 ++ typed1) + List.length ([(27 : Int)] : List Int) ≤ lim) then
 (wfD again_Make_d0 (((r12 ++ typed1) ++ ([(27 : Int)] : List Int)), c0, (false, (0 : Int), (0 : Int), ([] : List Int)), ()) → again_Make_J0 (fun (x5 : Int) (x4b : (Bool × Int × Int × List Int)) => wfD again_Make_d0r (x5, x4b, ()) → (
 K (.tup [.v (.st (.pair (.bool) (.pair (.int .u8) (.pair (.int .i64) (.sl (.int .u8)))))) x4b, .v (.int .i64) x5]) [])) ((r12 ++ typed1) ++ ([(27 : Int)] : List Int)) c0 (false, (0 : Int), (0 : Int), ([] : List Int)))
 else False
 else False
 else
 (wfD again_Make_d0 (r12, c0, (false, (0 : Int), (0 : Int), ([] : List Int)), ()) → again_Make_J0 (fun (x5 : Int) (x4b : (Bool × Int × Int × List Int)) => wfD again_Make_d0r (x5, x4b, ()) → (
 K (.tup [.v (.st (.pair (.bool) (.pair (.int .u8) (.pair (.int .i64) (.sl (.int .u8)))))) x4b, .v (.int .i64) x5]) [])) r12 c0 (false, (0 : Int), (0 : Int), ([] : List Int))))))))
 else
 ∀ (r16 : Int), r16 = bytes_IndexByte_F typed1 (27 : Int) → (
 wfR (.one (.v (.int .i64) r16)) → (
 bif (decide ((0 : Int) ≤ r16)) then
 K (.tup [.v (.st (.pair (.bool) (.pair (.int .u8) (.pair (.int .i64) (.sl (.int .u8)))))) (false, (0 : Int), (0 : Int), ([] : List Int)), .v (.int .i64) (2 : Int)]) []
 else
 again_Types_P c0 ∧ (
 ∀ (r17 : Bool), r17 = again_Types_F c0 → (
 wfR (.one (.v (.bool) r17)) → (
 bif r17 then
 bif decide (List.length r12 + List.length typed1 ≤ lim) then
 bif decide (List.length (r12 ++ typed1) + List.length ([(27 : Int)] : List Int) ≤ lim) then
 (wfD again_Make_d0 (((r12 ++ typed1) ++ ([(27 : Int)] : List Int)), c0, (false, (0 : Int), (0 : Int), ([] : List Int)), ()) → again_Make_J0 (fun (x5 : Int) (x4b : (Bool × Int × Int × List Int)) => wfD again_Make_d0r (x5, x4b, ()) → (
 K (.tup [.v (.st (.pair (.bool) (.pair (.int .u8) (.pair (.int .i64) (.sl (.int .u8)))))) x4b, .v (.int .i64) x5]) [])) ((r12 ++ typed1) ++ ([(27 : Int)] : List Int)) c0 (false, (0 : Int), (0 : Int), ([] : List Int)))
 else False
 else False
 else
 (wfD again_Make_d0 (r12, c0, (false, (0 : Int), (0 : Int), ([] : List Int)), ()) → again_Make_J0 (fun (x5 : Int) (x4b : (Bool × Int × Int × List Int)) => wfD again_Make_d0r (x5, x4b, ()) → (
 K (.tup [.v (.st (.pair (.bool) (.pair (.int .u8) (.pair (.int .i64) (.sl (.int .u8)))))) x4b, .v (.int .i64) x5]) [])) r12 c0 (false, (0 : Int), (0 : Int), ([] : List Int)))))))))))))))))))))))
def again_Make_A : List AS := [.v (.st (.pair (.int .u8) (.pair (.int .i64) (.pair (.str) (.pair (.str) (.pair (.int .u8) (.sl (.int .u8)))))))), .v (.sl (.int .u8))]
theorem again_Make_walk (c0 : CmT) (typed1 : List Int) (K : Res → List Cell → Prop) : runF tb (getG again_Make_G) again_Make_B0 Tryd.f11 [true, true] (mkA again_Make_A (c0, typed1, ())) K = again_Make_raw c0 typed1 K := by kernel_rfl

def again_Make_J0_F (p6 : List Int) (c2b : CmT) (x4b : (Bool × Int × Int × List Int)) : Int × (Bool × Int × Int × List Int) :=
 bif (decide ((65536 : Int) < (List.length p6 : Int))) then
 ((1 : Int), (false, (0 : Int), (0 : Int), ([] : List Int)))
 else
 ((0 : Int), (true, c2b.1, c2b.2.1, p6))
set_option maxRecDepth 20000 in
theorem again_Make_J0_sp (kr : Int → (Bool × Int × Int × List Int) → Prop) (p6 : List Int) (c2b : CmT) (x4b : (Bool × Int × Int × List Int)) (hr : ∀ q : Int × (Bool × Int × Int × List Int), q = again_Make_J0_F p6 c2b x4b → kr q.1 q.2) : again_Make_J0 kr p6 c2b x4b := by
  unfold again_Make_J0
  refine brb (fun c_1 => ?_) (fun c_1 => ?_)
  ·
    have e := hr _ ((ctrue c_1) : again_Make_J0_F p6 c2b x4b = _).symm
    exact e
  ·
    have e := hr _ ((cfalse c_1) : again_Make_J0_F p6 c2b x4b = _).symm
    exact e
def again_Make_P (c0 : CmT) (typed1 : List Int) : Prop :=
 again_Repeats_P c0 ∧ (
 let r1 : Bool := again_Repeats_F c0
 bif (!r1) then
 True
 else
 let r2 : Bool := again_named_F c0.1
 bif (!r2) then
 True
 else
 let r3 : Bool := again_counted_F c0.2.1
 bif (!r3) then
 True
 else
 let r4 : Bool := again_asks_F c0
 bif r4 then
 again_odd_P c0.2.2.2.2.2 ∧ (
 let r5 : Bool := again_odd_F c0.2.2.2.2.2
 bif r5 then
 True
 else
 again_made_P c0 ∧ (
 let r6 : List Int := again_made_F c0
 again_Types_P c0 ∧ (
 let r7 : Bool := again_Types_F c0
 bif (!r7) then
 bif (decide ((0 : Int) < (List.length typed1 : Int))) then
 True
 else
 let r8 : Int := bytes_IndexByte_F typed1 (27 : Int)
 bif (decide ((0 : Int) ≤ r8)) then
 True
 else
 again_Types_P c0 ∧ (
 let r9 : Bool := again_Types_F c0
 bif r9 then
 (List.length r6 + List.length typed1 ≤ lim) ∧ (
 (List.length (r6 ++ typed1) + List.length ([(27 : Int)] : List Int) ≤ lim))
 else
 True)
 else
 let r10 : Int := bytes_IndexByte_F typed1 (27 : Int)
 bif (decide ((0 : Int) ≤ r10)) then
 True
 else
 again_Types_P c0 ∧ (
 let r11 : Bool := again_Types_F c0
 bif r11 then
 (List.length r6 + List.length typed1 ≤ lim) ∧ (
 (List.length (r6 ++ typed1) + List.length ([(27 : Int)] : List Int) ≤ lim))
 else
 True))))
 else
 again_made_P c0 ∧ (
 let r12 : List Int := again_made_F c0
 again_Types_P c0 ∧ (
 let r13 : Bool := again_Types_F c0
 bif (!r13) then
 bif (decide ((0 : Int) < (List.length typed1 : Int))) then
 True
 else
 let r14 : Int := bytes_IndexByte_F typed1 (27 : Int)
 bif (decide ((0 : Int) ≤ r14)) then
 True
 else
 again_Types_P c0 ∧ (
 let r15 : Bool := again_Types_F c0
 bif r15 then
 (List.length r12 + List.length typed1 ≤ lim) ∧ (
 (List.length (r12 ++ typed1) + List.length ([(27 : Int)] : List Int) ≤ lim))
 else
 True)
 else
 let r16 : Int := bytes_IndexByte_F typed1 (27 : Int)
 bif (decide ((0 : Int) ≤ r16)) then
 True
 else
 again_Types_P c0 ∧ (
 let r17 : Bool := again_Types_F c0
 bif r17 then
 (List.length r12 + List.length typed1 ≤ lim) ∧ (
 (List.length (r12 ++ typed1) + List.length ([(27 : Int)] : List Int) ≤ lim))
 else
 True))))
def again_Make_F (c0 : CmT) (typed1 : List Int) : (Bool × Int × Int × List Int) × Int :=
 let r1 : Bool := again_Repeats_F c0
 bif (!r1) then
 ((false, (0 : Int), (0 : Int), ([] : List Int)), (2 : Int))
 else
 let r2 : Bool := again_named_F c0.1
 bif (!r2) then
 ((false, (0 : Int), (0 : Int), ([] : List Int)), (2 : Int))
 else
 let r3 : Bool := again_counted_F c0.2.1
 bif (!r3) then
 ((false, (0 : Int), (0 : Int), ([] : List Int)), (2 : Int))
 else
 let r4 : Bool := again_asks_F c0
 bif r4 then
 let r5 : Bool := again_odd_F c0.2.2.2.2.2
 bif r5 then
 ((false, (0 : Int), (0 : Int), ([] : List Int)), (2 : Int))
 else
 let r6 : List Int := again_made_F c0
 let r7 : Bool := again_Types_F c0
 bif (!r7) then
 bif (decide ((0 : Int) < (List.length typed1 : Int))) then
 ((false, (0 : Int), (0 : Int), ([] : List Int)), (2 : Int))
 else
 let r8 : Int := bytes_IndexByte_F typed1 (27 : Int)
 bif (decide ((0 : Int) ≤ r8)) then
 ((false, (0 : Int), (0 : Int), ([] : List Int)), (2 : Int))
 else
 let r9 : Bool := again_Types_F c0
 bif r9 then
 let q0r : Int × (Bool × Int × Int × List Int) := again_Make_J0_F ((r6 ++ typed1) ++ ([(27 : Int)] : List Int)) c0 (false, (0 : Int), (0 : Int), ([] : List Int))
 let x5 : Int := q0r.1
 let x4b : (Bool × Int × Int × List Int) := q0r.2
 (x4b, x5)
 else
 let q0r : Int × (Bool × Int × Int × List Int) := again_Make_J0_F r6 c0 (false, (0 : Int), (0 : Int), ([] : List Int))
 let x5 : Int := q0r.1
 let x4b : (Bool × Int × Int × List Int) := q0r.2
 (x4b, x5)
 else
 let r10 : Int := bytes_IndexByte_F typed1 (27 : Int)
 bif (decide ((0 : Int) ≤ r10)) then
 ((false, (0 : Int), (0 : Int), ([] : List Int)), (2 : Int))
 else
 let r11 : Bool := again_Types_F c0
 bif r11 then
 let q0r : Int × (Bool × Int × Int × List Int) := again_Make_J0_F ((r6 ++ typed1) ++ ([(27 : Int)] : List Int)) c0 (false, (0 : Int), (0 : Int), ([] : List Int))
 let x5 : Int := q0r.1
 let x4b : (Bool × Int × Int × List Int) := q0r.2
 (x4b, x5)
 else
 let q0r : Int × (Bool × Int × Int × List Int) := again_Make_J0_F r6 c0 (false, (0 : Int), (0 : Int), ([] : List Int))
 let x5 : Int := q0r.1
 let x4b : (Bool × Int × Int × List Int) := q0r.2
 (x4b, x5)
 else
 let r12 : List Int := again_made_F c0
 let r13 : Bool := again_Types_F c0
 bif (!r13) then
 bif (decide ((0 : Int) < (List.length typed1 : Int))) then
 ((false, (0 : Int), (0 : Int), ([] : List Int)), (2 : Int))
 else
 let r14 : Int := bytes_IndexByte_F typed1 (27 : Int)
 bif (decide ((0 : Int) ≤ r14)) then
 ((false, (0 : Int), (0 : Int), ([] : List Int)), (2 : Int))
 else
 let r15 : Bool := again_Types_F c0
 bif r15 then
 let q0r : Int × (Bool × Int × Int × List Int) := again_Make_J0_F ((r12 ++ typed1) ++ ([(27 : Int)] : List Int)) c0 (false, (0 : Int), (0 : Int), ([] : List Int))
 let x5 : Int := q0r.1
 let x4b : (Bool × Int × Int × List Int) := q0r.2
 (x4b, x5)
 else
 let q0r : Int × (Bool × Int × Int × List Int) := again_Make_J0_F r12 c0 (false, (0 : Int), (0 : Int), ([] : List Int))
 let x5 : Int := q0r.1
 let x4b : (Bool × Int × Int × List Int) := q0r.2
 (x4b, x5)
 else
 let r16 : Int := bytes_IndexByte_F typed1 (27 : Int)
 bif (decide ((0 : Int) ≤ r16)) then
 ((false, (0 : Int), (0 : Int), ([] : List Int)), (2 : Int))
 else
 let r17 : Bool := again_Types_F c0
 bif r17 then
 let q0r : Int × (Bool × Int × Int × List Int) := again_Make_J0_F ((r12 ++ typed1) ++ ([(27 : Int)] : List Int)) c0 (false, (0 : Int), (0 : Int), ([] : List Int))
 let x5 : Int := q0r.1
 let x4b : (Bool × Int × Int × List Int) := q0r.2
 (x4b, x5)
 else
 let q0r : Int × (Bool × Int × Int × List Int) := again_Make_J0_F r12 c0 (false, (0 : Int), (0 : Int), ([] : List Int))
 let x5 : Int := q0r.1
 let x4b : (Bool × Int × Int × List Int) := q0r.2
 (x4b, x5)
set_option maxRecDepth 20000 in
theorem again_Make_sp (c0 : CmT) (typed1 : List Int) (K : Res → List Cell → Prop) (_ : wfA again_Make_A (c0, typed1, ())) (hp : again_Make_P c0 typed1) (h : ∀ r : (Bool × Int × Int × List Int) × Int, r = again_Make_F c0 typed1 → K (.tup [.v (.st (.pair (.bool) (.pair (.int .u8) (.pair (.int .i64) (.sl (.int .u8)))))) r.1, .v (.int .i64) r.2]) []) : again_Make_raw c0 typed1 K := by
  unfold again_Make_raw
  unfold again_Make_P at hp
  refine ⟨hp.1, ?_⟩
  replace hp := hp.2
  intro r1 hr1
  subst hr1
  intro _
  refine brb (fun c_2 => ?_) (fun c_2 => ?_)
  ·
    clear hp
    have e := h _ ((ctrue c_2) : again_Make_F c0 typed1 = _).symm
    exact e
  ·
    replace hp := cF c_2 hp
    intro r2 hr2
    subst hr2
    intro _
    refine brb (fun c_3 => ?_) (fun c_3 => ?_)
    ·
      clear hp
      have e := h _ ((Eq.trans (cfalse c_2) (ctrue c_3)) : again_Make_F c0 typed1 = _).symm
      exact e
    ·
      replace hp := cF c_3 hp
      intro r3 hr3
      subst hr3
      intro _
      refine brb (fun c_4 => ?_) (fun c_4 => ?_)
      ·
        clear hp
        have e := h _ ((Eq.trans (cfalse c_2) (Eq.trans (cfalse c_3) (ctrue c_4))) : again_Make_F c0 typed1 = _).symm
        exact e
      ·
        replace hp := cF c_4 hp
        intro r4 hr4
        subst hr4
        intro _
        refine brb (fun c_5 => ?_) (fun c_5 => ?_)
        ·
          replace hp := cT c_5 hp
          refine ⟨hp.1, ?_⟩
          replace hp := hp.2
          intro r5 hr5
          subst hr5
          intro _
          refine brb (fun c_6 => ?_) (fun c_6 => ?_)
          ·
            clear hp
            have e := h _ ((Eq.trans (cfalse c_2) (Eq.trans (cfalse c_3) (Eq.trans (cfalse c_4) (Eq.trans (ctrue c_5) (ctrue c_6))))) : again_Make_F c0 typed1 = _).symm
            exact e
          ·
            replace hp := cF c_6 hp
            refine ⟨hp.1, ?_⟩
            replace hp := hp.2
            intro r6 hr6
            subst hr6
            intro _
            refine ⟨hp.1, ?_⟩
            replace hp := hp.2
            intro r7 hr7
            subst hr7
            intro _
            refine brb (fun c_7 => ?_) (fun c_7 => ?_)
            ·
              replace hp := cT c_7 hp
              refine brb (fun c_8 => ?_) (fun c_8 => ?_)
              ·
                clear hp
                have e := h _ ((Eq.trans (cfalse c_2) (Eq.trans (cfalse c_3) (Eq.trans (cfalse c_4) (Eq.trans (ctrue c_5) (Eq.trans (cfalse c_6) (Eq.trans (ctrue c_7) (ctrue c_8))))))) : again_Make_F c0 typed1 = _).symm
                exact e
              ·
                replace hp := cF c_8 hp
                intro r8 hr8
                subst hr8
                intro _
                refine brb (fun c_9 => ?_) (fun c_9 => ?_)
                ·
                  clear hp
                  have e := h _ ((Eq.trans (cfalse c_2) (Eq.trans (cfalse c_3) (Eq.trans (cfalse c_4) (Eq.trans (ctrue c_5) (Eq.trans (cfalse c_6) (Eq.trans (ctrue c_7) (Eq.trans (cfalse c_8) (ctrue c_9)))))))) : again_Make_F c0 typed1 = _).symm
                  exact e
                ·
                  replace hp := cF c_9 hp
                  refine ⟨hp.1, ?_⟩
                  replace hp := hp.2
                  intro r9 hr9
                  subst hr9
                  intro _
                  refine brb (fun c_10 => ?_) (fun c_10 => ?_)
                  ·
                    replace hp := cT c_10 hp
                    refine asrt hp.1 ?_
                    replace hp := hp.2
                    refine asrt hp ?_
                    refine fun _ => again_Make_J0_sp _ _ _ _ (fun q hq => ?_)
                    subst hq
                    intro _
                    have e := h _ ((Eq.trans (cfalse c_2) (Eq.trans (cfalse c_3) (Eq.trans (cfalse c_4) (Eq.trans (ctrue c_5) (Eq.trans (cfalse c_6) (Eq.trans (ctrue c_7) (Eq.trans (cfalse c_8) (Eq.trans (cfalse c_9) (ctrue c_10))))))))) : again_Make_F c0 typed1 = _).symm
                    exact e
                  ·
                    clear hp
                    refine fun _ => again_Make_J0_sp _ _ _ _ (fun q hq => ?_)
                    subst hq
                    intro _
                    have e := h _ ((Eq.trans (cfalse c_2) (Eq.trans (cfalse c_3) (Eq.trans (cfalse c_4) (Eq.trans (ctrue c_5) (Eq.trans (cfalse c_6) (Eq.trans (ctrue c_7) (Eq.trans (cfalse c_8) (Eq.trans (cfalse c_9) (cfalse c_10))))))))) : again_Make_F c0 typed1 = _).symm
                    exact e
            ·
              replace hp := cF c_7 hp
              intro r10 hr10
              subst hr10
              intro _
              refine brb (fun c_11 => ?_) (fun c_11 => ?_)
              ·
                clear hp
                have e := h _ ((Eq.trans (cfalse c_2) (Eq.trans (cfalse c_3) (Eq.trans (cfalse c_4) (Eq.trans (ctrue c_5) (Eq.trans (cfalse c_6) (Eq.trans (cfalse c_7) (ctrue c_11))))))) : again_Make_F c0 typed1 = _).symm
                exact e
              ·
                replace hp := cF c_11 hp
                refine ⟨hp.1, ?_⟩
                replace hp := hp.2
                intro r11 hr11
                subst hr11
                intro _
                refine brb (fun c_12 => ?_) (fun c_12 => ?_)
                ·
                  replace hp := cT c_12 hp
                  refine asrt hp.1 ?_
                  replace hp := hp.2
                  refine asrt hp ?_
                  refine fun _ => again_Make_J0_sp _ _ _ _ (fun q hq => ?_)
                  subst hq
                  intro _
                  have e := h _ ((Eq.trans (cfalse c_2) (Eq.trans (cfalse c_3) (Eq.trans (cfalse c_4) (Eq.trans (ctrue c_5) (Eq.trans (cfalse c_6) (Eq.trans (cfalse c_7) (Eq.trans (cfalse c_11) (ctrue c_12)))))))) : again_Make_F c0 typed1 = _).symm
                  exact e
                ·
                  clear hp
                  refine fun _ => again_Make_J0_sp _ _ _ _ (fun q hq => ?_)
                  subst hq
                  intro _
                  have e := h _ ((Eq.trans (cfalse c_2) (Eq.trans (cfalse c_3) (Eq.trans (cfalse c_4) (Eq.trans (ctrue c_5) (Eq.trans (cfalse c_6) (Eq.trans (cfalse c_7) (Eq.trans (cfalse c_11) (cfalse c_12)))))))) : again_Make_F c0 typed1 = _).symm
                  exact e
        ·
          replace hp := cF c_5 hp
          refine ⟨hp.1, ?_⟩
          replace hp := hp.2
          intro r12 hr12
          subst hr12
          intro _
          refine ⟨hp.1, ?_⟩
          replace hp := hp.2
          intro r13 hr13
          subst hr13
          intro _
          refine brb (fun c_13 => ?_) (fun c_13 => ?_)
          ·
            replace hp := cT c_13 hp
            refine brb (fun c_14 => ?_) (fun c_14 => ?_)
            ·
              clear hp
              have e := h _ ((Eq.trans (cfalse c_2) (Eq.trans (cfalse c_3) (Eq.trans (cfalse c_4) (Eq.trans (cfalse c_5) (Eq.trans (ctrue c_13) (ctrue c_14)))))) : again_Make_F c0 typed1 = _).symm
              exact e
            ·
              replace hp := cF c_14 hp
              intro r14 hr14
              subst hr14
              intro _
              refine brb (fun c_15 => ?_) (fun c_15 => ?_)
              ·
                clear hp
                have e := h _ ((Eq.trans (cfalse c_2) (Eq.trans (cfalse c_3) (Eq.trans (cfalse c_4) (Eq.trans (cfalse c_5) (Eq.trans (ctrue c_13) (Eq.trans (cfalse c_14) (ctrue c_15))))))) : again_Make_F c0 typed1 = _).symm
                exact e
              ·
                replace hp := cF c_15 hp
                refine ⟨hp.1, ?_⟩
                replace hp := hp.2
                intro r15 hr15
                subst hr15
                intro _
                refine brb (fun c_16 => ?_) (fun c_16 => ?_)
                ·
                  replace hp := cT c_16 hp
                  refine asrt hp.1 ?_
                  replace hp := hp.2
                  refine asrt hp ?_
                  refine fun _ => again_Make_J0_sp _ _ _ _ (fun q hq => ?_)
                  subst hq
                  intro _
                  have e := h _ ((Eq.trans (cfalse c_2) (Eq.trans (cfalse c_3) (Eq.trans (cfalse c_4) (Eq.trans (cfalse c_5) (Eq.trans (ctrue c_13) (Eq.trans (cfalse c_14) (Eq.trans (cfalse c_15) (ctrue c_16)))))))) : again_Make_F c0 typed1 = _).symm
                  exact e
                ·
                  clear hp
                  refine fun _ => again_Make_J0_sp _ _ _ _ (fun q hq => ?_)
                  subst hq
                  intro _
                  have e := h _ ((Eq.trans (cfalse c_2) (Eq.trans (cfalse c_3) (Eq.trans (cfalse c_4) (Eq.trans (cfalse c_5) (Eq.trans (ctrue c_13) (Eq.trans (cfalse c_14) (Eq.trans (cfalse c_15) (cfalse c_16)))))))) : again_Make_F c0 typed1 = _).symm
                  exact e
          ·
            replace hp := cF c_13 hp
            intro r16 hr16
            subst hr16
            intro _
            refine brb (fun c_17 => ?_) (fun c_17 => ?_)
            ·
              clear hp
              have e := h _ ((Eq.trans (cfalse c_2) (Eq.trans (cfalse c_3) (Eq.trans (cfalse c_4) (Eq.trans (cfalse c_5) (Eq.trans (cfalse c_13) (ctrue c_17)))))) : again_Make_F c0 typed1 = _).symm
              exact e
            ·
              replace hp := cF c_17 hp
              refine ⟨hp.1, ?_⟩
              replace hp := hp.2
              intro r17 hr17
              subst hr17
              intro _
              refine brb (fun c_18 => ?_) (fun c_18 => ?_)
              ·
                replace hp := cT c_18 hp
                refine asrt hp.1 ?_
                replace hp := hp.2
                refine asrt hp ?_
                refine fun _ => again_Make_J0_sp _ _ _ _ (fun q hq => ?_)
                subst hq
                intro _
                have e := h _ ((Eq.trans (cfalse c_2) (Eq.trans (cfalse c_3) (Eq.trans (cfalse c_4) (Eq.trans (cfalse c_5) (Eq.trans (cfalse c_13) (Eq.trans (cfalse c_17) (ctrue c_18))))))) : again_Make_F c0 typed1 = _).symm
                exact e
              ·
                clear hp
                refine fun _ => again_Make_J0_sp _ _ _ _ (fun q hq => ?_)
                subst hq
                intro _
                have e := h _ ((Eq.trans (cfalse c_2) (Eq.trans (cfalse c_3) (Eq.trans (cfalse c_4) (Eq.trans (cfalse c_5) (Eq.trans (cfalse c_13) (Eq.trans (cfalse c_17) (cfalse c_18))))))) : again_Make_F c0 typed1 = _).symm
                exact e
def again_Make_C (v : valsA again_Make_A) (K : Res → List Cell → Prop) : Prop := again_Make_P v.1 v.2.1 ∧ ∀ r : (Bool × Int × Int × List Int) × Int, r = again_Make_F v.1 v.2.1 → K (.tup [.v (.st (.pair (.bool) (.pair (.int .u8) (.pair (.int .i64) (.sl (.int .u8)))))) r.1, .v (.int .i64) r.2]) []
def again_Make_S : App := specW again_Make_A again_Make_C
theorem again_Make_wv (K : Res → List Cell → Prop) : ∀ v : valsA again_Make_A, runF tb (getG again_Make_G) again_Make_B0 Tryd.f11 [true, true] (mkA again_Make_A v) K = again_Make_raw v.1 v.2.1 K
  | (c0, typed1, ()) => again_Make_walk c0 typed1 K
set_option maxRecDepth 20000 in
theorem again_Make_ok : AppOk Tryd.prog 11 again_Make_S :=
  AppOk.specW (spec_ok ((runF_ok tb_M tb_ok again_Make_Gok (again_Make_b0) (f := 11) (fn := Tryd.f11) (by kernel_rfl) (by kernel_rfl) again_Make_st [true, true])) fun v K hw h => (again_Make_wv K v).mpr (again_Make_sp v.1 v.2.1 K hw h.1 h.2))

end Go.VE
namespace Go.VE
open Go Go.Proofs
/-! ### quoin/quoinlaw22.read -/
def qa_read_G : List (Nat × App) := [(47, keys_Parse_S)]
theorem qa_read_Gok : GOk Tryd.prog (getG qa_read_G) := GOk.cons keys_Parse_ok (GOk.nil)
theorem qa_read_st : storesC (bodyOf Tryd.f14) = true := by kernel_rfl
def qa_read_d0 : List LS := [.v 0 (.sl (.int .u8)), .b 2 16 [], .v 5 (.int .i64), .b 6 48 [], .v 8 (.int .i64), .c 16 (.st (.pair (.int .u8) (.pair (.int .i64) (.pair (.str) (.pair (.str) (.pair (.int .u8) (.sl (.int .u8)))))))), .c 48 (.st (.pair (.int .u8) (.pair (.int .i64) (.pair (.str) (.pair (.str) (.pair (.int .u8) (.sl (.int .u8))))))))]
def qa_read_d0r : List LS := [.b 2 16 [], .v 3 (.int .i64), .v 4 (.bool), .c 16 (.st (.pair (.int .u8) (.pair (.int .i64) (.pair (.str) (.pair (.str) (.pair (.int .u8) (.sl (.int .u8))))))))]
def qa_read_d0x2 : List LS := [.b 2 16 [], .c 16 (.st (.pair (.int .u8) (.pair (.int .i64) (.pair (.str) (.pair (.str) (.pair (.int .u8) (.sl (.int .u8))))))))]
def qa_read_dx0 : DX := ⟨none, some qa_read_d0r, [(2, qa_read_d0x2)]⟩
def qa_read_T0 (Y : List Int → Int → Int → CmT → CmT → Prop) (kr : Int → Bool → CmT → Prop) (kx2 : CmT → Prop) (p0 : List Int) (k5 : Int) (n8 : Int) (x2b : CmT) (c6b : CmT) : Prop :=
 bif (decide (n8 < (List.length p0 : Int))) then
 bif decide (0 ≤ n8 ∧ n8 < (List.length p0 : Int)) then
 bif (decide ((rd (0 : Int) p0 n8) = (13 : Int))) then
 bif decide (0 ≤ k5 ∧ k5 ≤ n8 ∧ n8 ≤ (List.length p0 : Int)) then
 bif decide (List.length ([] : List Int) + List.length (slc p0 k5 n8) ≤ lim) then
 kr (IntKind.wrap .i64 (n8 + (1 : Int))) true (c6b.1, c6b.2.1, c6b.2.2.1, c6b.2.2.2.1, c6b.2.2.2.2.1, (([] : List Int) ++ (slc p0 k5 n8)))
 else False
 else False
 else
 Y p0 k5 (IntKind.wrap .i64 (n8 + (1 : Int))) x2b c6b
 else False
 else
 kx2 x2b
def qa_read_L0 (kr : Int → Bool → CmT → Prop) (kx2 : CmT → Prop) : Nat → List Int → Int → Int → CmT → CmT → Prop
  | 0, _, _, _, _, _ => False
  | n + 1, p0, k5, n8, x2b, c6b => wfD qa_read_d0 (p0, k5, n8, x2b, c6b, ()) → qa_read_T0 (qa_read_L0 kr kx2 n) kr kx2 p0 k5 n8 x2b c6b
theorem qa_read_s0 (k : Ex → St → Prop) (Y : vals qa_read_d0 → Prop) (p0 : List Int) (k5 : Int) (n8 : Int) (x2b : CmT) (c6b : CmT) :
    ex tb (getG qa_read_G) [] (at' (bodyOf Tryd.f14) [0, 0, 1, 0, 1, 1, 1, 0, 0, 1, 0, 0, 1, 0, 1]) [0, 0, 1, 0, 1, 1, 1, 0, 0, 1, 0, 0, 1, 0, 1] (mkD 58 qa_read_d0 (p0, k5, n8, x2b, c6b, ())) (lpK 58 qa_read_d0 qa_read_dx0 k Y) =
    qa_read_T0 (fun p0 k5 n8 x2b c6b => Y (p0, k5, n8, x2b, c6b, ())) (fun x3 x4 x2b => wfD qa_read_d0r (x3, x4, x2b, ()) → k .ret (mkD 58 qa_read_d0r (x3, x4, x2b, ()))) (fun x2b => wfD qa_read_d0x2 (x2b, ()) → k (.exit 2) (mkD 58 qa_read_d0x2 (x2b, ()))) p0 k5 n8 x2b c6b := by kernel_rfl
theorem qa_read_e0 (k : Ex → St → Prop) : ∀ (n : Nat) (p0 : List Int) (k5 : Int) (n8 : Int) (x2b : CmT) (c6b : CmT), lpD 58 qa_read_d0 qa_read_dx0 (ex tb (getG qa_read_G) [] (at' (bodyOf Tryd.f14) [0, 0, 1, 0, 1, 1, 1, 0, 0, 1, 0, 0, 1, 0, 1]) [0, 0, 1, 0, 1, 1, 1, 0, 0, 1, 0, 0, 1, 0, 1]) k n (p0, k5, n8, x2b, c6b, ()) = qa_read_L0 (fun x3 x4 x2b => wfD qa_read_d0r (x3, x4, x2b, ()) → k .ret (mkD 58 qa_read_d0r (x3, x4, x2b, ()))) (fun x2b => wfD qa_read_d0x2 (x2b, ()) → k (.exit 2) (mkD 58 qa_read_d0x2 (x2b, ()))) n p0 k5 n8 x2b c6b
  | 0, _, _, _, _, _ => rfl
  | n + 1, p0, k5, n8, x2b, c6b => congrArg (fun Z : Prop => wfD qa_read_d0 (p0, k5, n8, x2b, c6b, ()) → Z) ((qa_read_s0 k (lpD 58 qa_read_d0 qa_read_dx0 (ex tb (getG qa_read_G) [] (at' (bodyOf Tryd.f14) [0, 0, 1, 0, 1, 1, 1, 0, 0, 1, 0, 0, 1, 0, 1]) [0, 0, 1, 0, 1, 1, 1, 0, 0, 1, 0, 0, 1, 0, 1]) k n) p0 k5 n8 x2b c6b).trans (congrArg (fun Y => qa_read_T0 Y (fun x3 x4 x2b => wfD qa_read_d0r (x3, x4, x2b, ()) → k .ret (mkD 58 qa_read_d0r (x3, x4, x2b, ()))) (fun x2b => wfD qa_read_d0x2 (x2b, ()) → k (.exit 2) (mkD 58 qa_read_d0x2 (x2b, ()))) p0 k5 n8 x2b c6b) (funext fun p0 => funext fun k5 => funext fun n8 => funext fun x2b => funext fun c6b => qa_read_e0 k n p0 k5 n8 x2b c6b)))
theorem qa_read_v0 (k : Ex → St → Prop) (n : Nat) : ∀ v : vals qa_read_d0, lpD 58 qa_read_d0 qa_read_dx0 (ex tb (getG qa_read_G) [] (at' (bodyOf Tryd.f14) [0, 0, 1, 0, 1, 1, 1, 0, 0, 1, 0, 0, 1, 0, 1]) [0, 0, 1, 0, 1, 1, 1, 0, 0, 1, 0, 0, 1, 0, 1]) k n v = qa_read_L0 (fun x3 x4 x2b => wfD qa_read_d0r (x3, x4, x2b, ()) → k .ret (mkD 58 qa_read_d0r (x3, x4, x2b, ()))) (fun x2b => wfD qa_read_d0x2 (x2b, ()) → k (.exit 2) (mkD 58 qa_read_d0x2 (x2b, ()))) n v.1 v.2.1 v.2.2.1 v.2.2.2.1 v.2.2.2.2.1
  | (p0, k5, n8, x2b, c6b, ()) => qa_read_e0 k n p0 k5 n8 x2b c6b
def qa_read_X0 : Pce := fun st k => ckD 58 qa_read_d0 st fun v => wfD qa_read_d0 v → ∃ n, qa_read_L0 (fun x3 x4 x2b => wfD qa_read_d0r (x3, x4, x2b, ()) → k .ret (mkD 58 qa_read_d0r (x3, x4, x2b, ()))) (fun x2b => wfD qa_read_d0x2 (x2b, ()) → k (.exit 2) (mkD 58 qa_read_d0x2 (x2b, ()))) n v.1 v.2.1 v.2.2.1 v.2.2.2.1 v.2.2.2.2.1
set_option maxRecDepth 20000 in
theorem qa_read_x0 : SemOk Tryd.prog (at' (bodyOf Tryd.f14) [0, 1, 0, 1, 1, 1, 0, 0, 1, 0, 0, 1, 0, 1]) qa_read_X0 :=
  (SemOk.loop (ex_sound tb_M tb_ok qa_read_Gok (LabsOk.nil) (at' (bodyOf Tryd.f14) [0, 0, 1, 0, 1, 1, 1, 0, 0, 1, 0, 0, 1, 0, 1]) [0, 0, 1, 0, 1, 1, 1, 0, 0, 1, 0, 0, 1, 0, 1] rfl (storesC_at qa_read_st [0, 0, 1, 0, 1, 1, 1, 0, 0, 1, 0, 0, 1, 0, 1])) 58 qa_read_d0 qa_read_dx0).mono fun st k h => ckD_mono h fun v hv hw => (hv hw).elim fun n hn => ⟨n, Eq.mpr (qa_read_v0 k n v) hn⟩
def qa_read_B0 : Labs := ([0, 1, 0, 1, 1, 1, 0, 0, 1, 0, 0, 1, 0, 1], qa_read_X0) :: []
theorem qa_read_b0 : LabsOk Tryd.prog (bodyOf Tryd.f14) qa_read_B0 := LabsOk.cons qa_read_x0 (LabsOk.nil)
def qa_read_d1 : List LS := [.v 0 (.sl (.int .u8)), .b 2 16 [], .v 5 (.int .i64), .c 16 (.st (.pair (.int .u8) (.pair (.int .i64) (.pair (.str) (.pair (.str) (.pair (.int .u8) (.sl (.int .u8))))))))]
def qa_read_d1r : List LS := [.b 2 16 [], .v 3 (.int .i64), .v 4 (.bool), .c 16 (.st (.pair (.int .u8) (.pair (.int .i64) (.pair (.str) (.pair (.str) (.pair (.int .u8) (.sl (.int .u8))))))))]
def qa_read_d1x0 : List LS := [.b 2 16 [], .c 16 (.st (.pair (.int .u8) (.pair (.int .i64) (.pair (.str) (.pair (.str) (.pair (.int .u8) (.sl (.int .u8))))))))]
def qa_read_dx1 : DX := ⟨none, some qa_read_d1r, [(0, qa_read_d1x0)]⟩
def qa_read_T1 (Y : List Int → Int → CmT → Prop) (kr : Int → Bool → CmT → Prop) (kx0 : CmT → Prop) (p0 : List Int) (k5 : Int) (x2b : CmT) : Prop :=
 bif (decide (k5 ≤ (List.length p0 : Int))) then
 bif (decide (k5 ≤ (40 : Int))) then
 bif decide (0 ≤ k5 ∧ k5 ≤ (List.length p0 : Int)) then
 bif decide (List.length ([] : List Int) + List.length (List.take (Int.toNat k5) p0) ≤ lim) then
 keys_Parse_P (([] : List Int) ++ (List.take (Int.toNat k5) p0)) ∧ (
 ∀ (r1 : CmT × Int), r1 = keys_Parse_F (([] : List Int) ++ (List.take (Int.toNat k5) p0)) → (
 wfR (.tup [.v (.st (.pair (.int .u8) (.pair (.int .i64) (.pair (.str) (.pair (.str) (.pair (.int .u8) (.sl (.int .u8)))))))) r1.1, .v (.int .i64) r1.2]) → (
 bif (decide (r1.2 = (1 : Int))) then
 kr k5 true r1.1
 else
 bif (!decide (r1.2 = (3 : Int))) then
 Y p0 (IntKind.wrap .i64 (k5 + (1 : Int))) x2b
 else
 (wfD qa_read_d0 (p0, k5, k5, x2b, r1.1, ()) → ∃ n, qa_read_L0 (fun (x3 : Int) (x4 : Bool) (x2b : CmT) => wfD qa_read_d0r (x3, x4, x2b, ()) → (
 kr x3 x4 x2b)) (fun (x2b : CmT) => wfD qa_read_d0x2 (x2b, ()) → (
 kr (0 : Int) false ((0 : Int), (0 : Int), ([] : List Int), ([] : List Int), (0 : Int), ([] : List Int)))) n p0 k5 k5 x2b r1.1))))
 else False
 else False
 else
 kx0 x2b
 else
 kx0 x2b
def qa_read_L1 (kr : Int → Bool → CmT → Prop) (kx0 : CmT → Prop) : Nat → List Int → Int → CmT → Prop
  | 0, _, _, _ => False
  | n + 1, p0, k5, x2b => wfD qa_read_d1 (p0, k5, x2b, ()) → qa_read_T1 (qa_read_L1 kr kx0 n) kr kx0 p0 k5 x2b
theorem qa_read_s1 (k : Ex → St → Prop) (Y : vals qa_read_d1 → Prop) (p0 : List Int) (k5 : Int) (x2b : CmT) :
    ex tb (getG qa_read_G) qa_read_B0 (at' (bodyOf Tryd.f14) [0, 0, 1, 0, 1]) [0, 0, 1, 0, 1] (mkD 58 qa_read_d1 (p0, k5, x2b, ())) (lpK 58 qa_read_d1 qa_read_dx1 k Y) =
    qa_read_T1 (fun p0 k5 x2b => Y (p0, k5, x2b, ())) (fun x3 x4 x2b => wfD qa_read_d1r (x3, x4, x2b, ()) → k .ret (mkD 58 qa_read_d1r (x3, x4, x2b, ()))) (fun x2b => wfD qa_read_d1x0 (x2b, ()) → k (.exit 0) (mkD 58 qa_read_d1x0 (x2b, ()))) p0 k5 x2b := by kernel_rfl
theorem qa_read_e1 (k : Ex → St → Prop) : ∀ (n : Nat) (p0 : List Int) (k5 : Int) (x2b : CmT), lpD 58 qa_read_d1 qa_read_dx1 (ex tb (getG qa_read_G) qa_read_B0 (at' (bodyOf Tryd.f14) [0, 0, 1, 0, 1]) [0, 0, 1, 0, 1]) k n (p0, k5, x2b, ()) = qa_read_L1 (fun x3 x4 x2b => wfD qa_read_d1r (x3, x4, x2b, ()) → k .ret (mkD 58 qa_read_d1r (x3, x4, x2b, ()))) (fun x2b => wfD qa_read_d1x0 (x2b, ()) → k (.exit 0) (mkD 58 qa_read_d1x0 (x2b, ()))) n p0 k5 x2b
  | 0, _, _, _ => rfl
  | n + 1, p0, k5, x2b => congrArg (fun Z : Prop => wfD qa_read_d1 (p0, k5, x2b, ()) → Z) ((qa_read_s1 k (lpD 58 qa_read_d1 qa_read_dx1 (ex tb (getG qa_read_G) qa_read_B0 (at' (bodyOf Tryd.f14) [0, 0, 1, 0, 1]) [0, 0, 1, 0, 1]) k n) p0 k5 x2b).trans (congrArg (fun Y => qa_read_T1 Y (fun x3 x4 x2b => wfD qa_read_d1r (x3, x4, x2b, ()) → k .ret (mkD 58 qa_read_d1r (x3, x4, x2b, ()))) (fun x2b => wfD qa_read_d1x0 (x2b, ()) → k (.exit 0) (mkD 58 qa_read_d1x0 (x2b, ()))) p0 k5 x2b) (funext fun p0 => funext fun k5 => funext fun x2b => qa_read_e1 k n p0 k5 x2b)))
theorem qa_read_v1 (k : Ex → St → Prop) (n : Nat) : ∀ v : vals qa_read_d1, lpD 58 qa_read_d1 qa_read_dx1 (ex tb (getG qa_read_G) qa_read_B0 (at' (bodyOf Tryd.f14) [0, 0, 1, 0, 1]) [0, 0, 1, 0, 1]) k n v = qa_read_L1 (fun x3 x4 x2b => wfD qa_read_d1r (x3, x4, x2b, ()) → k .ret (mkD 58 qa_read_d1r (x3, x4, x2b, ()))) (fun x2b => wfD qa_read_d1x0 (x2b, ()) → k (.exit 0) (mkD 58 qa_read_d1x0 (x2b, ()))) n v.1 v.2.1 v.2.2.1
  | (p0, k5, x2b, ()) => qa_read_e1 k n p0 k5 x2b
def qa_read_X1 : Pce := fun st k => ckD 58 qa_read_d1 st fun v => wfD qa_read_d1 v → ∃ n, qa_read_L1 (fun x3 x4 x2b => wfD qa_read_d1r (x3, x4, x2b, ()) → k .ret (mkD 58 qa_read_d1r (x3, x4, x2b, ()))) (fun x2b => wfD qa_read_d1x0 (x2b, ()) → k (.exit 0) (mkD 58 qa_read_d1x0 (x2b, ()))) n v.1 v.2.1 v.2.2.1
set_option maxRecDepth 20000 in
theorem qa_read_x1 : SemOk Tryd.prog (at' (bodyOf Tryd.f14) [0, 1, 0, 1]) qa_read_X1 :=
  (SemOk.loop (ex_sound tb_M tb_ok qa_read_Gok (qa_read_b0) (at' (bodyOf Tryd.f14) [0, 0, 1, 0, 1]) [0, 0, 1, 0, 1] rfl (storesC_at qa_read_st [0, 0, 1, 0, 1])) 58 qa_read_d1 qa_read_dx1).mono fun st k h => ckD_mono h fun v hv hw => (hv hw).elim fun n hn => ⟨n, Eq.mpr (qa_read_v1 k n v) hn⟩
def qa_read_B1 : Labs := ([0, 1, 0, 1], qa_read_X1) :: qa_read_B0
theorem qa_read_b1 : LabsOk Tryd.prog (bodyOf Tryd.f14) qa_read_B1 := LabsOk.cons qa_read_x1 (qa_read_b0)
def qa_read_raw (p0 : List Int) (K : Res → List Cell → Prop) : Prop :=
 (wfD qa_read_d1 (p0, (1 : Int), ((0 : Int), (0 : Int), ([] : List Int), ([] : List Int), (0 : Int), ([] : List Int)), ()) → ∃ n, qa_read_L1 (fun (x3 : Int) (x4 : Bool) (x2b : CmT) => wfD qa_read_d1r (x3, x4, x2b, ()) → (
 K (.tup [.v (.st (.pair (.int .u8) (.pair (.int .i64) (.pair (.str) (.pair (.str) (.pair (.int .u8) (.sl (.int .u8)))))))) x2b, .v (.int .i64) x3, .v (.bool) x4]) [])) (fun (x2b : CmT) => wfD qa_read_d1x0 (x2b, ()) → (
 K (.tup [.v (.st (.pair (.int .u8) (.pair (.int .i64) (.pair (.str) (.pair (.str) (.pair (.int .u8) (.sl (.int .u8)))))))) ((0 : Int), (0 : Int), ([] : List Int), ([] : List Int), (0 : Int), ([] : List Int)), .v (.int .i64) (0 : Int), .v (.bool) false]) [])) n p0 (1 : Int) ((0 : Int), (0 : Int), ([] : List Int), ([] : List Int), (0 : Int), ([] : List Int)))
def qa_read_A : List AS := [.v (.sl (.int .u8))]
theorem qa_read_walk (p0 : List Int) (K : Res → List Cell → Prop) : runF tb (getG qa_read_G) qa_read_B1 Tryd.f14 [true, true, true] (mkA qa_read_A (p0, ())) K = qa_read_raw p0 K := by kernel_rfl
--! pre 1
--! import KT2 F_again_head
def qa_read_P (p : List Int) : Prop := p.length ≤ 1099511627776
/-- as the law reads it, from the place k on -/
def readR (p : List Int) : Nat → Nat → Cmd × Int × Bool
  | 0, _ => (zC, 0, false)
  | f + 1, k => if k ≤ p.length ∧ k ≤ 40 then
      (if (parseM (p.take k)).2 = 1 then ((parseM (p.take k)).1, (k : Int), true)
      else if (parseM (p.take k)).2 = 3 then lineR p k (parseM (p.take k)).1 zC
      else readR p f (k + 1))
    else (zC, 0, false)
def qa_read_F (p : List Int) : Cmd × Int × Bool := readR p 41 1
theorem qa_read_l0 (kr : Int → Bool → Cmd → Prop) (kx2 : Cmd → Prop) (p : List Int) (hl : p.length ≤ 1099511627776) (k : Nat) (hk1 : k ≤ p.length) (x2 c6 : Cmd)
    (hk : ∀ r, r = lineR p k c6 zC → r.2.2 = true → kr r.2.1 true r.1) (hx : 13 ∉ p.drop k → kx2 x2) :
    ∀ (m n : Nat), p.length < m + n → k ≤ n → n ≤ p.length → 13 ∉ (p.take n).drop k → qa_read_L0 kr kx2 m p (k : Int) (n : Int) x2 c6
  | 0, n, h, _, _, _ => by omega
  | m + 1, n, h, h1, h2, hno => by
    intro _
    unfold qa_read_T0
    refine brn (fun hlt => asrt ⟨by omega, hlt⟩ ?_) (fun hge => hx ?_)
    · have hn : n < p.length := by omega
      rw [rd_nat _ _ _ hn]
      have e1 : p.drop k = (p.take n).drop k ++ p[n] :: p.drop (n + 1) := by
        conv => lhs; rw [← List.take_append_drop n p]
        rw [List.drop_append_of_le_length (by rw [List.length_take]; omega), List.drop_eq_getElem_cons hn]
      have hlk : ((p.take n).drop k).length = n - k := by rw [List.length_drop, List.length_take]; omega
      refine brn (fun h13 => asrt ⟨by omega, by omega, by omega⟩ (asrt ?_ ?_)) (fun h13 => ?_)
      · unfold slc; simp only [List.length_nil, List.length_drop, List.length_take]; unfold lim; omega
      · have hm : 13 ∈ p.drop k := by rw [e1]; simp [h13]
        have hidx : (p.drop k).idxOf 13 = n - k := by
          rw [e1, List.idxOf_append, if_neg hno, h13, List.idxOf_cons_self, hlk, Nat.zero_add]
        have := hk _ rfl (by unfold lineR; rw [if_pos hm])
        unfold lineR at this
        rw [if_pos hm, hidx] at this
        have es : slc p (k : Int) (n : Int) = (p.drop k).take (n - k) := by
          unfold slc
          rw [Int.toNat_natCast, Int.toNat_natCast, List.drop_take]
        rw [List.nil_append, es, wrap_i64 (by omega) (by omega), show (n : Int) + 1 = (k : Int) + ((n - k : Nat) : Int) + 1 by omega]
        exact this
      · rw [wrap_i64 (by omega) (by omega), show (n : Int) + 1 = ((n + 1 : Nat) : Int) by omega]
        refine qa_read_l0 kr kx2 p hl k hk1 x2 c6 hk hx m (n + 1) (by omega) (by omega) (by omega) ?_
        rw [List.take_add_one, List.getElem?_eq_getElem hn, List.drop_append_of_le_length (by rw [List.length_take]; omega)]
        simp only [Option.toList, List.mem_append, List.mem_singleton, not_or]
        exact ⟨hno, fun e => h13 e.symm⟩
    · have hn : n = p.length := by omega
      subst hn
      rwa [List.take_length] at hno
theorem qa_read_l1 (kr : Int → Bool → Cmd → Prop) (kx0 : Cmd → Prop) (p : List Int) (hl : p.length ≤ 1099511627776) (h255 : ∀ x ∈ p, 0 ≤ x ∧ x ≤ 255) (x2 : Cmd)
    (hk : ∀ r, r = qa_read_F p → kr r.2.1 r.2.2 r.1) (hx : (zC, 0, false) = qa_read_F p → kx0 x2) :
    ∀ (m f k : Nat), f < m → f + k = 42 → readR p f k = qa_read_F p → qa_read_L1 kr kx0 m p (k : Int) x2
  | 0, _, _, h, _, _ => absurd h (Nat.not_lt_zero _)
  | m + 1, 0, k, hf, hn, hr => by
    intro _
    unfold qa_read_T1
    exact brn (fun hle => brn (fun h40 => absurd h40 (by omega)) (fun _ => hx hr)) (fun _ => hx hr)
  | m + 1, f + 1, k, hf, hn, hr => by
    intro _
    unfold qa_read_T1
    unfold readR at hr
    refine brn (fun hle => brn (fun h40 => asrt ⟨by omega, hle⟩ (asrt ?_ ?_)) (fun h40 => hx ?_)) (fun hgt => hx ?_)
    · simp only [List.length_nil, List.length_take]; unfold lim; omega
    · rw [if_pos ⟨by omega, by omega⟩] at hr
      rw [Int.toNat_natCast, List.nil_append]
      have hpl : (p.take k).length ≤ 1099511627776 := by rw [List.length_take]; omega
      have hpb : ∀ x ∈ p.take k, 0 ≤ x ∧ x ≤ 255 := fun x hx => h255 x (List.mem_of_mem_take hx)
      refine ⟨(parse_eq hpl hpb).1, fun r1 hr1 _ => ?_⟩
      rw [(parse_eq hpl hpb).2] at hr1
      rw [← hr1] at hr
      refine brn (fun h1 => ?_) (fun h1 => brb (fun h3 => ?_) (fun h3 _ => ?_))
      · rw [if_pos h1] at hr; exact hk _ hr
      · have h3 : ¬ r1.2 = 3 := by simpa using h3
        rw [if_neg h1, if_neg h3] at hr
        rw [wrap_i64 (by omega) (by omega), show (k : Int) + 1 = ((k + 1 : Nat) : Int) by omega]
        exact qa_read_l1 kr kx0 p hl h255 x2 hk hx m f (k + 1) (by omega) (by omega) hr
      · have h3 : r1.2 = 3 := by simpa using h3
        rw [if_neg h1, if_pos h3] at hr
        have hk' := hk _ hr
        refine ⟨p.length + 1, qa_read_l0 _ _ p hl k (by omega) x2 r1.1 (fun r hr2 ht _ => ?_) (fun hno _ => ?_) _ k (by omega) (Nat.le_refl _) (by omega) (by rw [List.drop_take, Nat.sub_self]; simp)⟩
        · rw [← hr2] at hk'
          rw [ht] at hk'
          exact hk'
        · unfold lineR at hk'
          rw [if_neg hno] at hk'
          exact hk'
    · rw [if_neg (by omega)] at hr; exact hr
    · rw [if_neg (by omega)] at hr; exact hr
theorem qa_read_sp (p : List Int) (K : Res → List Cell → Prop) (hw : wfA qa_read_A (p, ())) (hp : qa_read_P p) (h : ∀ r : Cmd × Int × Bool, r = qa_read_F p → K (.tup [.v (.st (.pair (.int .u8) (.pair (.int .i64) (.pair (.str) (.pair (.str) (.pair (.int .u8) (.sl (.int .u8)))))))) r.1, .v (.int .i64) r.2.1, .v (.bool) r.2.2]) []) : qa_read_raw p K := by
  unfold qa_read_raw
  intro _
  exact ⟨42, qa_read_l1 _ _ p hp hw.1.2 _ (fun r hr _ => h r hr) (fun hr _ => h _ hr) _ 41 1 (by omega) (by omega) rfl⟩

def qa_read_C (v : valsA qa_read_A) (K : Res → List Cell → Prop) : Prop := qa_read_P v.1 ∧ ∀ r : CmT × Int × Bool, r = qa_read_F v.1 → K (.tup [.v (.st (.pair (.int .u8) (.pair (.int .i64) (.pair (.str) (.pair (.str) (.pair (.int .u8) (.sl (.int .u8)))))))) r.1, .v (.int .i64) r.2.1, .v (.bool) r.2.2]) []
def qa_read_S : App := specW qa_read_A qa_read_C
theorem qa_read_wv (K : Res → List Cell → Prop) : ∀ v : valsA qa_read_A, runF tb (getG qa_read_G) qa_read_B1 Tryd.f14 [true, true, true] (mkA qa_read_A v) K = qa_read_raw v.1 K
  | (p0, ()) => qa_read_walk p0 K
set_option maxRecDepth 20000 in
theorem qa_read_ok : AppOk Tryd.prog 14 qa_read_S :=
  AppOk.specW (spec_ok ((runF_ok tb_M tb_ok qa_read_Gok (qa_read_b1) (f := 14) (fn := Tryd.f14) (by kernel_rfl) (by kernel_rfl) qa_read_st [true, true, true])) fun v K hw h => (qa_read_wv K v).mpr (qa_read_sp v.1 K hw h.1 h.2))

end Go.VE
namespace Go.VE
open Go Go.Proofs

def repL : List Int := [120, 88, 68, 67, 83, 115, 112, 80, 114, 126, 74, 105, 97, 73, 65, 111, 79, 82]
def typL : List Int := [67, 83, 115, 105, 97, 73, 65, 111, 79, 82]
/-- a command that repeats -/
def Rep (c : Cmd) : Prop := Is c ∧ (c.2.2.1 ≠ [] ∧ c.2.2.1 ≠ [121] ∨ c.2.2.1 = [] ∧ ∃ b ∈ repL, c.2.2.2.1 = [b])
/-- one that types -/
def Typ (c : Cmd) : Prop := Rep c ∧ (c.2.2.1 = [99] ∨ c.2.2.1 = [] ∧ ∃ b ∈ typL, c.2.2.2.1 = [b])

theorem name_out {c : Cmd} (hi : ¬ Is c) : keys_Name_F c = [] := by
  have : keys_is_F c = false := by
    cases h : keys_is_F c
    · rfl
    · exact absurd (is_iff.1 h) hi
  unfold keys_Name_F
  rw [this]; rfl
theorem name_in {c : Cmd} (hi : Is c) : keys_Name_F c ≠ [] := by
  obtain ⟨b, r, h, _⟩ := named_back hi
  rw [h]; simp

theorem contains_one {k l : List Int} (h : k.length = 1) : strings_Contains_F l k = keys_one_F k l := by
  unfold keys_one_F
  have : decide ((k.length : Int) = 1) = true := by simp [h]
  rw [this]; rfl

theorem repeats_iff {c : Cmd} : again_Repeats_F c = true ↔ Rep c := by
  unfold again_Repeats_F Rep
  by_cases hi : Is c
  · have h0 : decide (((keys_Name_F c).length : Int) = 0) = false := by
      have := List.length_pos_iff.2 (name_in hi)
      rw [decide_eq_false_iff_not]; omega
    simp only [h0, cond_false, hi, true_and]
    by_cases h1 : c.2.2.1 = [121]
    · simp [h1]
    · simp only [decide_eq_false h1, cond_false]
      by_cases h2 : c.2.2.1 = []
      · simp only [h2, decide_true, Bool.not_true, cond_false]
        by_cases h3 : c.2.2.2.1.length = 1
        · have : decide ((c.2.2.2.1.length : Int) = 1) = true := by simp [h3]
          rw [this]
          simp only [cond_true]
          rw [contains_one h3, one_iff]
          simp [repL]
        · have : decide ((c.2.2.2.1.length : Int) = 1) = false := by rw [decide_eq_false_iff_not]; omega
          rw [this]
          simp only [cond_false]
          constructor
          · intro h; cases h
          · rintro (⟨h, _⟩ | ⟨_, b, _, h⟩)
            · exact absurd rfl h
            · rw [h] at h3; exact absurd rfl h3
      · simp [h1, h2]
  · simp [name_out hi, hi]

theorem types_iff {c : Cmd} : again_Types_F c = true ↔ Typ c := by
  unfold again_Types_F Typ
  by_cases hr : Rep c
  · have h := repeats_iff.2 hr
    simp only [h, cond_true, hr, true_and]
    by_cases h1 : c.2.2.1 = [99]
    · simp [h1]
    · simp only [decide_eq_false h1, cond_false]
      by_cases h2 : c.2.2.1 = []
      · simp only [h2, decide_true, cond_true, true_and]
        obtain ⟨b, hb, hk⟩ : ∃ b ∈ repL, c.2.2.2.1 = [b] := by
          rcases hr.2 with h | h
          · exact absurd h2 h.1
          · exact h.2
        rw [contains_one (by rw [hk]; rfl), one_iff]
        simp [typL]
      · simp [h1, h2]
  · have h : again_Repeats_F c = false := by
      cases h : again_Repeats_F c
      · rfl
      · exact absurd (repeats_iff.1 h) hr
    simp [h, hr]

theorem asks_iff {c : Cmd} : again_asks_F c = true ↔ c.2.2.2.1 = [47] ∨ c.2.2.2.1 = [63] := by
  unfold again_asks_F
  by_cases h : c.2.2.2.1 = [47]
  · simp [h]
  · simp [h]

theorem odd_iff {l : List Int} : again_odd_F l = true ↔ 256 < l.length ∨ ∃ b ∈ l, b ∈ oddsL := by
  unfold again_odd_F bytes_ContainsAny_F
  by_cases h : 256 < l.length
  · have : decide ((256 : Int) < (l.length : Int)) = true := by rw [decide_eq_true_eq]; omega
    simp [h, this]
  · have : decide ((256 : Int) < (l.length : Int)) = false := by rw [decide_eq_false_iff_not]; omega
    rw [this]
    simp only [cond_false, h, false_or, decide_eq_true_eq]

/-- the line that is asked for, and Enter -/
def askL (c : Cmd) : List Int := if again_asks_F c = true then c.2.2.2.2.2 ++ [13] else []
theorem made_eq (c : Cmd) : again_made_F c = keys_Name_F c ++ askL c := by
  unfold again_made_F askL
  cases again_asks_F c
  · simp
  · simp

theorem index_eq (l : List Int) (b : Int) : bytes_IndexByte_F l b = idxB l b := rfl
end Go.VE
namespace Go.VE
open Go Go.Proofs

theorem fin_w (s : List Int) (c : Cmd) : (finM s c).2 = 0 ∨ (finM s c).2 = 1 ∨ (finM s c).2 = 2 ∨ (finM s c).2 = 3 := by
  rw [finM_eq]
  unfold finR
  have h := named_w (s.drop (cntL s 0).2) (setCnt c (cntL s 0).1)
  unfold W4 at h
  split
  · exact h
  · split
    · exact .inr (.inr (.inl rfl))
    · exact h
theorem parse_w (s : List Int) : (parseM s).2 = 0 ∨ (parseM s).2 = 1 ∨ (parseM s).2 = 2 ∨ (parseM s).2 = 3 := by
  unfold parseM
  split
  · split
    · exact .inl rfl
    · split
      · exact .inr (.inr (.inl rfl))
      · exact fin_w _ _
  · exact fin_w _ _

/-- the first k keys are what is read first -/
def First1 (p : List Int) (k : Nat) : Prop := 1 ≤ k ∧ k ≤ p.length ∧ ∀ j, 1 ≤ j → j < k → (parseM (p.take j)).2 = 0

theorem headR_run (p : List Int) : ∀ (d f n : Nat), (∀ j, n ≤ j → j < n + d → (parseM (p.take j)).2 = 0) → headR p (f + d) n = headR p f (n + d)
  | 0, f, n, _ => rfl
  | d + 1, f, n, h => by
    have h0 := h n (Nat.le_refl _) (by omega)
    rw [show f + (d + 1) = (f + d) + 1 by omega]
    conv => lhs; unfold headR
    rw [h0, if_neg (by decide), if_neg (by decide), if_neg (by decide), headR_run p d f (n + 1) (fun j h1 h2 => h j (by omega) (by omega))]
    congr 1; omega

theorem readR_run (p : List Int) : ∀ (d f n : Nat), n + d ≤ p.length → n + d ≤ 40 → (∀ j, n ≤ j → j < n + d → (parseM (p.take j)).2 = 0) → readR p (f + d) n = readR p f (n + d)
  | 0, f, n, _, _, _ => rfl
  | d + 1, f, n, hl, h4, h => by
    have h0 := h n (Nat.le_refl _) (by omega)
    rw [show f + (d + 1) = (f + d) + 1 by omega]
    conv => lhs; unfold readR
    rw [if_pos ⟨by omega, by omega⟩, h0, if_neg (by decide), if_neg (by decide), readR_run p d f (n + 1) (by omega) (by omega) (fun j h1 h2 => h j (by omega) (by omega))]
    congr 1; omega

theorem head_one {p : List Int} {k : Nat} (h : First1 p k) (h1 : (parseM (p.take k)).2 = 1) : again_head_F p = ((parseM (p.take k)).1, (k : Int), true) := by
  obtain ⟨ha, hb, hc⟩ := h
  unfold again_head_F
  rw [show p.length = (p.length - k + 1) + (k - 1) by omega, headR_run p (k - 1) (p.length - k + 1) 1 (fun j h1 h2 => hc j h1 (by omega)), show 1 + (k - 1) = k by omega]
  unfold headR
  rw [if_pos h1]
theorem head_ask {p : List Int} {k : Nat} (h : First1 p k) (h1 : (parseM (p.take k)).2 = 3) : again_head_F p = lineR p k (parseM (p.take k)).1 (parseM (p.take k)).1 := by
  obtain ⟨ha, hb, hc⟩ := h
  unfold again_head_F
  rw [show p.length = (p.length - k + 1) + (k - 1) by omega, headR_run p (k - 1) (p.length - k + 1) 1 (fun j h1 h2 => hc j h1 (by omega)), show 1 + (k - 1) = k by omega]
  unfold headR
  rw [h1, if_neg (by decide), if_neg (by decide), if_pos rfl]
theorem read_one {p : List Int} {k : Nat} (h : First1 p k) (h4 : k ≤ 40) (h1 : (parseM (p.take k)).2 = 1) : qa_read_F p = ((parseM (p.take k)).1, (k : Int), true) := by
  obtain ⟨ha, hb, hc⟩ := h
  unfold qa_read_F
  rw [show 41 = (41 - k + 1) + (k - 1) by omega, readR_run p (k - 1) (41 - k + 1) 1 (by omega) (by omega) (fun j h1 h2 => hc j h1 (by omega)), show 1 + (k - 1) = k by omega]
  unfold readR
  rw [if_pos ⟨hb, h4⟩, if_pos h1]
theorem read_ask {p : List Int} {k : Nat} (h : First1 p k) (h4 : k ≤ 40) (h1 : (parseM (p.take k)).2 = 3) : qa_read_F p = lineR p k (parseM (p.take k)).1 zC := by
  obtain ⟨ha, hb, hc⟩ := h
  unfold qa_read_F
  rw [show 41 = (41 - k + 1) + (k - 1) by omega, readR_run p (k - 1) (41 - k + 1) 1 (by omega) (by omega) (fun j h1 h2 => hc j h1 (by omega)), show 1 + (k - 1) = k by omega]
  unfold readR
  rw [if_pos ⟨hb, h4⟩, h1, if_neg (by decide), if_pos rfl]

theorem headR_true (p : List Int) : ∀ (f n : Nat) {c : Cmd} {m : Int}, f + n = p.length + 1 → headR p f n = (c, m, true) →
    ∃ k, n ≤ k ∧ k ≤ p.length ∧ (∀ j, n ≤ j → j < k → (parseM (p.take j)).2 = 0) ∧
      ((parseM (p.take k)).2 = 1 ∧ c = (parseM (p.take k)).1 ∧ m = (k : Int) ∨ (parseM (p.take k)).2 = 3 ∧ lineR p k (parseM (p.take k)).1 (parseM (p.take k)).1 = (c, m, true))
  | 0, _, _, _, _, h => by simp [headR] at h
  | f + 1, n, c, m, hn, h => by
    unfold headR at h
    by_cases h1 : (parseM (p.take n)).2 = 1
    · rw [if_pos h1] at h
      simp only [Prod.mk.injEq, and_true] at h
      exact ⟨n, Nat.le_refl _, by omega, fun j a b => absurd a (by omega), .inl ⟨h1, h.1.symm, h.2.symm⟩⟩
    · rw [if_neg h1] at h
      by_cases h2 : (parseM (p.take n)).2 = 2
      · rw [if_pos h2] at h
        simp only [Prod.mk.injEq] at h
        exact absurd h.2.2 (by decide)
      · rw [if_neg h2] at h
        by_cases h3 : (parseM (p.take n)).2 = 3
        · rw [if_pos h3] at h
          exact ⟨n, Nat.le_refl _, by omega, fun j a b => absurd a (by omega), .inr ⟨h3, h⟩⟩
        · rw [if_neg h3] at h
          obtain ⟨k, a, b, e, d⟩ := headR_true p f (n + 1) (by omega) h
          refine ⟨k, by omega, b, fun j q1 q2 => ?_, d⟩
          by_cases hj : j = n
          · subst hj
            have := parse_w (p.take j)
            omega
          · exact e j (by omega) q2

theorem head_true {p : List Int} {c : Cmd} {m : Int} (h : again_head_F p = (c, m, true)) :
    ∃ k, First1 p k ∧ ((parseM (p.take k)).2 = 1 ∧ c = (parseM (p.take k)).1 ∧ m = (k : Int) ∨ (parseM (p.take k)).2 = 3 ∧ lineR p k (parseM (p.take k)).1 (parseM (p.take k)).1 = (c, m, true)) := by
  obtain ⟨k, a, b, e, d⟩ := headR_true p p.length 1 rfl h
  exact ⟨k, ⟨a, b, e⟩, d⟩

/-- short: as the head's command always is -/
def ShortC (c : Cmd) (n : Nat) : Prop := c.2.2.1.length ≤ 1048576 ∧ c.2.2.2.1.length ≤ 1048576 ∧ c.2.2.2.2.2.length ≤ n
theorem short_z (n : Nat) : ShortC zC n := ⟨by simp [zC], by simp [zC], by simp [zC]⟩
theorem short_parse (s : List Int) (n : Nat) : ShortC (parseM s).1 n := by
  obtain ⟨h1, h2⟩ := parse_fine s
  by_cases h : (parseM s).2 = 1 ∨ (parseM s).2 = 3
  · obtain ⟨hi, _, hl⟩ := h1 h
    have := is_short hi
    exact ⟨this.1, this.2, by rw [hl]; simp⟩
  · rw [h2 h]; exact short_z n
theorem short_line {p : List Int} {k : Nat} {c d : Cmd} (hk : k ≤ p.length) (hc : ShortC c p.length) (hd : ShortC d p.length) : ShortC (lineR p k c d).1 p.length ∧ 0 ≤ (lineR p k c d).2.1 ∧ (lineR p k c d).2.1 ≤ (p.length : Int) := by
  unfold lineR
  by_cases h : 13 ∈ p.drop k
  · rw [if_pos h]
    have hlt := List.idxOf_lt_length_iff.2 h
    rw [List.length_drop] at hlt
    refine ⟨⟨hc.1, hc.2.1, ?_⟩, ?_, ?_⟩
    · show ((p.drop k).take ((p.drop k).idxOf 13)).length ≤ p.length
      rw [List.length_take, List.length_drop]; omega
    · dsimp only; omega
    · dsimp only; omega
  · rw [if_neg h]; exact ⟨hd, Int.le_refl _, by dsimp only; omega⟩
theorem headR_short (p : List Int) : ∀ (f n : Nat), f + n = p.length + 1 → ShortC (headR p f n).1 p.length ∧ 0 ≤ (headR p f n).2.1 ∧ (headR p f n).2.1 ≤ (p.length : Int)
  | 0, n, _ => ⟨short_z _, by simp [headR], by simp only [headR]; omega⟩
  | f + 1, n, hn => by
    unfold headR
    split
    · exact ⟨short_parse _ _, by dsimp only; omega, by dsimp only; omega⟩
    · split
      · exact ⟨short_parse _ _, by dsimp only; omega, by dsimp only; omega⟩
      · split
        · exact short_line (by omega) (short_parse _ _) (short_parse _ _)
        · exact headR_short p f (n + 1) (by omega)
theorem head_short (p : List Int) : ShortC (again_head_F p).1 p.length ∧ 0 ≤ (again_head_F p).2.1 ∧ (again_head_F p).2.1 ≤ (p.length : Int) := headR_short p p.length 1 rfl
theorem readR_short (p : List Int) : ∀ (f n : Nat), ShortC (readR p f n).1 p.length ∧ 0 ≤ (readR p f n).2.1 ∧ (readR p f n).2.1 ≤ (p.length : Int)
  | 0, n => ⟨short_z _, by simp [readR], by simp only [readR]; omega⟩
  | f + 1, n => by
    unfold readR
    split
    · split
      · exact ⟨short_parse _ _, by dsimp only; omega, by dsimp only; omega⟩
      · split
        · exact short_line (by omega) (short_parse _ _) (short_z _)
        · exact readR_short p f (n + 1)
    · exact ⟨short_z _, by simp, by simp⟩
theorem read_short (p : List Int) : ShortC (qa_read_F p).1 p.length ∧ 0 ≤ (qa_read_F p).2.1 ∧ (qa_read_F p).2.1 ≤ (p.length : Int) := readR_short p 41 1
end Go.VE
namespace Go.VE
open Go Go.Proofs

theorem contains_P {k l : List Int} (h : k.length = 1) : strings_Contains_P l k := by
  have := one_P k l
  unfold keys_one_P at this
  have e : decide ((k.length : Int) = 1) = true := by simp [h]
  rw [e] at this
  exact this
theorem len1_P {k l : List Int} : bif decide ((k.length : Int) = 1) then strings_Contains_P l k else True := by
  by_cases h : (k.length : Int) = 1
  · rw [decide_eq_true h]; exact contains_P (by omega)
  · rw [decide_eq_false h]; trivial

theorem repeats_P {c : Cmd} {n : Nat} (h : ShortC c n) : again_Repeats_P c := by
  unfold again_Repeats_P
  refine ⟨name_P c (by have := h.1; omega) (by have := h.2.1; omega), ?_⟩
  exact bif_both trivial (bif_both trivial (bif_both trivial len1_P))

theorem types_P {c : Cmd} {n : Nat} (h : ShortC c n) : again_Types_P c := by
  unfold again_Types_P
  refine ⟨repeats_P h, ?_⟩
  by_cases hr : Rep c
  · show bif again_Repeats_F c then _ else _
    rw [repeats_iff.2 hr]
    refine bif_both (bif_both trivial ?_) trivial
    by_cases h2 : c.2.2.1 = []
    · rw [decide_eq_true h2]
      obtain ⟨b, hb, hk⟩ : ∃ b ∈ repL, c.2.2.2.1 = [b] := by
        rcases hr.2 with h | h
        · exact absurd h2 h.1
        · exact h.2
      exact contains_P (by rw [hk]; rfl)
    · rw [decide_eq_false h2]; trivial
  · have h : again_Repeats_F c = false := by
      cases h : again_Repeats_F c
      · rfl
      · exact absurd (repeats_iff.1 h) hr
    show bif again_Repeats_F c then _ else _
    rw [h]; trivial

theorem odd_P {l : List Int} (h : l.length ≤ 2097152) : again_odd_P l := by
  unfold again_odd_P
  exact bif_both trivial ⟨rfl, by omega⟩

theorem made_P {c : Cmd} {n : Nat} (h : ShortC c n) (hn : n ≤ 2097152) : again_made_P c := by
  have h1 := name_len c
  obtain ⟨a, b, d⟩ := h
  unfold again_made_P
  refine ⟨name_P c (by omega) (by omega), ?_⟩
  intro r1 r2
  refine bif_both ⟨?_, ?_⟩ trivial
  · show (keys_Name_F c).length + _ ≤ _
    unfold lim; omega
  · show (keys_Name_F c ++ c.2.2.2.2.2).length + 1 ≤ _
    rw [List.length_append]
    unfold lim; omega
theorem made_len {c : Cmd} {n : Nat} (h : ShortC c n) : (again_made_F c).length ≤ n + 2097154 := by
  have h1 := name_len c
  obtain ⟨a, b, d⟩ := h
  rw [made_eq]
  unfold askL
  split <;> simp only [List.length_append, List.length_cons, List.length_nil] <;> omega

theorem make_P {c : Cmd} {n : Nat} (h : ShortC c n) (hn : n ≤ 2097152) {t : List Int} (ht : t.length ≤ 2097152) : again_Make_P c t := by
  have hr := repeats_P h
  have ho : again_odd_P c.2.2.2.2.2 := odd_P (by have := h.2.2; omega)
  have hm := made_P h hn
  have hy := types_P h
  have hl := made_len h
  have l1 : (again_made_F c).length + t.length ≤ lim := by unfold lim; omega
  have l2 : (again_made_F c ++ t).length + ([27] : List Int).length ≤ lim := by
    simp only [List.length_append, List.length_cons, List.length_nil]
    unfold lim; omega
  unfold again_Make_P
  repeat' (first | exact trivial | exact hr | exact ho | exact hm | exact hy | exact l1 | exact l2 | apply bif_both | apply And.intro | intro _)

theorem check_P {r : Bool × Int × Int × List Int} (h : r.2.2.2.length ≤ 2097152) : again_Check_P r := by
  obtain ⟨hs, h0, h1⟩ := head_short r.2.2.2
  have hh : again_head_P r.2.2.2 := show r.2.2.2.length ≤ 1099511627776 by omega
  have hr := repeats_P hs
  have ho : again_odd_P (again_head_F r.2.2.2).1.2.2.2.2.2 := odd_P (by have := hs.2.2; omega)
  have hm := made_P hs h
  have hy := types_P hs
  have hb : 0 ≤ (again_head_F r.2.2.2).2.1 ∧ (again_head_F r.2.2.2).2.1 ≤ (r.2.2.2.length : Int) := ⟨h0, h1⟩
  unfold again_Check_P
  repeat' (first | exact trivial | exact hh | exact hr | exact ho | exact hm | exact hy | exact hb | apply bif_both | apply And.intro | intro _)

theorem keysJ0_P {p : List Int} {r : Bool × Int × Int × List Int} (hp : p.length ≤ 2097152) (h : r.2.2.2.length ≤ 2097152) : again_Keys_J0_P p r := by
  unfold again_Keys_J0_P lim; omega
theorem keysJ1_P {p : List Int} {n : Int} {r : Bool × Int × Int × List Int} (hp : p.length ≤ 2) (hn : n ≤ 9223372036854775807) (h : r.2.2.2.length ≤ 2097152) : again_Keys_J1_P n p r := by
  unfold again_Keys_J1_P
  by_cases h0 : 0 < n
  · rw [decide_eq_true h0]
    refine ⟨appendInt_P n (by unfold lim; omega), keysJ0_P ?_ h⟩
    show (strconv_AppendInt_F p n 10).length ≤ _
    rw [appendInt_len (by omega) hn, List.length_append]
    have := decI_20 (u := n.toNat) (by omega)
    omega
  · rw [decide_eq_false h0]
    exact keysJ0_P (by omega) h
theorem keys_P {r : Bool × Int × Int × List Int} {n : Int} (hn : n ≤ 9223372036854775807) (hc : r.2.2.1 ≤ 9223372036854775807) (h : r.2.2.2.length ≤ 2097152) : again_Keys_P r n := by
  have j2 : ∀ p : List Int, p.length ≤ 2 → again_Keys_J2_P n p r := fun p hp => bif_both (keysJ1_P hp hc h) (keysJ1_P hp hn h)
  unfold again_Keys_P
  refine bif_both trivial ?_
  intro r1
  refine bif_both trivial ⟨check_P h, ?_⟩
  intro r2
  refine bif_both trivial (bif_both ⟨?_, j2 _ (by simp)⟩ (j2 _ (by simp)))
  simp only [List.length_cons, List.length_nil]; unfold lim; omega
end Go.VE
namespace Go.VE
open Go Go.Proofs

abbrev Rcd := Bool × Int × Int × List Int
def checkB (nm ct ln hd hr hc rp ak od eq ty tp t0 ix : Bool) : Int :=
  bif !nm then 220 else bif !ct then 220 else bif ln then 220 else bif !hd then 220 else bif !hr then 220 else bif !hc then 220 else bif !rp then 220 else
  bif ak then (bif od then 220 else bif !eq then 220 else bif !ty then (bif tp then 220 else bif ty then (bif t0 then 220 else bif !ix then 220 else 0) else 0) else (bif ty then (bif t0 then 220 else bif !ix then 220 else 0) else 0))
  else (bif !eq then 220 else bif !ty then (bif tp then 220 else bif ty then (bif t0 then 220 else bif !ix then 220 else 0) else 0) else (bif ty then (bif t0 then 220 else bif !ix then 220 else 0) else 0))
theorem checkB_0 : ∀ (nm ct ln hd hr hc rp ak od eq ty tp t0 ix : Bool), decide (checkB nm ct ln hd hr hc rp ak od eq ty tp t0 ix = 0) = (nm && ct && !ln && hd && hr && hc && rp && (!ak || !od) && eq && (bif ty then !t0 && ix else !tp)) := by decide +kernel

/-- a record that is whole: the command at its head, and how many keys are its own -/
def Good (r : Rcd) (c : Cmd) (m : Int) : Prop :=
  again_named_F r.2.1 = true ∧ (0 ≤ r.2.2.1 ∧ r.2.2.1 ≤ 9999) ∧ r.2.2.2.length ≤ 65536 ∧ again_head_F r.2.2.2 = (c, m, true) ∧ c.1 = 0 ∧ c.2.1 = 0 ∧ Rep c ∧
  (again_asks_F c = true → again_odd_F c.2.2.2.2.2 = false) ∧ again_made_F c = r.2.2.2.take m.toNat ∧
  (again_Types_F c = true → r.2.2.2.drop m.toNat ≠ [] ∧ idxB (r.2.2.2.drop m.toNat) 27 = ((r.2.2.2.drop m.toNat).length : Int) - 1) ∧ (again_Types_F c = false → r.2.2.2.drop m.toNat = [])

theorem counted_iff {n : Int} : again_counted_F n = true ↔ 0 ≤ n ∧ n ≤ 9999 := by
  unfold again_counted_F
  by_cases h : 0 ≤ n
  · simp [h]
  · simp [h]

theorem check_set {r : Rcd} (h : r.1 = true) : again_Check_F r = 0 ↔ ∃ c m, Good r c m := by
  have e : again_Check_F r = checkB (again_named_F r.2.1) (again_counted_F r.2.2.1) (decide ((65536 : Int) < (r.2.2.2.length : Int))) (again_head_F r.2.2.2).2.2 (decide ((again_head_F r.2.2.2).1.1 = 0)) (decide ((again_head_F r.2.2.2).1.2.1 = 0)) (again_Repeats_F (again_head_F r.2.2.2).1)
      (again_asks_F (again_head_F r.2.2.2).1) (again_odd_F (again_head_F r.2.2.2).1.2.2.2.2.2) (slices_Equal_byte_byte_F (again_made_F (again_head_F r.2.2.2).1) (r.2.2.2.take (again_head_F r.2.2.2).2.1.toNat)) (again_Types_F (again_head_F r.2.2.2).1)
      (decide ((0 : Int) < ((r.2.2.2.drop (again_head_F r.2.2.2).2.1.toNat).length : Int))) (decide (((r.2.2.2.drop (again_head_F r.2.2.2).2.1.toNat).length : Int) = 0))
      (decide (bytes_IndexByte_F (r.2.2.2.drop (again_head_F r.2.2.2).2.1.toNat) 27 = IntKind.wrap .i64 (((r.2.2.2.drop (again_head_F r.2.2.2).2.1.toNat).length : Int) - 1))) := by
    unfold again_Check_F
    rw [h]
    rfl
  rw [e, ← decide_eq_true_eq (p := _ = (0 : Int)), checkB_0]
  have ew : r.2.2.2.length ≤ 65536 → IntKind.wrap .i64 (((r.2.2.2.drop (again_head_F r.2.2.2).2.1.toNat).length : Int) - 1) = ((r.2.2.2.drop (again_head_F r.2.2.2).2.1.toNat).length : Int) - 1 := fun hl => by
    have : (r.2.2.2.drop (again_head_F r.2.2.2).2.1.toNat).length ≤ 65536 := by rw [List.length_drop]; omega
    exact wrap_i64 (by omega) (by omega)
  unfold Good
  generalize again_head_F r.2.2.2 = hd at *
  obtain ⟨c, m, ok⟩ := hd
  simp only [Bool.and_eq_true, Bool.not_eq_true', Bool.or_eq_true, decide_eq_true_eq, decide_eq_false_iff_not, counted_iff, repeats_iff, slices_Equal_byte_byte_F, index_eq] at *
  constructor
  · rintro ⟨⟨⟨⟨⟨⟨⟨⟨⟨h1, h2⟩, h3⟩, h4⟩, h5⟩, h6⟩, h7⟩, h8⟩, h9⟩, h10⟩
    have hl : r.2.2.2.length ≤ 65536 := by omega
    subst h4
    refine ⟨c, m, h1, h2, hl, rfl, h5, h6, h7, ?_, h9, ?_, ?_⟩
    · intro ha
      rcases h8 with h8 | h8
      · rw [h8] at ha; cases ha
      · exact h8
    · intro ht
      rw [ht] at h10
      simp only [cond_true, Bool.and_eq_true, Bool.not_eq_true', decide_eq_true_eq, decide_eq_false_iff_not] at h10
      rw [ew hl] at h10
      refine ⟨?_, of_decide_eq_true h10.2⟩
      intro e0
      rw [e0] at h10
      exact h10.1 rfl
    · intro ht
      rw [ht] at h10
      simp only [cond_false, Bool.not_eq_true', decide_eq_false_iff_not] at h10
      exact List.length_eq_zero_iff.1 (by omega)
  · rintro ⟨c', m', h1, h2, hl, h4, h5, h6, h7, h8, h9, h10, h11⟩
    simp only [Prod.mk.injEq] at h4
    obtain ⟨rfl, rfl, rfl⟩ := h4
    refine ⟨⟨⟨⟨⟨⟨⟨⟨⟨h1, h2⟩, by omega⟩, rfl⟩, h5⟩, h6⟩, h7⟩, ?_⟩, h9⟩, ?_⟩
    · cases ha : again_asks_F c
      · exact .inl rfl
      · exact .inr (h8 ha)
    · cases ht : again_Types_F c
      · simp only [cond_false, Bool.not_eq_true', decide_eq_false_iff_not]
        rw [h11 ht]; simp
      · simp only [cond_true, Bool.and_eq_true, Bool.not_eq_true', decide_eq_true_eq, decide_eq_false_iff_not]
        obtain ⟨q1, q2⟩ := h10 ht
        refine ⟨?_, ?_⟩
        · intro e0
          exact q1 (List.length_eq_zero_iff.1 (by omega))
        · rw [ew hl]; exact decide_eq_true q2

theorem check_unset {r : Rcd} (h : r.1 = false) (h0 : again_Check_F r = 0) : r.2.1 = 0 ∧ r.2.2.1 = 0 ∧ r.2.2.2 = [] := by
  unfold again_Check_F at h0
  rw [h] at h0
  simp only [Bool.not_false, cond_true] at h0
  by_cases h1 : r.2.1 = 0
  · simp only [h1, decide_true, cond_true] at h0
    by_cases h2 : r.2.2.1 = 0
    · simp only [h2, decide_true, cond_true] at h0
      by_cases h3 : r.2.2.2 = []
      · exact ⟨h1, h2, h3⟩
      · have := List.length_pos_iff.2 h3
        rw [decide_eq_false (by omega)] at h0
        simp at h0
    · simp [h2] at h0
  · simp [h1] at h0

/-- the register and the count that stand ahead -/
def aheadL (reg n : Int) : List Int := (if reg = 0 then [] else [34, reg]) ++ (if 0 < n then decI n.toNat else [])

theorem keysJ0_F (p : List Int) (r : Rcd) : again_Keys_J0_F p r = if 65536 < p.length + r.2.2.2.length then ([], 1) else (p ++ r.2.2.2, 0) := by
  unfold again_Keys_J0_F
  by_cases h : 65536 < p.length + r.2.2.2.length
  · rw [if_pos h, decide_eq_true (by rw [List.length_append]; omega)]; rfl
  · rw [if_neg h, decide_eq_false (by rw [List.length_append]; omega)]; rfl
theorem keysJ1_F {n : Int} (p : List Int) (r : Rcd) (hn : n ≤ 9223372036854775807) : again_Keys_J1_F n p r = again_Keys_J0_F (p ++ if 0 < n then decI n.toNat else []) r := by
  unfold again_Keys_J1_F
  by_cases h0 : 0 < n
  · rw [decide_eq_true h0, if_pos h0]
    show again_Keys_J0_F (strconv_AppendInt_F p n 10) r = _
    rw [appendInt_len (by omega) hn]
  · rw [decide_eq_false h0, if_neg h0, List.append_nil]; rfl

theorem keys_bad {r : Rcd} {n : Int} (hs : r.1 = true) (hc : again_Check_F r ≠ 0) : (again_Keys_F r n).2 = 2 := by
  unfold again_Keys_F
  rw [hs]
  simp only [Bool.not_true, cond_false, decide_eq_false hc, Bool.not_false, cond_true]
  cases again_counted_F n <;> rfl
theorem keys_unset {r : Rcd} {n : Int} (hs : r.1 = false) : (again_Keys_F r n).2 = 220 := by
  unfold again_Keys_F
  rw [hs]; rfl
theorem keys_good {r : Rcd} {n : Int} (hs : r.1 = true) (hc : again_Check_F r = 0) (hn : 0 ≤ n ∧ n ≤ 9999) (hr : r.2.2.1 ≤ 9223372036854775807) :
    again_Keys_F r n = if 65536 < (aheadL r.2.1 (if n = 0 then r.2.2.1 else n)).length + r.2.2.2.length then ([], 1) else (aheadL r.2.1 (if n = 0 then r.2.2.1 else n) ++ r.2.2.2, 0) := by
  have j2 : ∀ p : List Int, again_Keys_J2_F n p r = again_Keys_J0_F (p ++ if 0 < (if n = 0 then r.2.2.1 else n) then decI (if n = 0 then r.2.2.1 else n).toNat else []) r := fun p => by
    unfold again_Keys_J2_F
    by_cases h : n = 0
    · rw [decide_eq_true h, if_pos h]; exact keysJ1_F p r hr
    · rw [decide_eq_false h, if_neg h]; exact keysJ1_F p r (by omega)
  unfold again_Keys_F
  rw [hs, counted_iff.2 hn]
  simp only [Bool.not_true, cond_false, decide_eq_true hc, j2]
  rw [keysJ0_F, keysJ0_F]
  unfold aheadL
  by_cases h0 : r.2.1 = 0
  · rw [decide_eq_true h0, if_pos h0]; rfl
  · rw [decide_eq_false h0, if_neg h0]; rfl

/-- what Make makes of a command -/
theorem make_cases (c : Cmd) (t : List Int) :
    (again_Make_F c t = ((false, 0, 0, []), 2) ∨ again_Make_F c t = ((false, 0, 0, []), 1)) ∨
    (Rep c ∧ again_named_F c.1 = true ∧ (0 ≤ c.2.1 ∧ c.2.1 ≤ 9999) ∧ (again_asks_F c = true → again_odd_F c.2.2.2.2.2 = false) ∧ 27 ∉ t ∧ (again_Types_F c = false → t = []) ∧
      again_Make_F c t = ((true, c.1, c.2.1, again_made_F c ++ if again_Types_F c = true then t ++ [27] else []), 0) ∧ (again_made_F c ++ if again_Types_F c = true then t ++ [27] else []).length ≤ 65536) := by
  have j0 : ∀ p : List Int, (again_Make_J0_F p c (false, 0, 0, [])) = if 65536 < p.length then ((1 : Int), ((false, 0, 0, []) : Rcd)) else (0, (true, c.1, c.2.1, p)) := fun p => by
    unfold again_Make_J0_F
    by_cases h : 65536 < p.length
    · rw [if_pos h, decide_eq_true (by omega)]; rfl
    · rw [if_neg h, decide_eq_false (by omega)]; rfl
  by_cases h1 : again_Repeats_F c = true
  · by_cases h2 : again_named_F c.1 = true
    · by_cases h3 : again_counted_F c.2.1 = true
      · by_cases h4 : again_asks_F c = true ∧ again_odd_F c.2.2.2.2.2 = true
        · left; left; unfold again_Make_F
          simp only [h1, h2, h3, h4.1, h4.2, Bool.not_true, cond_false, cond_true]
        · have h4' : again_asks_F c = true → again_odd_F c.2.2.2.2.2 = false := fun ha => by
            cases ho : again_odd_F c.2.2.2.2.2
            · rfl
            · exact absurd ⟨ha, ho⟩ h4
          have T : again_Make_F c t = (bif !again_Types_F c then (bif decide ((0 : Int) < (t.length : Int)) then ((false, 0, 0, []), 2) else bif decide ((0 : Int) ≤ bytes_IndexByte_F t 27) then ((false, 0, 0, []), 2) else
                bif again_Types_F c then ((again_Make_J0_F ((again_made_F c ++ t) ++ [27]) c (false, 0, 0, [])).2, (again_Make_J0_F ((again_made_F c ++ t) ++ [27]) c (false, 0, 0, [])).1) else ((again_Make_J0_F (again_made_F c) c (false, 0, 0, [])).2, (again_Make_J0_F (again_made_F c) c (false, 0, 0, [])).1))
              else bif decide ((0 : Int) ≤ bytes_IndexByte_F t 27) then ((false, 0, 0, []), 2) else
                bif again_Types_F c then ((again_Make_J0_F ((again_made_F c ++ t) ++ [27]) c (false, 0, 0, [])).2, (again_Make_J0_F ((again_made_F c ++ t) ++ [27]) c (false, 0, 0, [])).1) else ((again_Make_J0_F (again_made_F c) c (false, 0, 0, [])).2, (again_Make_J0_F (again_made_F c) c (false, 0, 0, [])).1)) := by
            unfold again_Make_F
            rw [h1, h2, h3]
            cases ha : again_asks_F c
            · rfl
            · rw [h4' ha]; rfl
          have hidx : decide ((0 : Int) ≤ bytes_IndexByte_F t 27) = true ↔ 27 ∈ t := by
            rw [decide_eq_true_eq, index_eq]; unfold idxB
            by_cases h : 27 ∈ t
            · rw [if_pos h]; simp [h]
            · rw [if_neg h]; simp [h]
          by_cases h5 : 27 ∈ t
          · left; left
            rw [T, hidx.2 h5]
            cases again_Types_F c
            · simp only [Bool.not_false, cond_true]
              cases decide ((0 : Int) < (t.length : Int)) <;> rfl
            · rfl
          · have h5' : decide ((0 : Int) ≤ bytes_IndexByte_F t 27) = false := by
              cases h : decide ((0 : Int) ≤ bytes_IndexByte_F t 27)
              · rfl
              · exact absurd (hidx.1 h) h5
            cases ht : again_Types_F c
            · by_cases h6 : t = []
              · subst h6
                rw [T, ht, h5']
                simp only [j0, Bool.not_false, cond_true, cond_false, List.length_nil, Int.natCast_zero, Int.lt_irrefl, decide_false, Bool.false_eq_true, if_false, List.append_nil]
                by_cases hl : 65536 < (again_made_F c).length
                · left; right; rw [if_pos hl]
                · right; rw [if_neg hl]
                  exact ⟨repeats_iff.1 h1, h2, counted_iff.1 h3, h4', by simp, fun _ => trivial, rfl, by omega⟩
              · left; left
                have := List.length_pos_iff.2 h6
                rw [T, ht, decide_eq_true (by omega)]; rfl
            · rw [T, ht, h5']
              simp only [j0, Bool.not_true, cond_true, cond_false, if_true, List.append_assoc]
              by_cases hl : 65536 < (again_made_F c ++ (t ++ [27])).length
              · left; right; rw [if_pos hl]
              · right; rw [if_neg hl]
                exact ⟨repeats_iff.1 h1, h2, counted_iff.1 h3, h4', h5, fun h => absurd h (by decide), rfl, by omega⟩
      · left; left
        have h3 : again_counted_F c.2.1 = false := by simpa using h3
        unfold again_Make_F
        simp only [h1, h2, h3, Bool.not_true, Bool.not_false, cond_true, cond_false]
    · left; left
      have h2 : again_named_F c.1 = false := by simpa using h2
      unfold again_Make_F
      simp only [h1, h2, Bool.not_true, Bool.not_false, cond_true, cond_false]
  · left; left
    have h1 : again_Repeats_F c = false := by simpa using h1
    unfold again_Make_F
    simp only [h1, Bool.not_false, cond_true]
end Go.VE
namespace Go.VE
open Go Go.Proofs

theorem is_short2 {c : Cmd} (h : Is c) : c.2.2.1.length ≤ 2 ∧ c.2.2.2.1.length ≤ 2 := by
  have mo : ∀ k : List Int, Motion k → k.length ≤ 2 := fun k hm => by
    rcases hm with q | q | q | q | q | q | q | ⟨x, _, q⟩ | ⟨x, _, q⟩ <;> rw [q] <;> simp
  have ol : ∀ o ∈ opList, o.length ≤ 2 := by decide
  rcases h.2.2.1 with ⟨ho, hk⟩ | ⟨ho, hk⟩
  · refine ⟨by rw [ho]; simp, ?_⟩
    rcases hk with hk | hk
    · have := mo _ hk; omega
    · rcases hk with ⟨x, _, q⟩ | ⟨x, _, q⟩ | q | q | q <;> rw [q] <;> simp
  · have h1 := ol _ ho
    refine ⟨by omega, ?_⟩
    rcases hk with hk | ⟨a, d, _, _, q⟩ | hk
    · rw [hk]; omega
    · rw [q]; simp
    · have := mo _ hk; omega

theorem motion_not : ¬ Motion [58] ∧ ¬ Motion [46] :=
  ⟨fun h => absurd (motion_iff.2 h) (by decide +kernel), fun h => absurd (motion_iff.2 h) (by decide +kernel)⟩
/-- what the key of a command that repeats is not -/
theorem rep_key {c : Cmd} (h : Rep c) : c.2.2.2.1 ≠ [58] ∧ c.2.2.2.1 ≠ [46] ∧ (c.2.2.1 = [] → c.2.2.2.1 ≠ [48]) := by
  rcases h.2 with ⟨h1, h2⟩ | ⟨h1, b, hb, hk⟩
  · rcases h.1.2.2.1 with ⟨ho, _⟩ | ⟨ho, hk⟩
    · exact absurd ho h1
    · have ol : [58] ∉ opList ∧ [46] ∉ opList := by decide
      rcases hk with hk | ⟨a, d, _, _, q⟩ | hk
      · exact ⟨fun e => by rw [← hk, e] at ho; exact ol.1 ho, fun e => by rw [← hk, e] at ho; exact ol.2 ho, fun e => absurd e h1⟩
      · exact ⟨by rw [q]; simp, by rw [q]; simp, fun e => absurd e h1⟩
      · exact ⟨fun e => by rw [e] at hk; exact motion_not.1 hk, fun e => by rw [e] at hk; exact motion_not.2 hk, fun e => absurd e h1⟩
  · have : ∀ b ∈ repL, b ≠ 58 ∧ b ≠ 46 ∧ b ≠ 48 := by decide
    have hh := this b hb
    rw [hk]
    exact ⟨fun e => hh.1 (by simpa using e), fun e => hh.2.1 (by simpa using e), fun _ e => hh.2.2 (by simpa using e)⟩
theorem rep_asks {c : Cmd} (h : Rep c) : asksB c.2.2.2.1 = if again_asks_F c = true then 3 else 1 := by
  have h58 := (rep_key h).1
  unfold asksB
  by_cases ha : again_asks_F c = true
  · rw [if_pos ha]
    rcases asks_iff.1 ha with e | e
    · rw [if_pos (.inl e)]
    · rw [if_pos (.inr (.inl e))]
  · rw [if_neg ha, if_neg]
    rintro (e | e | e)
    · exact ha (asks_iff.2 (.inl e))
    · exact ha (asks_iff.2 (.inr e))
    · exact h58 e
theorem rep_line {c : Cmd} (h : Rep c) (ha : ¬ again_asks_F c = true) : c.2.2.2.2.2 = [] := by
  rcases h.1.2.2.2.2.2.2 with e | e | e | e
  · exact e
  · exact absurd (asks_iff.2 (.inl e)) ha
  · exact absurd (asks_iff.2 (.inr e)) ha
  · exact absurd e (rep_key h).1

/-- with another register and count -/
def withC (c : Cmd) (reg n : Int) : Cmd := (reg, n, c.2.2.1, c.2.2.2.1, c.2.2.2.2.1, c.2.2.2.2.2)
theorem is_with {c : Cmd} (h : Rep c) {reg n : Int} (hv : bank_Valid_F reg = true) (hn : 0 ≤ n ∧ n ≤ 9999) : Is (withC c reg n) :=
  ⟨hv, hn, h.1.2.2.1, h.1.2.2.2.1, h.1.2.2.2.2.1, fun e => (rep_key h).2.2 e.1 e.2.1, h.1.2.2.2.2.2.2⟩
theorem rep_with {c : Cmd} (h : Rep c) {reg n : Int} (hv : bank_Valid_F reg = true) (hn : 0 ≤ n ∧ n ≤ 9999) : Rep (withC c reg n) := ⟨is_with h hv hn, h.2⟩
theorem name_with {c : Cmd} (h : Rep c) {reg n : Int} (hv : bank_Valid_F reg = true) (hn : 0 ≤ n ∧ n ≤ 9999) : keys_Name_F (withC c reg n) = keys_Name_F c := by
  rw [name_eq (is_with h hv hn), name_eq h.1]; rfl
theorem asks_with (c : Cmd) (reg n : Int) : again_asks_F (withC c reg n) = again_asks_F c := rfl
theorem ask_with (c : Cmd) (reg n : Int) : askL (withC c reg n) = askL c := rfl
theorem typ_with {c : Cmd} (h : Rep c) {reg n : Int} (hv : bank_Valid_F reg = true) (hn : 0 ≤ n ∧ n ≤ 9999) : again_Types_F (withC c reg n) = again_Types_F c := by
  have : again_Types_F (withC c reg n) = true ↔ again_Types_F c = true := by
    rw [types_iff, types_iff]
    exact ⟨fun q => ⟨h, q.2⟩, fun q => ⟨rep_with h hv hn, q.2⟩⟩
  cases h1 : again_Types_F c
  · cases h2 : again_Types_F (withC c reg n)
    · rfl
    · rw [this.1 h2] at h1; cases h1
  · exact this.2 h1

theorem keysL_with {c : Cmd} (h : Rep c) {reg n : Int} (hv : bank_Valid_F reg = true) (hn : 0 ≤ n ∧ n ≤ 9999) : keysL (withC c reg n) = aheadL reg n ++ keys_Name_F c := by
  unfold keysL aheadL cntK
  rw [name_with h hv hn, List.append_assoc]
  show (if reg = 0 then [] else [34, reg]) ++ ((if n = 0 then [] else decI n.toNat) ++ _) = _
  by_cases h0 : n = 0
  · rw [if_pos h0, if_neg (show ¬ 0 < n by omega)]
  · rw [if_neg h0, if_pos (show 0 < n by omega)]

theorem keysL_len {c : Cmd} (h : Is c) : (keysL c).length ≤ 40 := by
  have h1 := is_short2 h
  have h2 := name_len c
  have h3 := h.2.1
  unfold keysL cntK
  have h4 := decI_20 (u := c.2.1.toNat) (by omega)
  rw [List.length_append, List.length_append]
  have a : (if c.1 = 0 then ([] : List Int) else [34, c.1]).length ≤ 2 := by split <;> simp
  have b : (if c.2.1 = 0 then ([] : List Int) else decI c.2.1.toNat).length ≤ 20 := by
    split
    · simp
    · exact h4
  omega

theorem first_keys {c : Cmd} (h : Is c) (m : List Int) : First1 (keysL c ++ m) (keysL c).length := by
  have hp := parse_keys h
  have hn : 1 ≤ (keysL c).length := by
    unfold keysL
    have := List.length_pos_iff.2 (name_in h)
    rw [List.length_append, List.length_append]; omega
  refine ⟨hn, by rw [List.length_append]; omega, fun j h1 h2 => ?_⟩
  rw [List.take_append_of_le_length (by omega)]
  by_cases h0 : (parseM ((keysL c).take j)).2 = 0
  · exact h0
  · have hd : (keysL c).drop j ≠ [] := by
      intro e
      have := congrArg List.length e
      rw [List.length_drop, List.length_nil] at this; omega
    have := parse_stab h0 hd
    rw [List.take_append_drop, hp] at this
    have := asks13 c.2.2.2.1
    dsimp only at *
    omega

theorem line_at {p q l t : List Int} (hp : p = q ++ (l ++ [13] ++ t)) (hl : 13 ∉ l) (c d : Cmd) : lineR p q.length c d = (setLine c l, (q.length : Int) + (l.length : Nat) + 1, true) := by
  have hd : p.drop q.length = l ++ (13 :: t) := by rw [hp, List.drop_left]; simp
  have hm : 13 ∈ p.drop q.length := by rw [hd]; simp
  have hx : (p.drop q.length).idxOf 13 = l.length := by rw [hd, List.idxOf_append, if_neg hl, List.idxOf_cons_self]; omega
  unfold lineR
  rw [if_pos hm, hx, hd, List.take_left]

/-- the keys of a command that repeats, and more behind them, are read as that command -/
theorem keys_read {c : Cmd} (h : Rep c) (hl : again_asks_F c = true → 13 ∉ c.2.2.2.2.2) (t : List Int) :
    again_head_F (keysL c ++ (askL c ++ t)) = (c, ((keysL c ++ askL c).length : Int), true) ∧ qa_read_F (keysL c ++ (askL c ++ t)) = (c, ((keysL c ++ askL c).length : Int), true) := by
  have hf := first_keys h.1 (askL c ++ t)
  have hp : parseM ((keysL c ++ (askL c ++ t)).take (keysL c).length) = (backC c, asksB c.2.2.2.1) := by
    rw [List.take_left]; exact parse_keys h.1
  have h4 := keysL_len h.1
  have ha := rep_asks h
  by_cases hk : again_asks_F c = true
  · rw [if_pos hk] at ha
    rw [ha] at hp
    have e : askL c = c.2.2.2.2.2 ++ [13] := by unfold askL; rw [if_pos hk]
    have L := fun d => line_at (p := keysL c ++ (askL c ++ t)) (q := keysL c) (l := c.2.2.2.2.2) (t := t) (by rw [e]) (hl hk) (backC c) d
    have len : ((keysL c ++ askL c).length : Int) = ((keysL c).length : Int) + (c.2.2.2.2.2.length : Nat) + 1 := by
      rw [e, List.length_append, List.length_append]
      simp only [List.length_cons, List.length_nil]; omega
    rw [head_ask hf (by rw [hp]), read_ask hf h4 (by rw [hp]), hp, L, L, len]
    exact ⟨rfl, rfl⟩
  · rw [if_neg hk] at ha
    rw [ha] at hp
    have e : askL c = [] := by unfold askL; rw [if_neg hk]
    have eb : backC c = c := by
      obtain ⟨a, b, d, e, f, g⟩ := c
      have : g = [] := rep_line h hk
      subst this; rfl
    rw [head_one hf (by rw [hp]), read_one hf h4 (by rw [hp]), hp, eb, e, List.append_nil]
    exact ⟨rfl, rfl⟩

/-- what is typed behind the command -/
def tailL (c : Cmd) (t : List Int) : List Int := if again_Types_F c = true then t ++ [27] else []

theorem valid0 : bank_Valid_F 0 = true := by kernel_rfl
theorem no13 {l : List Int} (h : again_odd_F l = false) : 13 ∉ l := fun hm => by
  have := odd_iff.2 (.inr ⟨13, hm, by decide⟩)
  rw [h] at this; cases this
theorem named_valid {r : Int} (h : again_named_F r = true) : bank_Valid_F r = true := by
  unfold again_named_F at h
  by_cases h0 : r = 0
  · rw [h0]; exact valid0
  · rw [decide_eq_false h0] at h; exact h

theorem idx_tail {t : List Int} (h : 27 ∉ t) : idxB (t ++ [27]) 27 = ((t ++ [27]).length : Int) - 1 := by
  unfold idxB
  rw [if_pos (by simp), List.idxOf_append, if_neg h, List.idxOf_cons_self, List.length_append]
  simp only [List.length_cons, List.length_nil]; omega

theorem ahead00 : aheadL 0 0 = [] := rfl
theorem good_made {c : Cmd} (h : Rep c) (hn : again_named_F c.1 = true) (hc : 0 ≤ c.2.1 ∧ c.2.1 ≤ 9999) (ho : again_asks_F c = true → again_odd_F c.2.2.2.2.2 = false) {t : List Int} (ht : 27 ∉ t)
    (hl : (again_made_F c ++ tailL c t).length ≤ 65536) : again_Check_F (true, c.1, c.2.1, again_made_F c ++ tailL c t) = 0 := by
  have h0 : Rep (withC c 0 0) := rep_with h valid0 (by omega)
  have ek : keysL (withC c 0 0) = keys_Name_F c := by rw [keysL_with h valid0 (by omega), ahead00, List.nil_append]
  have em : again_made_F c = keysL (withC c 0 0) ++ askL (withC c 0 0) := by rw [made_eq, ek]; rfl
  have em0 : again_made_F (withC c 0 0) = again_made_F c := by rw [made_eq, made_eq, name_with h valid0 (by omega), ask_with]
  have hr := (keys_read h0 (fun ha => no13 (ho ha)) (tailL c t)).1
  rw [← List.append_assoc, ← em] at hr
  refine (check_set rfl).2 ⟨withC c 0 0, ((again_made_F c).length : Int), hn, hc, hl, hr, rfl, rfl, h0, ho, ?_, ?_, ?_⟩
  · dsimp only
    rw [em0, Int.toNat_natCast, List.take_left]
  · intro q
    dsimp only
    rw [Int.toNat_natCast, List.drop_left]
    rw [typ_with h valid0 (by omega)] at q
    have : tailL c t = t ++ [27] := by unfold tailL; rw [if_pos q]
    rw [this]
    exact ⟨by simp, idx_tail ht⟩
  · intro q
    dsimp only
    rw [Int.toNat_natCast, List.drop_left]
    rw [typ_with h valid0 (by omega)] at q
    unfold tailL
    rw [if_neg (by rw [q]; decide)]
end Go.VE
namespace Go.VE
open Go Go.Proofs

def yesK : Res → List Cell → Prop := fun r _ => r = .one (.v .bool true)

theorem bulk_bytes : ∀ xs : List Int, bulk (.sl (.int .u8)) xs = xs.length + 1 := by
  intro xs
  show (xs.map (bulk (.int .u8))).sum + 1 = _
  congr 1
  induction xs with
  | nil => rfl
  | cons x xs ih => rw [List.map_cons, List.sum_cons, ih, List.length_cons]; show 1 + xs.length = _; omega
theorem nob {P : Prop} (h : false = true) : P := nomatch h

end Go.VE
namespace Go.VE
open Go Go.Proofs
/-! ### quoin/quoinlaw22.awake -/
def qa_awake_G : List (Nat × App) := [(11, again_Make_S), (12, again_Keys_S), (15, again_Repeats_S), (13, again_Check_S)]
theorem qa_awake_Gok : GOk Tryd.prog (getG qa_awake_G) := GOk.cons again_Make_ok (GOk.cons again_Keys_ok (GOk.cons again_Repeats_ok (GOk.cons again_Check_ok (GOk.nil))))
def qa_awake_raw  (K : Res → List Cell → Prop) : Prop :=
 again_Make_P ((97 : Int), (3 : Int), ([100] : List Int), ([119] : List Int), (0 : Int), ([] : List Int)) ([] : List Int) ∧ (
 ∀ (r1 : (Bool × Int × Int × List Int) × Int), r1 = again_Make_F ((97 : Int), (3 : Int), ([100] : List Int), ([119] : List Int), (0 : Int), ([] : List Int)) ([] : List Int) → (
 wfR (.tup [.v (.st (.pair (.bool) (.pair (.int .u8) (.pair (.int .i64) (.sl (.int .u8)))))) r1.1, .v (.int .i64) r1.2]) → (
 again_Keys_P r1.1 (12 : Int) ∧ (
 ∀ (r2 : List Int × Int), r2 = again_Keys_F r1.1 (12 : Int) → (
 wfR (.tup [.fr 5 (.int .u8) r2.1, .v (.int .i64) r2.2]) → (
 bif (decide (r1.2 = (0 : Int))) then
 bif (decide (r2.2 = (0 : Int))) then
 bif (decide (r2.1 = ([34, 97, 49, 50, 100, 119] : List Int))) then
 again_Repeats_P ((0 : Int), (0 : Int), ([] : List Int), ([120] : List Int), (0 : Int), ([] : List Int)) ∧ (
 ∀ (r3 : Bool), r3 = again_Repeats_F ((0 : Int), (0 : Int), ([] : List Int), ([120] : List Int), (0 : Int), ([] : List Int)) → (
 wfR (.one (.v (.bool) r3)) → (
 bif r3 then
 again_Repeats_P ((0 : Int), (0 : Int), ([] : List Int), ([119] : List Int), (0 : Int), ([] : List Int)) ∧ (
 ∀ (r4 : Bool), r4 = again_Repeats_F ((0 : Int), (0 : Int), ([] : List Int), ([119] : List Int), (0 : Int), ([] : List Int)) → (
 wfR (.one (.v (.bool) r4)) → (
 bif (!r4) then
 again_Check_P (true, (0 : Int), (0 : Int), ([(46 : Int)] : List Int)) ∧ (
 ∀ (r5 : Int), r5 = again_Check_F (true, (0 : Int), (0 : Int), ([(46 : Int)] : List Int)) → (
 wfR (.one (.v (.int .i64) r5)) → (
 K (.one (.v (.bool) (decide (r5 = (220 : Int))))) [])))
 else
 K (.one (.v (.bool) false)) [])))
 else
 K (.one (.v (.bool) false)) [])))
 else
 K (.one (.v (.bool) false)) []
 else
 K (.one (.v (.bool) false)) []
 else
 K (.one (.v (.bool) false)) []))))))
def qa_awake_A : List AS := []
theorem qa_awake_walk  (K : Res → List Cell → Prop) : runF tb (getG qa_awake_G) [] Tryd.f10 [true] (mkA qa_awake_A ()) K = qa_awake_raw  K := by kernel_rfl
--! pre 0
--! import AG3
def qa_awake_F : Bool := true
theorem qa_awake_sp (K : Res → List Cell → Prop) (_ : wfA qa_awake_A ()) (h : ∀ r : Bool, r = qa_awake_F → K (.one (.v .bool r)) []) : qa_awake_raw K := by
  have sh : ∀ k : List Int, k.length ≤ 1 → ShortC ((0, 0, [], k, 0, []) : Cmd) 0 := fun k hk => ⟨by simp, by show k.length ≤ 1048576; omega, by simp⟩
  unfold qa_awake_raw
  refine ⟨make_P (n := 0) ⟨by decide, by decide, by decide⟩ (by decide) (by decide), fun r1 h1 _ => ?_⟩
  have e1 : again_Make_F ((97 : Int), (3 : Int), ([100] : List Int), ([119] : List Int), (0 : Int), ([] : List Int)) [] = ((true, 97, 3, [100, 119]), 0) := by kernel_rfl
  rw [e1] at h1
  subst h1
  refine ⟨keys_P (by decide) (by decide) (by decide), fun r2 h2 _ => ?_⟩
  have e2 : again_Keys_F ((true, (97 : Int), (3 : Int), ([100, 119] : List Int)), (0 : Int)).1 12 = ([34, 97, 49, 50, 100, 119], 0) := by kernel_rfl
  rw [e2] at h2
  subst h2
  refine brb (fun _ => ?_) (fun c => absurd c (by decide))
  refine brb (fun _ => ?_) (fun c => absurd c (by decide))
  refine brb (fun _ => ?_) (fun c => absurd c (by decide))
  refine ⟨repeats_P (sh _ (by decide)), fun r3 h3 _ => ?_⟩
  have e3 : again_Repeats_F ((0 : Int), (0 : Int), ([] : List Int), ([120] : List Int), (0 : Int), ([] : List Int)) = true := by kernel_rfl
  rw [e3] at h3
  subst h3
  refine brb (fun _ => ?_) (fun c => absurd c (by decide))
  refine ⟨repeats_P (sh _ (by decide)), fun r4 h4 _ => ?_⟩
  have e4 : again_Repeats_F ((0 : Int), (0 : Int), ([] : List Int), ([119] : List Int), (0 : Int), ([] : List Int)) = false := by kernel_rfl
  rw [e4] at h4
  subst h4
  refine brb (fun _ => ?_) (fun c => absurd c (by decide))
  refine ⟨check_P (by decide), fun r5 h5 _ => ?_⟩
  have e5 : again_Check_F (true, (0 : Int), (0 : Int), ([(46 : Int)] : List Int)) = 220 := by kernel_rfl
  rw [e5] at h5
  subst h5
  exact h true rfl

def qa_awake_C (v : valsA qa_awake_A) (K : Res → List Cell → Prop) : Prop := ∀ r : Bool, r = qa_awake_F → K (.one (.v (.bool) r)) []
def qa_awake_S : App := specW qa_awake_A qa_awake_C
theorem qa_awake_wv (K : Res → List Cell → Prop) : ∀ v : valsA qa_awake_A, runF tb (getG qa_awake_G) [] Tryd.f10 [true] (mkA qa_awake_A v) K = qa_awake_raw  K
  | () => qa_awake_walk  K
set_option maxRecDepth 20000 in
theorem qa_awake_ok : AppOk Tryd.prog 10 qa_awake_S :=
  AppOk.specW (spec_ok ((runF_ok tb_M tb_ok qa_awake_Gok (LabsOk.nil) (f := 10) (fn := Tryd.f10) (by kernel_rfl) (by kernel_rfl) (by kernel_rfl) [true])) fun v K hw h => (qa_awake_wv K v).mpr (qa_awake_sp  K hw h))

end Go.VE
namespace Go.VE
open Go Go.Proofs
/-! ### quoin/quoinlaw22.AgainDots -/
def qa_AgainDots_G : List (Nat × App) := [(10, qa_awake_S), (13, again_Check_S), (12, again_Keys_S), (14, qa_read_S), (15, again_Repeats_S), (17, again_Types_S)]
theorem qa_AgainDots_Gok : GOk Tryd.prog (getG qa_AgainDots_G) := GOk.cons qa_awake_ok (GOk.cons again_Check_ok (GOk.cons again_Keys_ok (GOk.cons qa_read_ok (GOk.cons again_Repeats_ok (GOk.cons again_Types_ok (GOk.nil))))))
theorem qa_AgainDots_st : storesC (bodyOf Tryd.f4) = true := by kernel_rfl
def qa_AgainDots_d0 : List LS := [.v 10 (.sl (.int .u8)), .v 103 (.sl (.int .u8)), .v 104 (.int .i64), .v 105 (.int .i64)]
def qa_AgainDots_d0r : List LS := [.v 2 (.bool)]
def qa_AgainDots_d0x0 : List LS := [.v 10 (.sl (.int .u8))]
def qa_AgainDots_dx0 : DX := ⟨none, some qa_AgainDots_d0r, [(0, qa_AgainDots_d0x0)]⟩
def qa_AgainDots_T0 (Y : List Int → List Int → Int → Int → Prop) (kr : Bool → Prop) (kx0 : List Int → Prop) (rest10 : List Int) (x103 : List Int) (x104 : Int) (x105 : Int) : Prop :=
 bif (decide (x105 < x104)) then
 bif decide (0 ≤ x105 ∧ x105 < (List.length x103 : Int)) then
 bif ((decide ((rd (0 : Int) x103 x105) = (27 : Int))) != (decide (x105 = (IntKind.wrap .i64 ((List.length rest10 : Int) - (1 : Int)))))) then
 kr false
 else
 Y rest10 x103 x104 (IntKind.wrap .i64 (x105 + (1 : Int)))
 else False
 else
 kx0 rest10
def qa_AgainDots_L0 (kr : Bool → Prop) (kx0 : List Int → Prop) : Nat → List Int → List Int → Int → Int → Prop
  | 0, _, _, _, _ => False
  | n + 1, rest10, x103, x104, x105 => wfD qa_AgainDots_d0 (rest10, x103, x104, x105, ()) → qa_AgainDots_T0 (qa_AgainDots_L0 kr kx0 n) kr kx0 rest10 x103 x104 x105
theorem qa_AgainDots_s0 (k : Ex → St → Prop) (Y : vals qa_AgainDots_d0 → Prop) (rest10 : List Int) (x103 : List Int) (x104 : Int) (x105 : Int) :
    ex tb (getG qa_AgainDots_G) [] (at' (bodyOf Tryd.f4) [0, 0, 1, 0, 1, 1, 1, 1, 1, 1, 1, 1]) [0, 0, 1, 0, 1, 1, 1, 1, 1, 1, 1, 1] (mkD 122 qa_AgainDots_d0 (rest10, x103, x104, x105, ())) (lpK 122 qa_AgainDots_d0 qa_AgainDots_dx0 k Y) =
    qa_AgainDots_T0 (fun rest10 x103 x104 x105 => Y (rest10, x103, x104, x105, ())) (fun x2 => wfD qa_AgainDots_d0r (x2, ()) → k .ret (mkD 122 qa_AgainDots_d0r (x2, ()))) (fun rest10 => wfD qa_AgainDots_d0x0 (rest10, ()) → k (.exit 0) (mkD 122 qa_AgainDots_d0x0 (rest10, ()))) rest10 x103 x104 x105 := by kernel_rfl
theorem qa_AgainDots_e0 (k : Ex → St → Prop) : ∀ (n : Nat) (rest10 : List Int) (x103 : List Int) (x104 : Int) (x105 : Int), lpD 122 qa_AgainDots_d0 qa_AgainDots_dx0 (ex tb (getG qa_AgainDots_G) [] (at' (bodyOf Tryd.f4) [0, 0, 1, 0, 1, 1, 1, 1, 1, 1, 1, 1]) [0, 0, 1, 0, 1, 1, 1, 1, 1, 1, 1, 1]) k n (rest10, x103, x104, x105, ()) = qa_AgainDots_L0 (fun x2 => wfD qa_AgainDots_d0r (x2, ()) → k .ret (mkD 122 qa_AgainDots_d0r (x2, ()))) (fun rest10 => wfD qa_AgainDots_d0x0 (rest10, ()) → k (.exit 0) (mkD 122 qa_AgainDots_d0x0 (rest10, ()))) n rest10 x103 x104 x105
  | 0, _, _, _, _ => rfl
  | n + 1, rest10, x103, x104, x105 => congrArg (fun Z : Prop => wfD qa_AgainDots_d0 (rest10, x103, x104, x105, ()) → Z) ((qa_AgainDots_s0 k (lpD 122 qa_AgainDots_d0 qa_AgainDots_dx0 (ex tb (getG qa_AgainDots_G) [] (at' (bodyOf Tryd.f4) [0, 0, 1, 0, 1, 1, 1, 1, 1, 1, 1, 1]) [0, 0, 1, 0, 1, 1, 1, 1, 1, 1, 1, 1]) k n) rest10 x103 x104 x105).trans (congrArg (fun Y => qa_AgainDots_T0 Y (fun x2 => wfD qa_AgainDots_d0r (x2, ()) → k .ret (mkD 122 qa_AgainDots_d0r (x2, ()))) (fun rest10 => wfD qa_AgainDots_d0x0 (rest10, ()) → k (.exit 0) (mkD 122 qa_AgainDots_d0x0 (rest10, ()))) rest10 x103 x104 x105) (funext fun rest10 => funext fun x103 => funext fun x104 => funext fun x105 => qa_AgainDots_e0 k n rest10 x103 x104 x105)))
theorem qa_AgainDots_v0 (k : Ex → St → Prop) (n : Nat) : ∀ v : vals qa_AgainDots_d0, lpD 122 qa_AgainDots_d0 qa_AgainDots_dx0 (ex tb (getG qa_AgainDots_G) [] (at' (bodyOf Tryd.f4) [0, 0, 1, 0, 1, 1, 1, 1, 1, 1, 1, 1]) [0, 0, 1, 0, 1, 1, 1, 1, 1, 1, 1, 1]) k n v = qa_AgainDots_L0 (fun x2 => wfD qa_AgainDots_d0r (x2, ()) → k .ret (mkD 122 qa_AgainDots_d0r (x2, ()))) (fun rest10 => wfD qa_AgainDots_d0x0 (rest10, ()) → k (.exit 0) (mkD 122 qa_AgainDots_d0x0 (rest10, ()))) n v.1 v.2.1 v.2.2.1 v.2.2.2.1
  | (rest10, x103, x104, x105, ()) => qa_AgainDots_e0 k n rest10 x103 x104 x105
def qa_AgainDots_X0 : Pce := fun st k => ckD 122 qa_AgainDots_d0 st fun v => wfD qa_AgainDots_d0 v → ∃ n, qa_AgainDots_L0 (fun x2 => wfD qa_AgainDots_d0r (x2, ()) → k .ret (mkD 122 qa_AgainDots_d0r (x2, ()))) (fun rest10 => wfD qa_AgainDots_d0x0 (rest10, ()) → k (.exit 0) (mkD 122 qa_AgainDots_d0x0 (rest10, ()))) n v.1 v.2.1 v.2.2.1 v.2.2.2.1
set_option maxRecDepth 20000 in
theorem qa_AgainDots_x0 : SemOk Tryd.prog (at' (bodyOf Tryd.f4) [0, 1, 0, 1, 1, 1, 1, 1, 1, 1, 1]) qa_AgainDots_X0 :=
  (SemOk.loop (ex_sound tb_M tb_ok qa_AgainDots_Gok (LabsOk.nil) (at' (bodyOf Tryd.f4) [0, 0, 1, 0, 1, 1, 1, 1, 1, 1, 1, 1]) [0, 0, 1, 0, 1, 1, 1, 1, 1, 1, 1, 1] rfl (storesC_at qa_AgainDots_st [0, 0, 1, 0, 1, 1, 1, 1, 1, 1, 1, 1])) 122 qa_AgainDots_d0 qa_AgainDots_dx0).mono fun st k h => ckD_mono h fun v hv hw => (hv hw).elim fun n hn => ⟨n, Eq.mpr (qa_AgainDots_v0 k n v) hn⟩
def qa_AgainDots_B0 : Labs := ([0, 1, 0, 1, 1, 1, 1, 1, 1, 1, 1], qa_AgainDots_X0) :: []
theorem qa_AgainDots_b0 : LabsOk Tryd.prog (bodyOf Tryd.f4) qa_AgainDots_B0 := LabsOk.cons qa_AgainDots_x0 (LabsOk.nil)
def qa_AgainDots_raw (r0 : (Bool × Int × Int × List Int)) (K : Res → List Cell → Prop) : Prop :=
 ∀ (r1 : Bool), r1 = qa_awake_F → (
 wfR (.one (.v (.bool) r1)) → (
 bif (!r1) then
 K (.one (.v (.bool) false)) []
 else
 again_Check_P r0 ∧ (
 ∀ (r2 : Int), r2 = again_Check_F r0 → (
 wfR (.one (.v (.int .i64) r2)) → (
 bif (!decide (r2 = (0 : Int))) then
 again_Keys_P r0 (0 : Int) ∧ (
 ∀ (r3 : List Int × Int), r3 = again_Keys_F r0 (0 : Int) → (
 wfR (.tup [.fr 5 (.int .u8) r3.1, .v (.int .i64) r3.2]) → (
 bif (decide (r3.2 = (2 : Int))) then
 bif r0.1 then
 K (.one (.v (.bool) true)) []
 else
 bif (decide (r3.2 = (220 : Int))) then
 K (.one (.v (.bool) (!r0.1))) []
 else
 K (.one (.v (.bool) false)) []
 else
 bif (decide (r3.2 = (220 : Int))) then
 K (.one (.v (.bool) (!r0.1))) []
 else
 K (.one (.v (.bool) false)) [])))
 else
 bif (!r0.1) then
 again_Keys_P r0 (0 : Int) ∧ (
 ∀ (r4 : List Int × Int), r4 = again_Keys_F r0 (0 : Int) → (
 wfR (.tup [.fr 5 (.int .u8) r4.1, .v (.int .i64) r4.2]) → (
 bif (decide ((List.length r0.2.2.2 : Int) = (0 : Int))) then
 bif (decide (r0.2.1 = (0 : Int))) then
 bif (decide (r0.2.2.1 = (0 : Int))) then
 K (.one (.v (.bool) (decide (r4.2 = (220 : Int))))) []
 else
 K (.one (.v (.bool) false)) []
 else
 K (.one (.v (.bool) false)) []
 else
 K (.one (.v (.bool) false)) [])))
 else
 qa_read_P r0.2.2.2 ∧ (
 ∀ (r5 : CmT × Int × Bool), r5 = qa_read_F r0.2.2.2 → (
 wfR (.tup [.v (.st (.pair (.int .u8) (.pair (.int .i64) (.pair (.str) (.pair (.str) (.pair (.int .u8) (.sl (.int .u8)))))))) r5.1, .v (.int .i64) r5.2.1, .v (.bool) r5.2.2]) → (
 bif (!r5.2.2) then
 K (.one (.v (.bool) false)) []
 else
 bif (decide (r5.1.2.2.2.1 = ([46] : List Int))) then
 K (.one (.v (.bool) false)) []
 else
 bif (!decide (r5.1.1 = (0 : Int))) then
 K (.one (.v (.bool) false)) []
 else
 bif (!decide (r5.1.2.1 = (0 : Int))) then
 K (.one (.v (.bool) false)) []
 else
 again_Repeats_P r5.1 ∧ (
 ∀ (r6 : Bool), r6 = again_Repeats_F r5.1 → (
 wfR (.one (.v (.bool) r6)) → (
 bif (!r6) then
 K (.one (.v (.bool) false)) []
 else
 bif decide (0 ≤ r5.2.1 ∧ r5.2.1 ≤ (List.length r0.2.2.2 : Int)) then
 again_Types_P r5.1 ∧ (
 ∀ (r7 : Bool), r7 = again_Types_F r5.1 → (
 wfR (.one (.v (.bool) r7)) → (
 bif (!r7) then
 K (.one (.v (.bool) (decide ((List.length (List.drop (Int.toNat r5.2.1) r0.2.2.2) : Int) = (0 : Int))))) []
 else
 (wfD qa_AgainDots_d0 ((List.drop (Int.toNat r5.2.1) r0.2.2.2), (List.drop (Int.toNat r5.2.1) r0.2.2.2), (List.length (List.drop (Int.toNat r5.2.1) r0.2.2.2) : Int), (0 : Int), ()) → ∃ n, qa_AgainDots_L0 (fun (x2 : Bool) => wfD qa_AgainDots_d0r (x2, ()) → (
 K (.one (.v (.bool) x2)) [])) (fun (rest10 : List Int) => wfD qa_AgainDots_d0x0 (rest10, ()) → (
 K (.one (.v (.bool) (decide ((0 : Int) < (List.length rest10 : Int))))) [])) n (List.drop (Int.toNat r5.2.1) r0.2.2.2) (List.drop (Int.toNat r5.2.1) r0.2.2.2) (List.length (List.drop (Int.toNat r5.2.1) r0.2.2.2) : Int) (0 : Int)))))
 else False)))))))))))
def qa_AgainDots_A : List AS := [.v (.st (.pair (.bool) (.pair (.int .u8) (.pair (.int .i64) (.sl (.int .u8))))))]
theorem qa_AgainDots_walk (r0 : (Bool × Int × Int × List Int)) (K : Res → List Cell → Prop) : runF tb (getG qa_AgainDots_G) qa_AgainDots_B0 Tryd.f4 [true] (mkA qa_AgainDots_A (r0, ())) K = qa_AgainDots_raw r0 K := by kernel_rfl
--! law 1

def qa_AgainDots_R : App := runF tb (getG qa_AgainDots_G) qa_AgainDots_B0 Tryd.f4 [true]
theorem qa_AgainDots_ok : AppOk Tryd.prog 4 qa_AgainDots_R := runF_ok tb_M tb_ok qa_AgainDots_Gok (qa_AgainDots_b0) (f := 4) (fn := Tryd.f4) (by kernel_rfl) (by kernel_rfl) qa_AgainDots_st [true]
end Go.VE
namespace Go.VE
open Go Go.Proofs

/-- what a whole record begins with is read by the law as by Check -/
theorem good_read {r : Rcd} {c : Cmd} {m : Int} (h : Good r c m) : qa_read_F r.2.2.2 = (c, m, true) ∧ 0 ≤ m ∧ m ≤ (r.2.2.2.length : Int) := by
  obtain ⟨_, _, _, hh, _, _, hr, _, hm, _⟩ := h
  have hsh := (head_short r.2.2.2).2
  rw [hh] at hsh
  refine ⟨?_, hsh⟩
  obtain ⟨k, hf, hc⟩ := head_true hh
  have h1 := is_short2 hr.1
  have h2 := name_len c
  have hkp := hf.2.1
  have hlen := congrArg List.length hm
  rw [made_eq, List.length_append, List.length_take] at hlen
  have hal := rep_asks hr
  rcases hc with ⟨hc1, rfl, rfl⟩ | ⟨hc3, hl⟩
  · have hfi := (parse_fine (r.2.2.2.take k)).1 (.inl hc1)
    have e1 : asksB (parseM (r.2.2.2.take k)).1.2.2.2.1 = 1 := by rw [← hfi.2.1, hc1]
    have hna : ¬ again_asks_F (parseM (r.2.2.2.take k)).1 = true := fun ha => by
      rw [if_pos ha, e1] at hal; exact absurd hal (by decide)
    have e2 : askL (parseM (r.2.2.2.take k)).1 = [] := by unfold askL; rw [if_neg hna]
    rw [e2, List.length_nil] at hlen
    exact read_one hf (by rw [Int.toNat_natCast] at hlen; omega) hc1
  · have hk4 : k ≤ 40 := by
      unfold lineR at hl
      by_cases hmm : 13 ∈ r.2.2.2.drop k
      · rw [if_pos hmm] at hl
        simp only [Prod.mk.injEq, and_true] at hl
        obtain ⟨e1, e2⟩ := hl
        have hlt := List.idxOf_lt_length_iff.2 hmm
        rw [List.length_drop] at hlt
        generalize hj : (r.2.2.2.drop k).idxOf 13 = j at *
        have hll : c.2.2.2.2.2.length = j := by
          rw [← e1]
          show ((r.2.2.2.drop k).take j).length = j
          rw [List.length_take, List.length_drop]; omega
        have hask : (askL c).length ≤ j + 1 := by
          unfold askL
          split
          · rw [List.length_append, hll]; simp
          · simp
        have : m.toNat = k + j + 1 := by omega
        rw [this] at hlen
        omega
      · rw [if_neg hmm] at hl
        simp only [Prod.mk.injEq] at hl
        exact absurd hl.2.2 (by decide)
    rw [read_ask hf hk4 hc3, ← hl]
    unfold lineR
    by_cases hmm : 13 ∈ r.2.2.2.drop k
    · rw [if_pos hmm, if_pos hmm]
    · unfold lineR at hl
      rw [if_neg hmm] at hl
      simp only [Prod.mk.injEq] at hl
      exact absurd hl.2.2 (by decide)

theorem dots_L0 (kr : Bool → Prop) (kx : List Int → Prop) (l : List Int) (hl : l.length ≤ 65536) (hne : l ≠ []) (hi : idxB l 27 = (l.length : Int) - 1) (hx : kx l) :
    ∀ (m i : Nat), l.length < m + i → i ≤ l.length → qa_AgainDots_L0 kr kx m l l (l.length : Int) (i : Int)
  | 0, i, h, h2 => by omega
  | m + 1, i, h, h2 => by
    intro _
    unfold qa_AgainDots_T0
    refine brn (fun hlt => asrt ⟨by omega, by omega⟩ ?_) (fun _ => hx)
    have hi' : i < l.length := by omega
    have hpos := List.length_pos_iff.2 hne
    have h27 : 27 ∈ l ∧ l.idxOf 27 = l.length - 1 := by
      unfold idxB at hi
      by_cases hm : 27 ∈ l
      · rw [if_pos hm] at hi; exact ⟨hm, by omega⟩
      · rw [if_neg hm] at hi; omega
    have hiff : l[i] = 27 ↔ i = l.length - 1 := by
      constructor
      · intro e
        have : ¬ i < l.idxOf 27 := fun hh => by
          have hn : ¬ 27 ∈ l.take (l.idxOf 27) := by
            intro hm
            have := List.idxOf_lt_length_iff.2 hm
            have e2 : l.idxOf 27 = (l.take (l.idxOf 27)).idxOf 27 := by
              conv => lhs; rw [← List.take_append_drop (l.idxOf 27) l]
              rw [List.idxOf_append, if_pos hm]
            rw [List.length_take] at this
            omega
          exact hn (List.mem_take_iff_getElem.2 ⟨i, by omega, e⟩)
        omega
      · intro e
        subst e
        have hlt := List.idxOf_lt_length_iff.2 h27.1
        have := List.getElem_idxOf hlt
        simp only [h27.2] at this
        exact this
    rw [rd_nat _ _ _ hi', wrap_i64 (by omega) (by omega)]
    refine brb (fun q => ?_) (fun _ => ?_)
    · exfalso
      by_cases e : l[i] = 27
      · have : i = l.length - 1 := hiff.1 e
        rw [decide_eq_true e, decide_eq_true (show (i : Int) = (l.length : Int) - 1 by omega)] at q
        exact absurd q (by decide)
      · have : ¬ i = l.length - 1 := fun h => e (hiff.2 h)
        rw [decide_eq_false e, decide_eq_false (show ¬ (i : Int) = (l.length : Int) - 1 by omega)] at q
        exact absurd q (by decide)
    · rw [wrap_i64 (by omega) (by omega), show (i : Int) + 1 = ((i + 1 : Nat) : Int) by omega]
      exact dots_L0 kr kx l hl hne hi hx m (i + 1) (by omega) (by omega)

theorem dots_raw {r : Rcd} (hl : r.2.2.2.length ≤ 1048576) (hc : r.2.2.1 ≤ 9223372036854775807) : qa_AgainDots_raw r yesK := by
  have hk : again_Keys_P r 0 := keys_P (by decide) hc (by omega)
  unfold qa_AgainDots_raw
  intro r1 h1 _
  subst h1
  refine brb (fun q => nob q) (fun _ => ⟨check_P (by omega), fun r2 h2 _ => ?_⟩)
  subst h2
  by_cases h0 : again_Check_F r = 0
  · rw [h0]
    refine brb (fun q => nob q) (fun _ => brb (fun hs => ?_) (fun hs => ?_))
    · have hs : r.1 = false := by simpa using hs
      obtain ⟨a, b, d⟩ := check_unset hs h0
      refine ⟨hk, fun r4 h4 _ => ?_⟩
      have e4 : r4.2 = 220 := by rw [h4]; exact keys_unset hs
      rw [a, b, d, e4]
      exact rfl
    · have hs : r.1 = true := by simpa using hs
      obtain ⟨c, m, hg⟩ := (check_set hs).1 h0
      obtain ⟨hrd, hm0, hm1⟩ := good_read hg
      obtain ⟨g1, g2, g3, g4, g5, g6, g7, g8, g9, g10, g11⟩ := hg
      have hsh : ShortC c r.2.2.2.length := by
        have := (head_short r.2.2.2).1
        rw [g4] at this
        exact this
      refine ⟨show r.2.2.2.length ≤ 1099511627776 by omega, fun r5 h5 _ => ?_⟩
      rw [hrd] at h5
      subst h5
      dsimp only
      refine brb (fun q => nob q) (fun _ => brn (fun q => absurd q (rep_key g7).2.1) (fun _ => ?_))
      rw [g5, g6]
      refine brb (fun q => nob q) (fun _ => brb (fun q => nob q) (fun _ => ⟨repeats_P hsh, fun r6 h6 _ => ?_⟩))
      rw [repeats_iff.2 g7] at h6
      subst h6
      refine brb (fun q => nob q) (fun _ => asrt ⟨hm0, hm1⟩ ⟨types_P hsh, fun r7 h7 _ => ?_⟩)
      subst h7
      refine brb (fun q => ?_) (fun q => ?_)
      · have q : again_Types_F c = false := by simpa using q
        rw [g11 q]
        exact rfl
      · have q : again_Types_F c = true := by simpa using q
        obtain ⟨e1, e2⟩ := g10 q
        have hdl : (r.2.2.2.drop m.toNat).length ≤ 65536 := by rw [List.length_drop]; omega
        intro _
        refine ⟨(r.2.2.2.drop m.toNat).length + 1, dots_L0 _ _ _ hdl e1 e2 (fun _ => ?_) _ 0 (by omega) (Nat.zero_le _)⟩
        have := List.length_pos_iff.2 e1
        rw [decide_eq_true (by omega)]
        exact rfl
  · rw [decide_eq_false h0]
    refine brb (fun _ => ⟨hk, fun r3 h3 _ => ?_⟩) (fun q => nob q.symm)
    cases hs : r.1
    · have e3 : r3.2 = 220 := by rw [h3]; exact keys_unset hs
      rw [e3]
      exact rfl
    · have e3 : r3.2 = 2 := by rw [h3]; exact keys_bad hs h0
      rw [e3]
      exact rfl

theorem dots_law (v : valsA qa_AgainDots_A) (hw : wfA qa_AgainDots_A v) (hb : bulkA qa_AgainDots_A v ≤ 1048576) : qa_AgainDots_R (mkA qa_AgainDots_A v) yesK := by
  obtain ⟨r, ⟨⟩⟩ := v
  refine (qa_AgainDots_walk r yesK).mpr ?_
  obtain ⟨⟨_, _, hn, _⟩, _⟩ := hw
  obtain ⟨s, g, n, k⟩ := r
  have hb' : (1 + (1 + (1 + bulk (.sl (.int .u8)) k))) + 0 ≤ 1048576 := hb
  rw [bulk_bytes] at hb'
  refine dots_raw (by show List.length k ≤ _; omega) ?_
  exact hn.2
end Go.VE
