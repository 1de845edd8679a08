/- AgainDots: whatever the input, up to the bulk that the statement names, the law answers true, and what was handed in reads as it did. Its conditions: the bound of the given statement and the tables that its card ties, no other. -/
import Derived.Test.YtmnhjhamgacdnaaDoorC14
import Derived.Lib.RuneCountTail
import Derived.Lib.DecodeN
import Derived.Lib.IndexEntry
import Derived.Lib.QuoteLoop
set_option linter.unusedVariables false
set_option linter.unusedSectionVars false
set_option linter.unusedSimpArgs false
namespace Go.Lib
theorem decodeN_hi (n b0 b1 b2 b3 : Nat) (hn : 1 ≤ n) (h : 128 ≤ b0) : 1 ≤ (decodeN n b0 b1 b2 b3).2 ∧ (decodeN n b0 b1 b2 b3).2 ≤ 4 ∧ (decodeN n b0 b1 b2 b3).2 ≤ n ∧ 128 ≤ (decodeN n b0 b1 b2 b3).1 ∧ (decodeN n b0 b1 b2 b3).1 ≤ 1114111 ∧
    (1 < (decodeN n b0 b1 b2 b3).2 → 128 ≤ b1) ∧ (2 < (decodeN n b0 b1 b2 b3).2 → 128 ≤ b2) ∧ (3 < (decodeN n b0 b1 b2 b3).2 → 128 ≤ b3) := by
  unfold decodeN
  rw [if_neg (by omega)]
  repeat' split
  all_goals (refine ⟨?_, ?_, ?_, ?_, ?_, ?_, ?_, ?_⟩ <;> dsimp only <;> omega)

/-- behind a byte from 128 on: so many bytes, none of them ASCII -/
theorem decode_hi (s : ByteArray) (i : Nat) (hi : i < s.size) (h : 128 ≤ (s.get! i).toNat) : 1 ≤ (Utf8.decode s i).2 ∧ (Utf8.decode s i).2 ≤ 4 ∧ i + (Utf8.decode s i).2 ≤ s.size ∧ 128 ≤ (Utf8.decode s i).1 ∧ (Utf8.decode s i).1 ≤ 1114111 ∧
    ∀ k, k < (Utf8.decode s i).2 → 128 ≤ (s.get! (i + k)).toNat := by
  rw [decode_at]
  obtain ⟨h1, h2, h3, h4, h5, h6, h7, h8⟩ := decodeN_hi (s.size - i) (s.get! i).toNat (s.get! (i + 1)).toNat (s.get! (i + 2)).toNat (s.get! (i + 3)).toNat (by omega) h
  refine ⟨h1, h2, by omega, h4, h5, fun k hk => ?_⟩
  rcases k with _ | _ | _ | _ | k
  · exact h
  · exact h6 hk
  · exact h7 hk
  · exact h8 hk
  · omega

theorem encode_hi (r : Int) (h : 128 ≤ r) : 2 ≤ (Utf8.encode r).size ∧ ∃ x : UInt8, (Utf8.encode r).data.toList[0]? = some x ∧ 128 ≤ x.toNat := by
  unfold Utf8.encode
  have hc : ¬ ((if Utf8.valid r then r.toNat else Utf8.runeError) < 128) := by
    split
    · omega
    · unfold Utf8.runeError; omega
  have hb : ∀ n, 128 ≤ n → n < 256 → 128 ≤ (UInt8.ofNat n).toNat := fun n a b => by
    have : (UInt8.ofNat n).toNat = n % 256 := by simp
    rw [this]; omega
  have hm : (if Utf8.valid r then r.toNat else Utf8.runeError) ≤ 1114111 := by
    split
    · rename_i hv
      unfold Utf8.valid at hv
      simp at hv
      omega
    · unfold Utf8.runeError; omega
  generalize (if Utf8.valid r then r.toNat else Utf8.runeError) = c at hc hm
  dsimp only
  rw [if_neg hc]
  repeat' split
  · exact ⟨Nat.le_refl _, _, rfl, hb _ (by omega) (by omega)⟩
  · exact ⟨by show 2 ≤ 3; omega, _, rfl, hb _ (by omega) (by omega)⟩
  · exact ⟨by show 2 ≤ 4; omega, _, rfl, hb _ (by omega) (by omega)⟩

theorem encode_le (r : Int) : (Utf8.encode r).size ≤ 4 := by
  unfold Utf8.encode
  dsimp only
  repeat' split
  all_goals (show _ ≤ 4; first | exact Nat.le_refl _ | (show 1 ≤ 4; omega) | (show 2 ≤ 4; omega) | (show 3 ≤ 4; omega))
theorem decodeN_enc (n b0 b1 b2 b3 : Nat) (h : 128 ≤ b0) (hr : (decodeN n b0 b1 b2 b3).1 ≠ 65533) : (Utf8.encode ((decodeN n b0 b1 b2 b3).1 : Int)).size = (decodeN n b0 b1 b2 b3).2 := by
  have e2 : ∀ c : Nat, 128 ≤ c → c < 2048 → (Utf8.encode (c : Int)).size = 2 := fun c h1 h2 => by
    have hv : Utf8.valid (c : Int) = true := by unfold Utf8.valid; simp; omega
    unfold Utf8.encode
    simp only [hv, if_true, Int.toNat_natCast]
    rw [if_neg (show ¬ c < 128 by omega), if_pos (show c < 2048 by omega)]
    rfl
  have e3 : ∀ c : Nat, 2048 ≤ c → (c < 55296 ∨ (57344 ≤ c ∧ c ≤ 1114111)) → c < 65536 → (Utf8.encode (c : Int)).size = 3 := fun c h1 h2 h3 => by
    have hv : Utf8.valid (c : Int) = true := by unfold Utf8.valid; simp; omega
    unfold Utf8.encode
    simp only [hv, if_true, Int.toNat_natCast]
    rw [if_neg (show ¬ c < 128 by omega), if_neg (show ¬ c < 2048 by omega), if_pos (show c < 65536 by omega)]
    rfl
  have e4 : ∀ c : Nat, 65536 ≤ c → (c < 55296 ∨ (57344 ≤ c ∧ c ≤ 1114111)) → (Utf8.encode (c : Int)).size = 4 := fun c h1 h2 => by
    have hv : Utf8.valid (c : Int) = true := by unfold Utf8.valid; simp; omega
    unfold Utf8.encode
    simp only [hv, if_true, Int.toNat_natCast]
    rw [if_neg (show ¬ c < 128 by omega), if_neg (show ¬ c < 2048 by omega), if_neg (show ¬ c < 65536 by omega)]
    rfl
  unfold decodeN at hr ⊢
  rw [if_neg (by omega)] at hr ⊢
  split at hr
  · rename_i g1; rw [if_pos g1]
    split at hr
    · rename_i g2; rw [if_pos g2]; exact e2 _ g2 (by dsimp only; omega)
    · exact absurd rfl hr
  · rename_i g1; rw [if_neg g1]
    split at hr
    · rename_i g3; rw [if_pos g3]
      split at hr
      · rename_i g2; rw [if_pos g2]; exact e3 _ g2.1 g2.2 (by dsimp only; omega)
      · exact absurd rfl hr
    · rename_i g3; rw [if_neg g3]
      split at hr
      · rename_i g4; rw [if_pos g4]
        split at hr
        · rename_i g2; rw [if_pos g2]; exact e4 _ g2.1 g2.2
        · exact absurd rfl hr
      · exact absurd rfl hr

theorem decode_enc (s : ByteArray) (i : Nat) (h : 128 ≤ (s.get! i).toNat) (hr : (Utf8.decode s i).1 ≠ 65533) : (Utf8.encode ((Utf8.decode s i).1 : Int)).size = (Utf8.decode s i).2 := by
  rw [decode_at] at hr ⊢
  exact decodeN_enc _ _ _ _ _ h hr

theorem index_hi {x : UInt8} {t : List UInt8} (hx : 128 ≤ x.toNat) : ∀ {s : List UInt8}, (∀ (j : Nat) b, s[j]? = some b → b.toNat < 128) → index s (x :: t) = -1
  | [], _ => rfl
  | b :: l, h => by
    have ih := index_hi (t := t) hx (s := l) fun j b hj => h (j + 1) b hj
    have hb : b.toNat < 128 := h 0 b rfl
    have hne : (x == b) = false := by
      rw [beq_eq_false_iff_ne]; intro e; subst e; omega
    have hp : (x :: t).isPrefixOf (b :: l) = false := by
      show ((x == b) && _) = false
      rw [hne]; rfl
    rw [index, hp, ih]; rfl
end Go.Lib
