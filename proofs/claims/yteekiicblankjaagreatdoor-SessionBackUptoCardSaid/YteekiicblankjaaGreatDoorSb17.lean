import Derived.Test.YteekiicblankjaaGreatDoorSb16
import Derived.Lib.LaidCaseMet
set_option linter.unusedVariables false
set_option linter.unusedSectionVars false
set_option linter.unusedSimpArgs false
namespace Go.Proofs
open Go.Shelf Go.Lib
theorem a0x {P : Program} {w : World} : ∀ {l l' : List (String × DataW Unit)} {ps : List MemPlace}, DataW.LaidVars P w (l ++ l') ps → ∃ pa pb, ps = pa ++ pb ∧ DataW.LaidVars P w l pa ∧ DataW.LaidVars P w l' pb
 | [], l', ps, h => ⟨[], ps, rfl, rfl, h⟩
 | (n, d) :: r, l', ps, h => by
  obtain ⟨g, t, cs, fuel, p, q, h1, h2, h3, h4, h5, rfl⟩ := h
  obtain ⟨pa, pb, rfl, ha, hb⟩ := a0x h5
  exact ⟨MemPlace.row ⟨g, 0, none⟩ cs.size ++ p ++ pa, pb, by simp [List.append_assoc], ⟨g, t, cs, fuel, p, pa, h1, h2, h3, h4, ha, rfl⟩, hb⟩
theorem a5Z {P : Program} {w : World} {l1 l2 : List (String × DataW Unit)} {c : String × DataW Unit} (h : laidMet P ((l1 ++ l2) ++ [c]) w) : laidMet P (l1 ++ ([c] ++ l2)) w := by
 obtain ⟨ps, h1, h2, h3⟩ := h
 obtain ⟨pab, pc, rfl, hab, hc⟩ := a0x h1
 obtain ⟨pa, pb, rfl, ha, hb⟩ := a0x hab
 have hp : (pa ++ (pc ++ pb)).Perm (pa ++ pb ++ pc) := by
  rw [List.append_assoc]
  exact List.Perm.append_left pa List.perm_append_comm
 refine ⟨pa ++ (pc ++ pb), LaidVars_append ha (LaidVars_append hc hb), hp.nodup_iff.2 h2, fun b off hm => h3 b off (hp.mem_iff.1 hm)⟩
end Go.Proofs
namespace Go.Proofs.YteekiicblankjaaGreatDoor
open Go.RowKit Go.Shelf
noncomputable def a1d (os : Os) : World :=
 let N := (World.settled Tryz.prog os).heap.size
 let w0 := World.holding Tryz.prog os ⟨#[.cells Lib.caseCells5 (E7.t 208), .cells #[.string ⟨#[98, 121, 116, 101, 115, 46, 66, 117, 102, 102, 101, 114, 58, 32, 116, 111, 111, 32, 108, 97, 114, 103, 101]⟩] 617], #[], []⟩
 let put (h : Array Obj) (g : Nat) (cs : Array Value) : Array Obj := h.modify g fun
  | .cells _ t frozen => .cells cs t frozen
  | o => o
 let h1 := put w0.heap 4 (Lib.firstTab.map fun z => Value.int .u8 z).toArray
 let h2 := put h1 5 ((List.range 16).flatMap fun i => [Value.int .u8 (Lib.accLo i), Value.int .u8 (Lib.accHi i)]).toArray
 let h3 := put h2 2 #[.slice (some ⟨N, 0, none⟩) 336 336]
 let h4 := put h3 8 #[.iface 599 (.pointer (some ⟨N + 1, 0, none⟩))]
 let h5 := put h4 3 #[.int .u64 1, .int .u64 10, .int .u64 100, .int .u64 1000, .int .u64 10000, .int .u64 100000, .int .u64 1000000, .int .u64 10000000, .int .u64 100000000, .int .u64 1000000000, .int .u64 10000000000, .int .u64 100000000000, .int .u64 1000000000000, .int .u64 10000000000000, .int .u64 100000000000000, .int .u64 1000000000000000, .int .u64 10000000000000000, .int .u64 100000000000000000, .int .u64 1000000000000000000, .int .u64 10000000000000000000]
 let h6 := put h5 6 #[.int .u8 0, .int .u8 1, .int .u8 28, .int .u8 2, .int .u8 29, .int .u8 14, .int .u8 24, .int .u8 3, .int .u8 30, .int .u8 22, .int .u8 20, .int .u8 15, .int .u8 25, .int .u8 17, .int .u8 4, .int .u8 8, .int .u8 31, .int .u8 27, .int .u8 13, .int .u8 23, .int .u8 21, .int .u8 19, .int .u8 16, .int .u8 7, .int .u8 26, .int .u8 12, .int .u8 18, .int .u8 6, .int .u8 11, .int .u8 5, .int .u8 10, .int .u8 9]
 let h7 := put h6 7 #[.int .u8 0, .int .u8 1, .int .u8 56, .int .u8 2, .int .u8 57, .int .u8 49, .int .u8 28, .int .u8 3, .int .u8 61, .int .u8 58, .int .u8 42, .int .u8 50, .int .u8 38, .int .u8 29, .int .u8 17, .int .u8 4, .int .u8 62, .int .u8 47, .int .u8 59, .int .u8 36, .int .u8 45, .int .u8 43, .int .u8 51, .int .u8 22, .int .u8 53, .int .u8 39, .int .u8 33, .int .u8 30, .int .u8 24, .int .u8 18, .int .u8 12, .int .u8 5, .int .u8 63, .int .u8 55, .int .u8 48, .int .u8 27, .int .u8 60, .int .u8 41, .int .u8 37, .int .u8 16, .int .u8 46, .int .u8 35, .int .u8 44, .int .u8 21, .int .u8 52, .int .u8 32, .int .u8 23, .int .u8 11, .int .u8 54, .int .u8 26, .int .u8 40, .int .u8 15, .int .u8 34, .int .u8 20, .int .u8 31, .int .u8 10, .int .u8 25, .int .u8 14, .int .u8 19, .int .u8 9, .int .u8 13, .int .u8 8, .int .u8 7, .int .u8 6]
 let h8 := put h7 0 #[.iface 175 (.agg #[.pointer (some ⟨9, 42, none⟩)])]
 {w0 with heap := h8 }
theorem a6E (os : Os) (args : Array Value) : laidMet Tryz.prog a3M ((a1d os).forCall (fun _ _ => 0) ⟨#[], args, []⟩).memory := by
 have h := laidMet_with_case (ρ := E7) (w := ((a1d os).forCall (fun _ _ => 0) ⟨#[], args, []⟩).memory) { lays159 with } (by kernel_rfl) a9e
  (l := [("unicode/utf8.first", Rows.laid_unicode_utf8_first), ("unicode/utf8.acceptRanges", Rows.laid_unicode_utf8_acceptRanges)] ++ [("bytes.ErrTooLarge", Rows.laid_bytes_ErrTooLarge), ("internal/strconv.uint64pow10", Rows.laid_internal_strconv_uint64pow10), ("math/bits.deBruijn32tab", Rows.laid_math_bits_deBruijn32tab), ("math/bits.deBruijn64tab", Rows.laid_math_bits_deBruijn64tab)])
  10 (by kernel_rfl) (by kernel_rfl) (by kernel_rfl) ((World.settled Tryz.prog default).heap.size) (E7.t 208) (of_decide_eq_true (by kernel_rfl)) (by kernel_rfl) (by kernel_rfl) (by kernel_rfl)
 rw [← a7Y] at h
 exact a5Z h
end Go.Proofs.YteekiicblankjaaGreatDoor
