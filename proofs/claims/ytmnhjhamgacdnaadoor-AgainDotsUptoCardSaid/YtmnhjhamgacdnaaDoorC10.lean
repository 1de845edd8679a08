/- AgainDots: whatever the input, up to the bulk that the statement names, the law answers true, and what was handed in reads as it did. Its conditions: the bound of the given statement and the tables that its card ties, no other. -/
import Derived.Test.YtmnhjhamgacdnaaDoorC9
import Derived.Test.YtmnhjhamgacdnaaDoorProg
import Derived.Lib.LaidTab
import Derived.Lib.ItoaNum
import Derived.Shelf.Unicode.DecodeSlow
set_option linter.unusedVariables false
set_option linter.unusedSectionVars false
set_option linter.unusedSimpArgs false
namespace Go.VE
abbrev CmT := Int × Int × List Int × List Int × Int × List Int
open Go Go.Proofs
/-- what is known of the library's variables: the search's bound is a number, the tables are as they were laid -/
instance : Glob where
  ok I w := (∃ ob m, I 0 ∧ w.heap[0]? = some ob ∧ ∀ w' : World, w'.heap[0]? = some ob → w'.cell? ⟨0, 0, none⟩ = some (.int .i64 m)) ∧
    (∃ o2 o3, I 2 ∧ I 3 ∧ w.heap[2]? = some o2 ∧ w.heap[3]? = some o3 ∧ ∀ w' : World, w'.heap[2]? = some o2 → w'.heap[3]? = some o3 → Lib.Utf8Tabs 2 3 w') ∧
    ∃ g ob, Tryd.prog.globalNamed "internal/strconv.uint64pow10" = some g ∧ I g ∧ w.heap[g]? = some ob ∧ ∀ w' : World, w'.heap[g]? = some ob → Lib.TabIs Tryd.prog w' "internal/strconv.uint64pow10" .u64 Lib.pow10Tab
  keep := fun hk ⟨⟨ob, m, h0, h1, h2⟩, ⟨o2, o3, i2, i3, j2, j3, h3⟩, g, oc, k0, k1, k2, k3⟩ =>
    ⟨⟨ob, m, hk.sub 0 h0, (hk.heap 0 h0).trans h1, h2⟩, ⟨o2, o3, hk.sub 2 i2, hk.sub 3 i3, (hk.heap 2 i2).trans j2, (hk.heap 3 i3).trans j3, h3⟩, g, oc, k0, hk.sub g k1, (hk.heap g k1).trans k2, k3⟩
theorem glob_pow10 {I : Nat → Prop} {w : World} (h : Glob.ok I w) : ∃ g ob, Tryd.prog.globalNamed "internal/strconv.uint64pow10" = some g ∧ I g ∧ w.heap[g]? = some ob ∧ ∀ w' : World, w'.heap[g]? = some ob → Lib.TabIs Tryd.prog w' "internal/strconv.uint64pow10" .u64 Lib.pow10Tab := h.2.2
def tb : Tab := [(2, ⟨.int .i64, 0, [], 8⟩), (3, ⟨.int .i64, 0, [], 8⟩), (4, ⟨.bool, 0, [], 1⟩), (5, ⟨.int .u8, 0, [], 1⟩), (9, ⟨.str, 0, [], 16⟩), (21, ⟨.int .i32, 0, [], 4⟩), (22, ⟨.sl (.int .u8), 5, [], 24⟩), (24, ⟨.st (.pair (.int .u8) (.pair (.int .i64) (.pair (.str) (.pair (.str) (.pair (.int .u8) (.sl (.int .u8))))))), 0, [], 80⟩), (27, ⟨.st (.pair (.bool) (.pair (.int .u8) (.pair (.int .i64) (.sl (.int .u8))))), 0, [], 40⟩), (28, ⟨.int .i64, 0, [], 8⟩), (43, ⟨.st (.pair (.bool) (.pair (.bool) (.sl (.int .u8)))), 0, [], 32⟩), (45, ⟨.st (.pair (.int .i64) (.pair (.int .i64) (.pair (.st (.pair (.bool) (.pair (.bool) (.sl (.int .u8))))) (.bool)))), 0, [], 56⟩), (46, ⟨.sl (.st (.pair (.int .i64) (.pair (.sl (.int .u8)) (.sl (.int .u8))))), 95, [], 24⟩), (48, ⟨.st (.pair (.sl (.st (.pair (.int .i64) (.pair (.sl (.int .u8)) (.sl (.int .u8)))))) (.pair (.int .i64) (.pair (.st (.pair (.bool) (.pair (.bool) (.sl (.int .u8))))) (.pair (.int .i64) (.bool))))), 0, [], 80⟩), (56, ⟨.sl (.sl (.int .u8)), 22, [], 24⟩), (60, ⟨.st (.pair (.int .i64) (.pair (.int .i64) (.bool))), 0, [], 24⟩), (65, ⟨.st (.pair (.int .i64) (.pair (.int .i64) (.pair (.bool) (.bool)))), 0, [], 24⟩), (77, ⟨.st (.pair (.int .i64) (.pair (.int .i64) (.pair (.str) (.st (.pair (.int .i64) (.pair (.int .i64) (.pair (.bool) (.bool)))))))), 0, [], 56⟩), (79, ⟨.st (.pair (.int .i64) (.pair (.int .i64) (.pair (.int .i64) (.pair (.int .u8) (.str))))), 0, [], 48⟩), (95, ⟨.st (.pair (.int .i64) (.pair (.sl (.int .u8)) (.sl (.int .u8)))), 0, [], 56⟩), (113, ⟨.st (.pair (.sl (.int .u8)) (.pair (.int .i64) (.pair (.st (.pair (.int .i64) (.pair (.int .i64) (.pair (.bool) (.bool))))) (.pair (.int .i64) (.pair (.int .i64) (.int .i64)))))), 0, [], 80⟩), (124, ⟨.st (.pair (.sl (.int .u8)) (.int .i64)), 0, [], 32⟩), (133, ⟨.int .u64, 0, [], 8⟩), (140, ⟨.sl (.int .i64), 3, [], 24⟩), (147, ⟨.int .u64, 0, [], 8⟩), (152, ⟨.int .u32, 0, [], 4⟩), (195, ⟨.st (.pair (.int .u8) (.int .u8)), 0, [], 2⟩)]
theorem tb_M : Tryd.prog.follows .mixedOrders = true := by kernel_rfl
theorem ty_2 : TySem Tryd.prog tb 2 ⟨.int .i64, 0, [], 8⟩ := TySem.ofInt (by kernel_rfl) (by kernel_rfl) rfl
theorem ty_3 : TySem Tryd.prog tb 3 ⟨.int .i64, 0, [], 8⟩ := TySem.ofInt (by kernel_rfl) (by kernel_rfl) rfl
theorem ty_4 : TySem Tryd.prog tb 4 ⟨.bool, 0, [], 1⟩ := TySem.ofBool (by kernel_rfl) (by kernel_rfl) rfl
theorem ty_5 : TySem Tryd.prog tb 5 ⟨.int .u8, 0, [], 1⟩ := TySem.ofInt (by kernel_rfl) (by kernel_rfl) rfl
theorem ty_9 : TySem Tryd.prog tb 9 ⟨.str, 0, [], 16⟩ := TySem.ofStr (by kernel_rfl) (by kernel_rfl) rfl
theorem ty_21 : TySem Tryd.prog tb 21 ⟨.int .i32, 0, [], 4⟩ := TySem.ofInt (by kernel_rfl) (by kernel_rfl) rfl
theorem ty_22 : TySem Tryd.prog tb 22 ⟨.sl (.int .u8), 5, [], 24⟩ := TySem.ofSl (by kernel_rfl) (by kernel_rfl) rfl (by kernel_rfl)
theorem ty_24 : TySem Tryd.prog tb 24 ⟨.st (.pair (.int .u8) (.pair (.int .i64) (.pair (.str) (.pair (.str) (.pair (.int .u8) (.sl (.int .u8))))))), 0, [], 80⟩ := TySem.ofSt (c := 6) (by kernel_rfl) (by kernel_rfl) (by kernel_rfl) rfl (by kernel_rfl)
theorem ty_27 : TySem Tryd.prog tb 27 ⟨.st (.pair (.bool) (.pair (.int .u8) (.pair (.int .i64) (.sl (.int .u8))))), 0, [], 40⟩ := TySem.ofSt (c := 4) (by kernel_rfl) (by kernel_rfl) (by kernel_rfl) rfl (by kernel_rfl)
theorem ty_28 : TySem Tryd.prog tb 28 ⟨.int .i64, 0, [], 8⟩ := TySem.ofInt (by kernel_rfl) (by kernel_rfl) rfl
theorem ty_43 : TySem Tryd.prog tb 43 ⟨.st (.pair (.bool) (.pair (.bool) (.sl (.int .u8)))), 0, [], 32⟩ := TySem.ofSt (c := 3) (by kernel_rfl) (by kernel_rfl) (by kernel_rfl) rfl (by kernel_rfl)
theorem ty_45 : TySem Tryd.prog tb 45 ⟨.st (.pair (.int .i64) (.pair (.int .i64) (.pair (.st (.pair (.bool) (.pair (.bool) (.sl (.int .u8))))) (.bool)))), 0, [], 56⟩ := TySem.ofSt (c := 6) (by kernel_rfl) (by kernel_rfl) (by kernel_rfl) rfl (by kernel_rfl)
theorem ty_46 : TySem Tryd.prog tb 46 ⟨.sl (.st (.pair (.int .i64) (.pair (.sl (.int .u8)) (.sl (.int .u8))))), 95, [], 24⟩ := TySem.ofSl (by kernel_rfl) (by kernel_rfl) rfl (by kernel_rfl)
theorem ty_48 : TySem Tryd.prog tb 48 ⟨.st (.pair (.sl (.st (.pair (.int .i64) (.pair (.sl (.int .u8)) (.sl (.int .u8)))))) (.pair (.int .i64) (.pair (.st (.pair (.bool) (.pair (.bool) (.sl (.int .u8))))) (.pair (.int .i64) (.bool))))), 0, [], 80⟩ := TySem.ofSt (c := 7) (by kernel_rfl) (by kernel_rfl) (by kernel_rfl) rfl (by kernel_rfl)
theorem ty_56 : TySem Tryd.prog tb 56 ⟨.sl (.sl (.int .u8)), 22, [], 24⟩ := TySem.ofSl (by kernel_rfl) (by kernel_rfl) rfl (by kernel_rfl)
theorem ty_60 : TySem Tryd.prog tb 60 ⟨.st (.pair (.int .i64) (.pair (.int .i64) (.bool))), 0, [], 24⟩ := TySem.ofSt (c := 3) (by kernel_rfl) (by kernel_rfl) (by kernel_rfl) rfl (by kernel_rfl)
theorem ty_65 : TySem Tryd.prog tb 65 ⟨.st (.pair (.int .i64) (.pair (.int .i64) (.pair (.bool) (.bool)))), 0, [], 24⟩ := TySem.ofSt (c := 4) (by kernel_rfl) (by kernel_rfl) (by kernel_rfl) rfl (by kernel_rfl)
theorem ty_77 : TySem Tryd.prog tb 77 ⟨.st (.pair (.int .i64) (.pair (.int .i64) (.pair (.str) (.st (.pair (.int .i64) (.pair (.int .i64) (.pair (.bool) (.bool)))))))), 0, [], 56⟩ := TySem.ofSt (c := 7) (by kernel_rfl) (by kernel_rfl) (by kernel_rfl) rfl (by kernel_rfl)
theorem ty_79 : TySem Tryd.prog tb 79 ⟨.st (.pair (.int .i64) (.pair (.int .i64) (.pair (.int .i64) (.pair (.int .u8) (.str))))), 0, [], 48⟩ := TySem.ofSt (c := 5) (by kernel_rfl) (by kernel_rfl) (by kernel_rfl) rfl (by kernel_rfl)
theorem ty_95 : TySem Tryd.prog tb 95 ⟨.st (.pair (.int .i64) (.pair (.sl (.int .u8)) (.sl (.int .u8)))), 0, [], 56⟩ := TySem.ofSt (c := 3) (by kernel_rfl) (by kernel_rfl) (by kernel_rfl) rfl (by kernel_rfl)
theorem ty_113 : TySem Tryd.prog tb 113 ⟨.st (.pair (.sl (.int .u8)) (.pair (.int .i64) (.pair (.st (.pair (.int .i64) (.pair (.int .i64) (.pair (.bool) (.bool))))) (.pair (.int .i64) (.pair (.int .i64) (.int .i64)))))), 0, [], 80⟩ := TySem.ofSt (c := 9) (by kernel_rfl) (by kernel_rfl) (by kernel_rfl) rfl (by kernel_rfl)
theorem ty_124 : TySem Tryd.prog tb 124 ⟨.st (.pair (.sl (.int .u8)) (.int .i64)), 0, [], 32⟩ := TySem.ofSt (c := 2) (by kernel_rfl) (by kernel_rfl) (by kernel_rfl) rfl (by kernel_rfl)
theorem ty_133 : TySem Tryd.prog tb 133 ⟨.int .u64, 0, [], 8⟩ := TySem.ofInt (by kernel_rfl) (by kernel_rfl) rfl
theorem ty_140 : TySem Tryd.prog tb 140 ⟨.sl (.int .i64), 3, [], 24⟩ := TySem.ofSl (by kernel_rfl) (by kernel_rfl) rfl (by kernel_rfl)
theorem ty_147 : TySem Tryd.prog tb 147 ⟨.int .u64, 0, [], 8⟩ := TySem.ofInt (by kernel_rfl) (by kernel_rfl) rfl
theorem ty_152 : TySem Tryd.prog tb 152 ⟨.int .u32, 0, [], 4⟩ := TySem.ofInt (by kernel_rfl) (by kernel_rfl) rfl
theorem ty_195 : TySem Tryd.prog tb 195 ⟨.st (.pair (.int .u8) (.int .u8)), 0, [], 2⟩ := TySem.ofSt (c := 2) (by kernel_rfl) (by kernel_rfl) (by kernel_rfl) rfl (by kernel_rfl)
theorem tb_ok : TabOk Tryd.prog tb := TabOk.of (all_cons ty_2 (all_cons ty_3 (all_cons ty_4 (all_cons ty_5 (all_cons ty_9 (all_cons ty_21 (all_cons ty_22 (all_cons ty_24 (all_cons ty_27 (all_cons ty_28 (all_cons ty_43 (all_cons ty_45 (all_cons ty_46 (all_cons ty_48 (all_cons ty_56 (all_cons ty_60 (all_cons ty_65 (all_cons ty_77 (all_cons ty_79 (all_cons ty_95 (all_cons ty_113 (all_cons ty_124 (all_cons ty_133 (all_cons ty_140 (all_cons ty_147 (all_cons ty_152 (all_cons ty_195 (all_nil))))))))))))))))))))))))))))
end Go.VE
namespace Go.VE
open Go Go.Proofs
/-! ### (*quoin/keys.reader).next -/
def keys_reader_next_G : List (Nat × App) := []
theorem keys_reader_next_Gok : GOk Tryd.prog (getG keys_reader_next_G) := GOk.nil
def keys_reader_next_raw (r0 : (List Int × Int)) (K : Res → List Cell → Prop) : Prop :=
 bif (decide (r0.2 = (List.length r0.1 : Int))) then
 K (.tup [.v (.int .u8) (0 : Int), .v (.bool) false]) [⟨.st (.pair (.sl (.int .u8)) (.int .i64)), r0⟩]
 else
 bif decide (0 ≤ (IntKind.wrap .i64 ((IntKind.wrap .i64 (r0.2 + (1 : Int))) - (1 : Int))) ∧ (IntKind.wrap .i64 ((IntKind.wrap .i64 (r0.2 + (1 : Int))) - (1 : Int))) < (List.length r0.1 : Int)) then
 K (.tup [.v (.int .u8) (rd (0 : Int) r0.1 (IntKind.wrap .i64 ((IntKind.wrap .i64 (r0.2 + (1 : Int))) - (1 : Int)))), .v (.bool) true]) [⟨.st (.pair (.sl (.int .u8)) (.int .i64)), (r0.1, (IntKind.wrap .i64 (r0.2 + (1 : Int))))⟩]
 else False
def keys_reader_next_A : List AS := [.r (.st (.pair (.sl (.int .u8)) (.int .i64)))]
theorem keys_reader_next_walk (r0 : (List Int × Int)) (K : Res → List Cell → Prop) : runF tb (getG keys_reader_next_G) [] Tryd.f86 [true, true] (mkA keys_reader_next_A (r0, ())) K = keys_reader_next_raw r0 K := by kernel_rfl

def keys_reader_next_P (r0 : (List Int × Int)) : Prop :=
 bif (decide (r0.2 = (List.length r0.1 : Int))) then
 True
 else
 (0 ≤ (IntKind.wrap .i64 ((IntKind.wrap .i64 (r0.2 + (1 : Int))) - (1 : Int))) ∧ (IntKind.wrap .i64 ((IntKind.wrap .i64 (r0.2 + (1 : Int))) - (1 : Int))) < (List.length r0.1 : Int))
def keys_reader_next_F (r0 : (List Int × Int)) : Int × Bool × (List Int × Int) :=
 bif (decide (r0.2 = (List.length r0.1 : Int))) then
 ((0 : Int), false, r0)
 else
 ((rd (0 : Int) r0.1 (IntKind.wrap .i64 ((IntKind.wrap .i64 (r0.2 + (1 : Int))) - (1 : Int)))), true, (r0.1, (IntKind.wrap .i64 (r0.2 + (1 : Int)))))
set_option maxRecDepth 20000 in
theorem keys_reader_next_sp (r0 : (List Int × Int)) (K : Res → List Cell → Prop) (_ : wfA keys_reader_next_A (r0, ())) (hp : keys_reader_next_P r0) (h : ∀ r : Int × Bool × (List Int × Int), r = keys_reader_next_F r0 → K (.tup [.v (.int .u8) r.1, .v (.bool) r.2.1]) [⟨.st (.pair (.sl (.int .u8)) (.int .i64)), r.2.2⟩]) : keys_reader_next_raw r0 K := by
  unfold keys_reader_next_raw
  unfold keys_reader_next_P at hp
  refine brb (fun c_1 => ?_) (fun c_1 => ?_)
  ·
    clear hp
    have e := h _ ((ctrue c_1) : keys_reader_next_F r0 = _).symm
    exact e
  ·
    replace hp := cF c_1 hp
    refine asrt hp ?_
    have e := h _ ((cfalse c_1) : keys_reader_next_F r0 = _).symm
    exact e
def keys_reader_next_C (v : valsA keys_reader_next_A) (K : Res → List Cell → Prop) : Prop := keys_reader_next_P v.1 ∧ ∀ r : Int × Bool × (List Int × Int), r = keys_reader_next_F v.1 → K (.tup [.v (.int .u8) r.1, .v (.bool) r.2.1]) [⟨.st (.pair (.sl (.int .u8)) (.int .i64)), r.2.2⟩]
def keys_reader_next_S : App := specW keys_reader_next_A keys_reader_next_C
theorem keys_reader_next_wv (K : Res → List Cell → Prop) : ∀ v : valsA keys_reader_next_A, runF tb (getG keys_reader_next_G) [] Tryd.f86 [true, true] (mkA keys_reader_next_A v) K = keys_reader_next_raw v.1 K
  | (r0, ()) => keys_reader_next_walk r0 K
set_option maxRecDepth 20000 in
theorem keys_reader_next_ok : AppOk Tryd.prog 86 keys_reader_next_S :=
  AppOk.specW (spec_ok ((runF_ok tb_M tb_ok keys_reader_next_Gok (LabsOk.nil) (f := 86) (fn := Tryd.f86) (by kernel_rfl) (by kernel_rfl) (by kernel_rfl) [true, true])) fun v K hw h => (keys_reader_next_wv K v).mpr (keys_reader_next_sp v.1 K hw h.1 h.2))

end Go.VE
namespace Go.VE
open Go Go.Proofs
/-! ### quoin/bank.sort -/
def bank_sort_G : List (Nat × App) := []
theorem bank_sort_Gok : GOk Tryd.prog (getG bank_sort_G) := GOk.nil
def bank_sort_raw (name0 : Int) (K : Res → List Cell → Prop) : Prop :=
 bif (decide (name0 = (0 : Int))) then
 K (.tup [.v (.int .i64) (1 : Int), .v (.int .i64) (0 : Int)]) []
 else
 bif (decide (name0 = (34 : Int))) then
 K (.tup [.v (.int .i64) (1 : Int), .v (.int .i64) (0 : Int)]) []
 else
 bif (decide (name0 = (45 : Int))) then
 K (.tup [.v (.int .i64) (2 : Int), .v (.int .i64) (0 : Int)]) []
 else
 bif (decide ((49 : Int) ≤ name0)) then
 bif (decide (name0 ≤ (57 : Int))) then
 K (.tup [.v (.int .i64) (3 : Int), .v (.int .i64) (IntKind.wrap .i64 (IntKind.wrap .u8 (name0 - (49 : Int))))]) []
 else
 bif (decide ((97 : Int) ≤ name0)) then
 bif (decide (name0 ≤ (122 : Int))) then
 K (.tup [.v (.int .i64) (4 : Int), .v (.int .i64) (IntKind.wrap .i64 (IntKind.wrap .u8 (name0 - (97 : Int))))]) []
 else
 bif (decide ((65 : Int) ≤ name0)) then
 bif (decide (name0 ≤ (90 : Int))) then
 K (.tup [.v (.int .i64) (5 : Int), .v (.int .i64) (IntKind.wrap .i64 (IntKind.wrap .u8 (name0 - (65 : Int))))]) []
 else
 K (.tup [.v (.int .i64) (0 : Int), .v (.int .i64) (0 : Int)]) []
 else
 K (.tup [.v (.int .i64) (0 : Int), .v (.int .i64) (0 : Int)]) []
 else
 bif (decide ((65 : Int) ≤ name0)) then
 bif (decide (name0 ≤ (90 : Int))) then
 K (.tup [.v (.int .i64) (5 : Int), .v (.int .i64) (IntKind.wrap .i64 (IntKind.wrap .u8 (name0 - (65 : Int))))]) []
 else
 K (.tup [.v (.int .i64) (0 : Int), .v (.int .i64) (0 : Int)]) []
 else
 K (.tup [.v (.int .i64) (0 : Int), .v (.int .i64) (0 : Int)]) []
 else
 bif (decide ((97 : Int) ≤ name0)) then
 bif (decide (name0 ≤ (122 : Int))) then
 K (.tup [.v (.int .i64) (4 : Int), .v (.int .i64) (IntKind.wrap .i64 (IntKind.wrap .u8 (name0 - (97 : Int))))]) []
 else
 bif (decide ((65 : Int) ≤ name0)) then
 bif (decide (name0 ≤ (90 : Int))) then
 K (.tup [.v (.int .i64) (5 : Int), .v (.int .i64) (IntKind.wrap .i64 (IntKind.wrap .u8 (name0 - (65 : Int))))]) []
 else
 K (.tup [.v (.int .i64) (0 : Int), .v (.int .i64) (0 : Int)]) []
 else
 K (.tup [.v (.int .i64) (0 : Int), .v (.int .i64) (0 : Int)]) []
 else
 bif (decide ((65 : Int) ≤ name0)) then
 bif (decide (name0 ≤ (90 : Int))) then
 K (.tup [.v (.int .i64) (5 : Int), .v (.int .i64) (IntKind.wrap .i64 (IntKind.wrap .u8 (name0 - (65 : Int))))]) []
 else
 K (.tup [.v (.int .i64) (0 : Int), .v (.int .i64) (0 : Int)]) []
 else
 K (.tup [.v (.int .i64) (0 : Int), .v (.int .i64) (0 : Int)]) []
def bank_sort_A : List AS := [.v (.int .u8)]
theorem bank_sort_walk (name0 : Int) (K : Res → List Cell → Prop) : runF tb (getG bank_sort_G) [] Tryd.f120 [true, true] (mkA bank_sort_A (name0, ())) K = bank_sort_raw name0 K := by kernel_rfl

def bank_sort_F (name0 : Int) : Int × Int :=
 bif (decide (name0 = (0 : Int))) then
 ((1 : Int), (0 : Int))
 else
 bif (decide (name0 = (34 : Int))) then
 ((1 : Int), (0 : Int))
 else
 bif (decide (name0 = (45 : Int))) then
 ((2 : Int), (0 : Int))
 else
 bif (decide ((49 : Int) ≤ name0)) then
 bif (decide (name0 ≤ (57 : Int))) then
 ((3 : Int), (IntKind.wrap .i64 (IntKind.wrap .u8 (name0 - (49 : Int)))))
 else
 bif (decide ((97 : Int) ≤ name0)) then
 bif (decide (name0 ≤ (122 : Int))) then
 ((4 : Int), (IntKind.wrap .i64 (IntKind.wrap .u8 (name0 - (97 : Int)))))
 else
 bif (decide ((65 : Int) ≤ name0)) then
 bif (decide (name0 ≤ (90 : Int))) then
 ((5 : Int), (IntKind.wrap .i64 (IntKind.wrap .u8 (name0 - (65 : Int)))))
 else
 ((0 : Int), (0 : Int))
 else
 ((0 : Int), (0 : Int))
 else
 bif (decide ((65 : Int) ≤ name0)) then
 bif (decide (name0 ≤ (90 : Int))) then
 ((5 : Int), (IntKind.wrap .i64 (IntKind.wrap .u8 (name0 - (65 : Int)))))
 else
 ((0 : Int), (0 : Int))
 else
 ((0 : Int), (0 : Int))
 else
 bif (decide ((97 : Int) ≤ name0)) then
 bif (decide (name0 ≤ (122 : Int))) then
 ((4 : Int), (IntKind.wrap .i64 (IntKind.wrap .u8 (name0 - (97 : Int)))))
 else
 bif (decide ((65 : Int) ≤ name0)) then
 bif (decide (name0 ≤ (90 : Int))) then
 ((5 : Int), (IntKind.wrap .i64 (IntKind.wrap .u8 (name0 - (65 : Int)))))
 else
 ((0 : Int), (0 : Int))
 else
 ((0 : Int), (0 : Int))
 else
 bif (decide ((65 : Int) ≤ name0)) then
 bif (decide (name0 ≤ (90 : Int))) then
 ((5 : Int), (IntKind.wrap .i64 (IntKind.wrap .u8 (name0 - (65 : Int)))))
 else
 ((0 : Int), (0 : Int))
 else
 ((0 : Int), (0 : Int))
set_option maxRecDepth 20000 in
theorem bank_sort_sp (name0 : Int) (K : Res → List Cell → Prop) (_ : wfA bank_sort_A (name0, ())) (h : ∀ r : Int × Int, r = bank_sort_F name0 → K (.tup [.v (.int .i64) r.1, .v (.int .i64) r.2]) []) : bank_sort_raw name0 K := by
  unfold bank_sort_raw
  refine brb (fun c_1 => ?_) (fun c_1 => ?_)
  ·
    have e := h _ ((ctrue c_1) : bank_sort_F name0 = _).symm
    exact e
  ·
    refine brb (fun c_2 => ?_) (fun c_2 => ?_)
    ·
      have e := h _ ((Eq.trans (cfalse c_1) (ctrue c_2)) : bank_sort_F name0 = _).symm
      exact e
    ·
      refine brb (fun c_3 => ?_) (fun c_3 => ?_)
      ·
        have e := h _ ((Eq.trans (cfalse c_1) (Eq.trans (cfalse c_2) (ctrue c_3))) : bank_sort_F name0 = _).symm
        exact e
      ·
        refine brb (fun c_4 => ?_) (fun c_4 => ?_)
        ·
          refine brb (fun c_5 => ?_) (fun c_5 => ?_)
          ·
            have e := h _ ((Eq.trans (cfalse c_1) (Eq.trans (cfalse c_2) (Eq.trans (cfalse c_3) (Eq.trans (ctrue c_4) (ctrue c_5))))) : bank_sort_F name0 = _).symm
            exact e
          ·
            refine brb (fun c_6 => ?_) (fun c_6 => ?_)
            ·
              refine brb (fun c_7 => ?_) (fun c_7 => ?_)
              ·
                have e := h _ ((Eq.trans (cfalse c_1) (Eq.trans (cfalse c_2) (Eq.trans (cfalse c_3) (Eq.trans (ctrue c_4) (Eq.trans (cfalse c_5) (Eq.trans (ctrue c_6) (ctrue c_7))))))) : bank_sort_F name0 = _).symm
                exact e
              ·
                refine brb (fun c_8 => ?_) (fun c_8 => ?_)
                ·
                  refine brb (fun c_9 => ?_) (fun c_9 => ?_)
                  ·
                    have e := h _ ((Eq.trans (cfalse c_1) (Eq.trans (cfalse c_2) (Eq.trans (cfalse c_3) (Eq.trans (ctrue c_4) (Eq.trans (cfalse c_5) (Eq.trans (ctrue c_6) (Eq.trans (cfalse c_7) (Eq.trans (ctrue c_8) (ctrue c_9))))))))) : bank_sort_F name0 = _).symm
                    exact e
                  ·
                    have e := h _ ((Eq.trans (cfalse c_1) (Eq.trans (cfalse c_2) (Eq.trans (cfalse c_3) (Eq.trans (ctrue c_4) (Eq.trans (cfalse c_5) (Eq.trans (ctrue c_6) (Eq.trans (cfalse c_7) (Eq.trans (ctrue c_8) (cfalse c_9))))))))) : bank_sort_F name0 = _).symm
                    exact e
                ·
                  have e := h _ ((Eq.trans (cfalse c_1) (Eq.trans (cfalse c_2) (Eq.trans (cfalse c_3) (Eq.trans (ctrue c_4) (Eq.trans (cfalse c_5) (Eq.trans (ctrue c_6) (Eq.trans (cfalse c_7) (cfalse c_8)))))))) : bank_sort_F name0 = _).symm
                  exact e
            ·
              refine brb (fun c_10 => ?_) (fun c_10 => ?_)
              ·
                refine brb (fun c_11 => ?_) (fun c_11 => ?_)
                ·
                  have e := h _ ((Eq.trans (cfalse c_1) (Eq.trans (cfalse c_2) (Eq.trans (cfalse c_3) (Eq.trans (ctrue c_4) (Eq.trans (cfalse c_5) (Eq.trans (cfalse c_6) (Eq.trans (ctrue c_10) (ctrue c_11)))))))) : bank_sort_F name0 = _).symm
                  exact e
                ·
                  have e := h _ ((Eq.trans (cfalse c_1) (Eq.trans (cfalse c_2) (Eq.trans (cfalse c_3) (Eq.trans (ctrue c_4) (Eq.trans (cfalse c_5) (Eq.trans (cfalse c_6) (Eq.trans (ctrue c_10) (cfalse c_11)))))))) : bank_sort_F name0 = _).symm
                  exact e
              ·
                have e := h _ ((Eq.trans (cfalse c_1) (Eq.trans (cfalse c_2) (Eq.trans (cfalse c_3) (Eq.trans (ctrue c_4) (Eq.trans (cfalse c_5) (Eq.trans (cfalse c_6) (cfalse c_10))))))) : bank_sort_F name0 = _).symm
                exact e
        ·
          refine brb (fun c_12 => ?_) (fun c_12 => ?_)
          ·
            refine brb (fun c_13 => ?_) (fun c_13 => ?_)
            ·
              have e := h _ ((Eq.trans (cfalse c_1) (Eq.trans (cfalse c_2) (Eq.trans (cfalse c_3) (Eq.trans (cfalse c_4) (Eq.trans (ctrue c_12) (ctrue c_13)))))) : bank_sort_F name0 = _).symm
              exact e
            ·
              refine brb (fun c_14 => ?_) (fun c_14 => ?_)
              ·
                refine brb (fun c_15 => ?_) (fun c_15 => ?_)
                ·
                  have e := h _ ((Eq.trans (cfalse c_1) (Eq.trans (cfalse c_2) (Eq.trans (cfalse c_3) (Eq.trans (cfalse c_4) (Eq.trans (ctrue c_12) (Eq.trans (cfalse c_13) (Eq.trans (ctrue c_14) (ctrue c_15)))))))) : bank_sort_F name0 = _).symm
                  exact e
                ·
                  have e := h _ ((Eq.trans (cfalse c_1) (Eq.trans (cfalse c_2) (Eq.trans (cfalse c_3) (Eq.trans (cfalse c_4) (Eq.trans (ctrue c_12) (Eq.trans (cfalse c_13) (Eq.trans (ctrue c_14) (cfalse c_15)))))))) : bank_sort_F name0 = _).symm
                  exact e
              ·
                have e := h _ ((Eq.trans (cfalse c_1) (Eq.trans (cfalse c_2) (Eq.trans (cfalse c_3) (Eq.trans (cfalse c_4) (Eq.trans (ctrue c_12) (Eq.trans (cfalse c_13) (cfalse c_14))))))) : bank_sort_F name0 = _).symm
                exact e
          ·
            refine brb (fun c_16 => ?_) (fun c_16 => ?_)
            ·
              refine brb (fun c_17 => ?_) (fun c_17 => ?_)
              ·
                have e := h _ ((Eq.trans (cfalse c_1) (Eq.trans (cfalse c_2) (Eq.trans (cfalse c_3) (Eq.trans (cfalse c_4) (Eq.trans (cfalse c_12) (Eq.trans (ctrue c_16) (ctrue c_17))))))) : bank_sort_F name0 = _).symm
                exact e
              ·
                have e := h _ ((Eq.trans (cfalse c_1) (Eq.trans (cfalse c_2) (Eq.trans (cfalse c_3) (Eq.trans (cfalse c_4) (Eq.trans (cfalse c_12) (Eq.trans (ctrue c_16) (cfalse c_17))))))) : bank_sort_F name0 = _).symm
                exact e
            ·
              have e := h _ ((Eq.trans (cfalse c_1) (Eq.trans (cfalse c_2) (Eq.trans (cfalse c_3) (Eq.trans (cfalse c_4) (Eq.trans (cfalse c_12) (cfalse c_16)))))) : bank_sort_F name0 = _).symm
              exact e
def bank_sort_C (v : valsA bank_sort_A) (K : Res → List Cell → Prop) : Prop := ∀ r : Int × Int, r = bank_sort_F v.1 → K (.tup [.v (.int .i64) r.1, .v (.int .i64) r.2]) []
def bank_sort_S : App := specW bank_sort_A bank_sort_C
theorem bank_sort_wv (K : Res → List Cell → Prop) : ∀ v : valsA bank_sort_A, runF tb (getG bank_sort_G) [] Tryd.f120 [true, true] (mkA bank_sort_A v) K = bank_sort_raw v.1 K
  | (name0, ()) => bank_sort_walk name0 K
set_option maxRecDepth 20000 in
theorem bank_sort_ok : AppOk Tryd.prog 120 bank_sort_S :=
  AppOk.specW (spec_ok ((runF_ok tb_M tb_ok bank_sort_Gok (LabsOk.nil) (f := 120) (fn := Tryd.f120) (by kernel_rfl) (by kernel_rfl) (by kernel_rfl) [true, true])) fun v K hw h => (bank_sort_wv K v).mpr (bank_sort_sp v.1 K hw h))

end Go.VE
namespace Go.VE
open Go Go.Proofs
/-! ### quoin/bank.Valid -/
def bank_Valid_G : List (Nat × App) := [(120, bank_sort_S)]
theorem bank_Valid_Gok : GOk Tryd.prog (getG bank_Valid_G) := GOk.cons bank_sort_ok (GOk.nil)
def bank_Valid_raw (name0 : Int) (K : Res → List Cell → Prop) : Prop :=
 ∀ (r1 : Int × Int), r1 = bank_sort_F name0 → (
 wfR (.tup [.v (.int .i64) r1.1, .v (.int .i64) r1.2]) → (
 K (.one (.v (.bool) (!decide (r1.1 = (0 : Int))))) []))
def bank_Valid_A : List AS := [.v (.int .u8)]
theorem bank_Valid_walk (name0 : Int) (K : Res → List Cell → Prop) : runF tb (getG bank_Valid_G) [] Tryd.f82 [true] (mkA bank_Valid_A (name0, ())) K = bank_Valid_raw name0 K := by kernel_rfl

def bank_Valid_F (name0 : Int) : Bool :=
 let r1 : Int × Int := bank_sort_F name0
 (!decide (r1.1 = (0 : Int)))
set_option maxRecDepth 20000 in
theorem bank_Valid_sp (name0 : Int) (K : Res → List Cell → Prop) (_ : wfA bank_Valid_A (name0, ())) (h : ∀ r : Bool, r = bank_Valid_F name0 → K (.one (.v (.bool) r)) []) : bank_Valid_raw name0 K := by
  unfold bank_Valid_raw
  intro r1 hr1
  subst hr1
  intro _
  exact h _ rfl
def bank_Valid_C (v : valsA bank_Valid_A) (K : Res → List Cell → Prop) : Prop := ∀ r : Bool, r = bank_Valid_F v.1 → K (.one (.v (.bool) r)) []
def bank_Valid_S : App := specW bank_Valid_A bank_Valid_C
theorem bank_Valid_wv (K : Res → List Cell → Prop) : ∀ v : valsA bank_Valid_A, runF tb (getG bank_Valid_G) [] Tryd.f82 [true] (mkA bank_Valid_A v) K = bank_Valid_raw v.1 K
  | (name0, ()) => bank_Valid_walk name0 K
set_option maxRecDepth 20000 in
theorem bank_Valid_ok : AppOk Tryd.prog 82 bank_Valid_S :=
  AppOk.specW (spec_ok ((runF_ok tb_M tb_ok bank_Valid_Gok (LabsOk.nil) (f := 82) (fn := Tryd.f82) (by kernel_rfl) (by kernel_rfl) (by kernel_rfl) [true])) fun v K hw h => (bank_Valid_wv K v).mpr (bank_Valid_sp v.1 K hw h))

end Go.VE
namespace Go.VE
open Go Go.Proofs
/-! ### (*quoin/keys.reader).count -/
def keys_reader_count_G : List (Nat × App) := []
theorem keys_reader_count_Gok : GOk Tryd.prog (getG keys_reader_count_G) := GOk.nil
theorem keys_reader_count_st : storesC (bodyOf Tryd.f87) = true := by kernel_rfl
def keys_reader_count_d0 : List LS := [.b 0 7 [], .v 3 (.int .i64), .c 7 (.st (.pair (.sl (.int .u8)) (.int .i64)))]
def keys_reader_count_d0x0 : List LS := [.v 3 (.int .i64), .c 7 (.st (.pair (.sl (.int .u8)) (.int .i64)))]
def keys_reader_count_dx0 : DX := ⟨none, none, [(0, keys_reader_count_d0x0)]⟩
def keys_reader_count_T0 (Y : Int → (List Int × Int) → Prop) (kx0 : Int → (List Int × Int) → Prop) (n3 : Int) (r0b : (List Int × Int)) : Prop :=
 bif (decide (r0b.2 < (List.length r0b.1 : Int))) then
 bif decide (0 ≤ r0b.2 ∧ r0b.2 < (List.length r0b.1 : Int)) then
 bif (decide ((rd (0 : Int) r0b.1 r0b.2) < (48 : Int))) then
 kx0 n3 r0b
 else
 bif (decide ((57 : Int) < (rd (0 : Int) r0b.1 r0b.2))) then
 kx0 n3 r0b
 else
 bif (decide ((rd (0 : Int) r0b.1 r0b.2) = (48 : Int))) then
 bif (decide (n3 = (0 : Int))) then
 kx0 n3 r0b
 else
 Y (mn (IntKind.wrap .i64 ((IntKind.wrap .i64 (n3 * (10 : Int))) + (IntKind.wrap .i64 (IntKind.wrap .u8 ((rd (0 : Int) r0b.1 r0b.2) - (48 : Int)))))) (9999 : Int)) (r0b.1, (IntKind.wrap .i64 (r0b.2 + (1 : Int))))
 else
 Y (mn (IntKind.wrap .i64 ((IntKind.wrap .i64 (n3 * (10 : Int))) + (IntKind.wrap .i64 (IntKind.wrap .u8 ((rd (0 : Int) r0b.1 r0b.2) - (48 : Int)))))) (9999 : Int)) (r0b.1, (IntKind.wrap .i64 (r0b.2 + (1 : Int))))
 else False
 else
 kx0 n3 r0b
def keys_reader_count_L0 (kx0 : Int → (List Int × Int) → Prop) : Nat → Int → (List Int × Int) → Prop
  | 0, _, _ => False
  | n + 1, n3, r0b => wfD keys_reader_count_d0 (n3, r0b, ()) → keys_reader_count_T0 (keys_reader_count_L0 kx0 n) kx0 n3 r0b
theorem keys_reader_count_s0 (k : Ex → St → Prop) (Y : vals keys_reader_count_d0 → Prop) (n3 : Int) (r0b : (List Int × Int)) :
    ex tb (getG keys_reader_count_G) [] (at' (bodyOf Tryd.f87) [0, 0, 0, 1, 1]) [0, 0, 0, 1, 1] (mkD 54 keys_reader_count_d0 (n3, r0b, ())) (lpK 54 keys_reader_count_d0 keys_reader_count_dx0 k Y) =
    keys_reader_count_T0 (fun n3 r0b => Y (n3, r0b, ())) (fun n3 r0b => wfD keys_reader_count_d0x0 (n3, r0b, ()) → k (.exit 0) (mkD 54 keys_reader_count_d0x0 (n3, r0b, ()))) n3 r0b := by kernel_rfl
theorem keys_reader_count_e0 (k : Ex → St → Prop) : ∀ (n : Nat) (n3 : Int) (r0b : (List Int × Int)), lpD 54 keys_reader_count_d0 keys_reader_count_dx0 (ex tb (getG keys_reader_count_G) [] (at' (bodyOf Tryd.f87) [0, 0, 0, 1, 1]) [0, 0, 0, 1, 1]) k n (n3, r0b, ()) = keys_reader_count_L0 (fun n3 r0b => wfD keys_reader_count_d0x0 (n3, r0b, ()) → k (.exit 0) (mkD 54 keys_reader_count_d0x0 (n3, r0b, ()))) n n3 r0b
  | 0, _, _ => rfl
  | n + 1, n3, r0b => congrArg (fun Z : Prop => wfD keys_reader_count_d0 (n3, r0b, ()) → Z) ((keys_reader_count_s0 k (lpD 54 keys_reader_count_d0 keys_reader_count_dx0 (ex tb (getG keys_reader_count_G) [] (at' (bodyOf Tryd.f87) [0, 0, 0, 1, 1]) [0, 0, 0, 1, 1]) k n) n3 r0b).trans (congrArg (fun Y => keys_reader_count_T0 Y (fun n3 r0b => wfD keys_reader_count_d0x0 (n3, r0b, ()) → k (.exit 0) (mkD 54 keys_reader_count_d0x0 (n3, r0b, ()))) n3 r0b) (funext fun n3 => funext fun r0b => keys_reader_count_e0 k n n3 r0b)))
theorem keys_reader_count_v0 (k : Ex → St → Prop) (n : Nat) : ∀ v : vals keys_reader_count_d0, lpD 54 keys_reader_count_d0 keys_reader_count_dx0 (ex tb (getG keys_reader_count_G) [] (at' (bodyOf Tryd.f87) [0, 0, 0, 1, 1]) [0, 0, 0, 1, 1]) k n v = keys_reader_count_L0 (fun n3 r0b => wfD keys_reader_count_d0x0 (n3, r0b, ()) → k (.exit 0) (mkD 54 keys_reader_count_d0x0 (n3, r0b, ()))) n v.1 v.2.1
  | (n3, r0b, ()) => keys_reader_count_e0 k n n3 r0b
def keys_reader_count_X0 : Pce := fun st k => ckD 54 keys_reader_count_d0 st fun v => wfD keys_reader_count_d0 v → ∃ n, keys_reader_count_L0 (fun n3 r0b => wfD keys_reader_count_d0x0 (n3, r0b, ()) → k (.exit 0) (mkD 54 keys_reader_count_d0x0 (n3, r0b, ()))) n v.1 v.2.1
set_option maxRecDepth 20000 in
theorem keys_reader_count_x0 : SemOk Tryd.prog (at' (bodyOf Tryd.f87) [0, 0, 1, 1]) keys_reader_count_X0 :=
  (SemOk.loop (ex_sound tb_M tb_ok keys_reader_count_Gok (LabsOk.nil) (at' (bodyOf Tryd.f87) [0, 0, 0, 1, 1]) [0, 0, 0, 1, 1] rfl (storesC_at keys_reader_count_st [0, 0, 0, 1, 1])) 54 keys_reader_count_d0 keys_reader_count_dx0).mono fun st k h => ckD_mono h fun v hv hw => (hv hw).elim fun n hn => ⟨n, Eq.mpr (keys_reader_count_v0 k n v) hn⟩
def keys_reader_count_B0 : Labs := ([0, 0, 1, 1], keys_reader_count_X0) :: []
theorem keys_reader_count_b0 : LabsOk Tryd.prog (bodyOf Tryd.f87) keys_reader_count_B0 := LabsOk.cons keys_reader_count_x0 (LabsOk.nil)
def keys_reader_count_raw (r0 : (List Int × Int)) (K : Res → List Cell → Prop) : Prop :=
 (wfD keys_reader_count_d0 ((0 : Int), r0, ()) → ∃ n, keys_reader_count_L0 (fun (n3 : Int) (r0b : (List Int × Int)) => wfD keys_reader_count_d0x0 (n3, r0b, ()) → (
 K (.one (.v (.int .i64) n3)) [⟨.st (.pair (.sl (.int .u8)) (.int .i64)), r0b⟩])) n (0 : Int) r0)
def keys_reader_count_A : List AS := [.r (.st (.pair (.sl (.int .u8)) (.int .i64)))]
theorem keys_reader_count_walk (r0 : (List Int × Int)) (K : Res → List Cell → Prop) : runF tb (getG keys_reader_count_G) keys_reader_count_B0 Tryd.f87 [true] (mkA keys_reader_count_A (r0, ())) K = keys_reader_count_raw r0 K := by kernel_rfl
/-- a count at the head of keys: its value, and how many keys it has -/
def cntL : List Int → Int → Int × Nat
  | [], n => (n, 0)
  | b :: r, n => if b < 48 ∨ 57 < b ∨ (b = 48 ∧ n = 0) then (n, 0) else ((cntL r (mn (n * 10 + (b - 48)) 9999)).1, (cntL r (mn (n * 10 + (b - 48)) 9999)).2 + 1)
theorem mn_le' (a b : Int) : mn a b ≤ b ∧ mn a b ≤ a ∧ (0 ≤ a → 0 ≤ b → 0 ≤ mn a b) := by
  unfold mn
  by_cases h : b < a
  · simp [h]; omega
  · simp [h]; omega
def keys_reader_count_L0_P (n : Int) (r : List Int × Int) : Prop := 0 ≤ r.2 ∧ r.2 ≤ r.1.length ∧ 0 ≤ n ∧ n ≤ 9999
def keys_reader_count_L0_F (n : Int) (r : List Int × Int) : Int × List Int × Int :=
 ((cntL (r.1.drop r.2.toNat) n).1, r.1, r.2 + ((cntL (r.1.drop r.2.toNat) n).2 : Int))
theorem keys_reader_count_l0 (kx0 : Int → (List Int × Int) → Prop) (ks : List Int) : ∀ (m i : Nat) (n : Int), i ≤ ks.length → ks.length - i < m → 0 ≤ n → n ≤ 9999 →
    (∀ q : Int × List Int × Int, q = keys_reader_count_L0_F n (ks, (i : Int)) → kx0 q.1 q.2) → keys_reader_count_L0 kx0 m n (ks, (i : Int))
  | 0, _, _, _, h, _, _, _ => absurd h (Nat.not_lt_zero _)
  | m + 1, i, n, hi, hm, h0, h1, h => by
    intro hw
    unfold keys_reader_count_T0
    dsimp only
    have hlen : ks.length ≤ 9223372036854775807 := hw.2.1.1.1
    have hb : ∀ x ∈ ks, 0 ≤ x ∧ x ≤ 255 := hw.2.1.1.2
    refine brn (fun hlt => asrt (by omega) ?_) (fun hge => h (n, ks, (i : Int)) ?_)
    · have hil : i < ks.length := by omega
      rw [rd_nat 0 ks i hil]
      have hd : ks.drop i = ks[i] :: ks.drop (i + 1) := List.drop_eq_getElem_cons hil
      have hx := hb ks[i] (List.getElem_mem hil)
      have stop : (ks[i] < 48 ∨ 57 < ks[i] ∨ (ks[i] = 48 ∧ n = 0)) → ((n, ks, (i : Int)) : Int × List Int × Int) = keys_reader_count_L0_F n (ks, (i : Int)) := fun hs => by
        unfold keys_reader_count_L0_F
        simp only [Int.toNat_natCast, hd]
        rw [show cntL (ks[i] :: ks.drop (i + 1)) n = (n, 0) by unfold cntL; rw [if_pos hs]]
        simp
      have go : ¬ (ks[i] < 48 ∨ 57 < ks[i] ∨ (ks[i] = 48 ∧ n = 0)) → keys_reader_count_L0 kx0 m (mn (IntKind.wrap .i64 ((IntKind.wrap .i64 (n * (10 : Int))) + (IntKind.wrap .i64 (IntKind.wrap .u8 (ks[i] - (48 : Int)))))) (9999 : Int)) (ks, (IntKind.wrap .i64 ((i : Int) + (1 : Int)))) := fun hs => by
        have h48 : 48 ≤ ks[i] ∧ ks[i] ≤ 57 := by omega
        rw [wrap_u8 (n := ks[i] - 48) (by omega) (by omega), wrap_i64 (n := ks[i] - 48) (by omega) (by omega), wrap_i64 (n := n * 10) (by omega) (by omega), wrap_i64 (n := n * 10 + (ks[i] - 48)) (by omega) (by omega), wrap_i64 (by omega) (by omega)]
        obtain ⟨q1, q2, q3⟩ := mn_le' (n * 10 + (ks[i] - 48)) 9999
        rw [show (i : Int) + 1 = ((i + 1 : Nat) : Int) by omega]
        refine keys_reader_count_l0 kx0 ks m (i + 1) _ (by omega) (by omega) (q3 (by omega) (by omega)) q1 fun q hq => h q ?_
        rw [hq]
        unfold keys_reader_count_L0_F
        simp only [Int.toNat_natCast, hd]
        rw [show cntL (ks[i] :: ks.drop (i + 1)) n = _ by unfold cntL; rw [if_neg hs]]
        simp only [Prod.mk.injEq, true_and]
        omega
      refine brn (fun c1 => h _ (stop (.inl c1))) (fun c1 => brn (fun c2 => h _ (stop (.inr (.inl c2)))) (fun c2 => brn (fun c3 => brn (fun c4 => h _ (stop (.inr (.inr ⟨c3, c4⟩)))) (fun c4 => ?_)) (fun c3 => ?_)))
      · exact go (by omega)
      · exact go (by omega)
    · have : i = ks.length := by omega
      subst this
      unfold keys_reader_count_L0_F
      simp [cntL]
theorem keys_reader_count_L0_sp (kx0 : Int → (List Int × Int) → Prop) (n3 : Int) (r0b : List Int × Int) (hp : keys_reader_count_L0_P n3 r0b) (h : ∀ q : Int × List Int × Int, q = keys_reader_count_L0_F n3 r0b → kx0 q.1 q.2) :
    ∃ n, keys_reader_count_L0 kx0 n n3 r0b := by
  obtain ⟨ks, a⟩ := r0b
  obtain ⟨p1, p2, p3, p4⟩ := hp
  dsimp only at p1 p2
  refine ⟨ks.length + 1, ?_⟩
  have e : a = (a.toNat : Int) := by omega
  rw [e] at h ⊢
  exact keys_reader_count_l0 kx0 ks _ a.toNat n3 (by omega) (by omega) p3 p4 h

def keys_reader_count_P (r0 : (List Int × Int)) : Prop :=
 keys_reader_count_L0_P (0 : Int) r0
def keys_reader_count_F (r0 : (List Int × Int)) : Int × (List Int × Int) :=
 let q0x0 : Int × (List Int × Int) := keys_reader_count_L0_F (0 : Int) r0
 let n3 : Int := q0x0.1
 let r0b : (List Int × Int) := q0x0.2
 (n3, r0b)
set_option maxRecDepth 20000 in
theorem keys_reader_count_sp (r0 : (List Int × Int)) (K : Res → List Cell → Prop) (_ : wfA keys_reader_count_A (r0, ())) (hp : keys_reader_count_P r0) (h : ∀ r : Int × (List Int × Int), r = keys_reader_count_F r0 → K (.one (.v (.int .i64) r.1)) [⟨.st (.pair (.sl (.int .u8)) (.int .i64)), r.2⟩]) : keys_reader_count_raw r0 K := by
  unfold keys_reader_count_raw
  unfold keys_reader_count_P at hp
  refine fun _ => keys_reader_count_L0_sp _ _ _ hp (fun q hq => ?_)
  subst hq
  intro _
  clear hp
  exact h _ rfl
def keys_reader_count_C (v : valsA keys_reader_count_A) (K : Res → List Cell → Prop) : Prop := keys_reader_count_P v.1 ∧ ∀ r : Int × (List Int × Int), r = keys_reader_count_F v.1 → K (.one (.v (.int .i64) r.1)) [⟨.st (.pair (.sl (.int .u8)) (.int .i64)), r.2⟩]
def keys_reader_count_S : App := specW keys_reader_count_A keys_reader_count_C
theorem keys_reader_count_wv (K : Res → List Cell → Prop) : ∀ v : valsA keys_reader_count_A, runF tb (getG keys_reader_count_G) keys_reader_count_B0 Tryd.f87 [true] (mkA keys_reader_count_A v) K = keys_reader_count_raw v.1 K
  | (r0, ()) => keys_reader_count_walk r0 K
set_option maxRecDepth 20000 in
theorem keys_reader_count_ok : AppOk Tryd.prog 87 keys_reader_count_S :=
  AppOk.specW (spec_ok ((runF_ok tb_M tb_ok keys_reader_count_Gok (keys_reader_count_b0) (f := 87) (fn := Tryd.f87) (by kernel_rfl) (by kernel_rfl) keys_reader_count_st [true])) fun v K hw h => (keys_reader_count_wv K v).mpr (keys_reader_count_sp v.1 K hw h.1 h.2))

end Go.VE
namespace Go.VE
open Go Go.Proofs
--! external 1
--! args S U
--! res I
--! pre 0
--! import VEv
def internal_bytealg_IndexByteString_F (xs : List Int) (c : Int) : Int := idxB xs c
def internal_bytealg_IndexByteString_S : App := specW strByte_A fun v K => ∀ r : Int, r = internal_bytealg_IndexByteString_F v.1 v.2.1 → K (.one (.v (.int .i64) r)) []
theorem internal_bytealg_IndexByteString_ok : AppOk Tryd.prog 144 internal_bytealg_IndexByteString_S :=
  ext_indexByteString (fn := Tryd.f144) (by kernel_rfl) (by kernel_rfl) (by kernel_rfl) (by kernel_rfl) (by kernel_rfl)

end Go.VE
namespace Go.VE
open Go Go.Proofs
/-! ### internal/stringslite.IndexByte -/
def internal_stringslite_IndexByte_G : List (Nat × App) := [(144, internal_bytealg_IndexByteString_S)]
theorem internal_stringslite_IndexByte_Gok : GOk Tryd.prog (getG internal_stringslite_IndexByte_G) := GOk.cons internal_bytealg_IndexByteString_ok (GOk.nil)
def internal_stringslite_IndexByte_raw (s0 : List Int) (c1 : Int) (K : Res → List Cell → Prop) : Prop :=
 ∀ (r1 : Int), r1 = internal_bytealg_IndexByteString_F s0 c1 → (
 wfR (.one (.v (.int .i64) r1)) → (
 K (.one (.v (.int .i64) r1)) []))
def internal_stringslite_IndexByte_A : List AS := [.v (.str), .v (.int .u8)]
theorem internal_stringslite_IndexByte_walk (s0 : List Int) (c1 : Int) (K : Res → List Cell → Prop) : runF tb (getG internal_stringslite_IndexByte_G) [] Tryd.f155 [true] (mkA internal_stringslite_IndexByte_A (s0, c1, ())) K = internal_stringslite_IndexByte_raw s0 c1 K := by kernel_rfl

def internal_stringslite_IndexByte_F (s0 : List Int) (c1 : Int) : Int :=
 let r1 : Int := internal_bytealg_IndexByteString_F s0 c1
 r1
set_option maxRecDepth 20000 in
theorem internal_stringslite_IndexByte_sp (s0 : List Int) (c1 : Int) (K : Res → List Cell → Prop) (_ : wfA internal_stringslite_IndexByte_A (s0, c1, ())) (h : ∀ r : Int, r = internal_stringslite_IndexByte_F s0 c1 → K (.one (.v (.int .i64) r)) []) : internal_stringslite_IndexByte_raw s0 c1 K := by
  unfold internal_stringslite_IndexByte_raw
  intro r1 hr1
  subst hr1
  intro _
  exact h _ rfl
def internal_stringslite_IndexByte_C (v : valsA internal_stringslite_IndexByte_A) (K : Res → List Cell → Prop) : Prop := ∀ r : Int, r = internal_stringslite_IndexByte_F v.1 v.2.1 → K (.one (.v (.int .i64) r)) []
def internal_stringslite_IndexByte_S : App := specW internal_stringslite_IndexByte_A internal_stringslite_IndexByte_C
theorem internal_stringslite_IndexByte_wv (K : Res → List Cell → Prop) : ∀ v : valsA internal_stringslite_IndexByte_A, runF tb (getG internal_stringslite_IndexByte_G) [] Tryd.f155 [true] (mkA internal_stringslite_IndexByte_A v) K = internal_stringslite_IndexByte_raw v.1 v.2.1 K
  | (s0, c1, ()) => internal_stringslite_IndexByte_walk s0 c1 K
set_option maxRecDepth 20000 in
theorem internal_stringslite_IndexByte_ok : AppOk Tryd.prog 155 internal_stringslite_IndexByte_S :=
  AppOk.specW (spec_ok ((runF_ok tb_M tb_ok internal_stringslite_IndexByte_Gok (LabsOk.nil) (f := 155) (fn := Tryd.f155) (by kernel_rfl) (by kernel_rfl) (by kernel_rfl) [true])) fun v K hw h => (internal_stringslite_IndexByte_wv K v).mpr (internal_stringslite_IndexByte_sp v.1 v.2.1 K hw h))

end Go.VE
namespace Go.VE
open Go Go.Proofs
/-! ### strings.IndexByte -/
def strings_IndexByte_G : List (Nat × App) := [(155, internal_stringslite_IndexByte_S)]
theorem strings_IndexByte_Gok : GOk Tryd.prog (getG strings_IndexByte_G) := GOk.cons internal_stringslite_IndexByte_ok (GOk.nil)
def strings_IndexByte_raw (s0 : List Int) (c1 : Int) (K : Res → List Cell → Prop) : Prop :=
 ∀ (r1 : Int), r1 = internal_stringslite_IndexByte_F s0 c1 → (
 wfR (.one (.v (.int .i64) r1)) → (
 K (.one (.v (.int .i64) r1)) []))
def strings_IndexByte_A : List AS := [.v (.str), .v (.int .u8)]
theorem strings_IndexByte_walk (s0 : List Int) (c1 : Int) (K : Res → List Cell → Prop) : runF tb (getG strings_IndexByte_G) [] Tryd.f125 [true] (mkA strings_IndexByte_A (s0, c1, ())) K = strings_IndexByte_raw s0 c1 K := by kernel_rfl

def strings_IndexByte_F (s0 : List Int) (c1 : Int) : Int :=
 let r1 : Int := internal_stringslite_IndexByte_F s0 c1
 r1
set_option maxRecDepth 20000 in
theorem strings_IndexByte_sp (s0 : List Int) (c1 : Int) (K : Res → List Cell → Prop) (_ : wfA strings_IndexByte_A (s0, c1, ())) (h : ∀ r : Int, r = strings_IndexByte_F s0 c1 → K (.one (.v (.int .i64) r)) []) : strings_IndexByte_raw s0 c1 K := by
  unfold strings_IndexByte_raw
  intro r1 hr1
  subst hr1
  intro _
  exact h _ rfl
def strings_IndexByte_C (v : valsA strings_IndexByte_A) (K : Res → List Cell → Prop) : Prop := ∀ r : Int, r = strings_IndexByte_F v.1 v.2.1 → K (.one (.v (.int .i64) r)) []
def strings_IndexByte_S : App := specW strings_IndexByte_A strings_IndexByte_C
theorem strings_IndexByte_wv (K : Res → List Cell → Prop) : ∀ v : valsA strings_IndexByte_A, runF tb (getG strings_IndexByte_G) [] Tryd.f125 [true] (mkA strings_IndexByte_A v) K = strings_IndexByte_raw v.1 v.2.1 K
  | (s0, c1, ()) => strings_IndexByte_walk s0 c1 K
set_option maxRecDepth 20000 in
theorem strings_IndexByte_ok : AppOk Tryd.prog 125 strings_IndexByte_S :=
  AppOk.specW (spec_ok ((runF_ok tb_M tb_ok strings_IndexByte_Gok (LabsOk.nil) (f := 125) (fn := Tryd.f125) (by kernel_rfl) (by kernel_rfl) (by kernel_rfl) [true])) fun v K hw h => (strings_IndexByte_wv K v).mpr (strings_IndexByte_sp v.1 v.2.1 K hw h))

end Go.VE
namespace Go.VE
open Go Go.Proofs
/-! ### (*quoin/keys.reader).argument -/
def keys_reader_argument_G : List (Nat × App) := [(86, keys_reader_next_S)]
theorem keys_reader_argument_Gok : GOk Tryd.prog (getG keys_reader_argument_G) := GOk.cons keys_reader_next_ok (GOk.nil)
def keys_reader_argument_raw (r0 : (List Int × Int)) (c1 : CmT) (K : Res → List Cell → Prop) : Prop :=
 keys_reader_next_P r0 ∧ (
 ∀ (r1 : Int × Bool × (List Int × Int)), r1 = keys_reader_next_F r0 → (
 wfR (.tup [.v (.int .u8) r1.1, .v (.bool) r1.2.1]) → (
 bif (!r1.2.1) then
 K (.one (.v (.int .i64) (0 : Int))) [⟨.st (.pair (.sl (.int .u8)) (.int .i64)), r1.2.2⟩, ⟨.st (.pair (.int .u8) (.pair (.int .i64) (.pair (.str) (.pair (.str) (.pair (.int .u8) (.sl (.int .u8))))))), c1⟩]
 else
 bif (decide (r1.1 = (27 : Int))) then
 K (.one (.v (.int .i64) (2 : Int))) [⟨.st (.pair (.sl (.int .u8)) (.int .i64)), r1.2.2⟩, ⟨.st (.pair (.int .u8) (.pair (.int .i64) (.pair (.str) (.pair (.str) (.pair (.int .u8) (.sl (.int .u8))))))), c1⟩]
 else
 K (.one (.v (.int .i64) (1 : Int))) [⟨.st (.pair (.sl (.int .u8)) (.int .i64)), r1.2.2⟩, ⟨.st (.pair (.int .u8) (.pair (.int .i64) (.pair (.str) (.pair (.str) (.pair (.int .u8) (.sl (.int .u8))))))), (c1.1, c1.2.1, c1.2.2.1, c1.2.2.2.1, r1.1, c1.2.2.2.2.2)⟩])))
def keys_reader_argument_A : List AS := [.r (.st (.pair (.sl (.int .u8)) (.int .i64))), .r (.st (.pair (.int .u8) (.pair (.int .i64) (.pair (.str) (.pair (.str) (.pair (.int .u8) (.sl (.int .u8))))))))]
theorem keys_reader_argument_walk (r0 : (List Int × Int)) (c1 : CmT) (K : Res → List Cell → Prop) : runF tb (getG keys_reader_argument_G) [] Tryd.f124 [true] (mkA keys_reader_argument_A (r0, c1, ())) K = keys_reader_argument_raw r0 c1 K := by kernel_rfl

def keys_reader_argument_P (r0 : (List Int × Int)) (c1 : CmT) : Prop :=
 keys_reader_next_P r0
def keys_reader_argument_F (r0 : (List Int × Int)) (c1 : CmT) : Int × (List Int × Int) × CmT :=
 let r1 : Int × Bool × (List Int × Int) := keys_reader_next_F r0
 bif (!r1.2.1) then
 ((0 : Int), r1.2.2, c1)
 else
 bif (decide (r1.1 = (27 : Int))) then
 ((2 : Int), r1.2.2, c1)
 else
 ((1 : Int), r1.2.2, (c1.1, c1.2.1, c1.2.2.1, c1.2.2.2.1, r1.1, c1.2.2.2.2.2))
set_option maxRecDepth 20000 in
theorem keys_reader_argument_sp (r0 : (List Int × Int)) (c1 : CmT) (K : Res → List Cell → Prop) (_ : wfA keys_reader_argument_A (r0, c1, ())) (hp : keys_reader_argument_P r0 c1) (h : ∀ r : Int × (List Int × Int) × CmT, r = keys_reader_argument_F r0 c1 → K (.one (.v (.int .i64) r.1)) [⟨.st (.pair (.sl (.int .u8)) (.int .i64)), r.2.1⟩, ⟨.st (.pair (.int .u8) (.pair (.int .i64) (.pair (.str) (.pair (.str) (.pair (.int .u8) (.sl (.int .u8))))))), r.2.2⟩]) : keys_reader_argument_raw r0 c1 K := by
  unfold keys_reader_argument_raw
  unfold keys_reader_argument_P at hp
  refine ⟨hp, ?_⟩
  intro r1 hr1
  subst hr1
  intro _
  refine brb (fun c_1 => ?_) (fun c_1 => ?_)
  ·
    have e := h _ ((ctrue c_1) : keys_reader_argument_F r0 c1 = _).symm
    exact e
  ·
    refine brb (fun c_2 => ?_) (fun c_2 => ?_)
    ·
      have e := h _ ((Eq.trans (cfalse c_1) (ctrue c_2)) : keys_reader_argument_F r0 c1 = _).symm
      exact e
    ·
      have e := h _ ((Eq.trans (cfalse c_1) (cfalse c_2)) : keys_reader_argument_F r0 c1 = _).symm
      exact e
def keys_reader_argument_C (v : valsA keys_reader_argument_A) (K : Res → List Cell → Prop) : Prop := keys_reader_argument_P v.1 v.2.1 ∧ ∀ r : Int × (List Int × Int) × CmT, r = keys_reader_argument_F v.1 v.2.1 → K (.one (.v (.int .i64) r.1)) [⟨.st (.pair (.sl (.int .u8)) (.int .i64)), r.2.1⟩, ⟨.st (.pair (.int .u8) (.pair (.int .i64) (.pair (.str) (.pair (.str) (.pair (.int .u8) (.sl (.int .u8))))))), r.2.2⟩]
def keys_reader_argument_S : App := specW keys_reader_argument_A keys_reader_argument_C
theorem keys_reader_argument_wv (K : Res → List Cell → Prop) : ∀ v : valsA keys_reader_argument_A, runF tb (getG keys_reader_argument_G) [] Tryd.f124 [true] (mkA keys_reader_argument_A v) K = keys_reader_argument_raw v.1 v.2.1 K
  | (r0, c1, ()) => keys_reader_argument_walk r0 c1 K
set_option maxRecDepth 20000 in
theorem keys_reader_argument_ok : AppOk Tryd.prog 124 keys_reader_argument_S :=
  AppOk.specW (spec_ok ((runF_ok tb_M tb_ok keys_reader_argument_Gok (LabsOk.nil) (f := 124) (fn := Tryd.f124) (by kernel_rfl) (by kernel_rfl) (by kernel_rfl) [true])) fun v K hw h => (keys_reader_argument_wv K v).mpr (keys_reader_argument_sp v.1 v.2.1 K hw h.1 h.2))

end Go.VE
namespace Go.VE
open Go Go.Proofs
/-! ### (*quoin/keys.reader).motion -/
def keys_reader_motion_G : List (Nat × App) := [(125, strings_IndexByte_S), (124, keys_reader_argument_S), (86, keys_reader_next_S)]
theorem keys_reader_motion_Gok : GOk Tryd.prog (getG keys_reader_motion_G) := GOk.cons strings_IndexByte_ok (GOk.cons keys_reader_argument_ok (GOk.cons keys_reader_next_ok (GOk.nil)))
def keys_reader_motion_raw (r0 : (List Int × Int)) (c1 : CmT) (b2 : Int) (K : Res → List Cell → Prop) : Prop :=
 bif (decide (b2 = (127 : Int))) then
 K (.one (.v (.int .i64) (1 : Int))) [⟨.st (.pair (.sl (.int .u8)) (.int .i64)), r0⟩, ⟨.st (.pair (.int .u8) (.pair (.int .i64) (.pair (.str) (.pair (.str) (.pair (.int .u8) (.sl (.int .u8))))))), (c1.1, c1.2.1, c1.2.2.1, ([8] : List Int), c1.2.2.2.2.1, c1.2.2.2.2.2)⟩]
 else
 bif (decide (b2 = (10 : Int))) then
 K (.one (.v (.int .i64) (1 : Int))) [⟨.st (.pair (.sl (.int .u8)) (.int .i64)), r0⟩, ⟨.st (.pair (.int .u8) (.pair (.int .i64) (.pair (.str) (.pair (.str) (.pair (.int .u8) (.sl (.int .u8))))))), (c1.1, c1.2.1, c1.2.2.1, ([13] : List Int), c1.2.2.2.2.1, c1.2.2.2.2.2)⟩]
 else
 bif (decide (b2 = (8 : Int))) then
 K (.one (.v (.int .i64) (1 : Int))) [⟨.st (.pair (.sl (.int .u8)) (.int .i64)), r0⟩, ⟨.st (.pair (.int .u8) (.pair (.int .i64) (.pair (.str) (.pair (.str) (.pair (.int .u8) (.sl (.int .u8))))))), (c1.1, c1.2.1, c1.2.2.1, ([b2] : List Int), c1.2.2.2.2.1, c1.2.2.2.2.2)⟩]
 else
 bif (decide (b2 = (13 : Int))) then
 K (.one (.v (.int .i64) (1 : Int))) [⟨.st (.pair (.sl (.int .u8)) (.int .i64)), r0⟩, ⟨.st (.pair (.int .u8) (.pair (.int .i64) (.pair (.str) (.pair (.str) (.pair (.int .u8) (.sl (.int .u8))))))), (c1.1, c1.2.1, c1.2.2.1, ([b2] : List Int), c1.2.2.2.2.1, c1.2.2.2.2.2)⟩]
 else
 ∀ (r1 : Int), r1 = strings_IndexByte_F ([104, 108, 106, 107, 43, 45, 95, 48, 94, 36, 124, 71, 119, 98, 101, 87, 66, 69, 59, 44, 123, 125, 40, 41, 37, 110, 78, 42, 32] : List Int) b2 → (
 wfR (.one (.v (.int .i64) r1)) → (
 bif (decide ((0 : Int) ≤ r1)) then
 K (.one (.v (.int .i64) (1 : Int))) [⟨.st (.pair (.sl (.int .u8)) (.int .i64)), r0⟩, ⟨.st (.pair (.int .u8) (.pair (.int .i64) (.pair (.str) (.pair (.str) (.pair (.int .u8) (.sl (.int .u8))))))), (c1.1, c1.2.1, c1.2.2.1, ([b2] : List Int), c1.2.2.2.2.1, c1.2.2.2.2.2)⟩]
 else
 bif (decide (b2 = (47 : Int))) then
 K (.one (.v (.int .i64) (3 : Int))) [⟨.st (.pair (.sl (.int .u8)) (.int .i64)), r0⟩, ⟨.st (.pair (.int .u8) (.pair (.int .i64) (.pair (.str) (.pair (.str) (.pair (.int .u8) (.sl (.int .u8))))))), (c1.1, c1.2.1, c1.2.2.1, ([b2] : List Int), c1.2.2.2.2.1, c1.2.2.2.2.2)⟩]
 else
 bif (decide (b2 = (63 : Int))) then
 K (.one (.v (.int .i64) (3 : Int))) [⟨.st (.pair (.sl (.int .u8)) (.int .i64)), r0⟩, ⟨.st (.pair (.int .u8) (.pair (.int .i64) (.pair (.str) (.pair (.str) (.pair (.int .u8) (.sl (.int .u8))))))), (c1.1, c1.2.1, c1.2.2.1, ([b2] : List Int), c1.2.2.2.2.1, c1.2.2.2.2.2)⟩]
 else
 ∀ (r2 : Int), r2 = strings_IndexByte_F ([102, 70, 116, 84, 96, 39] : List Int) b2 → (
 wfR (.one (.v (.int .i64) r2)) → (
 bif (decide ((0 : Int) ≤ r2)) then
 keys_reader_argument_P r0 (c1.1, c1.2.1, c1.2.2.1, ([b2] : List Int), c1.2.2.2.2.1, c1.2.2.2.2.2) ∧ (
 ∀ (r3 : Int × (List Int × Int) × CmT), r3 = keys_reader_argument_F r0 (c1.1, c1.2.1, c1.2.2.1, ([b2] : List Int), c1.2.2.2.2.1, c1.2.2.2.2.2) → (
 wfR (.one (.v (.int .i64) r3.1)) → (
 K (.one (.v (.int .i64) r3.1)) [⟨.st (.pair (.sl (.int .u8)) (.int .i64)), r3.2.1⟩, ⟨.st (.pair (.int .u8) (.pair (.int .i64) (.pair (.str) (.pair (.str) (.pair (.int .u8) (.sl (.int .u8))))))), r3.2.2⟩])))
 else
 bif (decide (b2 = (103 : Int))) then
 keys_reader_next_P r0 ∧ (
 ∀ (r4 : Int × Bool × (List Int × Int)), r4 = keys_reader_next_F r0 → (
 wfR (.tup [.v (.int .u8) r4.1, .v (.bool) r4.2.1]) → (
 bif (!r4.2.1) then
 K (.one (.v (.int .i64) (0 : Int))) [⟨.st (.pair (.sl (.int .u8)) (.int .i64)), r4.2.2⟩, ⟨.st (.pair (.int .u8) (.pair (.int .i64) (.pair (.str) (.pair (.str) (.pair (.int .u8) (.sl (.int .u8))))))), (c1.1, c1.2.1, c1.2.2.1, ([b2] : List Int), c1.2.2.2.2.1, c1.2.2.2.2.2)⟩]
 else
 bif (!decide (r4.1 = (103 : Int))) then
 bif (!decide (r4.1 = (101 : Int))) then
 bif (!decide (r4.1 = (69 : Int))) then
 K (.one (.v (.int .i64) (2 : Int))) [⟨.st (.pair (.sl (.int .u8)) (.int .i64)), r4.2.2⟩, ⟨.st (.pair (.int .u8) (.pair (.int .i64) (.pair (.str) (.pair (.str) (.pair (.int .u8) (.sl (.int .u8))))))), (c1.1, c1.2.1, c1.2.2.1, ([b2] : List Int), c1.2.2.2.2.1, c1.2.2.2.2.2)⟩]
 else
 bif decide (List.length ([103] : List Int) + List.length ([r4.1] : List Int) ≤ lim) then
 K (.one (.v (.int .i64) (1 : Int))) [⟨.st (.pair (.sl (.int .u8)) (.int .i64)), r4.2.2⟩, ⟨.st (.pair (.int .u8) (.pair (.int .i64) (.pair (.str) (.pair (.str) (.pair (.int .u8) (.sl (.int .u8))))))), (c1.1, c1.2.1, c1.2.2.1, (([103] : List Int) ++ ([r4.1] : List Int)), c1.2.2.2.2.1, c1.2.2.2.2.2)⟩]
 else False
 else
 bif decide (List.length ([103] : List Int) + List.length ([r4.1] : List Int) ≤ lim) then
 K (.one (.v (.int .i64) (1 : Int))) [⟨.st (.pair (.sl (.int .u8)) (.int .i64)), r4.2.2⟩, ⟨.st (.pair (.int .u8) (.pair (.int .i64) (.pair (.str) (.pair (.str) (.pair (.int .u8) (.sl (.int .u8))))))), (c1.1, c1.2.1, c1.2.2.1, (([103] : List Int) ++ ([r4.1] : List Int)), c1.2.2.2.2.1, c1.2.2.2.2.2)⟩]
 else False
 else
 bif decide (List.length ([103] : List Int) + List.length ([r4.1] : List Int) ≤ lim) then
 K (.one (.v (.int .i64) (1 : Int))) [⟨.st (.pair (.sl (.int .u8)) (.int .i64)), r4.2.2⟩, ⟨.st (.pair (.int .u8) (.pair (.int .i64) (.pair (.str) (.pair (.str) (.pair (.int .u8) (.sl (.int .u8))))))), (c1.1, c1.2.1, c1.2.2.1, (([103] : List Int) ++ ([r4.1] : List Int)), c1.2.2.2.2.1, c1.2.2.2.2.2)⟩]
 else False)))
 else
 K (.one (.v (.int .i64) (2 : Int))) [⟨.st (.pair (.sl (.int .u8)) (.int .i64)), r0⟩, ⟨.st (.pair (.int .u8) (.pair (.int .i64) (.pair (.str) (.pair (.str) (.pair (.int .u8) (.sl (.int .u8))))))), (c1.1, c1.2.1, c1.2.2.1, ([b2] : List Int), c1.2.2.2.2.1, c1.2.2.2.2.2)⟩]))))
def keys_reader_motion_A : List AS := [.r (.st (.pair (.sl (.int .u8)) (.int .i64))), .r (.st (.pair (.int .u8) (.pair (.int .i64) (.pair (.str) (.pair (.str) (.pair (.int .u8) (.sl (.int .u8)))))))), .v (.int .u8)]
theorem keys_reader_motion_walk (r0 : (List Int × Int)) (c1 : CmT) (b2 : Int) (K : Res → List Cell → Prop) : runF tb (getG keys_reader_motion_G) [] Tryd.f126 [true] (mkA keys_reader_motion_A (r0, c1, b2, ())) K = keys_reader_motion_raw r0 c1 b2 K := by kernel_rfl

def keys_reader_motion_P (r0 : (List Int × Int)) (c1 : CmT) (b2 : Int) : Prop :=
 bif (decide (b2 = (127 : Int))) then
 True
 else
 bif (decide (b2 = (10 : Int))) then
 True
 else
 bif (decide (b2 = (8 : Int))) then
 True
 else
 bif (decide (b2 = (13 : Int))) then
 True
 else
 let r1 : Int := strings_IndexByte_F ([104, 108, 106, 107, 43, 45, 95, 48, 94, 36, 124, 71, 119, 98, 101, 87, 66, 69, 59, 44, 123, 125, 40, 41, 37, 110, 78, 42, 32] : List Int) b2
 bif (decide ((0 : Int) ≤ r1)) then
 True
 else
 bif (decide (b2 = (47 : Int))) then
 True
 else
 bif (decide (b2 = (63 : Int))) then
 True
 else
 let r2 : Int := strings_IndexByte_F ([102, 70, 116, 84, 96, 39] : List Int) b2
 bif (decide ((0 : Int) ≤ r2)) then
 keys_reader_argument_P r0 (c1.1, c1.2.1, c1.2.2.1, ([b2] : List Int), c1.2.2.2.2.1, c1.2.2.2.2.2)
 else
 bif (decide (b2 = (103 : Int))) then
 keys_reader_next_P r0 ∧ (
 let r4 : Int × Bool × (List Int × Int) := keys_reader_next_F r0
 bif (!r4.2.1) then
 True
 else
 bif (!decide (r4.1 = (103 : Int))) then
 bif (!decide (r4.1 = (101 : Int))) then
 bif (!decide (r4.1 = (69 : Int))) then
 True
 else
 (List.length ([103] : List Int) + List.length ([r4.1] : List Int) ≤ lim)
 else
 (List.length ([103] : List Int) + List.length ([r4.1] : List Int) ≤ lim)
 else
 (List.length ([103] : List Int) + List.length ([r4.1] : List Int) ≤ lim))
 else
 True
def keys_reader_motion_F (r0 : (List Int × Int)) (c1 : CmT) (b2 : Int) : Int × (List Int × Int) × CmT :=
 bif (decide (b2 = (127 : Int))) then
 ((1 : Int), r0, (c1.1, c1.2.1, c1.2.2.1, ([8] : List Int), c1.2.2.2.2.1, c1.2.2.2.2.2))
 else
 bif (decide (b2 = (10 : Int))) then
 ((1 : Int), r0, (c1.1, c1.2.1, c1.2.2.1, ([13] : List Int), c1.2.2.2.2.1, c1.2.2.2.2.2))
 else
 bif (decide (b2 = (8 : Int))) then
 ((1 : Int), r0, (c1.1, c1.2.1, c1.2.2.1, ([b2] : List Int), c1.2.2.2.2.1, c1.2.2.2.2.2))
 else
 bif (decide (b2 = (13 : Int))) then
 ((1 : Int), r0, (c1.1, c1.2.1, c1.2.2.1, ([b2] : List Int), c1.2.2.2.2.1, c1.2.2.2.2.2))
 else
 let r1 : Int := strings_IndexByte_F ([104, 108, 106, 107, 43, 45, 95, 48, 94, 36, 124, 71, 119, 98, 101, 87, 66, 69, 59, 44, 123, 125, 40, 41, 37, 110, 78, 42, 32] : List Int) b2
 bif (decide ((0 : Int) ≤ r1)) then
 ((1 : Int), r0, (c1.1, c1.2.1, c1.2.2.1, ([b2] : List Int), c1.2.2.2.2.1, c1.2.2.2.2.2))
 else
 bif (decide (b2 = (47 : Int))) then
 ((3 : Int), r0, (c1.1, c1.2.1, c1.2.2.1, ([b2] : List Int), c1.2.2.2.2.1, c1.2.2.2.2.2))
 else
 bif (decide (b2 = (63 : Int))) then
 ((3 : Int), r0, (c1.1, c1.2.1, c1.2.2.1, ([b2] : List Int), c1.2.2.2.2.1, c1.2.2.2.2.2))
 else
 let r2 : Int := strings_IndexByte_F ([102, 70, 116, 84, 96, 39] : List Int) b2
 bif (decide ((0 : Int) ≤ r2)) then
 let r3 : Int × (List Int × Int) × CmT := keys_reader_argument_F r0 (c1.1, c1.2.1, c1.2.2.1, ([b2] : List Int), c1.2.2.2.2.1, c1.2.2.2.2.2)
 (r3.1, r3.2.1, r3.2.2)
 else
 bif (decide (b2 = (103 : Int))) then
 let r4 : Int × Bool × (List Int × Int) := keys_reader_next_F r0
 bif (!r4.2.1) then
 ((0 : Int), r4.2.2, (c1.1, c1.2.1, c1.2.2.1, ([b2] : List Int), c1.2.2.2.2.1, c1.2.2.2.2.2))
 else
 bif (!decide (r4.1 = (103 : Int))) then
 bif (!decide (r4.1 = (101 : Int))) then
 bif (!decide (r4.1 = (69 : Int))) then
 ((2 : Int), r4.2.2, (c1.1, c1.2.1, c1.2.2.1, ([b2] : List Int), c1.2.2.2.2.1, c1.2.2.2.2.2))
 else
 ((1 : Int), r4.2.2, (c1.1, c1.2.1, c1.2.2.1, (([103] : List Int) ++ ([r4.1] : List Int)), c1.2.2.2.2.1, c1.2.2.2.2.2))
 else
 ((1 : Int), r4.2.2, (c1.1, c1.2.1, c1.2.2.1, (([103] : List Int) ++ ([r4.1] : List Int)), c1.2.2.2.2.1, c1.2.2.2.2.2))
 else
 ((1 : Int), r4.2.2, (c1.1, c1.2.1, c1.2.2.1, (([103] : List Int) ++ ([r4.1] : List Int)), c1.2.2.2.2.1, c1.2.2.2.2.2))
 else
 ((2 : Int), r0, (c1.1, c1.2.1, c1.2.2.1, ([b2] : List Int), c1.2.2.2.2.1, c1.2.2.2.2.2))
set_option maxRecDepth 20000 in
theorem keys_reader_motion_sp (r0 : (List Int × Int)) (c1 : CmT) (b2 : Int) (K : Res → List Cell → Prop) (_ : wfA keys_reader_motion_A (r0, c1, b2, ())) (hp : keys_reader_motion_P r0 c1 b2) (h : ∀ r : Int × (List Int × Int) × CmT, r = keys_reader_motion_F r0 c1 b2 → K (.one (.v (.int .i64) r.1)) [⟨.st (.pair (.sl (.int .u8)) (.int .i64)), r.2.1⟩, ⟨.st (.pair (.int .u8) (.pair (.int .i64) (.pair (.str) (.pair (.str) (.pair (.int .u8) (.sl (.int .u8))))))), r.2.2⟩]) : keys_reader_motion_raw r0 c1 b2 K := by
  unfold keys_reader_motion_raw
  unfold keys_reader_motion_P at hp
  refine brb (fun c_1 => ?_) (fun c_1 => ?_)
  ·
    clear hp
    have e := h _ ((ctrue c_1) : keys_reader_motion_F r0 c1 b2 = _).symm
    exact e
  ·
    replace hp := cF c_1 hp
    refine brb (fun c_2 => ?_) (fun c_2 => ?_)
    ·
      clear hp
      have e := h _ ((Eq.trans (cfalse c_1) (ctrue c_2)) : keys_reader_motion_F r0 c1 b2 = _).symm
      exact e
    ·
      replace hp := cF c_2 hp
      refine brb (fun c_3 => ?_) (fun c_3 => ?_)
      ·
        clear hp
        have e := h _ ((Eq.trans (cfalse c_1) (Eq.trans (cfalse c_2) (ctrue c_3))) : keys_reader_motion_F r0 c1 b2 = _).symm
        exact e
      ·
        replace hp := cF c_3 hp
        refine brb (fun c_4 => ?_) (fun c_4 => ?_)
        ·
          clear hp
          have e := h _ ((Eq.trans (cfalse c_1) (Eq.trans (cfalse c_2) (Eq.trans (cfalse c_3) (ctrue c_4)))) : keys_reader_motion_F r0 c1 b2 = _).symm
          exact e
        ·
          replace hp := cF c_4 hp
          intro r1 hr1
          subst hr1
          intro _
          refine brb (fun c_5 => ?_) (fun c_5 => ?_)
          ·
            clear hp
            have e := h _ ((Eq.trans (cfalse c_1) (Eq.trans (cfalse c_2) (Eq.trans (cfalse c_3) (Eq.trans (cfalse c_4) (ctrue c_5))))) : keys_reader_motion_F r0 c1 b2 = _).symm
            exact e
          ·
            replace hp := cF c_5 hp
            refine brb (fun c_6 => ?_) (fun c_6 => ?_)
            ·
              clear hp
              have e := h _ ((Eq.trans (cfalse c_1) (Eq.trans (cfalse c_2) (Eq.trans (cfalse c_3) (Eq.trans (cfalse c_4) (Eq.trans (cfalse c_5) (ctrue c_6)))))) : keys_reader_motion_F r0 c1 b2 = _).symm
              exact e
            ·
              replace hp := cF c_6 hp
              refine brb (fun c_7 => ?_) (fun c_7 => ?_)
              ·
                clear hp
                have e := h _ ((Eq.trans (cfalse c_1) (Eq.trans (cfalse c_2) (Eq.trans (cfalse c_3) (Eq.trans (cfalse c_4) (Eq.trans (cfalse c_5) (Eq.trans (cfalse c_6) (ctrue c_7))))))) : keys_reader_motion_F r0 c1 b2 = _).symm
                exact e
              ·
                replace hp := cF c_7 hp
                intro r2 hr2
                subst hr2
                intro _
                refine brb (fun c_8 => ?_) (fun c_8 => ?_)
                ·
                  replace hp := cT c_8 hp
                  refine ⟨hp, ?_⟩
                  intro r3 hr3
                  subst hr3
                  intro _
                  have e := h _ ((Eq.trans (cfalse c_1) (Eq.trans (cfalse c_2) (Eq.trans (cfalse c_3) (Eq.trans (cfalse c_4) (Eq.trans (cfalse c_5) (Eq.trans (cfalse c_6) (Eq.trans (cfalse c_7) (ctrue c_8)))))))) : keys_reader_motion_F r0 c1 b2 = _).symm
                  exact e
                ·
                  replace hp := cF c_8 hp
                  refine brb (fun c_9 => ?_) (fun c_9 => ?_)
                  ·
                    replace hp := cT c_9 hp
                    refine ⟨hp.1, ?_⟩
                    replace hp := hp.2
                    intro r4 hr4
                    subst hr4
                    intro _
                    refine brb (fun c_10 => ?_) (fun c_10 => ?_)
                    ·
                      clear hp
                      have e := h _ ((Eq.trans (cfalse c_1) (Eq.trans (cfalse c_2) (Eq.trans (cfalse c_3) (Eq.trans (cfalse c_4) (Eq.trans (cfalse c_5) (Eq.trans (cfalse c_6) (Eq.trans (cfalse c_7) (Eq.trans (cfalse c_8) (Eq.trans (ctrue c_9) (ctrue c_10)))))))))) : keys_reader_motion_F r0 c1 b2 = _).symm
                      exact e
                    ·
                      replace hp := cF c_10 hp
                      refine brb (fun c_11 => ?_) (fun c_11 => ?_)
                      ·
                        replace hp := cT c_11 hp
                        refine brb (fun c_12 => ?_) (fun c_12 => ?_)
                        ·
                          replace hp := cT c_12 hp
                          refine brb (fun c_13 => ?_) (fun c_13 => ?_)
                          ·
                            clear hp
                            have e := h _ ((Eq.trans (cfalse c_1) (Eq.trans (cfalse c_2) (Eq.trans (cfalse c_3) (Eq.trans (cfalse c_4) (Eq.trans (cfalse c_5) (Eq.trans (cfalse c_6) (Eq.trans (cfalse c_7) (Eq.trans (cfalse c_8) (Eq.trans (ctrue c_9) (Eq.trans (cfalse c_10) (Eq.trans (ctrue c_11) (Eq.trans (ctrue c_12) (ctrue c_13))))))))))))) : keys_reader_motion_F r0 c1 b2 = _).symm
                            exact e
                          ·
                            replace hp := cF c_13 hp
                            refine asrt hp ?_
                            have e := h _ ((Eq.trans (cfalse c_1) (Eq.trans (cfalse c_2) (Eq.trans (cfalse c_3) (Eq.trans (cfalse c_4) (Eq.trans (cfalse c_5) (Eq.trans (cfalse c_6) (Eq.trans (cfalse c_7) (Eq.trans (cfalse c_8) (Eq.trans (ctrue c_9) (Eq.trans (cfalse c_10) (Eq.trans (ctrue c_11) (Eq.trans (ctrue c_12) (cfalse c_13))))))))))))) : keys_reader_motion_F r0 c1 b2 = _).symm
                            exact e
                        ·
                          replace hp := cF c_12 hp
                          refine asrt hp ?_
                          have e := h _ ((Eq.trans (cfalse c_1) (Eq.trans (cfalse c_2) (Eq.trans (cfalse c_3) (Eq.trans (cfalse c_4) (Eq.trans (cfalse c_5) (Eq.trans (cfalse c_6) (Eq.trans (cfalse c_7) (Eq.trans (cfalse c_8) (Eq.trans (ctrue c_9) (Eq.trans (cfalse c_10) (Eq.trans (ctrue c_11) (cfalse c_12)))))))))))) : keys_reader_motion_F r0 c1 b2 = _).symm
                          exact e
                      ·
                        replace hp := cF c_11 hp
                        refine asrt hp ?_
                        have e := h _ ((Eq.trans (cfalse c_1) (Eq.trans (cfalse c_2) (Eq.trans (cfalse c_3) (Eq.trans (cfalse c_4) (Eq.trans (cfalse c_5) (Eq.trans (cfalse c_6) (Eq.trans (cfalse c_7) (Eq.trans (cfalse c_8) (Eq.trans (ctrue c_9) (Eq.trans (cfalse c_10) (cfalse c_11))))))))))) : keys_reader_motion_F r0 c1 b2 = _).symm
                        exact e
                  ·
                    clear hp
                    have e := h _ ((Eq.trans (cfalse c_1) (Eq.trans (cfalse c_2) (Eq.trans (cfalse c_3) (Eq.trans (cfalse c_4) (Eq.trans (cfalse c_5) (Eq.trans (cfalse c_6) (Eq.trans (cfalse c_7) (Eq.trans (cfalse c_8) (cfalse c_9))))))))) : keys_reader_motion_F r0 c1 b2 = _).symm
                    exact e
def keys_reader_motion_C (v : valsA keys_reader_motion_A) (K : Res → List Cell → Prop) : Prop := keys_reader_motion_P v.1 v.2.1 v.2.2.1 ∧ ∀ r : Int × (List Int × Int) × CmT, r = keys_reader_motion_F v.1 v.2.1 v.2.2.1 → K (.one (.v (.int .i64) r.1)) [⟨.st (.pair (.sl (.int .u8)) (.int .i64)), r.2.1⟩, ⟨.st (.pair (.int .u8) (.pair (.int .i64) (.pair (.str) (.pair (.str) (.pair (.int .u8) (.sl (.int .u8))))))), r.2.2⟩]
def keys_reader_motion_S : App := specW keys_reader_motion_A keys_reader_motion_C
theorem keys_reader_motion_wv (K : Res → List Cell → Prop) : ∀ v : valsA keys_reader_motion_A, runF tb (getG keys_reader_motion_G) [] Tryd.f126 [true] (mkA keys_reader_motion_A v) K = keys_reader_motion_raw v.1 v.2.1 v.2.2.1 K
  | (r0, c1, b2, ()) => keys_reader_motion_walk r0 c1 b2 K
set_option maxRecDepth 20000 in
theorem keys_reader_motion_ok : AppOk Tryd.prog 126 keys_reader_motion_S :=
  AppOk.specW (spec_ok ((runF_ok tb_M tb_ok keys_reader_motion_Gok (LabsOk.nil) (f := 126) (fn := Tryd.f126) (by kernel_rfl) (by kernel_rfl) (by kernel_rfl) [true])) fun v K hw h => (keys_reader_motion_wv K v).mpr (keys_reader_motion_sp v.1 v.2.1 v.2.2.1 K hw h.1 h.2))

end Go.VE
namespace Go.VE
open Go Go.Proofs
/-! ### (*quoin/keys.reader).worked -/
def keys_reader_worked_G : List (Nat × App) := [(87, keys_reader_count_S), (86, keys_reader_next_S), (125, strings_IndexByte_S), (126, keys_reader_motion_S)]
theorem keys_reader_worked_Gok : GOk Tryd.prog (getG keys_reader_worked_G) := GOk.cons keys_reader_count_ok (GOk.cons keys_reader_next_ok (GOk.cons strings_IndexByte_ok (GOk.cons keys_reader_motion_ok (GOk.nil))))
theorem keys_reader_worked_st : storesC (bodyOf Tryd.f123) = true := by kernel_rfl
def keys_reader_worked_d0 : List LS := [.b 0 7 [], .b 1 15 [], .c 7 (.st (.pair (.sl (.int .u8)) (.int .i64))), .c 15 (.st (.pair (.int .u8) (.pair (.int .i64) (.pair (.str) (.pair (.str) (.pair (.int .u8) (.sl (.int .u8))))))))]
def keys_reader_worked_d0r : List LS := [.v 4 (.int .i64), .c 7 (.st (.pair (.sl (.int .u8)) (.int .i64))), .c 15 (.st (.pair (.int .u8) (.pair (.int .i64) (.pair (.str) (.pair (.str) (.pair (.int .u8) (.sl (.int .u8))))))))]
def keys_reader_worked_dx0 : DX := ⟨none, some keys_reader_worked_d0r, []⟩
def keys_reader_worked_J0 (kr : Int → (List Int × Int) → CmT → Prop) (r0b : (List Int × Int)) (c1b : CmT) : Prop :=
 keys_reader_next_P r0b ∧ (
 ∀ (r2 : Int × Bool × (List Int × Int)), r2 = keys_reader_next_F r0b → (
 wfR (.tup [.v (.int .u8) r2.1, .v (.bool) r2.2.1]) → (
 bif (!r2.2.1) then
 kr (0 : Int) r2.2.2 c1b
 else
 bif decide (0 ≤ (IntKind.wrap .i64 ((List.length c1b.2.2.1 : Int) - (1 : Int))) ∧ (IntKind.wrap .i64 ((List.length c1b.2.2.1 : Int) - (1 : Int))) < (List.length c1b.2.2.1 : Int)) then
 bif (decide (r2.1 = (rd (0 : Int) c1b.2.2.1 (IntKind.wrap .i64 ((List.length c1b.2.2.1 : Int) - (1 : Int)))))) then
 kr (1 : Int) r2.2.2 (c1b.1, c1b.2.1, c1b.2.2.1, c1b.2.2.1, c1b.2.2.2.2.1, c1b.2.2.2.2.2)
 else
 bif (decide (r2.1 = (105 : Int))) then
 keys_reader_next_P r2.2.2 ∧ (
 ∀ (r3 : Int × Bool × (List Int × Int)), r3 = keys_reader_next_F r2.2.2 → (
 wfR (.tup [.v (.int .u8) r3.1, .v (.bool) r3.2.1]) → (
 bif (!r3.2.1) then
 kr (0 : Int) r3.2.2 c1b
 else
 ∀ (r4 : Int), r4 = strings_IndexByte_F ([119, 87, 112, 40, 41, 98, 123, 125, 66, 91, 93, 34, 39, 96] : List Int) r3.1 → (
 wfR (.one (.v (.int .i64) r4)) → (
 bif (decide (r4 < (0 : Int))) then
 kr (2 : Int) r3.2.2 c1b
 else
 kr (1 : Int) r3.2.2 (c1b.1, c1b.2.1, c1b.2.2.1, ([r2.1, r3.1] : List Int), c1b.2.2.2.2.1, c1b.2.2.2.2.2))))))
 else
 bif (decide (r2.1 = (97 : Int))) then
 keys_reader_next_P r2.2.2 ∧ (
 ∀ (r5 : Int × Bool × (List Int × Int)), r5 = keys_reader_next_F r2.2.2 → (
 wfR (.tup [.v (.int .u8) r5.1, .v (.bool) r5.2.1]) → (
 bif (!r5.2.1) then
 kr (0 : Int) r5.2.2 c1b
 else
 ∀ (r6 : Int), r6 = strings_IndexByte_F ([119, 87, 112, 40, 41, 98, 123, 125, 66, 91, 93, 34, 39, 96] : List Int) r5.1 → (
 wfR (.one (.v (.int .i64) r6)) → (
 bif (decide (r6 < (0 : Int))) then
 kr (2 : Int) r5.2.2 c1b
 else
 kr (1 : Int) r5.2.2 (c1b.1, c1b.2.1, c1b.2.2.1, ([r2.1, r5.1] : List Int), c1b.2.2.2.2.1, c1b.2.2.2.2.2))))))
 else
 bif (decide (r2.1 = (103 : Int))) then
 bif decide (0 ≤ (0 : Int) ∧ (0 : Int) < (List.length c1b.2.2.1 : Int)) then
 bif (decide ((rd (0 : Int) c1b.2.2.1 (0 : Int)) = (103 : Int))) then
 bif (decide (r2.2.2.2 < (List.length r2.2.2.1 : Int))) then
 bif decide (0 ≤ r2.2.2.2 ∧ r2.2.2.2 < (List.length r2.2.2.1 : Int)) then
 bif (decide ((rd (0 : Int) r2.2.2.1 r2.2.2.2) = (rd (0 : Int) c1b.2.2.1 (IntKind.wrap .i64 ((List.length c1b.2.2.1 : Int) - (1 : Int)))))) then
 kr (1 : Int) (r2.2.2.1, (IntKind.wrap .i64 (r2.2.2.2 + (1 : Int)))) (c1b.1, c1b.2.1, c1b.2.2.1, c1b.2.2.1, c1b.2.2.2.2.1, c1b.2.2.2.2.2)
 else
 keys_reader_motion_P r2.2.2 c1b r2.1 ∧ (
 ∀ (r7 : Int × (List Int × Int) × CmT), r7 = keys_reader_motion_F r2.2.2 c1b r2.1 → (
 wfR (.one (.v (.int .i64) r7.1)) → (
 kr r7.1 r7.2.1 r7.2.2)))
 else False
 else
 keys_reader_motion_P r2.2.2 c1b r2.1 ∧ (
 ∀ (r8 : Int × (List Int × Int) × CmT), r8 = keys_reader_motion_F r2.2.2 c1b r2.1 → (
 wfR (.one (.v (.int .i64) r8.1)) → (
 kr r8.1 r8.2.1 r8.2.2)))
 else
 keys_reader_motion_P r2.2.2 c1b r2.1 ∧ (
 ∀ (r9 : Int × (List Int × Int) × CmT), r9 = keys_reader_motion_F r2.2.2 c1b r2.1 → (
 wfR (.one (.v (.int .i64) r9.1)) → (
 kr r9.1 r9.2.1 r9.2.2)))
 else False
 else
 keys_reader_motion_P r2.2.2 c1b r2.1 ∧ (
 ∀ (r10 : Int × (List Int × Int) × CmT), r10 = keys_reader_motion_F r2.2.2 c1b r2.1 → (
 wfR (.one (.v (.int .i64) r10.1)) → (
 kr r10.1 r10.2.1 r10.2.2)))
 else False)))
theorem keys_reader_worked_s0 (k : Ex → St → Prop) (r0b : (List Int × Int)) (c1b : CmT) :
    ex tb (getG keys_reader_worked_G) [] (at' (bodyOf Tryd.f123) [1, 1, 1]) [1, 1, 1] (mkD 142 keys_reader_worked_d0 (r0b, c1b, ())) (wk 142 keys_reader_worked_dx0 k) =
    keys_reader_worked_J0 (fun x4 r0b c1b => wfD keys_reader_worked_d0r (x4, r0b, c1b, ()) → k .ret (mkD 142 keys_reader_worked_d0r (x4, r0b, c1b, ()))) r0b c1b := by kernel_rfl
theorem keys_reader_worked_v0 (k : Ex → St → Prop) : ∀ v : vals keys_reader_worked_d0, ex tb (getG keys_reader_worked_G) [] (at' (bodyOf Tryd.f123) [1, 1, 1]) [1, 1, 1] (mkD 142 keys_reader_worked_d0 v) (wk 142 keys_reader_worked_dx0 k) = keys_reader_worked_J0 (fun x4 r0b c1b => wfD keys_reader_worked_d0r (x4, r0b, c1b, ()) → k .ret (mkD 142 keys_reader_worked_d0r (x4, r0b, c1b, ()))) v.1 v.2.1
  | (r0b, c1b, ()) => keys_reader_worked_s0 k r0b c1b
def keys_reader_worked_X0 : Pce := fun st k => ckD 142 keys_reader_worked_d0 st fun v => wfD keys_reader_worked_d0 v → keys_reader_worked_J0 (fun x4 r0b c1b => wfD keys_reader_worked_d0r (x4, r0b, c1b, ()) → k .ret (mkD 142 keys_reader_worked_d0r (x4, r0b, c1b, ()))) v.1 v.2.1
set_option maxRecDepth 20000 in
theorem keys_reader_worked_x0 : SemOk Tryd.prog (at' (bodyOf Tryd.f123) [1, 1, 1]) keys_reader_worked_X0 :=
  (SemOk.wk (N := 142) (ds := keys_reader_worked_d0) (dx := keys_reader_worked_dx0) (ex_sound tb_M tb_ok keys_reader_worked_Gok (LabsOk.nil) (at' (bodyOf Tryd.f123) [1, 1, 1]) [1, 1, 1] rfl (storesC_at keys_reader_worked_st [1, 1, 1]))).mono fun st k h => ckD_mono h fun v hv hw => Eq.mpr (keys_reader_worked_v0 k v) (hv hw)
def keys_reader_worked_B0 : Labs := ([1, 1, 1], keys_reader_worked_X0) :: []
theorem keys_reader_worked_b0 : LabsOk Tryd.prog (bodyOf Tryd.f123) keys_reader_worked_B0 := LabsOk.cons keys_reader_worked_x0 (LabsOk.nil)
def keys_reader_worked_raw (r0 : (List Int × Int)) (c1 : CmT) (K : Res → List Cell → Prop) : Prop :=
 keys_reader_count_P r0 ∧ (
 ∀ (r1 : Int × (List Int × Int)), r1 = keys_reader_count_F r0 → (
 wfR (.one (.v (.int .i64) r1.1)) → (
 bif (decide ((0 : Int) < r1.1)) then
 (wfD keys_reader_worked_d0 (r1.2, (c1.1, (mn (IntKind.wrap .i64 ((mx c1.2.1 (1 : Int)) * (mx r1.1 (1 : Int)))) (9999 : Int)), c1.2.2.1, c1.2.2.2.1, c1.2.2.2.2.1, c1.2.2.2.2.2), ()) → keys_reader_worked_J0 (fun (x4 : Int) (r0b : (List Int × Int)) (c1b : CmT) => wfD keys_reader_worked_d0r (x4, r0b, c1b, ()) → (
 K (.one (.v (.int .i64) x4)) [⟨.st (.pair (.sl (.int .u8)) (.int .i64)), r0b⟩, ⟨.st (.pair (.int .u8) (.pair (.int .i64) (.pair (.str) (.pair (.str) (.pair (.int .u8) (.sl (.int .u8))))))), c1b⟩])) r1.2 (c1.1, (mn (IntKind.wrap .i64 ((mx c1.2.1 (1 : Int)) * (mx r1.1 (1 : Int)))) (9999 : Int)), c1.2.2.1, c1.2.2.2.1, c1.2.2.2.2.1, c1.2.2.2.2.2))
 else
 bif (decide ((0 : Int) < c1.2.1)) then
 (wfD keys_reader_worked_d0 (r1.2, (c1.1, (mn (IntKind.wrap .i64 ((mx c1.2.1 (1 : Int)) * (mx r1.1 (1 : Int)))) (9999 : Int)), c1.2.2.1, c1.2.2.2.1, c1.2.2.2.2.1, c1.2.2.2.2.2), ()) → keys_reader_worked_J0 (fun (x4 : Int) (r0b : (List Int × Int)) (c1b : CmT) => wfD keys_reader_worked_d0r (x4, r0b, c1b, ()) → (
 K (.one (.v (.int .i64) x4)) [⟨.st (.pair (.sl (.int .u8)) (.int .i64)), r0b⟩, ⟨.st (.pair (.int .u8) (.pair (.int .i64) (.pair (.str) (.pair (.str) (.pair (.int .u8) (.sl (.int .u8))))))), c1b⟩])) r1.2 (c1.1, (mn (IntKind.wrap .i64 ((mx c1.2.1 (1 : Int)) * (mx r1.1 (1 : Int)))) (9999 : Int)), c1.2.2.1, c1.2.2.2.1, c1.2.2.2.2.1, c1.2.2.2.2.2))
 else
 (wfD keys_reader_worked_d0 (r1.2, c1, ()) → keys_reader_worked_J0 (fun (x4 : Int) (r0b : (List Int × Int)) (c1b : CmT) => wfD keys_reader_worked_d0r (x4, r0b, c1b, ()) → (
 K (.one (.v (.int .i64) x4)) [⟨.st (.pair (.sl (.int .u8)) (.int .i64)), r0b⟩, ⟨.st (.pair (.int .u8) (.pair (.int .i64) (.pair (.str) (.pair (.str) (.pair (.int .u8) (.sl (.int .u8))))))), c1b⟩])) r1.2 c1))))
def keys_reader_worked_A : List AS := [.r (.st (.pair (.sl (.int .u8)) (.int .i64))), .r (.st (.pair (.int .u8) (.pair (.int .i64) (.pair (.str) (.pair (.str) (.pair (.int .u8) (.sl (.int .u8))))))))]
theorem keys_reader_worked_walk (r0 : (List Int × Int)) (c1 : CmT) (K : Res → List Cell → Prop) : runF tb (getG keys_reader_worked_G) keys_reader_worked_B0 Tryd.f123 [true] (mkA keys_reader_worked_A (r0, c1, ())) K = keys_reader_worked_raw r0 c1 K := by kernel_rfl

def keys_reader_worked_J0_P (r0b : (List Int × Int)) (c1b : CmT) : Prop :=
 keys_reader_next_P r0b ∧ (
 let r2 : Int × Bool × (List Int × Int) := keys_reader_next_F r0b
 bif (!r2.2.1) then
 True
 else
 (0 ≤ (IntKind.wrap .i64 ((List.length c1b.2.2.1 : Int) - (1 : Int))) ∧ (IntKind.wrap .i64 ((List.length c1b.2.2.1 : Int) - (1 : Int))) < (List.length c1b.2.2.1 : Int)) ∧ (
 bif (decide (r2.1 = (rd (0 : Int) c1b.2.2.1 (IntKind.wrap .i64 ((List.length c1b.2.2.1 : Int) - (1 : Int)))))) then
 True
 else
 bif (decide (r2.1 = (105 : Int))) then
 keys_reader_next_P r2.2.2
 else
 bif (decide (r2.1 = (97 : Int))) then
 keys_reader_next_P r2.2.2
 else
 bif (decide (r2.1 = (103 : Int))) then
 (0 ≤ (0 : Int) ∧ (0 : Int) < (List.length c1b.2.2.1 : Int)) ∧ (
 bif (decide ((rd (0 : Int) c1b.2.2.1 (0 : Int)) = (103 : Int))) then
 bif (decide (r2.2.2.2 < (List.length r2.2.2.1 : Int))) then
 (0 ≤ r2.2.2.2 ∧ r2.2.2.2 < (List.length r2.2.2.1 : Int)) ∧ (
 bif (decide ((rd (0 : Int) r2.2.2.1 r2.2.2.2) = (rd (0 : Int) c1b.2.2.1 (IntKind.wrap .i64 ((List.length c1b.2.2.1 : Int) - (1 : Int)))))) then
 True
 else
 keys_reader_motion_P r2.2.2 c1b r2.1)
 else
 keys_reader_motion_P r2.2.2 c1b r2.1
 else
 keys_reader_motion_P r2.2.2 c1b r2.1)
 else
 keys_reader_motion_P r2.2.2 c1b r2.1))
def keys_reader_worked_J0_F (r0b : (List Int × Int)) (c1b : CmT) : Int × (List Int × Int) × CmT :=
 let r2 : Int × Bool × (List Int × Int) := keys_reader_next_F r0b
 bif (!r2.2.1) then
 ((0 : Int), r2.2.2, c1b)
 else
 bif (decide (r2.1 = (rd (0 : Int) c1b.2.2.1 (IntKind.wrap .i64 ((List.length c1b.2.2.1 : Int) - (1 : Int)))))) then
 ((1 : Int), r2.2.2, (c1b.1, c1b.2.1, c1b.2.2.1, c1b.2.2.1, c1b.2.2.2.2.1, c1b.2.2.2.2.2))
 else
 bif (decide (r2.1 = (105 : Int))) then
 let r3 : Int × Bool × (List Int × Int) := keys_reader_next_F r2.2.2
 bif (!r3.2.1) then
 ((0 : Int), r3.2.2, c1b)
 else
 let r4 : Int := strings_IndexByte_F ([119, 87, 112, 40, 41, 98, 123, 125, 66, 91, 93, 34, 39, 96] : List Int) r3.1
 bif (decide (r4 < (0 : Int))) then
 ((2 : Int), r3.2.2, c1b)
 else
 ((1 : Int), r3.2.2, (c1b.1, c1b.2.1, c1b.2.2.1, ([r2.1, r3.1] : List Int), c1b.2.2.2.2.1, c1b.2.2.2.2.2))
 else
 bif (decide (r2.1 = (97 : Int))) then
 let r5 : Int × Bool × (List Int × Int) := keys_reader_next_F r2.2.2
 bif (!r5.2.1) then
 ((0 : Int), r5.2.2, c1b)
 else
 let r6 : Int := strings_IndexByte_F ([119, 87, 112, 40, 41, 98, 123, 125, 66, 91, 93, 34, 39, 96] : List Int) r5.1
 bif (decide (r6 < (0 : Int))) then
 ((2 : Int), r5.2.2, c1b)
 else
 ((1 : Int), r5.2.2, (c1b.1, c1b.2.1, c1b.2.2.1, ([r2.1, r5.1] : List Int), c1b.2.2.2.2.1, c1b.2.2.2.2.2))
 else
 bif (decide (r2.1 = (103 : Int))) then
 bif (decide ((rd (0 : Int) c1b.2.2.1 (0 : Int)) = (103 : Int))) then
 bif (decide (r2.2.2.2 < (List.length r2.2.2.1 : Int))) then
 bif (decide ((rd (0 : Int) r2.2.2.1 r2.2.2.2) = (rd (0 : Int) c1b.2.2.1 (IntKind.wrap .i64 ((List.length c1b.2.2.1 : Int) - (1 : Int)))))) then
 ((1 : Int), (r2.2.2.1, (IntKind.wrap .i64 (r2.2.2.2 + (1 : Int)))), (c1b.1, c1b.2.1, c1b.2.2.1, c1b.2.2.1, c1b.2.2.2.2.1, c1b.2.2.2.2.2))
 else
 let r7 : Int × (List Int × Int) × CmT := keys_reader_motion_F r2.2.2 c1b r2.1
 (r7.1, r7.2.1, r7.2.2)
 else
 let r8 : Int × (List Int × Int) × CmT := keys_reader_motion_F r2.2.2 c1b r2.1
 (r8.1, r8.2.1, r8.2.2)
 else
 let r9 : Int × (List Int × Int) × CmT := keys_reader_motion_F r2.2.2 c1b r2.1
 (r9.1, r9.2.1, r9.2.2)
 else
 let r10 : Int × (List Int × Int) × CmT := keys_reader_motion_F r2.2.2 c1b r2.1
 (r10.1, r10.2.1, r10.2.2)
set_option maxRecDepth 20000 in
theorem keys_reader_worked_J0_sp (kr : Int → (List Int × Int) → CmT → Prop) (r0b : (List Int × Int)) (c1b : CmT) (hp : keys_reader_worked_J0_P r0b c1b) (hr : ∀ q : Int × (List Int × Int) × CmT, q = keys_reader_worked_J0_F r0b c1b → kr q.1 q.2.1 q.2.2) : keys_reader_worked_J0 kr r0b c1b := by
  unfold keys_reader_worked_J0
  unfold keys_reader_worked_J0_P at hp
  refine ⟨hp.1, ?_⟩
  replace hp := hp.2
  intro r2 hr2
  subst hr2
  intro _
  refine brb (fun c_1 => ?_) (fun c_1 => ?_)
  ·
    clear hp
    have e := hr _ ((ctrue c_1) : keys_reader_worked_J0_F r0b c1b = _).symm
    exact e
  ·
    replace hp := cF c_1 hp
    refine asrt hp.1 ?_
    replace hp := hp.2
    refine brb (fun c_2 => ?_) (fun c_2 => ?_)
    ·
      clear hp
      have e := hr _ ((Eq.trans (cfalse c_1) (ctrue c_2)) : keys_reader_worked_J0_F r0b c1b = _).symm
      exact e
    ·
      replace hp := cF c_2 hp
      refine brb (fun c_3 => ?_) (fun c_3 => ?_)
      ·
        replace hp := cT c_3 hp
        refine ⟨hp, ?_⟩
        intro r3 hr3
        subst hr3
        intro _
        refine brb (fun c_4 => ?_) (fun c_4 => ?_)
        ·
          have e := hr _ ((Eq.trans (cfalse c_1) (Eq.trans (cfalse c_2) (Eq.trans (ctrue c_3) (ctrue c_4)))) : keys_reader_worked_J0_F r0b c1b = _).symm
          exact e
        ·
          intro r4 hr4
          subst hr4
          intro _
          refine brb (fun c_5 => ?_) (fun c_5 => ?_)
          ·
            have e := hr _ ((Eq.trans (cfalse c_1) (Eq.trans (cfalse c_2) (Eq.trans (ctrue c_3) (Eq.trans (cfalse c_4) (ctrue c_5))))) : keys_reader_worked_J0_F r0b c1b = _).symm
            exact e
          ·
            have e := hr _ ((Eq.trans (cfalse c_1) (Eq.trans (cfalse c_2) (Eq.trans (ctrue c_3) (Eq.trans (cfalse c_4) (cfalse c_5))))) : keys_reader_worked_J0_F r0b c1b = _).symm
            exact e
      ·
        replace hp := cF c_3 hp
        refine brb (fun c_6 => ?_) (fun c_6 => ?_)
        ·
          replace hp := cT c_6 hp
          refine ⟨hp, ?_⟩
          intro r5 hr5
          subst hr5
          intro _
          refine brb (fun c_7 => ?_) (fun c_7 => ?_)
          ·
            have e := hr _ ((Eq.trans (cfalse c_1) (Eq.trans (cfalse c_2) (Eq.trans (cfalse c_3) (Eq.trans (ctrue c_6) (ctrue c_7))))) : keys_reader_worked_J0_F r0b c1b = _).symm
            exact e
          ·
            intro r6 hr6
            subst hr6
            intro _
            refine brb (fun c_8 => ?_) (fun c_8 => ?_)
            ·
              have e := hr _ ((Eq.trans (cfalse c_1) (Eq.trans (cfalse c_2) (Eq.trans (cfalse c_3) (Eq.trans (ctrue c_6) (Eq.trans (cfalse c_7) (ctrue c_8)))))) : keys_reader_worked_J0_F r0b c1b = _).symm
              exact e
            ·
              have e := hr _ ((Eq.trans (cfalse c_1) (Eq.trans (cfalse c_2) (Eq.trans (cfalse c_3) (Eq.trans (ctrue c_6) (Eq.trans (cfalse c_7) (cfalse c_8)))))) : keys_reader_worked_J0_F r0b c1b = _).symm
              exact e
        ·
          replace hp := cF c_6 hp
          refine brb (fun c_9 => ?_) (fun c_9 => ?_)
          ·
            replace hp := cT c_9 hp
            refine asrt hp.1 ?_
            replace hp := hp.2
            refine brb (fun c_10 => ?_) (fun c_10 => ?_)
            ·
              replace hp := cT c_10 hp
              refine brb (fun c_11 => ?_) (fun c_11 => ?_)
              ·
                replace hp := cT c_11 hp
                refine asrt hp.1 ?_
                replace hp := hp.2
                refine brb (fun c_12 => ?_) (fun c_12 => ?_)
                ·
                  clear hp
                  have e := hr _ ((Eq.trans (cfalse c_1) (Eq.trans (cfalse c_2) (Eq.trans (cfalse c_3) (Eq.trans (cfalse c_6) (Eq.trans (ctrue c_9) (Eq.trans (ctrue c_10) (Eq.trans (ctrue c_11) (ctrue c_12)))))))) : keys_reader_worked_J0_F r0b c1b = _).symm
                  exact e
                ·
                  replace hp := cF c_12 hp
                  refine ⟨hp, ?_⟩
                  intro r7 hr7
                  subst hr7
                  intro _
                  have e := hr _ ((Eq.trans (cfalse c_1) (Eq.trans (cfalse c_2) (Eq.trans (cfalse c_3) (Eq.trans (cfalse c_6) (Eq.trans (ctrue c_9) (Eq.trans (ctrue c_10) (Eq.trans (ctrue c_11) (cfalse c_12)))))))) : keys_reader_worked_J0_F r0b c1b = _).symm
                  exact e
              ·
                replace hp := cF c_11 hp
                refine ⟨hp, ?_⟩
                intro r8 hr8
                subst hr8
                intro _
                have e := hr _ ((Eq.trans (cfalse c_1) (Eq.trans (cfalse c_2) (Eq.trans (cfalse c_3) (Eq.trans (cfalse c_6) (Eq.trans (ctrue c_9) (Eq.trans (ctrue c_10) (cfalse c_11))))))) : keys_reader_worked_J0_F r0b c1b = _).symm
                exact e
            ·
              replace hp := cF c_10 hp
              refine ⟨hp, ?_⟩
              intro r9 hr9
              subst hr9
              intro _
              have e := hr _ ((Eq.trans (cfalse c_1) (Eq.trans (cfalse c_2) (Eq.trans (cfalse c_3) (Eq.trans (cfalse c_6) (Eq.trans (ctrue c_9) (cfalse c_10)))))) : keys_reader_worked_J0_F r0b c1b = _).symm
              exact e
          ·
            replace hp := cF c_9 hp
            refine ⟨hp, ?_⟩
            intro r10 hr10
            subst hr10
            intro _
            have e := hr _ ((Eq.trans (cfalse c_1) (Eq.trans (cfalse c_2) (Eq.trans (cfalse c_3) (Eq.trans (cfalse c_6) (cfalse c_9))))) : keys_reader_worked_J0_F r0b c1b = _).symm
            exact e
def keys_reader_worked_P (r0 : (List Int × Int)) (c1 : CmT) : Prop :=
 keys_reader_count_P r0 ∧ (
 let r1 : Int × (List Int × Int) := keys_reader_count_F r0
 bif (decide ((0 : Int) < r1.1)) then
 keys_reader_worked_J0_P r1.2 (c1.1, (mn (IntKind.wrap .i64 ((mx c1.2.1 (1 : Int)) * (mx r1.1 (1 : Int)))) (9999 : Int)), c1.2.2.1, c1.2.2.2.1, c1.2.2.2.2.1, c1.2.2.2.2.2)
 else
 bif (decide ((0 : Int) < c1.2.1)) then
 keys_reader_worked_J0_P r1.2 (c1.1, (mn (IntKind.wrap .i64 ((mx c1.2.1 (1 : Int)) * (mx r1.1 (1 : Int)))) (9999 : Int)), c1.2.2.1, c1.2.2.2.1, c1.2.2.2.2.1, c1.2.2.2.2.2)
 else
 keys_reader_worked_J0_P r1.2 c1)
def keys_reader_worked_F (r0 : (List Int × Int)) (c1 : CmT) : Int × (List Int × Int) × CmT :=
 let r1 : Int × (List Int × Int) := keys_reader_count_F r0
 bif (decide ((0 : Int) < r1.1)) then
 let q0r : Int × (List Int × Int) × CmT := keys_reader_worked_J0_F r1.2 (c1.1, (mn (IntKind.wrap .i64 ((mx c1.2.1 (1 : Int)) * (mx r1.1 (1 : Int)))) (9999 : Int)), c1.2.2.1, c1.2.2.2.1, c1.2.2.2.2.1, c1.2.2.2.2.2)
 let x4 : Int := q0r.1
 let r0b : (List Int × Int) := q0r.2.1
 let c1b : CmT := q0r.2.2
 (x4, r0b, c1b)
 else
 bif (decide ((0 : Int) < c1.2.1)) then
 let q0r : Int × (List Int × Int) × CmT := keys_reader_worked_J0_F r1.2 (c1.1, (mn (IntKind.wrap .i64 ((mx c1.2.1 (1 : Int)) * (mx r1.1 (1 : Int)))) (9999 : Int)), c1.2.2.1, c1.2.2.2.1, c1.2.2.2.2.1, c1.2.2.2.2.2)
 let x4 : Int := q0r.1
 let r0b : (List Int × Int) := q0r.2.1
 let c1b : CmT := q0r.2.2
 (x4, r0b, c1b)
 else
 let q0r : Int × (List Int × Int) × CmT := keys_reader_worked_J0_F r1.2 c1
 let x4 : Int := q0r.1
 let r0b : (List Int × Int) := q0r.2.1
 let c1b : CmT := q0r.2.2
 (x4, r0b, c1b)
set_option maxRecDepth 20000 in
theorem keys_reader_worked_sp (r0 : (List Int × Int)) (c1 : CmT) (K : Res → List Cell → Prop) (_ : wfA keys_reader_worked_A (r0, c1, ())) (hp : keys_reader_worked_P r0 c1) (h : ∀ r : Int × (List Int × Int) × CmT, r = keys_reader_worked_F r0 c1 → K (.one (.v (.int .i64) r.1)) [⟨.st (.pair (.sl (.int .u8)) (.int .i64)), r.2.1⟩, ⟨.st (.pair (.int .u8) (.pair (.int .i64) (.pair (.str) (.pair (.str) (.pair (.int .u8) (.sl (.int .u8))))))), r.2.2⟩]) : keys_reader_worked_raw r0 c1 K := by
  unfold keys_reader_worked_raw
  unfold keys_reader_worked_P at hp
  refine ⟨hp.1, ?_⟩
  replace hp := hp.2
  intro r1 hr1
  subst hr1
  intro _
  refine brb (fun c_13 => ?_) (fun c_13 => ?_)
  ·
    replace hp := cT c_13 hp
    refine fun _ => keys_reader_worked_J0_sp _ _ _ hp (fun q hq => ?_)
    subst hq
    intro _
    clear hp
    have e := h _ ((ctrue c_13) : keys_reader_worked_F r0 c1 = _).symm
    exact e
  ·
    replace hp := cF c_13 hp
    refine brb (fun c_14 => ?_) (fun c_14 => ?_)
    ·
      replace hp := cT c_14 hp
      refine fun _ => keys_reader_worked_J0_sp _ _ _ hp (fun q hq => ?_)
      subst hq
      intro _
      clear hp
      have e := h _ ((Eq.trans (cfalse c_13) (ctrue c_14)) : keys_reader_worked_F r0 c1 = _).symm
      exact e
    ·
      replace hp := cF c_14 hp
      refine fun _ => keys_reader_worked_J0_sp _ _ _ hp (fun q hq => ?_)
      subst hq
      intro _
      clear hp
      have e := h _ ((Eq.trans (cfalse c_13) (cfalse c_14)) : keys_reader_worked_F r0 c1 = _).symm
      exact e
def keys_reader_worked_C (v : valsA keys_reader_worked_A) (K : Res → List Cell → Prop) : Prop := keys_reader_worked_P v.1 v.2.1 ∧ ∀ r : Int × (List Int × Int) × CmT, r = keys_reader_worked_F v.1 v.2.1 → K (.one (.v (.int .i64) r.1)) [⟨.st (.pair (.sl (.int .u8)) (.int .i64)), r.2.1⟩, ⟨.st (.pair (.int .u8) (.pair (.int .i64) (.pair (.str) (.pair (.str) (.pair (.int .u8) (.sl (.int .u8))))))), r.2.2⟩]
def keys_reader_worked_S : App := specW keys_reader_worked_A keys_reader_worked_C
theorem keys_reader_worked_wv (K : Res → List Cell → Prop) : ∀ v : valsA keys_reader_worked_A, runF tb (getG keys_reader_worked_G) keys_reader_worked_B0 Tryd.f123 [true] (mkA keys_reader_worked_A v) K = keys_reader_worked_raw v.1 v.2.1 K
  | (r0, c1, ()) => keys_reader_worked_walk r0 c1 K
set_option maxRecDepth 20000 in
theorem keys_reader_worked_ok : AppOk Tryd.prog 123 keys_reader_worked_S :=
  AppOk.specW (spec_ok ((runF_ok tb_M tb_ok keys_reader_worked_Gok (keys_reader_worked_b0) (f := 123) (fn := Tryd.f123) (by kernel_rfl) (by kernel_rfl) keys_reader_worked_st [true])) fun v K hw h => (keys_reader_worked_wv K v).mpr (keys_reader_worked_sp v.1 v.2.1 K hw h.1 h.2))

end Go.VE
