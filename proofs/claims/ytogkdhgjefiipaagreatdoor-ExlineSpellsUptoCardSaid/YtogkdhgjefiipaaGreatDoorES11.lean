import Derived.Test.YtogkdhgjefiipaaGreatDoorES10
import Derived.Test.YtogkdhgjefiipaaGreatDoorProg
import Derived.Lib.LaidTab
import Derived.Lib.ItoaNum
set_option linter.unusedVariables false
set_option linter.unusedSectionVars false
set_option linter.unusedSimpArgs false
namespace Go.VE
abbrev LI:=List Int
abbrev tJb:Type:=List Int×Int×(Int×Int×Bool×Bool)×Int×Int×Int
abbrev tEf:Type:=List ((Int×List Int×List Int))×Int×(Bool×Bool×List Int)×Int×Bool
abbrev tyJ:Ty:=.st (.pair (.sl (.int .u8)) (.pair (.int .i64) (.pair (.st (.pair (.int .i64) (.pair (.int .i64) (.pair (.bool) (.bool))))) (.pair (.int .i64) (.pair (.int .i64) (.int .i64))))))
abbrev tyE:Ty:=.st (.pair (.sl (.st (.pair (.int .i64) (.pair (.sl (.int .u8)) (.sl (.int .u8)))))) (.pair (.int .i64) (.pair (.st (.pair (.bool) (.pair (.bool) (.sl (.int .u8))))) (.pair (.int .i64) (.bool)))))
abbrev tyA:Ty:=.st (.pair (.int .u8) (.pair (.int .i64) (.pair (.int .u8) (.pair (.sl (.int .u8)) (.pair (.int .i64) (.bool))))))
abbrev tAd:Type:=Int×Int×Int×List Int×Int×Bool
abbrev tyX:Ty:=.st (.pair (.st (.pair (.int .u8) (.pair (.int .i64) (.pair (.int .u8) (.pair (.sl (.int .u8)) (.pair (.int .i64) (.bool))))))) (.pair (.st (.pair (.int .u8) (.pair (.int .i64) (.pair (.int .u8) (.pair (.sl (.int .u8)) (.pair (.int .i64) (.bool))))))) (.pair (.bool) (.pair (.str) (.pair (.st (.pair (.int .u8) (.pair (.int .i64) (.pair (.int .u8) (.pair (.sl (.int .u8)) (.pair (.int .i64) (.bool))))))) (.pair (.int .u8) (.pair (.int .i64) (.pair (.sl (.int .u8)) (.pair (.sl (.int .u8)) (.bool))))))))))
abbrev tEx:Type:=(Int×Int×Int×List Int×Int×Bool)×(Int×Int×Int×List Int×Int×Bool)×Bool×List Int×(Int×Int×Int×List Int×Int×Bool)×Int×Int×List Int×List Int×Bool
abbrev tBk:Type:=(Bool×Bool×List Int)×(Bool×Bool×List Int)×Unit×Unit
abbrev tyB:Ty:=.st (.pair (.st (.pair (.bool) (.pair (.bool) (.sl (.int .u8))))) (.pair (.st (.pair (.bool) (.pair (.bool) (.sl (.int .u8))))) (.pair (.arr 9 (.st (.pair (.bool) (.pair (.bool) (.sl (.int .u8)))))) (.arr 26 (.st (.pair (.bool) (.pair (.bool) (.sl (.int .u8)))))))))
abbrev tyW:Ty:=.st (.pair (.sl (.int .u8)) (.pair (.int .i64) (.pair (.int .i64) (.pair (.int .i64) (.pair (.st (.pair (.arr 26 (.int .i64)) (.int .i64))) (.pair (.st (.pair (.st (.pair (.bool) (.pair (.bool) (.sl (.int .u8))))) (.pair (.st (.pair (.bool) (.pair (.bool) (.sl (.int .u8))))) (.pair (.arr 9 (.st (.pair (.bool) (.pair (.bool) (.sl (.int .u8)))))) (.arr 26 (.st (.pair (.bool) (.pair (.bool) (.sl (.int .u8)))))))))) (.pair (.sl (.int .u8)) (.pair (.st (.pair (.st (.pair (.int .u8) (.pair (.int .i64) (.pair (.int .u8) (.pair (.sl (.int .u8)) (.pair (.int .i64) (.bool))))))) (.pair (.st (.pair (.int .u8) (.pair (.int .i64) (.pair (.int .u8) (.pair (.sl (.int .u8)) (.pair (.int .i64) (.bool))))))) (.pair (.bool) (.pair (.str) (.pair (.st (.pair (.int .u8) (.pair (.int .i64) (.pair (.int .u8) (.pair (.sl (.int .u8)) (.pair (.int .i64) (.bool))))))) (.pair (.int .u8) (.pair (.int .i64) (.pair (.sl (.int .u8)) (.pair (.sl (.int .u8)) (.bool))))))))))) (.pair (.int .i64) (.int .i64))))))))))
abbrev tWk:Type:=List Int×Int×Int×Int×(Unit×Int)×((Bool×Bool×List Int)×(Bool×Bool×List Int)×Unit×Unit)×List Int×((Int×Int×Int×List Int×Int×Bool)×(Int×Int×Int×List Int×Int×Bool)×Bool×List Int×(Int×Int×Int×List Int×Int×Bool)×Int×Int×List Int×List Int×Bool)×Int×Int
abbrev zA:tAd:=(0,0,0,[],0,false)
abbrev zX:tEx:=(zA,zA,false,[],zA,0,0,[],[],false)
abbrev yB:Ty:=.sl (.int .u8)
abbrev yI:Ty:=.int .i64
abbrev yU:Ty:=.int .u8
abbrev wI (n:Int):Prop:=wfR (.one (.v yI n))
abbrev wB (b:Bool):Prop:=wfR (.one (.v .bool b))
open Go Go.Proofs
instance:D1 where
 ok I w := ∃ g ob, Tryz.prog.globalNamed "internal/strconv.uint64pow10" = some g ∧ I g ∧ w.heap[g]? = some ob ∧ ∀ w' : World, w'.heap[g]? = some ob → Lib.TabIs Tryz.prog w' "internal/strconv.uint64pow10" .u64 Lib.pow10Tab
 keep:=fun hk ⟨g,ob,h0,h1,h2,h3⟩=>⟨g,ob,h0,hk.sub g h1,(hk.heap g h1).trans h2,h3⟩
 pan n:=.iface 85 (.agg #[.int .i64 n])
 trk:=fun e=>e == 27 || e == 30
theorem b71 {I : Nat → Prop} {w : World} (h : D1.ok I w) : ∃ g ob, Tryz.prog.globalNamed "internal/strconv.uint64pow10" = some g ∧ I g ∧ w.heap[g]? = some ob ∧ ∀ w' : World, w'.heap[g]? = some ob → Lib.TabIs Tryz.prog w' "internal/strconv.uint64pow10" .u64 Lib.pow10Tab := h
def tb:Tab:=[(2,⟨.int .i64,0,[],8⟩),(3,⟨.int .i64,0,[],8⟩),(4,⟨.bool,0,[],1⟩),(5,⟨.int .u8,0,[],1⟩),(9,⟨.str,0,[],16⟩),(21,⟨.int .i32,0,[],4⟩),(22,⟨.sl (.int .u8),5,[],24⟩),(25,⟨.st (.pair (.int .u8) (.pair (.int .i64) (.pair (.int .u8) (.pair (.sl (.int .u8)) (.pair (.int .i64) (.bool)))))),0,[],64⟩),(27,⟨.st (.pair (.st (.pair (.int .u8) (.pair (.int .i64) (.pair (.int .u8) (.pair (.sl (.int .u8)) (.pair (.int .i64) (.bool))))))) (.pair (.st (.pair (.int .u8) (.pair (.int .i64) (.pair (.int .u8) (.pair (.sl (.int .u8)) (.pair (.int .i64) (.bool))))))) (.pair (.bool) (.pair (.str) (.pair (.st (.pair (.int .u8) (.pair (.int .i64) (.pair (.int .u8) (.pair (.sl (.int .u8)) (.pair (.int .i64) (.bool))))))) (.pair (.int .u8) (.pair (.int .i64) (.pair (.sl (.int .u8)) (.pair (.sl (.int .u8)) (.bool)))))))))),0,[],288⟩),(30,⟨.int .i64,0,[],8⟩),(37,⟨.arr 26 (.int .i64),0,[],208⟩),(39,⟨.st (.pair (.arr 26 (.int .i64)) (.int .i64)),0,[],216⟩),(41,⟨.st (.pair (.bool) (.pair (.bool) (.sl (.int .u8)))),0,[],32⟩),(42,⟨.arr 9 (.st (.pair (.bool) (.pair (.bool) (.sl (.int .u8))))),0,[],288⟩),(43,⟨.arr 26 (.st (.pair (.bool) (.pair (.bool) (.sl (.int .u8))))),0,[],832⟩),(45,⟨.st (.pair (.st (.pair (.bool) (.pair (.bool) (.sl (.int .u8))))) (.pair (.st (.pair (.bool) (.pair (.bool) (.sl (.int .u8))))) (.pair (.arr 9 (.st (.pair (.bool) (.pair (.bool) (.sl (.int .u8)))))) (.arr 26 (.st (.pair (.bool) (.pair (.bool) (.sl (.int .u8))))))))),0,[],1184⟩),(48,⟨.sl (.st (.pair (.int .i64) (.pair (.sl (.int .u8)) (.sl (.int .u8))))),75,[],24⟩),(50,⟨.st (.pair (.sl (.st (.pair (.int .i64) (.pair (.sl (.int .u8)) (.sl (.int .u8)))))) (.pair (.int .i64) (.pair (.st (.pair (.bool) (.pair (.bool) (.sl (.int .u8))))) (.pair (.int .i64) (.bool))))),0,[],80⟩),(61,⟨.sl (.sl (.int .u8)),22,[],24⟩),(69,⟨.sl (.str),9,[],24⟩),(75,⟨.st (.pair (.int .i64) (.pair (.sl (.int .u8)) (.sl (.int .u8)))),0,[],56⟩),(85,⟨.st (.int .i64),1,[],8⟩),(89,⟨.st (.pair (.sl (.int .u8)) (.int .i64)),0,[],32⟩),(108,⟨.st (.pair (.sl (.int .u8)) (.pair (.int .i64) (.pair (.int .i64) (.pair (.int .i64) (.pair (.st (.pair (.arr 26 (.int .i64)) (.int .i64))) (.pair (.st (.pair (.st (.pair (.bool) (.pair (.bool) (.sl (.int .u8))))) (.pair (.st (.pair (.bool) (.pair (.bool) (.sl (.int .u8))))) (.pair (.arr 9 (.st (.pair (.bool) (.pair (.bool) (.sl (.int .u8)))))) (.arr 26 (.st (.pair (.bool) (.pair (.bool) (.sl (.int .u8)))))))))) (.pair (.sl (.int .u8)) (.pair (.st (.pair (.st (.pair (.int .u8) (.pair (.int .i64) (.pair (.int .u8) (.pair (.sl (.int .u8)) (.pair (.int .i64) (.bool))))))) (.pair (.st (.pair (.int .u8) (.pair (.int .i64) (.pair (.int .u8) (.pair (.sl (.int .u8)) (.pair (.int .i64) (.bool))))))) (.pair (.bool) (.pair (.str) (.pair (.st (.pair (.int .u8) (.pair (.int .i64) (.pair (.int .u8) (.pair (.sl (.int .u8)) (.pair (.int .i64) (.bool))))))) (.pair (.int .u8) (.pair (.int .i64) (.pair (.sl (.int .u8)) (.pair (.sl (.int .u8)) (.bool))))))))))) (.pair (.int .i64) (.int .i64)))))))))),0,[],1776⟩),(136,⟨.int .u64,0,[],8⟩),(145,⟨.st (.pair (.int .i64) (.pair (.int .i64) (.pair (.bool) (.bool)))),1,[],24⟩),(172,⟨.int .u32,0,[],4⟩),(175,⟨.int .u64,0,[],8⟩),(237,⟨.st (.pair (.sl (.int .u8)) (.pair (.int .i64) (.pair (.st (.pair (.int .i64) (.pair (.int .i64) (.pair (.bool) (.bool))))) (.pair (.int .i64) (.pair (.int .i64) (.int .i64)))))),0,[],80⟩),(254,⟨.arr 24 (.int .u8),0,[],24⟩),(259,⟨.sl (.int .i64),3,[],24⟩),(278,⟨.arr 20 (.int .u64),0,[],160⟩),(279,⟨.arr 65 (.int .u8),0,[],65⟩),(291,⟨.arr 256 (.int .u8),0,[],256⟩),(293,⟨.st (.pair (.int .u8) (.int .u8)),1,[],2⟩),(294,⟨.arr 16 (.st (.pair (.int .u8) (.int .u8))),0,[],32⟩),(299,⟨.arr 32 (.int .u8),0,[],32⟩),(300,⟨.arr 64 (.int .u8),0,[],64⟩)]
theorem o0:Tryz.prog.follows .mixedOrders=true:=by kernel_rfl
theorem e7H:o4 Tryz.prog tb 2 ⟨.int .i64,0,[],8⟩:=o4.ofInt (by kernel_rfl) (by kernel_rfl) rfl
theorem e7I:o4 Tryz.prog tb 3 ⟨.int .i64,0,[],8⟩:=o4.ofInt (by kernel_rfl) (by kernel_rfl) rfl
theorem e7J:o4 Tryz.prog tb 4 ⟨.bool,0,[],1⟩:=o4.ofBool (by kernel_rfl) (by kernel_rfl) rfl
theorem e7K:o4 Tryz.prog tb 5 ⟨.int .u8,0,[],1⟩:=o4.ofInt (by kernel_rfl) (by kernel_rfl) rfl
theorem e7L:o4 Tryz.prog tb 9 ⟨.str,0,[],16⟩:=o4.ofStr (by kernel_rfl) (by kernel_rfl) rfl
theorem e66:o4 Tryz.prog tb 21 ⟨.int .i32,0,[],4⟩:=o4.ofInt (by kernel_rfl) (by kernel_rfl) rfl
theorem e67:o4 Tryz.prog tb 22 ⟨.sl (.int .u8),5,[],24⟩:=o4.ofSl (by kernel_rfl) (by kernel_rfl) rfl (by kernel_rfl)
theorem e68:o4 Tryz.prog tb 25 ⟨.st (.pair (.int .u8) (.pair (.int .i64) (.pair (.int .u8) (.pair (.sl (.int .u8)) (.pair (.int .i64) (.bool)))))),0,[],64⟩:=o4.ofSt (c:=6) (by kernel_rfl) (by kernel_rfl) (by kernel_rfl) rfl (by kernel_rfl)
theorem d1F:o4 Tryz.prog tb 27 ⟨.st (.pair (.st (.pair (.int .u8) (.pair (.int .i64) (.pair (.int .u8) (.pair (.sl (.int .u8)) (.pair (.int .i64) (.bool))))))) (.pair (.st (.pair (.int .u8) (.pair (.int .i64) (.pair (.int .u8) (.pair (.sl (.int .u8)) (.pair (.int .i64) (.bool))))))) (.pair (.bool) (.pair (.str) (.pair (.st (.pair (.int .u8) (.pair (.int .i64) (.pair (.int .u8) (.pair (.sl (.int .u8)) (.pair (.int .i64) (.bool))))))) (.pair (.int .u8) (.pair (.int .i64) (.pair (.sl (.int .u8)) (.pair (.sl (.int .u8)) (.bool)))))))))),0,[],288⟩:=o4.ofSt (c:=25) (by kernel_rfl) (by kernel_rfl) (by kernel_rfl) rfl (by kernel_rfl)
theorem d1G:o4 Tryz.prog tb 30 ⟨.int .i64,0,[],8⟩:=o4.ofInt (by kernel_rfl) (by kernel_rfl) rfl
theorem e69:o4 Tryz.prog tb 37 ⟨.arr 26 (.int .i64),0,[],208⟩:=o4.ofArr (by kernel_rfl) rfl (by kernel_rfl) rfl
theorem e7a:o4 Tryz.prog tb 39 ⟨.st (.pair (.arr 26 (.int .i64)) (.int .i64)),0,[],216⟩:=o4.ofSt (c:=27) (by kernel_rfl) (by kernel_rfl) (by kernel_rfl) rfl (by kernel_rfl)
theorem e7b:o4 Tryz.prog tb 41 ⟨.st (.pair (.bool) (.pair (.bool) (.sl (.int .u8)))),0,[],32⟩:=o4.ofSt (c:=3) (by kernel_rfl) (by kernel_rfl) (by kernel_rfl) rfl (by kernel_rfl)
theorem e7c:o4 Tryz.prog tb 42 ⟨.arr 9 (.st (.pair (.bool) (.pair (.bool) (.sl (.int .u8))))),0,[],288⟩:=o4.ofArr (by kernel_rfl) rfl (by kernel_rfl) rfl
theorem e7d:o4 Tryz.prog tb 43 ⟨.arr 26 (.st (.pair (.bool) (.pair (.bool) (.sl (.int .u8))))),0,[],832⟩:=o4.ofArr (by kernel_rfl) rfl (by kernel_rfl) rfl
theorem e7e:o4 Tryz.prog tb 45 ⟨.st (.pair (.st (.pair (.bool) (.pair (.bool) (.sl (.int .u8))))) (.pair (.st (.pair (.bool) (.pair (.bool) (.sl (.int .u8))))) (.pair (.arr 9 (.st (.pair (.bool) (.pair (.bool) (.sl (.int .u8)))))) (.arr 26 (.st (.pair (.bool) (.pair (.bool) (.sl (.int .u8))))))))),0,[],1184⟩:=o4.ofSt (c:=111) (by kernel_rfl) (by kernel_rfl) (by kernel_rfl) rfl (by kernel_rfl)
theorem e7f:o4 Tryz.prog tb 48 ⟨.sl (.st (.pair (.int .i64) (.pair (.sl (.int .u8)) (.sl (.int .u8))))),75,[],24⟩:=o4.ofSl (by kernel_rfl) (by kernel_rfl) rfl (by kernel_rfl)
theorem e7g:o4 Tryz.prog tb 50 ⟨.st (.pair (.sl (.st (.pair (.int .i64) (.pair (.sl (.int .u8)) (.sl (.int .u8)))))) (.pair (.int .i64) (.pair (.st (.pair (.bool) (.pair (.bool) (.sl (.int .u8))))) (.pair (.int .i64) (.bool))))),0,[],80⟩:=o4.ofSt (c:=7) (by kernel_rfl) (by kernel_rfl) (by kernel_rfl) rfl (by kernel_rfl)
theorem e7h:o4 Tryz.prog tb 61 ⟨.sl (.sl (.int .u8)),22,[],24⟩:=o4.ofSl (by kernel_rfl) (by kernel_rfl) rfl (by kernel_rfl)
theorem e7i:o4 Tryz.prog tb 69 ⟨.sl (.str),9,[],24⟩:=o4.ofSl (by kernel_rfl) (by kernel_rfl) rfl (by kernel_rfl)
theorem e7j:o4 Tryz.prog tb 75 ⟨.st (.pair (.int .i64) (.pair (.sl (.int .u8)) (.sl (.int .u8)))),0,[],56⟩:=o4.ofSt (c:=3) (by kernel_rfl) (by kernel_rfl) (by kernel_rfl) rfl (by kernel_rfl)
theorem e7k:o4 Tryz.prog tb 85 ⟨.st (.int .i64),1,[],8⟩:=o4.ofStE (c:=1) (by kernel_rfl) (by kernel_rfl) (by kernel_rfl) rfl (by kernel_rfl) (by kernel_rfl)
theorem e7l:o4 Tryz.prog tb 89 ⟨.st (.pair (.sl (.int .u8)) (.int .i64)),0,[],32⟩:=o4.ofSt (c:=2) (by kernel_rfl) (by kernel_rfl) (by kernel_rfl) rfl (by kernel_rfl)
theorem e4d:o4 Tryz.prog tb 108 ⟨.st (.pair (.sl (.int .u8)) (.pair (.int .i64) (.pair (.int .i64) (.pair (.int .i64) (.pair (.st (.pair (.arr 26 (.int .i64)) (.int .i64))) (.pair (.st (.pair (.st (.pair (.bool) (.pair (.bool) (.sl (.int .u8))))) (.pair (.st (.pair (.bool) (.pair (.bool) (.sl (.int .u8))))) (.pair (.arr 9 (.st (.pair (.bool) (.pair (.bool) (.sl (.int .u8)))))) (.arr 26 (.st (.pair (.bool) (.pair (.bool) (.sl (.int .u8)))))))))) (.pair (.sl (.int .u8)) (.pair (.st (.pair (.st (.pair (.int .u8) (.pair (.int .i64) (.pair (.int .u8) (.pair (.sl (.int .u8)) (.pair (.int .i64) (.bool))))))) (.pair (.st (.pair (.int .u8) (.pair (.int .i64) (.pair (.int .u8) (.pair (.sl (.int .u8)) (.pair (.int .i64) (.bool))))))) (.pair (.bool) (.pair (.str) (.pair (.st (.pair (.int .u8) (.pair (.int .i64) (.pair (.int .u8) (.pair (.sl (.int .u8)) (.pair (.int .i64) (.bool))))))) (.pair (.int .u8) (.pair (.int .i64) (.pair (.sl (.int .u8)) (.pair (.sl (.int .u8)) (.bool))))))))))) (.pair (.int .i64) (.int .i64)))))))))),0,[],1776⟩:=o4.ofSt (c:=170) (by kernel_rfl) (by kernel_rfl) (by kernel_rfl) rfl (by kernel_rfl)
theorem e4e:o4 Tryz.prog tb 136 ⟨.int .u64,0,[],8⟩:=o4.ofInt (by kernel_rfl) (by kernel_rfl) rfl
theorem e4f:o4 Tryz.prog tb 145 ⟨.st (.pair (.int .i64) (.pair (.int .i64) (.pair (.bool) (.bool)))),1,[],24⟩:=o4.ofStE (c:=4) (by kernel_rfl) (by kernel_rfl) (by kernel_rfl) rfl (by kernel_rfl) (by kernel_rfl)
theorem e4g:o4 Tryz.prog tb 172 ⟨.int .u32,0,[],4⟩:=o4.ofInt (by kernel_rfl) (by kernel_rfl) rfl
theorem e4h:o4 Tryz.prog tb 175 ⟨.int .u64,0,[],8⟩:=o4.ofInt (by kernel_rfl) (by kernel_rfl) rfl
theorem e4i:o4 Tryz.prog tb 237 ⟨.st (.pair (.sl (.int .u8)) (.pair (.int .i64) (.pair (.st (.pair (.int .i64) (.pair (.int .i64) (.pair (.bool) (.bool))))) (.pair (.int .i64) (.pair (.int .i64) (.int .i64)))))),0,[],80⟩:=o4.ofSt (c:=9) (by kernel_rfl) (by kernel_rfl) (by kernel_rfl) rfl (by kernel_rfl)
theorem e4j:o4 Tryz.prog tb 254 ⟨.arr 24 (.int .u8),0,[],24⟩:=o4.ofArr (by kernel_rfl) rfl (by kernel_rfl) rfl
theorem e4k:o4 Tryz.prog tb 259 ⟨.sl (.int .i64),3,[],24⟩:=o4.ofSl (by kernel_rfl) (by kernel_rfl) rfl (by kernel_rfl)
theorem e4l:o4 Tryz.prog tb 278 ⟨.arr 20 (.int .u64),0,[],160⟩:=o4.ofArr (by kernel_rfl) rfl (by kernel_rfl) rfl
theorem e4m:o4 Tryz.prog tb 279 ⟨.arr 65 (.int .u8),0,[],65⟩:=o4.ofArr (by kernel_rfl) rfl (by kernel_rfl) rfl
theorem e4n:o4 Tryz.prog tb 291 ⟨.arr 256 (.int .u8),0,[],256⟩:=o4.ofArr (by kernel_rfl) rfl (by kernel_rfl) rfl
theorem e4o:o4 Tryz.prog tb 293 ⟨.st (.pair (.int .u8) (.int .u8)),1,[],2⟩:=o4.ofStE (c:=2) (by kernel_rfl) (by kernel_rfl) (by kernel_rfl) rfl (by kernel_rfl) (by kernel_rfl)
theorem e4p:o4 Tryz.prog tb 294 ⟨.arr 16 (.st (.pair (.int .u8) (.int .u8))),0,[],32⟩:=o4.ofArr (by kernel_rfl) rfl (by kernel_rfl) rfl
theorem e4q:o4 Tryz.prog tb 299 ⟨.arr 32 (.int .u8),0,[],32⟩:=o4.ofArr (by kernel_rfl) rfl (by kernel_rfl) rfl
theorem e4r:o4 Tryz.prog tb 300 ⟨.arr 64 (.int .u8),0,[],64⟩:=o4.ofArr (by kernel_rfl) rfl (by kernel_rfl) rfl
theorem j9:q9 Tryz.prog tb:=q9.of (all_cons e7H (all_cons e7I (all_cons e7J (all_cons e7K (all_cons e7L (all_cons e66 (all_cons e67 (all_cons e68 (all_cons d1F (all_cons d1G (all_cons e69 (all_cons e7a (all_cons e7b (all_cons e7c (all_cons e7d (all_cons e7e (all_cons e7f (all_cons e7g (all_cons e7h (all_cons e7i (all_cons e7j (all_cons e7k (all_cons e7l (all_cons e4d (all_cons e4e (all_cons e4f (all_cons e4g (all_cons e4h (all_cons e4i (all_cons e4j (all_cons e4k (all_cons e4l (all_cons e4m (all_cons e4n (all_cons e4o (all_cons e4p (all_cons e4q (all_cons e4r (b9C)))))))))))))))))))))))))))))))))))))))
end Go.VE
namespace Go.VE
set_option maxRecDepth 20000
open Go Go.Proofs
def d50:List (Nat×App):=[]
theorem d3A:GOk Tryz.prog (j8 d50):=GOk.nil
def c1D (b0:Int) (K:Res→List Cell→Prop):Prop:=
 bif (decide ((48:Int)≤b0)) then
 K (.one (.v .bool (decide (b0≤(57:Int))))) []
 else
 K (.one (.v .bool false)) []
def b6D:List AS:=[.v yU]
def a5o (b0:Int):Bool:=
 bif (decide ((48:Int)≤b0)) then
 (decide (b0≤(57:Int)))
 else
 false
theorem e00 (b0:Int) (K:Res→List Cell→Prop) (_:wfA b6D (b0,())) (h:∀ r:Bool,r=a5o b0→K (.one (.v .bool r)) []):c1D b0 K:=
 br0 h (fun _ h=>h _ rfl)
 fun _ h=>h _ rfl
def e5S (v:j3 b6D) (K:Res→List Cell→Prop):Prop:=∀ r:Bool,r=a5o v.1→K (.one (.v .bool r)) []
def c8m:App:=specW b6D e5S
theorem e01 (K:Res→List Cell→Prop):∀ v:j3 b6D,q7 tb (j8 d50) [] Tryz.f224 [true] (mkA b6D v) K=c1D v.1 K
 | (b0,())=>by kernel_rfl
theorem c8n:g8 Tryz.prog 224 c8m:=
 g8.specW (l9 ((l8 o0 j9 d3A (g7.nil) (f:=224) (fn:=Tryz.f224) (by kernel_rfl) (by kernel_rfl) (by kernel_rfl) [true])) fun v K hw h=>(e01 K v).mpr (e00 v.1 K hw h))
end Go.VE
namespace Go.VE
def bls:List Int→Nat
 | []=>0
 | b::r=>if b=32∨b=9 then bls r+1 else 0
theorem b7S:∀ s,bls s≤s.length
 | []=>Nat.le_refl _
 | b::r=>by have:=b7S r; unfold bls; split <;> simp <;> omega
def L8 (b:Int):Bool:=decide (48≤b∧b≤57)
def dgs:List Int→Nat
 | []=>0
 | b::r=>if L8 b then dgs r+1 else 0
theorem R0:∀ s,dgs s≤s.length
 | []=>Nat.le_refl _
 | b::r=>by have:=R0 r; unfold dgs; split <;> simp <;> omega
def a42:Int→List Int→Int
 | a,[]=>a
 | a,b::r=>a42 (a * 10+(b - 48)) r
def dv (s:List Int):Int:=a42 0 (s.take (min (dgs s) 9))
def clo:List Int→Int→Nat
 | [],_=>0
 | [b],s=>if b=92 then 1 else if b=s then 0 else 1
 | b::c::r,s=>if b=92 then clo r s+2 else if b=s then 0 else clo (c::r) s+1
theorem a1Y:∀ s c,clo s c≤s.length
 | [],_=>Nat.le_refl _
 | [b],s=>by unfold clo; split <;> (try split) <;> simp
 | b::c::r,s=>by
  have h1:=a1Y r s; have h2:=a1Y (c::r) s
  unfold clo
  simp only [List.length_cons] at h2 ⊢
  split <;> (try split) <;> omega
def alo:List Int→Bool
 | []=>false
 | [b]=>decide (b=92)
 | b::c::r=>if b=92 then alo r else alo (c::r)
def who:List Int→Int→Bool
 | [],_=>true
 | [b],s=>!(decide (b=s) || decide (b=92))
 | b::c::r,s=>if b=s then false else if b=92 then who r s else who (c::r) s
def sou:List Int→Int→Nat
 | [],_=>0
 | [b],s=>if b=s then 0 else 1
 | b::c::r,s=>if b=s then 0 else if b=92 then sou r s+2 else sou (c::r) s+1
theorem b9t:∀ s c,sou s c≤s.length
 | [],_=>Nat.le_refl _
 | [b],s=>by unfold sou; split <;> simp
 | b::c::r,s=>by
  have h1:=b9t r s; have h2:=b9t (c::r) s
  unfold sou
  simp only [List.length_cons] at h2 ⊢
  split <;> (try split) <;> omega
theorem a5N (b:Int) (r:List Int):bls (b::r)=if b=32∨b=9 then bls r+1 else 0:=rfl
theorem a0f (b:Int) (r:List Int):dgs (b::r)=if L8 b then dgs r+1 else 0:=rfl
theorem a4t:∀ (l:List Int) (a b:Int),a42 a (l++[b])=a42 a l * 10+(b - 48)
 | [],a,b=>rfl
 | c::l,a,b=>a4t l _ b
theorem O1 (b:Int) (r:List Int) (s:Int):clo (b::r) s=if b=92 then (match r with | []=>1 | _::r=>clo r s+2) else if b=s then 0 else clo r s+1:=by
 cases r with
 | nil=>unfold clo; rfl
 | cons c r=>conv=>lhs; unfold clo
theorem a2Q (b:Int) (r:List Int):alo (b::r)=(match r with | []=>decide (b=92) | _::r'=>if b=92 then alo r' else alo r):=by
 cases r with
 | nil=>rfl
 | cons c r=>conv=>lhs; unfold alo
theorem c3Y {b:Int} {r:List Int} (h:¬ b=92):alo (b::r)=alo r:=by
 rw [a2Q]
 cases r with
 | nil=>simp [h,alo]
 | cons c r=>dsimp only; rw [if_neg h]
theorem b1u (b:Int) (r:List Int) (s:Int):who (b::r) s=if b=s then false else if b=92 then (match r with | []=>false | _::r=>who r s) else who r s:=by
 cases r with
 | nil=>unfold who; by_cases h1:b=s <;> by_cases h2:b=92 <;> simp [h1,h2]; all_goals (try unfold who); all_goals (try rfl)
 | cons c r=>conv=>lhs; unfold who
theorem b1n (b:Int) (r:List Int) (s:Int):sou (b::r) s=if b=s then 0 else if b=92 then (match r with | []=>1 | _::r=>sou r s+2) else sou r s+1:=by
 cases r with
 | nil=>unfold sou; by_cases h1:b=s <;> by_cases h2:b=92 <;> simp [h1,h2]; all_goals (try unfold sou); all_goals (try rfl)
 | cons c r=>conv=>lhs; unfold sou
theorem D4 {xs:List Int} {i:Nat} (h:i<xs.length):rd (0:Int) xs (i:Int)=xs[i]:=by show xs.getD (i:Int).toNat 0=_; rw [Int.toNat_natCast]; simp [h]
theorem D3 {xs:List Int} {i:Nat} (h:i<xs.length):xs.drop i=xs[i]::xs.drop (i+1):=List.drop_eq_getElem_cons h
theorem a4y {b:Int} (h:L8 b=true):48≤b∧b≤57:=of_decide_eq_true h
theorem b9P:∀ (s:List Int) (i:Nat) (h:i<s.length),i<dgs s→L8 s[i]=true
 | b::r,0,_,h=>by
  rw [a0f] at h
  split at h
  ·assumption
  ·exact absurd h (Nat.not_lt_zero _)
 | b::r,i+1,h1,h=>by
  rw [a0f] at h
  split at h
  ·exact b9P r i (by simpa using h1) (by omega)
  ·exact absurd h (Nat.not_lt_zero _)
theorem a1j (s:List Int):∀ (i:Nat),i≤dgs s→0≤a42 0 (s.take i)∧a42 0 (s.take i)<10 ^ i
 | 0,_=>by simp [a42]
 | i+1,h=>by
  have hl:=R0 s
  have hi:i<s.length:=by omega
  obtain ⟨h1,h2⟩:=a1j s i (by omega)
  obtain ⟨h3,h4⟩:=a4y (b9P s i hi (by omega))
  rw [List.take_succ_eq_append_getElem hi,a4t,Int.pow_succ]
  omega
theorem a5V:∀ (s:List Int) (i:Nat),i≤dgs s→dgs s=i+dgs (s.drop i)
 | s,0,_=>by simp
 | [],i+1,h=>absurd h (Nat.not_succ_le_zero _)
 | b::r,i+1,h=>by
  rw [a0f] at h ⊢
  split at h
  ·rename_i hb
   rw [if_pos hb,List.drop_succ_cons,a5V r i (by omega)]
   have:=a5V r i (by omega); omega
  ·exact absurd h (Nat.not_succ_le_zero _)
theorem d2f {i:Nat} (h:i≤9):(10:Int) ^ i≤1000000000:=by
 have:i=0∨i=1∨i=2∨i=3∨i=4∨i=5∨i=6∨i=7∨i=8∨i=9:=by omega
 rcases this with h | h | h | h | h | h | h | h | h | h <;> subst h <;> decide
def a1i:Nat→List Int→Int→Bool→Option (Nat×Int×Bool)
 | 0,_,_,_=>none
 | _+1,[],a,g=>some (0,a,g)
 | f+1,b::r,a,g=>if b=43∨b=45 then
   (if dgs r≤9 then
    (match a1i f (r.drop (dgs r)) (IntKind.wrap .i64 (a+(if b=45 then -(if dgs r=0 then 1 else dv r) else (if dgs r=0 then 1 else dv r)))) true with
     | some (m,a',g')=>some (1+dgs r+m,a',g')
     | none=>none)
   else none)
  else some (0,a,g)
theorem b1I:∀ (f f':Nat) (s:List Int) (a:Int) (g:Bool),s.length<f→s.length<f'→a1i f s a g=a1i f' s a g
 | 0,_,_,_,_,h,_=>absurd h (Nat.not_lt_zero _)
 | _+1,0,_,_,_,_,h=>absurd h (Nat.not_lt_zero _)
 | f+1,f'+1,[],a,g,_,_=>rfl
 | f+1,f'+1,b::r,a,g,h,h'=>by
  unfold a1i
  rw [b1I f f' (r.drop (dgs r)) _ true (by simp only [List.length_drop,List.length_cons] at h ⊢; omega) (by simp only [List.length_drop,List.length_cons] at h' ⊢; omega)]
theorem b9B:∀ (f:Nat) (s:List Int) (a:Int) (g:Bool) (m:Nat) (a':Int) (g':Bool),a1i f s a g=some (m,a',g')→m≤s.length
 | 0,_,_,_,_,_,_,h=>by cases h
 | f+1,[],a,g,m,a',g',h=>by
  simp only [a1i,Option.some.injEq,Prod.mk.injEq] at h
  rw [← h.1]; exact Nat.le_refl _
 | f+1,b::r,a,g,m,a',g',h=>by
  unfold a1i at h
  split at h
  ·split at h
   ·split at h
    ·rename_i m2 a2 g2 h2
     simp only [Option.some.injEq,Prod.mk.injEq] at h
     have:=b9B f _ _ _ _ _ _ h2
     have:=R0 r
     simp only [List.length_drop,List.length_cons] at *
     omega
    ·cases h
   ·cases h
  ·simp only [Option.some.injEq,Prod.mk.injEq] at h
   rw [← h.1]; exact Nat.zero_le _
abbrev Adr:=Int×Int×Int×List Int×Int×Bool
def p9:Adr:=(0,0,0,[],0,false)
def b2Y (x:Adr) (a:Int) (g:Bool):Adr:=(x.1,x.2.1,x.2.2.1,x.2.2.2.1,a,g)
def a0U (s:List Int) (at':Int) (x:Adr) (y:Adr):(Int×Int×Adr)⊕(Int×Adr×Adr):=
 match a1i (s.length+1) (s.drop at'.toNat) y.2.2.2.2.1 y.2.2.2.2.2 with
 | none=>.inl (0,230,p9)
 | some (m,a,g)=>.inr (at'+m,x,b2Y y a g)
def a5U:Nat→Nat→List Int
 | 0,_=>[]
 | k+1,n=>if n<10 then [48+(n:Int)] else a5U k (n / 10)++[48+((n % 10:Nat):Int)]
theorem a2U:∀ (k n:Nat),(a5U k n).length≤k
 | 0,_=>Nat.le_refl 0
 | k+1,n=>by
  unfold a5U
  split
  ·simp
  ·have:=a2U k (n / 10); rw [List.length_append]; simp only [List.length_cons,List.length_nil]; omega
theorem b1N:∀ (k n:Nat),n<10 ^ k→0<k→a5U (k+1) n=a5U k n
 | 0,n,h,h0=>absurd h0 (Nat.lt_irrefl 0)
 | 1,n,h,_=>by
  unfold a5U
  rw [if_pos (by omega),if_pos (by omega)]
 | k+2,n,h,_=>by
  rw [show a5U (k+2+1) n=if n<10 then [48+(n:Int)] else a5U (k+2) (n / 10)++[48+((n % 10:Nat):Int)] from rfl,
   show a5U (k+2) n=if n<10 then [48+(n:Int)] else a5U (k+1) (n / 10)++[48+((n % 10:Nat):Int)] from rfl]
  split
  ·rfl
  ·rw [b1N (k+1) (n / 10) (by rw [Nat.pow_succ] at h; omega) (by omega)]
def dec (n:Nat):List Int:=a5U 10 n
theorem a4r {n:Nat} (h:n<10):dec n=[48+(n:Int)]:=by unfold dec a5U; rw [if_pos h]
theorem a4q {n:Nat} (h:10≤n) (h2:n<10000000000):dec n=dec (n / 10)++[48+((n % 10:Nat):Int)]:=by
 unfold dec
 rw [show a5U 10 n=if n<10 then [48+(n:Int)] else a5U 9 (n / 10)++[48+((n % 10:Nat):Int)] from rfl,if_neg (by omega),b1N 9 (n / 10) (by omega) (by omega)]
def cnt:Int→List Int→Int
 | a,[]=>a
 | a,b::r=>if L8 b then cnt (if 9999<a * 10+(b - 48) then 9999 else a * 10+(b - 48)) r else a
theorem a9m (a b:Int) (r:List Int):cnt a (b::r)=if L8 b then cnt (if 9999<a * 10+(b - 48) then 9999 else a * 10+(b - 48)) r else a:=rfl
theorem c27:∀ (s:List Int) (a:Int),0≤a→a≤9999→0≤cnt a s∧cnt a s≤9999
 | [],a,h1,h2=>⟨h1,h2⟩
 | b::r,a,h1,h2=>by
  rw [a9m]
  split
  ·rename_i hb
   have:=a4y hb
   refine c27 r _ ?_ ?_ <;> split <;> omega
  ·exact ⟨h1,h2⟩
def D0 (b:Int):List Int→Nat
 | []=>0
 | c::r=>if c=b then D0 b r+1 else 0
theorem a4Y (b c:Int) (r:List Int):D0 b (c::r)=if c=b then D0 b r+1 else 0:=rfl
theorem b44 (b:Int):∀ s,D0 b s≤s.length
 | []=>Nat.le_refl _
 | c::r=>by have:=b44 b r; rw [a4Y]; split <;> simp <;> omega
abbrev ExD:=Adr×Adr×Bool×List Int×Adr×Int×Int×List Int×List Int×Bool
def exN (x:ExD) (n:Int):ExD:=(x.1,x.2.1,x.2.2.1,x.2.2.2.1,x.2.2.2.2.1,x.2.2.2.2.2.1,n,x.2.2.2.2.2.2.2.1,x.2.2.2.2.2.2.2.2.1,x.2.2.2.2.2.2.2.2.2)
end Go.VE
namespace Go.VE
set_option maxRecDepth 20000
open Go Go.Proofs
def c8K:List (Nat×App):=[(224,c8m)]
theorem c1M:GOk Tryz.prog (j8 c8K):=GOk.cons c8n (GOk.nil)
theorem c8S:o8 (g6 Tryz.f194)=true:=by kernel_rfl
def U2:List LS:=[.v 0 yB,.v 5 yI,.v 6 yI]
def a81:List LS:=[.v 2 yI,.v 3 yI,.v 4 .bool]
def a6U:List LS:=[.v 5 yI,.v 6 yI]
def b4f:DX:=⟨none,some a81,[(0,a6U)]⟩
def b4g (k:Ex→St→Prop) (x2:Int) (x3:Int) (x4:Bool):Prop:=wfD a81 (x2,x3,x4,())→k .ret (mkD 33 a81 (x2,x3,x4,()))
def b0M (k:Ex→St→Prop) (n5:Int) (i6:Int):Prop:=wfD a6U (n5,i6,())→k (.exit 0) (mkD 33 a6U (n5,i6,()))
def b4e (Y:LI→Int→Int→Prop) (kr:Int→Int→Bool→Prop) (kx0:Int→Int→Prop) (line0:LI) (n5:Int) (i6:Int):Prop:=
 bif (decide (i6<(List.length line0:Int))) then
 bif decide (0≤i6∧i6<(List.length line0:Int)) then
 ∀ (r1:Bool),r1=a5o (rd (0:Int) line0 i6)→(
 wB r1→(
 bif r1 then
 bif (decide (i6=(9:Int))) then
 kr (0:Int) (0:Int) false
 else
 bif decide (0≤i6∧i6<(List.length line0:Int)) then
 Y line0 (IntKind.wrap .i64 ((IntKind.wrap .i64 (n5 * (10:Int)))+(IntKind.wrap .i64 (IntKind.wrap .u8 ((rd (0:Int) line0 i6) - (48:Int)))))) (IntKind.wrap .i64 (i6+(1:Int)))
 else False
 else
 kx0 n5 i6))
 else False
 else
 kx0 n5 i6
def b0L (kr:Int→Int→Bool→Prop) (kx0:Int→Int→Prop):Nat→LI→Int→Int→Prop
 | 0,_,_,_=>False
 | n+1,line0,n5,i6=>wfD U2 (line0,n5,i6,())→b4e (b0L kr kx0 n) kr kx0 line0 n5 i6
def c8N:Pce:=ex tb (j8 c8K) [] (at' (g6 Tryz.f194) [0,0,0,1,1]) [0,0,0,1,1]
def c8P (k:Ex→St→Prop) (n:Nat) (v:l6 U2):Prop:=b0L (b4g k) (b0M k) n v.1 v.2.1 v.2.2.1
theorem e1q (k:Ex→St→Prop) (Y:l6 U2→Prop):∀ v:l6 U2,c8N (mkD 33 U2 v) (lpK 33 U2 b4f k Y)=b4e (fun line0 n5 i6=>Y (line0,n5,i6,())) (b4g k) (b0M k) v.1 v.2.1 v.2.2.1
 | (line0,n5,i6,())=>by kernel_rfl
theorem c8T (k:Ex→St→Prop):∀ (n:Nat) (v:l6 U2),lpD 33 U2 b4f c8N k n v=c8P k n v
 | 0,(line0,n5,i6,())=>rfl
 | n+1,(line0,n5,i6,())=>congrArg (fun Z:Prop=>wfD U2 (line0,n5,i6,())→Z) ((e1q k _ (line0,n5,i6,())).trans (congrArg (fun Y=>b4e Y (b4g k) (b0M k) line0 n5 i6) (funext fun line0=>funext fun n5=>funext fun i6=>c8T k n (line0,n5,i6,()))))
def c8M:Pce:=fun st k=>ckD 33 U2 st fun v=>wfD U2 v→∃ n,c8P k n v
theorem e1t:j5 Tryz.prog (at' (g6 Tryz.f194) [0,0,1,1]) c8M:=
 (j5.loop (l3 o0 j9 c1M (g7.nil) (at' (g6 Tryz.f194) [0,0,0,1,1]) [0,0,0,1,1] rfl (g9 c8S [0,0,0,1,1])) 33 U2 b4f).mono fun st k h=>l4 h fun v hv hw=>(hv hw).elim fun n hn=>⟨n,Eq.mpr (c8T k n v) hn⟩
def c8J:q8:=([0,0,1,1],c8M)::[]
theorem e1p:g7 Tryz.prog (g6 Tryz.f194) c8J:=g7.cons e1t (g7.nil)
def c1N (line0:LI) (K:Res→List Cell→Prop):Prop:=
 (wfD U2 (line0,(0:Int),(0:Int),())→∃ n,b0L (fun (x2:Int) (x3:Int) (x4:Bool)=>wfD a81 (x2,x3,x4,())→(
 K (.tup [.v yI x2,.v yI x3,.v .bool x4]) [])) (fun (n5:Int) (i6:Int)=>wfD a6U (n5,i6,())→(
 K (.tup [.v yI n5,.v yI i6,.v .bool true]) [])) n line0 (0:Int) (0:Int))
def b6O:List AS:=[.v yB]
def b6P (s:LI) (n i:Int):Prop:=n=0∧i=0∧s.length≤lim
def a1K (s:LI) (_ _:Int):(Int×Int×Bool)⊕(Int×Int):=if dgs s≤9 then .inr (dv s,(dgs s:Int)) else .inl (0,0,false)
theorem e0Z (b:Int):a5o b=L8 b:=by
 unfold a5o L8
 by_cases h1:48≤b <;> by_cases h2:b≤57 <;> simp [h1,h2]
theorem c8Q (kr:Int→Int→Bool→Prop) (kx0:Int→Int→Prop) (s:LI) (hs:s.length≤lim) (hr:9<dgs s→kr 0 0 false) (hx:dgs s≤9→kx0 (dv s) (dgs s)) :
  ∀ (n i:Nat),s.length<n+i→i≤9→i≤dgs s→b0L kr kx0 n s (a42 0 (s.take i)) (i:Int)
 | 0,i,hn,_,hi=>absurd hn (by have:=R0 s; omega)
 | n+1,i,hn,h9,hi=>by
  intro _
  unfold b4e
  have hlim:lim=1099511627776:=rfl
  have hd:=a5V s i hi
  have hl:=R0 s
  have fin:dgs s=i→kx0 (a42 0 (s.take i)) (i:Int):=fun e=>by
   have:=hx (by omega)
   unfold dv at this
   rw [e,show min i 9=i by omega] at this
   exact this
  refine brn (fun hlt=>C1 (by omega) ?_) (fun hge=>fin (by omega))
  have hi':i<s.length:=by omega
  intro r hr2 _
  rw [D4 hi',e0Z] at hr2
  subst hr2
  rw [D3 hi',a0f] at hd
  refine brb (fun hb=>?_) (fun hb=>?_)
  ·rw [if_pos hb] at hd
   obtain ⟨b1,b2⟩:=a4y hb
   refine brn (fun e9=>hr (by omega)) (fun e9=>C1 (by omega) ?_)
   obtain ⟨v1,v2⟩:=a1j s i hi
   have v3:=d2f h9
   rw [D4 hi',N1 (by omega) (by omega),wrap_i64 (n:=s[i] - 48) (by omega) (by omega),wrap_i64 (n:=a42 0 (s.take i) * 10) (by omega) (by omega),wrap_i64 (n:=a42 0 (s.take i) * 10+(s[i] - 48)) (by omega) (by omega),wrap_i64 (by omega) (by omega),show (i:Int)+1=((i+1:Nat):Int) by omega,← a4t,← List.take_succ_eq_append_getElem hi']
   exact c8Q kr kx0 s hs hr hx n (i+1) (by omega) (by omega) (by omega)
  ·rw [if_neg (by rw [hb]; simp)] at hd
   exact fin (by omega)
theorem c3z (kr:Int→Int→Bool→Prop) (kx0:Int→Int→Prop) (s:LI) (n i:Int) (hp:b6P s n i)
  (hr:∀ q:Int×Int×Bool,a1K s n i=.inl q→kr q.1 q.2.1 q.2.2) (hx:∀ q:Int×Int,a1K s n i=.inr q→kx0 q.1 q.2):∃ m,b0L kr kx0 m s n i:=by
 obtain ⟨rfl,rfl,hs⟩:=hp
 refine ⟨s.length+1,c8Q kr kx0 s hs (fun h=>hr (0,0,false) ?_) (fun h=>hx (dv s,(dgs s:Int)) ?_) _ 0 (by omega) (by omega) (by omega)⟩
 ·unfold a1K; rw [if_neg (by omega)]
 ·unfold a1K; rw [if_pos h]
def a8t (line0:LI):Prop:=
 b6P line0 (0:Int) (0:Int)
def a6T (line0:LI):Int×Int×Bool:=
 Sum.elim (fun q0r=>
 let x2:Int:=q0r.1
 let x3:Int:=q0r.2.1
 let x4:Bool:=q0r.2.2
 (x2,x3,x4)) (fun q0x0=>
 let n5:Int:=q0x0.1
 let i6:Int:=q0x0.2
 (n5,i6,true)) (a1K line0 (0:Int) (0:Int))
theorem e1r (line0:LI) (K:Res→List Cell→Prop) (_:wfA b6O (line0,())) (hp:a8t line0) (h:∀ r:Int×Int×Bool,r=a6T line0→K (.tup [.v yI r.1,.v yI r.2.1,.v .bool r.2.2]) []):c1N line0 K:=
 fun _=>c3z _ _ _ _ _ hp
 (fun _ e _=>have h:=sl e h; h _ rfl)
 (fun _ e _=>have h:=sr e h; h _ rfl)
def e55 (v:j3 b6O) (K:Res→List Cell→Prop):Prop:=a8t v.1∧∀ r:Int×Int×Bool,r=a6T v.1→K (.tup [.v yI r.1,.v yI r.2.1,.v .bool r.2.2]) []
def c8L:App:=specW b6O e55
theorem e1s (K:Res→List Cell→Prop):∀ v:j3 b6O,q7 tb (j8 c8K) c8J Tryz.f194 [true,true,true] (mkA b6O v) K=c1N v.1 K
 | (line0,())=>by kernel_rfl
theorem c8R:g8 Tryz.prog 194 c8L:=
 g8.specW (l9 ((l8 o0 j9 c1M (e1p) (f:=194) (fn:=Tryz.f194) (by kernel_rfl) (by kernel_rfl) c8S [true,true,true])) fun v K hw h=>(e1s K v).mpr (e1r v.1 K hw h.1 h.2))
def c8p:List (Nat×App):=[]
theorem c1E:GOk Tryz.prog (j8 c8p):=GOk.nil
theorem c8v:o8 (g6 Tryz.f139)=true:=by kernel_rfl
def U0:List LS:=[.v 0 yB,.v 1 yU,.v 5 yI]
def a80:List LS:=[.v 4 yI]
def a6R:List LS:=[.v 0 yB]
def b38:DX:=⟨none,some a80,[(0,a6R)]⟩
def b39 (k:Ex→St→Prop) (x4:Int):Prop:=wfD a80 (x4,())→k .ret (mkD 26 a80 (x4,()))
def b0H (k:Ex→St→Prop) (line0:LI):Prop:=wfD a6R (line0,())→k (.exit 0) (mkD 26 a6R (line0,()))
def b37 (Y:LI→Int→Int→Prop) (kr:Int→Prop) (kx0:LI→Prop) (line0:LI) (sign1:Int) (i5:Int):Prop:=
 bif (decide (i5<(List.length line0:Int))) then
 bif decide (0≤i5∧i5<(List.length line0:Int)) then
 bif (decide ((rd (0:Int) line0 i5)=(92:Int))) then
 Y line0 sign1 (IntKind.wrap .i64 ((IntKind.wrap .i64 (i5+(1:Int)))+(1:Int)))
 else
 bif (decide ((rd (0:Int) line0 i5)=sign1)) then
 kr i5
 else
 Y line0 sign1 (IntKind.wrap .i64 (i5+(1:Int)))
 else False
 else
 kx0 line0
def b0G (kr:Int→Prop) (kx0:LI→Prop):Nat→LI→Int→Int→Prop
 | 0,_,_,_=>False
 | n+1,line0,sign1,i5=>wfD U0 (line0,sign1,i5,())→b37 (b0G kr kx0 n) kr kx0 line0 sign1 i5
def c8s:Pce:=ex tb (j8 c8p) [] (at' (g6 Tryz.f139) [0,0,1,0,1]) [0,0,1,0,1]
def c8t (k:Ex→St→Prop) (n:Nat) (v:l6 U0):Prop:=b0G (b39 k) (b0H k) n v.1 v.2.1 v.2.2.1
theorem e03 (k:Ex→St→Prop) (Y:l6 U0→Prop):∀ v:l6 U0,c8s (mkD 26 U0 v) (lpK 26 U0 b38 k Y)=b37 (fun line0 sign1 i5=>Y (line0,sign1,i5,())) (b39 k) (b0H k) v.1 v.2.1 v.2.2.1
 | (line0,sign1,i5,())=>by kernel_rfl
theorem c8w (k:Ex→St→Prop):∀ (n:Nat) (v:l6 U0),lpD 26 U0 b38 c8s k n v=c8t k n v
 | 0,(line0,sign1,i5,())=>rfl
 | n+1,(line0,sign1,i5,())=>congrArg (fun Z:Prop=>wfD U0 (line0,sign1,i5,())→Z) ((e03 k _ (line0,sign1,i5,())).trans (congrArg (fun Y=>b37 Y (b39 k) (b0H k) line0 sign1 i5) (funext fun line0=>funext fun sign1=>funext fun i5=>c8w k n (line0,sign1,i5,()))))
def c8r:Pce:=fun st k=>ckD 26 U0 st fun v=>wfD U0 v→∃ n,c8t k n v
theorem e06:j5 Tryz.prog (at' (g6 Tryz.f139) [0,1,0,1]) c8r:=
 (j5.loop (l3 o0 j9 c1E (g7.nil) (at' (g6 Tryz.f139) [0,0,1,0,1]) [0,0,1,0,1] rfl (g9 c8v [0,0,1,0,1])) 26 U0 b38).mono fun st k h=>l4 h fun v hv hw=>(hv hw).elim fun n hn=>⟨n,Eq.mpr (c8w k n v) hn⟩
def c8o:q8:=([0,1,0,1],c8r)::[]
theorem e02:g7 Tryz.prog (g6 Tryz.f139) c8o:=g7.cons e06 (g7.nil)
def c1F (line0:LI) (sign1:Int) (K:Res→List Cell→Prop):Prop:=
 (wfD U0 (line0,sign1,(0:Int),())→∃ n,b0G (fun (x4:Int)=>wfD a80 (x4,())→(
 K (.one (.v yI x4)) [])) (fun (line0:LI)=>wfD a6R (line0,())→(
 K (.one (.v yI (List.length line0:Int))) [])) n line0 sign1 (0:Int))
def b6E:List AS:=[.v yB,.v yU]
def b6F (s:LI) (_ i:Int):Prop:=i=0∧s.length≤lim
def a1J (s:LI) (c _:Int):Int⊕LI:=if clo s c<s.length then .inl (clo s c:Int) else .inr s
theorem b8S (kr:Int→Prop) (kx0:LI→Prop) (s:LI) (c:Int) (hs:s.length≤lim) :
  ∀ (n i:Nat),s.length+1<n+i→i≤s.length+1→(i+clo (s.drop i) c<s.length→kr ((i+clo (s.drop i) c:Nat):Int))→(s.length≤i+clo (s.drop i) c→kx0 s)→b0G kr kx0 n s c (i:Int)
 | 0,i,hn,hi,hr,hx=>absurd hn (by omega)
 | n+1,i,hn,hi,hr,hx=>by
  intro _
  unfold b37
  have hlim:lim=1099511627776:=rfl
  refine brn (fun hlt=>C1 (by omega) ?_) (fun hge=>hx (by omega))
  have hi':i<s.length:=by omega
  rw [D4 hi',wrap_i64 (n:=(i:Int)+1) (by omega) (by omega),wrap_i64 (by omega) (by omega),show (i:Int)+1+1=((i+2:Nat):Int) by omega,show (i:Int)+1=((i+1:Nat):Int) by omega]
  rw [D3 hi',O1] at hr hx
  refine brn (fun h92=>?_) (fun h92=>brn (fun hc=>?_) (fun hc=>?_))
  ·rw [if_pos h92] at hr hx
   refine b8S kr kx0 s c hs n (i+2) (by omega) (by omega) ?_ ?_
   ·rcases Nat.lt_or_ge (i+1) s.length with h | h
    ·rw [D3 h] at hr
     dsimp only at hr
     intro h2
     rw [show i+2+clo (s.drop (i+2)) c=i+(clo (s.drop (i+1+1)) c+2) by rw [show i+1+1=i+2 from rfl]; omega] at h2 ⊢
     exact hr h2
    ·intro h2; omega
   ·rcases Nat.lt_or_ge (i+1) s.length with h | h
    ·rw [D3 h] at hx
     dsimp only at hx
     intro h2
     exact hx (by rw [show i+1+1=i+2 from rfl]; omega)
    ·rw [List.drop_eq_nil_of_le h] at hx
     exact fun _=>hx (by dsimp only; omega)
  ·rw [if_neg h92,if_pos hc] at hr
   exact hr (by omega)
  ·rw [if_neg h92,if_neg hc] at hr hx
   exact b8S kr kx0 s c hs n (i+1) (by omega) (by omega) (fun h2=>by
    rw [show i+1+clo (s.drop (i+1)) c=i+(clo (s.drop (i+1)) c+1) by omega] at h2 ⊢; exact hr h2) (fun h2=>hx (by omega))
theorem c3y (kr:Int→Prop) (kx0:LI→Prop) (s:LI) (c i:Int) (hp:b6F s c i)
  (hr:∀ q:Int,a1J s c i=.inl q→kr q) (hx:∀ q:LI,a1J s c i=.inr q→kx0 q):∃ m,b0G kr kx0 m s c i:=by
 obtain ⟨rfl,hs⟩:=hp
 refine ⟨s.length+2,b8S kr kx0 s c hs _ 0 (by omega) (by omega) (fun h=>?_) (fun h=>?_)⟩
 ·simp only [List.drop_zero,Nat.zero_add] at h ⊢
  exact hr _ (by unfold a1J; rw [if_pos h])
 ·simp only [List.drop_zero,Nat.zero_add] at h
  exact hx _ (by unfold a1J; rw [if_neg (by omega)])
def a3Q (line0:LI) (sign1:Int):Prop:=
 b6F line0 sign1 (0:Int)
def a1I (line0:LI) (sign1:Int):Int:=
 Sum.elim (fun q0r=>
 let x4:Int:=q0r
 x4) (fun q0x0=>
 let line0:LI:=q0x0
 (List.length line0:Int)) (a1J line0 sign1 (0:Int))
theorem e04 (line0:LI) (sign1:Int) (K:Res→List Cell→Prop) (_:wfA b6E (line0,sign1,())) (hp:a3Q line0 sign1) (h:∀ r:Int,r=a1I line0 sign1→K (.one (.v yI r)) []):c1F line0 sign1 K:=
 fun _=>c3y _ _ _ _ _ hp
 (fun _ e _=>have h:=sl e h; h _ rfl)
 (fun _ e _=>have h:=sr e h; h _ rfl)
def e5T (v:j3 b6E) (K:Res→List Cell→Prop):Prop:=a3Q v.1 v.2.1∧∀ r:Int,r=a1I v.1 v.2.1→K (.one (.v yI r)) []
def c8q:App:=specW b6E e5T
theorem e05 (K:Res→List Cell→Prop):∀ v:j3 b6E,q7 tb (j8 c8p) c8o Tryz.f139 [true] (mkA b6E v) K=c1F v.1 v.2.1 K
 | (line0,sign1,())=>by kernel_rfl
theorem c8u:g8 Tryz.prog 139 c8q:=
 g8.specW (l9 ((l8 o0 j9 c1E (e02) (f:=139) (fn:=Tryz.f139) (by kernel_rfl) (by kernel_rfl) c8v [true])) fun v K hw h=>(e05 K v).mpr (e04 v.1 v.2.1 K hw h.1 h.2))
def c87:List (Nat×App):=[]
theorem c1V:GOk Tryz.prog (j8 c87):=GOk.nil
theorem c9b:o8 (g6 Tryz.f225)=true:=by kernel_rfl
def U3:List LS:=[.v 0 yB,.v 3 yI]
def a84:List LS:=[.v 2 .bool]
def a6Z:List LS:=[]
def b4l:DX:=⟨none,some a84,[(0,a6Z)]⟩
def b4m (k:Ex→St→Prop) (x2:Bool):Prop:=wfD a84 (x2,())→k .ret (mkD 22 a84 (x2,()))
def b0T (k:Ex→St→Prop):Prop:=wfD a6Z ()→k (.exit 0) (mkD 22 a6Z ())
def b4k (Y:LI→Int→Prop) (kr:Bool→Prop) (kx0:Prop) (text0:LI) (i3:Int):Prop:=
 bif (decide (i3<(List.length text0:Int))) then
 bif decide (0≤i3∧i3<(List.length text0:Int)) then
 bif (decide ((rd (0:Int) text0 i3)=(92:Int))) then
 bif (decide (i3=(IntKind.wrap .i64 ((List.length text0:Int) - (1:Int))))) then
 kr true
 else
 Y text0 (IntKind.wrap .i64 ((IntKind.wrap .i64 (i3+(1:Int)))+(1:Int)))
 else
 Y text0 (IntKind.wrap .i64 (i3+(1:Int)))
 else False
 else
 kx0
def b0S (kr:Bool→Prop) (kx0:Prop):Nat→LI→Int→Prop
 | 0,_,_=>False
 | n+1,text0,i3=>wfD U3 (text0,i3,())→b4k (b0S kr kx0 n) kr kx0 text0 i3
def c89:Pce:=ex tb (j8 c87) [] (at' (g6 Tryz.f225) [0,0,1,0,1]) [0,0,1,0,1]
def c9a (k:Ex→St→Prop) (n:Nat) (v:l6 U3):Prop:=b0S (b4m k) (b0T k) n v.1 v.2.1
theorem e1N (k:Ex→St→Prop) (Y:l6 U3→Prop):∀ v:l6 U3,c89 (mkD 22 U3 v) (lpK 22 U3 b4l k Y)=b4k (fun text0 i3=>Y (text0,i3,())) (b4m k) (b0T k) v.1 v.2.1
 | (text0,i3,())=>by kernel_rfl
theorem c9c (k:Ex→St→Prop):∀ (n:Nat) (v:l6 U3),lpD 22 U3 b4l c89 k n v=c9a k n v
 | 0,(text0,i3,())=>rfl
 | n+1,(text0,i3,())=>congrArg (fun Z:Prop=>wfD U3 (text0,i3,())→Z) ((e1N k _ (text0,i3,())).trans (congrArg (fun Y=>b4k Y (b4m k) (b0T k) text0 i3) (funext fun text0=>funext fun i3=>c9c k n (text0,i3,()))))
def c88:Pce:=fun st k=>ckD 22 U3 st fun v=>wfD U3 v→∃ n,c9a k n v
theorem e1Q:j5 Tryz.prog (at' (g6 Tryz.f225) [0,1,0,1]) c88:=
 (j5.loop (l3 o0 j9 c1V (g7.nil) (at' (g6 Tryz.f225) [0,0,1,0,1]) [0,0,1,0,1] rfl (g9 c9b [0,0,1,0,1])) 22 U3 b4l).mono fun st k h=>l4 h fun v hv hw=>(hv hw).elim fun n hn=>⟨n,Eq.mpr (c9c k n v) hn⟩
def c86:q8:=([0,1,0,1],c88)::[]
theorem e1L:g7 Tryz.prog (g6 Tryz.f225) c86:=g7.cons e1Q (g7.nil)
def c1W (text0:LI) (K:Res→List Cell→Prop):Prop:=
 (wfD U3 (text0,(0:Int),())→∃ n,b0S (fun (x2:Bool)=>wfD a84 (x2,())→(
 K (.one (.v .bool x2)) [])) (wfD a6Z ()→(
 K (.one (.v .bool false)) [])) n text0 (0:Int))
def b6T:List AS:=[.v yB]
def b6U (s:LI) (i:Int):Prop:=i=0∧s.length≤lim
def a1M (s:LI) (_:Int):Bool⊕Unit:=if alo s then .inl true else .inr ()
theorem b8Y (kr:Bool→Prop) (kx0:Prop) (s:LI) (hs:s.length≤lim) :
  ∀ (n i:Nat),s.length+1<n+i→i≤s.length+1→(alo (s.drop i)=true→kr true)→(alo (s.drop i)=false→kx0)→b0S kr kx0 n s (i:Int)
 | 0,i,hn,hi,hr,hx=>absurd hn (by omega)
 | n+1,i,hn,hi,hr,hx=>by
  intro _
  unfold b4k
  have hlim:lim=1099511627776:=rfl
  refine brn (fun hlt=>C1 (by omega) ?_) (fun hge=>hx (by rw [List.drop_eq_nil_of_le (by omega)]; rfl))
  have hi':i<s.length:=by omega
  rw [D4 hi',wrap_i64 (n:=(i:Int)+1) (by omega) (by omega),wrap_i64 (n:=(s.length:Int) - 1) (by omega) (by omega),wrap_i64 (by omega) (by omega),show (i:Int)+1+1=((i+2:Nat):Int) by omega,show (i:Int)+1=((i+1:Nat):Int) by omega]
  rw [D3 hi',a2Q] at hr hx
  refine brn (fun h92=>?_) (fun h92=>?_)
  ·refine brn (fun he=>?_) (fun he=>?_)
   ·rw [List.drop_eq_nil_of_le (show s.length≤i+1 by omega)] at hr
    exact hr (by simp [h92])
   ·have h:i+1<s.length:=by omega
    rw [D3 h] at hr hx
    dsimp only at hr hx
    rw [if_pos h92] at hr hx
    exact b8Y kr kx0 s hs n (i+2) (by omega) (by omega) hr hx
  ·refine b8Y kr kx0 s hs n (i+1) (by omega) (by omega) ?_ ?_
   ·rcases Nat.lt_or_ge (i+1) s.length with h | h
    ·rw [D3 h] at hr ⊢
     dsimp only at hr
     rw [if_neg h92] at hr; exact hr
    ·rw [List.drop_eq_nil_of_le h]; intro h2; cases h2
   ·rcases Nat.lt_or_ge (i+1) s.length with h | h
    ·rw [D3 h] at hx ⊢
     dsimp only at hx
     rw [if_neg h92] at hx; exact hx
    ·rw [List.drop_eq_nil_of_le h] at hx
     exact fun _=>hx (by simp [h92])
theorem c3A (kr:Bool→Prop) (kx0:Prop) (s:LI) (i:Int) (hp:b6U s i)
  (hr:∀ q:Bool,a1M s i=.inl q→kr q) (hx:∀ q:Unit,a1M s i=.inr q→kx0):∃ m,b0S kr kx0 m s i:=by
 obtain ⟨rfl,hs⟩:=hp
 refine ⟨s.length+2,b8Y kr kx0 s hs _ 0 (by omega) (by omega) (fun h=>?_) (fun h=>?_)⟩
 ·rw [List.drop_zero] at h
  exact hr _ (by unfold a1M; rw [if_pos h])
 ·rw [List.drop_zero] at h
  exact hx () (by unfold a1M; rw [if_neg (by rw [h]; simp)])
def a8v (text0:LI):Prop:=
 b6U text0 (0:Int)
def a5q (text0:LI):Bool:=
 Sum.elim (fun q0r=>
 let x2:Bool:=q0r
 x2) (fun q0x0=>
 false) (a1M text0 (0:Int))
theorem e1O (text0:LI) (K:Res→List Cell→Prop) (_:wfA b6T (text0,())) (hp:a8v text0) (h:∀ r:Bool,r=a5q text0→K (.one (.v .bool r)) []):c1W text0 K:=
 fun _=>c3A _ _ _ _ hp
 (fun _ e _=>have h:=sl e h; h _ rfl)
 (fun _ e _=>have h:=sr e h; h _ rfl)
def e6f (v:j3 b6T) (K:Res→List Cell→Prop):Prop:=a8v v.1∧∀ r:Bool,r=a5q v.1→K (.one (.v .bool r)) []
def d6e:App:=specW b6T e6f
theorem e1P (K:Res→List Cell→Prop):∀ v:j3 b6T,q7 tb (j8 c87) c86 Tryz.f225 [true] (mkA b6T v) K=c1W v.1 K
 | (text0,())=>by kernel_rfl
theorem e1M:g8 Tryz.prog 225 d6e:=
 g8.specW (l9 ((l8 o0 j9 c1V (e1L) (f:=225) (fn:=Tryz.f225) (by kernel_rfl) (by kernel_rfl) c9b [true])) fun v K hw h=>(e1P K v).mpr (e1O v.1 K hw h.1 h.2))
end Go.VE
namespace Go.VE
open Go Go.Proofs
def d6v:List (Nat×App):=[]
theorem d4e:GOk Tryz.prog (j8 d6v):=GOk.nil
def b4O (b0:LI) (K:Res→List Cell→Prop):Prop:=
 (
 bif decide (List.length ([]:LI)+List.length b0≤lim) then
 K (.one (.fr 5 yU (([]:LI)++b0))) []
 else False)∧(bif decide (List.length b0=0) then
 K (.one (.fr 5 yU ([]:LI))) []
 else True)
def b7f:List AS:=[.v yB]
def D9 (b:LI):Prop:=b.length≤lim
def F7 (b:LI):LI:=b
theorem e3o (b:LI) (K:Res→List Cell→Prop) (_:wfA b7f (b,())) (hp:D9 b) (h:∀ r:LI,r=F7 b→K (.one (.fr 5 yU r)) []):b4O b K:=by
 unfold b4O
 unfold D9 at hp
 refine ⟨C1 (by simpa using hp) (h _ rfl),?_⟩
 by_cases hz:b.length=0
 ·rw [decide_eq_true hz]
  exact h _ (List.eq_nil_of_length_eq_zero hz).symm
 ·rw [decide_eq_false hz]; trivial
def e6x (v:j3 b7f) (K:Res→List Cell→Prop):Prop:=D9 v.1∧∀ r:LI,r=F7 v.1→K (.one (.fr 5 yU r)) []
def b7g:App:=specW b7f e6x
theorem e3p (K:Res→List Cell→Prop):∀ v:j3 b7f,q7 tb (j8 d6v) [] Tryz.f67 [true] (mkA b7f v) K=b4O v.1 K
 | (b0,())=>by kernel_rfl
set_option maxRecDepth 20000 in
theorem b4N:g8 Tryz.prog 67 b7g:=
 g8.specW (l9 ((l8 o0 j9 d4e (g7.nil) (f:=67) (fn:=Tryz.f67) (by kernel_rfl) (by kernel_rfl) (by kernel_rfl) [true])) fun v K hw h=>(e3p K v).mpr (e3o v.1 K hw h.1 h.2))
end Go.VE
namespace Go.VE
set_option maxRecDepth 20000
open Go Go.Proofs
def d6l:List (Nat×App):=[(224,c8m),(194,c8L),(139,c8q),(225,d6e),(67,b7g)]
theorem d3W:GOk Tryz.prog (j8 d6l):=GOk.cons c8n (GOk.cons c8R (GOk.cons c8u (GOk.cons e1M (GOk.cons b4N (GOk.nil)))))
def c2b (line0:LI) (K:Res→List Cell→Prop):Prop:=
 bif (decide ((List.length line0:Int)=(0:Int))) then
 K (.tup [.v tyA zA,.v yI (0:Int),.v yI (0:Int)]) []
 else
 bif decide (0≤(0:Int)∧(0:Int)<(List.length line0:Int)) then
 ∀ (r1:Bool),r1=a5o (rd (0:Int) line0 (0:Int))→(
 wB r1→(
 bif r1 then
 a8t line0∧(
 ∀ (r2:Int×Int×Bool),r2=a6T line0→(
 wfR (.tup [.v yI r2.1,.v yI r2.2.1,.v .bool r2.2.2])→(
 bif (!r2.2.2) then
 K (.tup [.v tyA zA,.v yI (0:Int),.v yI (230:Int)]) []
 else
 K (.tup [.v tyA ((110:Int),r2.1,(0:Int),([]:LI),(0:Int),true),.v yI r2.2.1,.v yI (0:Int)]) [])))
 else
 bif (decide ((rd (0:Int) line0 (0:Int))=(46:Int))) then
 K (.tup [.v tyA ((rd (0:Int) line0 (0:Int)),(0:Int),(0:Int),([]:LI),(0:Int),true),.v yI (1:Int),.v yI (0:Int)]) []
 else
 bif (decide ((rd (0:Int) line0 (0:Int))=(36:Int))) then
 K (.tup [.v tyA ((rd (0:Int) line0 (0:Int)),(0:Int),(0:Int),([]:LI),(0:Int),true),.v yI (1:Int),.v yI (0:Int)]) []
 else
 bif (decide ((rd (0:Int) line0 (0:Int))=(39:Int))) then
 bif (decide ((List.length line0:Int)=(1:Int))) then
 K (.tup [.v tyA zA,.v yI (0:Int),.v yI (230:Int)]) []
 else
 bif decide (0≤(1:Int)∧(1:Int)<(List.length line0:Int)) then
 K (.tup [.v tyA ((rd (0:Int) line0 (0:Int)),(0:Int),(rd (0:Int) line0 (1:Int)),([]:LI),(0:Int),true),.v yI (2:Int),.v yI (0:Int)]) []
 else False
 else
 bif (decide ((rd (0:Int) line0 (0:Int))=(47:Int))) then
 bif decide (0≤(1:Int)∧(1:Int)≤(List.length line0:Int)) then
 a3Q (List.drop (Int.toNat (1:Int)) line0) (rd (0:Int) line0 (0:Int))∧(
 ∀ (r3:Int),r3=a1I (List.drop (Int.toNat (1:Int)) line0) (rd (0:Int) line0 (0:Int))→(
 wI r3→(
 bif (decide (r3=(IntKind.wrap .i64 ((List.length line0:Int) - (1:Int))))) then
 bif decide (0≤(1:Int)∧(1:Int)≤(List.length line0:Int)) then
 a8v (List.drop (Int.toNat (1:Int)) line0)∧(
 ∀ (r4:Bool),r4=a5q (List.drop (Int.toNat (1:Int)) line0)→(
 wB r4→(
 bif r4 then
 K (.tup [.v tyA zA,.v yI (0:Int),.v yI (230:Int)]) []
 else
 bif decide (0≤(1:Int)∧(1:Int)≤(IntKind.wrap .i64 ((1:Int)+r3))∧(IntKind.wrap .i64 ((1:Int)+r3))≤(List.length line0:Int)) then
 D9 (slc line0 (1:Int) (IntKind.wrap .i64 ((1:Int)+r3)))∧(
 ∀ (r5:LI),r5=F7 (slc line0 (1:Int) (IntKind.wrap .i64 ((1:Int)+r3)))→(
 wfR (.one (.fr 5 yU r5))→(
 K (.tup [.v tyA ((rd (0:Int) line0 (0:Int)),(0:Int),(0:Int),r5,(0:Int),true),.v yI (mn (IntKind.wrap .i64 (r3+(2:Int))) (List.length line0:Int)),.v yI (0:Int)]) [])))
 else False)))
 else False
 else
 bif decide (0≤(1:Int)∧(1:Int)≤(IntKind.wrap .i64 ((1:Int)+r3))∧(IntKind.wrap .i64 ((1:Int)+r3))≤(List.length line0:Int)) then
 D9 (slc line0 (1:Int) (IntKind.wrap .i64 ((1:Int)+r3)))∧(
 ∀ (r6:LI),r6=F7 (slc line0 (1:Int) (IntKind.wrap .i64 ((1:Int)+r3)))→(
 wfR (.one (.fr 5 yU r6))→(
 K (.tup [.v tyA ((rd (0:Int) line0 (0:Int)),(0:Int),(0:Int),r6,(0:Int),true),.v yI (mn (IntKind.wrap .i64 (r3+(2:Int))) (List.length line0:Int)),.v yI (0:Int)]) [])))
 else False)))
 else False
 else
 bif (decide ((rd (0:Int) line0 (0:Int))=(63:Int))) then
 bif decide (0≤(1:Int)∧(1:Int)≤(List.length line0:Int)) then
 a3Q (List.drop (Int.toNat (1:Int)) line0) (rd (0:Int) line0 (0:Int))∧(
 ∀ (r7:Int),r7=a1I (List.drop (Int.toNat (1:Int)) line0) (rd (0:Int) line0 (0:Int))→(
 wI r7→(
 bif (decide (r7=(IntKind.wrap .i64 ((List.length line0:Int) - (1:Int))))) then
 bif decide (0≤(1:Int)∧(1:Int)≤(List.length line0:Int)) then
 a8v (List.drop (Int.toNat (1:Int)) line0)∧(
 ∀ (r8:Bool),r8=a5q (List.drop (Int.toNat (1:Int)) line0)→(
 wB r8→(
 bif r8 then
 K (.tup [.v tyA zA,.v yI (0:Int),.v yI (230:Int)]) []
 else
 bif decide (0≤(1:Int)∧(1:Int)≤(IntKind.wrap .i64 ((1:Int)+r7))∧(IntKind.wrap .i64 ((1:Int)+r7))≤(List.length line0:Int)) then
 D9 (slc line0 (1:Int) (IntKind.wrap .i64 ((1:Int)+r7)))∧(
 ∀ (r9:LI),r9=F7 (slc line0 (1:Int) (IntKind.wrap .i64 ((1:Int)+r7)))→(
 wfR (.one (.fr 5 yU r9))→(
 K (.tup [.v tyA ((rd (0:Int) line0 (0:Int)),(0:Int),(0:Int),r9,(0:Int),true),.v yI (mn (IntKind.wrap .i64 (r7+(2:Int))) (List.length line0:Int)),.v yI (0:Int)]) [])))
 else False)))
 else False
 else
 bif decide (0≤(1:Int)∧(1:Int)≤(IntKind.wrap .i64 ((1:Int)+r7))∧(IntKind.wrap .i64 ((1:Int)+r7))≤(List.length line0:Int)) then
 D9 (slc line0 (1:Int) (IntKind.wrap .i64 ((1:Int)+r7)))∧(
 ∀ (r10:LI),r10=F7 (slc line0 (1:Int) (IntKind.wrap .i64 ((1:Int)+r7)))→(
 wfR (.one (.fr 5 yU r10))→(
 K (.tup [.v tyA ((rd (0:Int) line0 (0:Int)),(0:Int),(0:Int),r10,(0:Int),true),.v yI (mn (IntKind.wrap .i64 (r7+(2:Int))) (List.length line0:Int)),.v yI (0:Int)]) [])))
 else False)))
 else False
 else
 K (.tup [.v tyA zA,.v yI (0:Int),.v yI (0:Int)]) []))
 else False
def b63:List AS:=[.v yB]
def b2D (line0:LI):Prop:=
 bif (decide ((List.length line0:Int)=(0:Int))) then
 True
 else
 (0≤(0:Int)∧(0:Int)<(List.length line0:Int))∧(
 let r1:Bool:=a5o (rd (0:Int) line0 (0:Int))
 bif r1 then
 a8t line0
 else
 bif (decide ((rd (0:Int) line0 (0:Int))=(46:Int))) then
 True
 else
 bif (decide ((rd (0:Int) line0 (0:Int))=(36:Int))) then
 True
 else
 bif (decide ((rd (0:Int) line0 (0:Int))=(39:Int))) then
 bif (decide ((List.length line0:Int)=(1:Int))) then
 True
 else
 (0≤(1:Int)∧(1:Int)<(List.length line0:Int))
 else
 bif (decide ((rd (0:Int) line0 (0:Int))=(47:Int))) then
 (0≤(1:Int)∧(1:Int)≤(List.length line0:Int))∧(
 a3Q (List.drop (Int.toNat (1:Int)) line0) (rd (0:Int) line0 (0:Int))∧(
 let r3:Int:=a1I (List.drop (Int.toNat (1:Int)) line0) (rd (0:Int) line0 (0:Int))
 bif (decide (r3=(IntKind.wrap .i64 ((List.length line0:Int) - (1:Int))))) then
 (0≤(1:Int)∧(1:Int)≤(List.length line0:Int))∧(
 a8v (List.drop (Int.toNat (1:Int)) line0)∧(
 let r4:Bool:=a5q (List.drop (Int.toNat (1:Int)) line0)
 bif r4 then
 True
 else
 (0≤(1:Int)∧(1:Int)≤(IntKind.wrap .i64 ((1:Int)+r3))∧(IntKind.wrap .i64 ((1:Int)+r3))≤(List.length line0:Int))∧(
 D9 (slc line0 (1:Int) (IntKind.wrap .i64 ((1:Int)+r3))))))
 else
 (0≤(1:Int)∧(1:Int)≤(IntKind.wrap .i64 ((1:Int)+r3))∧(IntKind.wrap .i64 ((1:Int)+r3))≤(List.length line0:Int))∧(
 D9 (slc line0 (1:Int) (IntKind.wrap .i64 ((1:Int)+r3))))))
 else
 bif (decide ((rd (0:Int) line0 (0:Int))=(63:Int))) then
 (0≤(1:Int)∧(1:Int)≤(List.length line0:Int))∧(
 a3Q (List.drop (Int.toNat (1:Int)) line0) (rd (0:Int) line0 (0:Int))∧(
 let r7:Int:=a1I (List.drop (Int.toNat (1:Int)) line0) (rd (0:Int) line0 (0:Int))
 bif (decide (r7=(IntKind.wrap .i64 ((List.length line0:Int) - (1:Int))))) then
 (0≤(1:Int)∧(1:Int)≤(List.length line0:Int))∧(
 a8v (List.drop (Int.toNat (1:Int)) line0)∧(
 let r8:Bool:=a5q (List.drop (Int.toNat (1:Int)) line0)
 bif r8 then
 True
 else
 (0≤(1:Int)∧(1:Int)≤(IntKind.wrap .i64 ((1:Int)+r7))∧(IntKind.wrap .i64 ((1:Int)+r7))≤(List.length line0:Int))∧(
 D9 (slc line0 (1:Int) (IntKind.wrap .i64 ((1:Int)+r7))))))
 else
 (0≤(1:Int)∧(1:Int)≤(IntKind.wrap .i64 ((1:Int)+r7))∧(IntKind.wrap .i64 ((1:Int)+r7))≤(List.length line0:Int))∧(
 D9 (slc line0 (1:Int) (IntKind.wrap .i64 ((1:Int)+r7))))))
 else
 True)
def b0Z (line0:LI):tAd×Int×Int:=
 bif (decide ((List.length line0:Int)=(0:Int))) then
 (zA,(0:Int),(0:Int))
 else
 let r1:Bool:=a5o (rd (0:Int) line0 (0:Int))
 bif r1 then
 let r2:Int×Int×Bool:=a6T line0
 bif (!r2.2.2) then
 (zA,(0:Int),(230:Int))
 else
 (((110:Int),r2.1,(0:Int),([]:LI),(0:Int),true),r2.2.1,(0:Int))
 else
 bif (decide ((rd (0:Int) line0 (0:Int))=(46:Int))) then
 (((rd (0:Int) line0 (0:Int)),(0:Int),(0:Int),([]:LI),(0:Int),true),(1:Int),(0:Int))
 else
 bif (decide ((rd (0:Int) line0 (0:Int))=(36:Int))) then
 (((rd (0:Int) line0 (0:Int)),(0:Int),(0:Int),([]:LI),(0:Int),true),(1:Int),(0:Int))
 else
 bif (decide ((rd (0:Int) line0 (0:Int))=(39:Int))) then
 bif (decide ((List.length line0:Int)=(1:Int))) then
 (zA,(0:Int),(230:Int))
 else
 (((rd (0:Int) line0 (0:Int)),(0:Int),(rd (0:Int) line0 (1:Int)),([]:LI),(0:Int),true),(2:Int),(0:Int))
 else
 bif (decide ((rd (0:Int) line0 (0:Int))=(47:Int))) then
 let r3:Int:=a1I (List.drop (Int.toNat (1:Int)) line0) (rd (0:Int) line0 (0:Int))
 bif (decide (r3=(IntKind.wrap .i64 ((List.length line0:Int) - (1:Int))))) then
 let r4:Bool:=a5q (List.drop (Int.toNat (1:Int)) line0)
 bif r4 then
 (zA,(0:Int),(230:Int))
 else
 let r5:LI:=F7 (slc line0 (1:Int) (IntKind.wrap .i64 ((1:Int)+r3)))
 (((rd (0:Int) line0 (0:Int)),(0:Int),(0:Int),r5,(0:Int),true),(mn (IntKind.wrap .i64 (r3+(2:Int))) (List.length line0:Int)),(0:Int))
 else
 let r6:LI:=F7 (slc line0 (1:Int) (IntKind.wrap .i64 ((1:Int)+r3)))
 (((rd (0:Int) line0 (0:Int)),(0:Int),(0:Int),r6,(0:Int),true),(mn (IntKind.wrap .i64 (r3+(2:Int))) (List.length line0:Int)),(0:Int))
 else
 bif (decide ((rd (0:Int) line0 (0:Int))=(63:Int))) then
 let r7:Int:=a1I (List.drop (Int.toNat (1:Int)) line0) (rd (0:Int) line0 (0:Int))
 bif (decide (r7=(IntKind.wrap .i64 ((List.length line0:Int) - (1:Int))))) then
 let r8:Bool:=a5q (List.drop (Int.toNat (1:Int)) line0)
 bif r8 then
 (zA,(0:Int),(230:Int))
 else
 let r9:LI:=F7 (slc line0 (1:Int) (IntKind.wrap .i64 ((1:Int)+r7)))
 (((rd (0:Int) line0 (0:Int)),(0:Int),(0:Int),r9,(0:Int),true),(mn (IntKind.wrap .i64 (r7+(2:Int))) (List.length line0:Int)),(0:Int))
 else
 let r10:LI:=F7 (slc line0 (1:Int) (IntKind.wrap .i64 ((1:Int)+r7)))
 (((rd (0:Int) line0 (0:Int)),(0:Int),(0:Int),r10,(0:Int),true),(mn (IntKind.wrap .i64 (r7+(2:Int))) (List.length line0:Int)),(0:Int))
 else
 (zA,(0:Int),(0:Int))
theorem e2q (line0:LI) (K:Res→List Cell→Prop) (_:wfA b63 (line0,())) (hp:b2D line0) (h:∀ r:tAd×Int×Int,r=b0Z line0→K (.tup [.v tyA r.1,.v yI r.2.1,.v yI r.2.2]) []):c2b line0 K:=
 br1 hp h (fun _ hp h=>h _ rfl)
 fun _ hp h=>as1 hp fun hp=>al (br1 hp h (fun _ hp h=>⟨hp,al (br0 h (fun _ h=>h _ rfl)
 fun _ h=>h _ rfl)⟩)
 fun _ hp h=>br1 hp h (fun _ hp h=>h _ rfl)
 fun _ hp h=>br1 hp h (fun _ hp h=>h _ rfl)
 fun _ hp h=>br1 hp h (fun _ hp h=>br1 hp h (fun _ hp h=>h _ rfl)
 fun _ hp h=>as0 hp (h _ rfl))
 fun _ hp h=>br1 hp h (fun _ hp h=>as1 hp fun hp=>an1 hp fun hp=>al (br1 hp h (fun _ hp h=>as1 hp fun hp=>an1 hp fun hp=>al (br1 hp h (fun _ hp h=>h _ rfl)
 fun _ hp h=>as1 hp fun hp=>⟨hp,al (h _ rfl)⟩))
 fun _ hp h=>as1 hp fun hp=>⟨hp,al (h _ rfl)⟩))
 fun _ hp h=>br1 hp h (fun _ hp h=>as1 hp fun hp=>an1 hp fun hp=>al (br1 hp h (fun _ hp h=>as1 hp fun hp=>an1 hp fun hp=>al (br1 hp h (fun _ hp h=>h _ rfl)
 fun _ hp h=>as1 hp fun hp=>⟨hp,al (h _ rfl)⟩))
 fun _ hp h=>as1 hp fun hp=>⟨hp,al (h _ rfl)⟩))
 fun _ hp h=>h _ rfl)
def e6k (v:j3 b63) (K:Res→List Cell→Prop):Prop:=b2D v.1∧∀ r:tAd×Int×Int,r=b0Z v.1→K (.tup [.v tyA r.1,.v yI r.2.1,.v yI r.2.2]) []
def d6m:App:=specW b63 e6k
theorem e2r (K:Res→List Cell→Prop):∀ v:j3 b63,q7 tb (j8 d6l) [] Tryz.f193 [true,true,true] (mkA b63 v) K=c2b v.1 K
 | (line0,())=>by kernel_rfl
theorem e2p:g8 Tryz.prog 193 d6m:=
 g8.specW (l9 ((l8 o0 j9 d3W (g7.nil) (f:=193) (fn:=Tryz.f193) (by kernel_rfl) (by kernel_rfl) (by kernel_rfl) [true,true,true])) fun v K hw h=>(e2r K v).mpr (e2q v.1 K hw h.1 h.2))
def b6W:List (Nat×App):=[(193,d6m),(194,c8L)]
theorem a85:GOk Tryz.prog (j8 b6W):=GOk.cons e2p (GOk.cons c8R (GOk.nil))
theorem b4p:o8 (g6 Tryz.f135)=true:=by kernel_rfl
def a2l:List LS:=[.v 0 yB,.b 2 16 [],.b 5 40 [],.v 6 yI,.v 8 yI,.v 9 yI,.c 16 tyA,.c 40 tyA]
def a4P:List LS:=[.v 0 yB,.b 2 16 [],.b 5 40 [],.v 6 yI,.c 16 tyA,.c 40 tyA]
def c1X:DX:=⟨some a4P,none,[]⟩
def d3L (k:Ex→St→Prop) (line0:LI) (at6:Int) (x2b:tAd) (a5b:tAd):Prop:=wfD a4P (line0,at6,x2b,a5b,())→k .nrm (mkD 81 a4P (line0,at6,x2b,a5b,()))
def a76 (kn:LI→Int→tAd→tAd→Prop) (line0:LI) (at6:Int) (n8:Int) (k9:Int) (x2b:tAd) (a5b:tAd):Prop:=
 kn line0 (IntKind.wrap .i64 (at6+(IntKind.wrap .i64 ((1:Int)+k9)))) x2b (a5b.1,a5b.2.1,a5b.2.2.1,a5b.2.2.2.1,(IntKind.wrap .i64 (a5b.2.2.2.2.1+n8)),true)
def c9m (k:Ex→St→Prop) (v:l6 a2l):Prop:=a76 (d3L k) v.1 v.2.1 v.2.2.1 v.2.2.2.1 v.2.2.2.2.1 v.2.2.2.2.2.1
theorem e1V (k:Ex→St→Prop):∀ v:l6 a2l,ex tb (j8 b6W) [] (at' (g6 Tryz.f135) [1,1,1,1,0,1,0,0,0,1,1,1]) [1,1,1,1,0,1,0,0,0,1,1,1] (mkD 81 a2l v) (wk 81 c1X k)=c9m k v
 | (line0,at6,n8,k9,x2b,a5b,())=>by kernel_rfl
def c9g:Pce:=fun st k=>ckD 81 a2l st fun v=>wfD a2l v→c9m k v
theorem e1Y:j5 Tryz.prog (at' (g6 Tryz.f135) [1,1,1,1,0,1,0,0,0,1,1,1]) c9g:=
 (j5.wk (N:=81) (ds:=a2l) (dx:=c1X) (l3 o0 j9 a85 (g7.nil) (at' (g6 Tryz.f135) [1,1,1,1,0,1,0,0,0,1,1,1]) [1,1,1,1,0,1,0,0,0,1,1,1] rfl (g9 b4p [1,1,1,1,0,1,0,0,0,1,1,1]))).mono fun st k h=>l4 h fun v hv hw=>Eq.mpr (e1V k v) (hv hw)
def b8Z:q8:=([1,1,1,1,0,1,0,0,0,1,1,1],c9g)::[]
theorem c9j:g7 Tryz.prog (g6 Tryz.f135) b8Z:=g7.cons e1Y (g7.nil)
def U4:List LS:=[.v 0 yB,.b 2 16 [],.b 5 40 [],.v 6 yI,.v 8 yI,.v 9 yI,.c 16 tyA,.c 40 tyA]
def Q2:List LS:=[.v 0 yB,.b 2 16 [],.b 5 40 [],.v 6 yI,.c 16 tyA,.c 40 tyA]
def c1Y:DX:=⟨some Q2,none,[]⟩
def d3M (k:Ex→St→Prop) (line0:LI) (at6:Int) (x2b:tAd) (a5b:tAd):Prop:=wfD Q2 (line0,at6,x2b,a5b,())→k .nrm (mkD 81 Q2 (line0,at6,x2b,a5b,()))
def a06 (kn:LI→Int→tAd→tAd→Prop) (line0:LI) (at6:Int) (n8:Int) (k9:Int) (x2b:tAd) (a5b:tAd):Prop:=
 bif decide (0≤at6∧at6<(List.length line0:Int)) then
 bif (decide ((rd (0:Int) line0 at6)=(45:Int))) then
 (wfD a2l (line0,at6,(IntKind.wrap .i64 (0 - n8)),k9,x2b,a5b,())→a76 (fun (line0:LI) (at6:Int) (x2b:tAd) (a5b:tAd)=>wfD a4P (line0,at6,x2b,a5b,())→(
 kn line0 at6 x2b a5b)) line0 at6 (IntKind.wrap .i64 (0 - n8)) k9 x2b a5b)
 else
 (wfD a2l (line0,at6,n8,k9,x2b,a5b,())→a76 (fun (line0:LI) (at6:Int) (x2b:tAd) (a5b:tAd)=>wfD a4P (line0,at6,x2b,a5b,())→(
 kn line0 at6 x2b a5b)) line0 at6 n8 k9 x2b a5b)
 else False
def c9n (k:Ex→St→Prop) (v:l6 U4):Prop:=a06 (d3M k) v.1 v.2.1 v.2.2.1 v.2.2.2.1 v.2.2.2.2.1 v.2.2.2.2.2.1
theorem e1W (k:Ex→St→Prop):∀ v:l6 U4,ex tb (j8 b6W) b8Z (at' (g6 Tryz.f135) [1,1,1,0,1,0,0,0,1,1,1]) [1,1,1,0,1,0,0,0,1,1,1] (mkD 81 U4 v) (wk 81 c1Y k)=c9n k v
 | (line0,at6,n8,k9,x2b,a5b,())=>by kernel_rfl
def c9h:Pce:=fun st k=>ckD 81 U4 st fun v=>wfD U4 v→c9n k v
theorem e1Z:j5 Tryz.prog (at' (g6 Tryz.f135) [1,1,1,0,1,0,0,0,1,1,1]) c9h:=
 (j5.wk (N:=81) (ds:=U4) (dx:=c1Y) (l3 o0 j9 a85 (c9j) (at' (g6 Tryz.f135) [1,1,1,0,1,0,0,0,1,1,1]) [1,1,1,0,1,0,0,0,1,1,1] rfl (g9 b4p [1,1,1,0,1,0,0,0,1,1,1]))).mono fun st k h=>l4 h fun v hv hw=>Eq.mpr (e1W k v) (hv hw)
def b80:q8:=([1,1,1,0,1,0,0,0,1,1,1],c9h)::b8Z
theorem c9k:g7 Tryz.prog (g6 Tryz.f135) b80:=g7.cons e1Z (c9j)
def U5:List LS:=[.v 0 yB,.b 2 16 [],.b 5 40 [],.v 6 yI,.c 16 tyA,.c 40 tyA]
def a86:List LS:=[.b 2 16 [],.v 3 yI,.v 4 yI,.c 16 tyA]
def a60:List LS:=[.b 2 16 [],.b 5 40 [],.v 6 yI,.c 16 tyA,.c 40 tyA]
def b4o:DX:=⟨none,some a86,[(0,a60)]⟩
def b4q (k:Ex→St→Prop) (x3:Int) (x4:Int) (x2b:tAd):Prop:=wfD a86 (x3,x4,x2b,())→k .ret (mkD 81 a86 (x3,x4,x2b,()))
def b0X (k:Ex→St→Prop) (at6:Int) (x2b:tAd) (a5b:tAd):Prop:=wfD a60 (at6,x2b,a5b,())→k (.exit 0) (mkD 81 a60 (at6,x2b,a5b,()))
def b4n (Y:LI→Int→tAd→tAd→Prop) (kr:Int→Int→tAd→Prop) (kx0:Int→tAd→tAd→Prop) (line0:LI) (at6:Int) (x2b:tAd) (a5b:tAd):Prop:=
 bif (decide (at6<(List.length line0:Int))) then
 bif decide (0≤at6∧at6<(List.length line0:Int)) then
 bif (decide ((rd (0:Int) line0 at6)=(43:Int))) then
 bif decide (0≤(IntKind.wrap .i64 (at6+(1:Int)))∧(IntKind.wrap .i64 (at6+(1:Int)))≤(List.length line0:Int)) then
 a8t (List.drop (Int.toNat (IntKind.wrap .i64 (at6+(1:Int)))) line0)∧(
 ∀ (r2:Int×Int×Bool),r2=a6T (List.drop (Int.toNat (IntKind.wrap .i64 (at6+(1:Int)))) line0)→(
 wfR (.tup [.v yI r2.1,.v yI r2.2.1,.v .bool r2.2.2])→(
 bif (!r2.2.2) then
 kr (0:Int) (230:Int) zA
 else
 bif (decide (r2.2.1=(0:Int))) then
 (wfD U4 (line0,at6,(1:Int),r2.2.1,x2b,a5b,())→a06 (fun (line0:LI) (at6:Int) (x2b:tAd) (a5b:tAd)=>wfD Q2 (line0,at6,x2b,a5b,())→(
 Y line0 at6 x2b a5b)) line0 at6 (1:Int) r2.2.1 x2b a5b)
 else
 (wfD U4 (line0,at6,r2.1,r2.2.1,x2b,a5b,())→a06 (fun (line0:LI) (at6:Int) (x2b:tAd) (a5b:tAd)=>wfD Q2 (line0,at6,x2b,a5b,())→(
 Y line0 at6 x2b a5b)) line0 at6 r2.1 r2.2.1 x2b a5b))))
 else False
 else
 bif decide (0≤at6∧at6<(List.length line0:Int)) then
 bif (decide ((rd (0:Int) line0 at6)=(45:Int))) then
 bif decide (0≤(IntKind.wrap .i64 (at6+(1:Int)))∧(IntKind.wrap .i64 (at6+(1:Int)))≤(List.length line0:Int)) then
 a8t (List.drop (Int.toNat (IntKind.wrap .i64 (at6+(1:Int)))) line0)∧(
 ∀ (r3:Int×Int×Bool),r3=a6T (List.drop (Int.toNat (IntKind.wrap .i64 (at6+(1:Int)))) line0)→(
 wfR (.tup [.v yI r3.1,.v yI r3.2.1,.v .bool r3.2.2])→(
 bif (!r3.2.2) then
 kr (0:Int) (230:Int) zA
 else
 bif (decide (r3.2.1=(0:Int))) then
 (wfD U4 (line0,at6,(1:Int),r3.2.1,x2b,a5b,())→a06 (fun (line0:LI) (at6:Int) (x2b:tAd) (a5b:tAd)=>wfD Q2 (line0,at6,x2b,a5b,())→(
 Y line0 at6 x2b a5b)) line0 at6 (1:Int) r3.2.1 x2b a5b)
 else
 (wfD U4 (line0,at6,r3.1,r3.2.1,x2b,a5b,())→a06 (fun (line0:LI) (at6:Int) (x2b:tAd) (a5b:tAd)=>wfD Q2 (line0,at6,x2b,a5b,())→(
 Y line0 at6 x2b a5b)) line0 at6 r3.1 r3.2.1 x2b a5b))))
 else False
 else
 kx0 at6 x2b a5b
 else False
 else False
 else
 kx0 at6 x2b a5b
def a2k (kr:Int→Int→tAd→Prop) (kx0:Int→tAd→tAd→Prop):Nat→LI→Int→tAd→tAd→Prop
 | 0,_,_,_,_=>False
 | n+1,line0,at6,x2b,a5b=>wfD U5 (line0,at6,x2b,a5b,())→b4n (a2k kr kx0 n) kr kx0 line0 at6 x2b a5b
def c9l:Pce:=ex tb (j8 b6W) b80 (at' (g6 Tryz.f135) [0,0,0,1,1,1]) [0,0,0,1,1,1]
def c9o (k:Ex→St→Prop) (n:Nat) (v:l6 U5):Prop:=a2k (b4q k) (b0X k) n v.1 v.2.1 v.2.2.1 v.2.2.2.1
theorem e1T (k:Ex→St→Prop) (Y:l6 U5→Prop):∀ v:l6 U5,c9l (mkD 81 U5 v) (lpK 81 U5 b4o k Y)=b4n (fun line0 at6 x2b a5b=>Y (line0,at6,x2b,a5b,())) (b4q k) (b0X k) v.1 v.2.1 v.2.2.1 v.2.2.2.1
 | (line0,at6,x2b,a5b,())=>by kernel_rfl
theorem c9q (k:Ex→St→Prop):∀ (n:Nat) (v:l6 U5),lpD 81 U5 b4o c9l k n v=c9o k n v
 | 0,(line0,at6,x2b,a5b,())=>rfl
 | n+1,(line0,at6,x2b,a5b,())=>congrArg (fun Z:Prop=>wfD U5 (line0,at6,x2b,a5b,())→Z) ((e1T k _ (line0,at6,x2b,a5b,())).trans (congrArg (fun Y=>b4n Y (b4q k) (b0X k) line0 at6 x2b a5b) (funext fun line0=>funext fun at6=>funext fun x2b=>funext fun a5b=>c9q k n (line0,at6,x2b,a5b,()))))
def c9i:Pce:=fun st k=>ckD 81 U5 st fun v=>wfD U5 v→∃ n,c9o k n v
theorem e11:j5 Tryz.prog (at' (g6 Tryz.f135) [0,0,1,1,1]) c9i:=
 (j5.loop (l3 o0 j9 a85 (c9k) (at' (g6 Tryz.f135) [0,0,0,1,1,1]) [0,0,0,1,1,1] rfl (g9 b4p [0,0,0,1,1,1])) 81 U5 b4o).mono fun st k h=>l4 h fun v hv hw=>(hv hw).elim fun n hn=>⟨n,Eq.mpr (c9q k n v) hn⟩
def c9d:q8:=([0,0,1,1,1],c9i)::b80
theorem e1R:g7 Tryz.prog (g6 Tryz.f135) c9d:=g7.cons e11 (c9k)
def c1Z (line0:LI) (K:Res→List Cell→Prop):Prop:=
 b2D line0∧(
 ∀ (r1:tAd×Int×Int),r1=b0Z line0→(
 wfR (.tup [.v tyA r1.1,.v yI r1.2.1,.v yI r1.2.2])→(
 bif (!decide (r1.2.2=(0:Int))) then
 K (.tup [.v tyA zA,.v yI (0:Int),.v yI r1.2.2]) []
 else
 (wfD U5 (line0,r1.2.1,zA,r1.1,())→∃ n,a2k (fun (x3:Int) (x4:Int) (x2b:tAd)=>wfD a86 (x3,x4,x2b,())→(
 K (.tup [.v tyA x2b,.v yI x3,.v yI x4]) [])) (fun (at6:Int) (x2b:tAd) (a5b:tAd)=>wfD a60 (at6,x2b,a5b,())→(
 bif (decide (a5b.2.2.2.2.1<(-999999999:Int))) then
 K (.tup [.v tyA zA,.v yI (0:Int),.v yI (230:Int)]) []
 else
 bif (decide ((999999999:Int)<a5b.2.2.2.2.1)) then
 K (.tup [.v tyA zA,.v yI (0:Int),.v yI (230:Int)]) []
 else
 K (.tup [.v tyA a5b,.v yI at6,.v yI (0:Int)]) [])) n line0 r1.2.1 zA r1.1))))
def b6V:List AS:=[.v yB]
theorem c8O (s:LI):a6T s=if dgs s≤9 then (dv s,(dgs s:Int),true) else (0,0,false):=by
 unfold a6T
 unfold a1K
 by_cases h:dgs s≤9 <;> simp [h]
def b6X (s:LI) (at':Int) (_ _:Adr):Prop:=0≤at'∧at'≤s.length∧s.length≤lim
def a3U (s:LI) (at':Int) (x y:Adr):(Int×Int×Adr)⊕(Int×Adr×Adr):=a0U s at' x y
theorem c9p (kr:Int→Int→Adr→Prop) (kx0:Int→Adr→Adr→Prop) (s:LI) (x:Adr) (hs:s.length≤lim) :
  ∀ (n i:Nat) (y:Adr),s.length<n+i→i≤s.length→(a1i n (s.drop i) y.2.2.2.2.1 y.2.2.2.2.2=none→kr 0 230 p9)→
   (∀ m a g,a1i n (s.drop i) y.2.2.2.2.1 y.2.2.2.2.2=some (m,a,g)→kx0 ((i+m:Nat):Int) x (b2Y y a g))→a2k kr kx0 n s (i:Int) x y
 | 0,i,y,hn,hi,hr,hx=>absurd hn (by omega)
 | n+1,i,y,hn,hi,hr,hx=>by
  intro _
  unfold b4n
  have hlim:lim=1099511627776:=rfl
  refine brn (fun hlt=>C1 (by omega) ?_) (fun hge=>by
   rw [List.drop_eq_nil_of_le (by omega)] at hx
   exact hx 0 _ _ rfl)
  have hi':i<s.length:=by omega
  have hw1:IntKind.wrap .i64 ((i:Int)+1)=((i+1:Nat):Int):=by rw [wrap_i64 (by omega) (by omega)]; omega
  rw [D4 hi',hw1,Int.toNat_natCast]
  rw [D3 hi'] at hr hx
  unfold a1i at hr hx
  have hdl:dgs (s.drop (i+1))+(i+1)≤s.length:=by have:=R0 (s.drop (i+1)); rw [List.length_drop] at this; omega
  -- what is added,whichever the sign
  have step:∀ (v:Int),(s[i]=43∨s[i]=45)→dgs (s.drop (i+1))≤9→(if s[i]=45 then -(if dgs (s.drop (i+1))=0 then 1 else dv (s.drop (i+1))) else (if dgs (s.drop (i+1))=0 then 1 else dv (s.drop (i+1))))=(if s[i]=45 then -v else v)→0≤v→v≤1000000000→
    (wfD U4 (s,(i:Int),v,((dgs (s.drop (i+1)):Nat):Int),x,y,())→a06 (fun line0 at6 x2b a5b=>wfD Q2 (line0,at6,x2b,a5b,())→a2k kr kx0 n line0 at6 x2b a5b) s (i:Int) v ((dgs (s.drop (i+1)):Nat):Int) x y):=by
   intro v hs9 h9 hv hv0 hv1 _
   unfold a06
   rw [D4 hi']
   have hw2:∀ v:Int,(wfD a2l (s,(i:Int),v,((dgs (s.drop (i+1)):Nat):Int),x,y,())→(if s[i]=45 then -(if dgs (s.drop (i+1))=0 then 1 else dv (s.drop (i+1))) else (if dgs (s.drop (i+1))=0 then 1 else dv (s.drop (i+1))))=v→
     a76 (fun line0 at6 x2b a5b=>wfD a4P (line0,at6,x2b,a5b,())→wfD Q2 (line0,at6,x2b,a5b,())→a2k kr kx0 n line0 at6 x2b a5b) s (i:Int) v ((dgs (s.drop (i+1)):Nat):Int) x y):=by
    intro v _ hv
    unfold a76
    rw [wrap_i64 (n:=(1:Int)+_) (by omega) (by omega),wrap_i64 (n:=(i:Int)+_) (by omega) (by omega),show (i:Int)+(1+((dgs (s.drop (i+1)):Nat):Int))=((i+1+dgs (s.drop (i+1)):Nat):Int) by omega]
    intro _ _
    rw [if_pos hs9,if_pos h9] at hr hx
    rw [hv,List.drop_drop] at hr hx
    refine c9p kr kx0 s x hs n (i+1+dgs (s.drop (i+1))) _ (by omega) (by omega) (fun h=>hr ?_) (fun m a g h=>?_)
    ·dsimp only at h ⊢
     rw [h]
    ·have:=hx (1+dgs (s.drop (i+1))+m) a g (by dsimp only at h ⊢; rw [h])
     rw [show i+1+dgs (s.drop (i+1))+m=i+(1+dgs (s.drop (i+1))+m) by omega]
     exact this
   refine C1 (by omega) (brn (fun h45=>?_) (fun h45=>?_))
   ·rw [if_pos h45,if_pos h45] at hv
    rw [wrap_i64 (n:=0 - v) (by omega) (by omega),Int.zero_sub]
    rw [if_pos h45] at hw2
    exact fun hwf=>hw2 (-v) hwf hv
   ·rw [if_neg h45,if_neg h45] at hv
    rw [if_neg h45] at hw2
    exact fun hwf=>hw2 v hwf hv
  have sign:(s[i]=43∨s[i]=45)→(bif decide (0≤((i+1:Nat):Int)∧((i+1:Nat):Int)≤(List.length s:Int)) then
    a8t (s.drop (i+1))∧(∀ (r2:Int×Int×Bool),r2=a6T (s.drop (i+1))→(
     wfR (.tup [.v yI r2.1,.v yI r2.2.1,.v .bool r2.2.2])→(
     bif (!r2.2.2) then kr (0:Int) (230:Int) p9
     else bif (decide (r2.2.1=(0:Int))) then
      (wfD U4 (s,(i:Int),(1:Int),r2.2.1,x,y,())→a06 (fun line0 at6 x2b a5b=>wfD Q2 (line0,at6,x2b,a5b,())→a2k kr kx0 n line0 at6 x2b a5b) s (i:Int) (1:Int) r2.2.1 x y)
     else (wfD U4 (s,(i:Int),r2.1,r2.2.1,x,y,())→a06 (fun line0 at6 x2b a5b=>wfD Q2 (line0,at6,x2b,a5b,())→a2k kr kx0 n line0 at6 x2b a5b) s (i:Int) r2.1 r2.2.1 x y))))
    else False):=by
   intro hsg
   refine C1 (by omega) ⟨⟨rfl,rfl,by rw [List.length_drop]; omega⟩,fun r hr2 _=>?_⟩
   rw [c8O] at hr2
   by_cases h9:dgs (s.drop (i+1))≤9
   ·have e:r.2.2=true∧r.2.1=((dgs (s.drop (i+1)):Nat):Int)∧r.1=dv (s.drop (i+1)):=by subst hr2; rw [if_pos h9]; exact ⟨rfl,rfl,rfl⟩
    rw [e.1,e.2.1,e.2.2]
    have hv:=a1j (s.drop (i+1)) (min (dgs (s.drop (i+1))) 9) (by omega)
    have hp9:=d2f (i:=min (dgs (s.drop (i+1))) 9) (by omega)
    refine brn (fun h0=>?_) (fun h0=>?_)
    ·exact step 1 hsg h9 (by rw [if_pos (show dgs (s.drop (i+1))=0 by omega)]) (by omega) (by omega)
    ·exact step (dv (s.drop (i+1))) hsg h9 (by rw [if_neg (show ¬ dgs (s.drop (i+1))=0 by omega)]) hv.1 (by have:=hv.2; unfold dv; omega)
   ·have e:r.2.2=false:=by subst hr2; rw [if_neg h9]
    rw [e]
    exact hr (by rw [if_pos hsg,if_neg h9])
  refine brn (fun h43=>sign (.inl h43)) (fun h43=>C1 (by omega) (brn (fun h45=>sign (.inr h45)) (fun h45=>?_)))
  rw [if_neg (fun h=>h.elim h43 h45)] at hx
  have:=hx 0 _ _ rfl
  exact this
theorem c3B (kr:Int→Int→Adr→Prop) (kx0:Int→Adr→Adr→Prop) (s:LI) (i:Int) (x y:Adr) (hp:b6X s i x y)
  (hr:∀ q:Int×Int×Adr,a3U s i x y=.inl q→kr q.1 q.2.1 q.2.2) (hx:∀ q:Int×Adr×Adr,a3U s i x y=.inr q→kx0 q.1 q.2.1 q.2.2):∃ m,a2k kr kx0 m s i x y:=by
 obtain ⟨h0,h1,hs⟩:=hp
 obtain ⟨j,rfl⟩:=Int.eq_ofNat_of_zero_le h0
 have h1:j≤s.length:=Int.ofNat_le.1 h1
 refine ⟨s.length+1,c9p kr kx0 s x hs _ j y (by omega) h1 (fun h=>?_) (fun m a g h=>?_)⟩
 ·refine hr (0,230,p9) ?_
  unfold a3U a0U
  rw [Int.toNat_natCast,h]
 ·have:=hx (((j+m:Nat):Int),x,b2Y y a g) (by
   unfold a3U a0U
   rw [Int.toNat_natCast,h]
   rfl)
  exact this
def b0V (line0:LI) (at6:Int) (n8:Int) (k9:Int) (x2b:tAd) (a5b:tAd):LI×Int×tAd×tAd:=
 (line0,(IntKind.wrap .i64 (at6+(IntKind.wrap .i64 ((1:Int)+k9)))),x2b,(a5b.1,a5b.2.1,a5b.2.2.1,a5b.2.2.2.1,(IntKind.wrap .i64 (a5b.2.2.2.2.1+n8)),true))
theorem b2z (kn:LI→Int→tAd→tAd→Prop) (line0:LI) (at6:Int) (n8:Int) (k9:Int) (x2b:tAd) (a5b:tAd) (hn:∀ q:LI×Int×tAd×tAd,q=b0V line0 at6 n8 k9 x2b a5b→kn q.1 q.2.1 q.2.2.1 q.2.2.2):a76 kn line0 at6 n8 k9 x2b a5b:=
 have h:=hn; h _ rfl
def c9f (line0:LI) (at6:Int) (n8:Int) (k9:Int) (x2b:tAd) (a5b:tAd):Prop:=
 (0≤at6∧at6<(List.length line0:Int))
def c9e (line0:LI) (at6:Int) (n8:Int) (k9:Int) (x2b:tAd) (a5b:tAd):LI×Int×tAd×tAd:=
 bif (decide ((rd (0:Int) line0 at6)=(45:Int))) then
 let q0n:LI×Int×tAd×tAd:=b0V line0 at6 (IntKind.wrap .i64 (0 - n8)) k9 x2b a5b
 let line0:LI:=q0n.1
 let at6:Int:=q0n.2.1
 let x2b:tAd:=q0n.2.2.1
 let a5b:tAd:=q0n.2.2.2
 (line0,at6,x2b,a5b)
 else
 let q0n:LI×Int×tAd×tAd:=b0V line0 at6 n8 k9 x2b a5b
 let line0:LI:=q0n.1
 let at6:Int:=q0n.2.1
 let x2b:tAd:=q0n.2.2.1
 let a5b:tAd:=q0n.2.2.2
 (line0,at6,x2b,a5b)
theorem e4v (kn:LI→Int→tAd→tAd→Prop) (line0:LI) (at6:Int) (n8:Int) (k9:Int) (x2b:tAd) (a5b:tAd) (hp:c9f line0 at6 n8 k9 x2b a5b) (hn:∀ q:LI×Int×tAd×tAd,q=c9e line0 at6 n8 k9 x2b a5b→kn q.1 q.2.1 q.2.2.1 q.2.2.2):a06 kn line0 at6 n8 k9 x2b a5b:=
 have h:=hn; as0 hp (br0 h (fun _ h=>fun _=>b2z _ _ _ _ _ _ _ (al (h _ rfl)))
 fun _ h=>fun _=>b2z _ _ _ _ _ _ _ (al (h _ rfl)))
def b0W (line0:LI):Prop:=
 b2D line0∧(
 let r1:tAd×Int×Int:=b0Z line0
 bif (!decide (r1.2.2=(0:Int))) then
 True
 else
 b6X line0 r1.2.1 zA r1.1)
def b0U (line0:LI):tAd×Int×Int:=
 let r1:tAd×Int×Int:=b0Z line0
 bif (!decide (r1.2.2=(0:Int))) then
 (zA,(0:Int),r1.2.2)
 else
 Sum.elim (fun q2r=>
 let x3:Int:=q2r.1
 let x4:Int:=q2r.2.1
 let x2b:tAd:=q2r.2.2
 (x2b,x3,x4)) (fun q2x0=>
 let at6:Int:=q2x0.1
 let x2b:tAd:=q2x0.2.1
 let a5b:tAd:=q2x0.2.2
 bif (decide (a5b.2.2.2.2.1<(-999999999:Int))) then
 (zA,(0:Int),(230:Int))
 else
 bif (decide ((999999999:Int)<a5b.2.2.2.2.1)) then
 (zA,(0:Int),(230:Int))
 else
 (a5b,at6,(0:Int))) (a3U line0 r1.2.1 zA r1.1)
theorem e1U (line0:LI) (K:Res→List Cell→Prop) (_:wfA b6V (line0,())) (hp:b0W line0) (h:∀ r:tAd×Int×Int,r=b0U line0→K (.tup [.v tyA r.1,.v yI r.2.1,.v yI r.2.2]) []):c1Z line0 K:=
 an1 hp fun hp=>al (br1 hp h (fun _ hp h=>h _ rfl)
 fun _ hp h=>fun _=>c3B _ _ _ _ _ _ hp
 (fun _ e _=>have h:=sl e h; h _ rfl)
 (fun _ e _=>have h:=sr e h; br0 h (fun _ h=>h _ rfl)
 fun _ h=>br0 h (fun _ h=>h _ rfl)
 fun _ h=>h _ rfl))
def e6g (v:j3 b6V) (K:Res→List Cell→Prop):Prop:=b0W v.1∧∀ r:tAd×Int×Int,r=b0U v.1→K (.tup [.v tyA r.1,.v yI r.2.1,.v yI r.2.2]) []
def d6f:App:=specW b6V e6g
theorem e1X (K:Res→List Cell→Prop):∀ v:j3 b6V,q7 tb (j8 b6W) c9d Tryz.f135 [true,true,true] (mkA b6V v) K=c1Z v.1 K
 | (line0,())=>by kernel_rfl
theorem e1S:g8 Tryz.prog 135 d6f:=
 g8.specW (l9 ((l8 o0 j9 a85 (e1R) (f:=135) (fn:=Tryz.f135) (by kernel_rfl) (by kernel_rfl) b4p [true,true,true])) fun v K hw h=>(e1X K v).mpr (e1U v.1 K hw h.1 h.2))
def c6n:List (Nat×App):=[]
theorem c0V:GOk Tryz.prog (j8 c6n):=GOk.nil
theorem c6s:o8 (g6 Tryz.f76)=true:=by kernel_rfl
def S2:List LS:=[.v 0 yB,.v 5 yI,.v 6 yI]
def a6j:List LS:=[.v 5 yI,.v 6 yI]
def b3u:DX:=⟨none,none,[(0,a6j)]⟩
def b0i (k:Ex→St→Prop) (v5:Int) (n6:Int):Prop:=wfD a6j (v5,n6,())→k (.exit 0) (mkD 42 a6j (v5,n6,()))
def b3t (Y:LI→Int→Int→Prop) (kx0:Int→Int→Prop) (p0:LI) (v5:Int) (n6:Int):Prop:=
 bif (decide (n6<(List.length p0:Int))) then
 bif decide (0≤n6∧n6<(List.length p0:Int)) then
 bif (decide ((48:Int)≤(rd (0:Int) p0 n6))) then
 bif decide (0≤n6∧n6<(List.length p0:Int)) then
 bif (decide ((rd (0:Int) p0 n6)≤(57:Int))) then
 bif (decide (n6<(9:Int))) then
 bif decide (0≤n6∧n6<(List.length p0:Int)) then
 Y p0 (IntKind.wrap .i64 ((IntKind.wrap .i64 (v5 * (10:Int)))+(IntKind.wrap .i64 (IntKind.wrap .u8 ((rd (0:Int) p0 n6) - (48:Int)))))) (IntKind.wrap .i64 (n6+(1:Int)))
 else False
 else
 Y p0 v5 (IntKind.wrap .i64 (n6+(1:Int)))
 else
 kx0 v5 n6
 else False
 else
 kx0 v5 n6
 else False
 else
 kx0 v5 n6
def b0h (kx0:Int→Int→Prop):Nat→LI→Int→Int→Prop
 | 0,_,_,_=>False
 | n+1,p0,v5,n6=>wfD S2 (p0,v5,n6,())→b3t (b0h kx0 n) kx0 p0 v5 n6
def c6p:Pce:=ex tb (j8 c6n) [] (at' (g6 Tryz.f76) [0,0,0,1,1]) [0,0,0,1,1]
def c6r (k:Ex→St→Prop) (n:Nat) (v:l6 S2):Prop:=b0h (b0i k) n v.1 v.2.1 v.2.2.1
theorem d80 (k:Ex→St→Prop) (Y:l6 S2→Prop):∀ v:l6 S2,c6p (mkD 42 S2 v) (lpK 42 S2 b3u k Y)=b3t (fun p0 v5 n6=>Y (p0,v5,n6,())) (b0i k) v.1 v.2.1 v.2.2.1
 | (p0,v5,n6,())=>by kernel_rfl
theorem c6t (k:Ex→St→Prop):∀ (n:Nat) (v:l6 S2),lpD 42 S2 b3u c6p k n v=c6r k n v
 | 0,(p0,v5,n6,())=>rfl
 | n+1,(p0,v5,n6,())=>congrArg (fun Z:Prop=>wfD S2 (p0,v5,n6,())→Z) ((d80 k _ (p0,v5,n6,())).trans (congrArg (fun Y=>b3t Y (b0i k) p0 v5 n6) (funext fun p0=>funext fun v5=>funext fun n6=>c6t k n (p0,v5,n6,()))))
def c6o:Pce:=fun st k=>ckD 42 S2 st fun v=>wfD S2 v→∃ n,c6r k n v
theorem d83:j5 Tryz.prog (at' (g6 Tryz.f76) [0,0,1,1]) c6o:=
 (j5.loop (l3 o0 j9 c0V (g7.nil) (at' (g6 Tryz.f76) [0,0,0,1,1]) [0,0,0,1,1] rfl (g9 c6s [0,0,0,1,1])) 42 S2 b3u).mono fun st k h=>l4 h fun v hv hw=>(hv hw).elim fun n hn=>⟨n,Eq.mpr (c6t k n v) hn⟩
def c6m:q8:=([0,0,1,1],c6o)::[]
theorem d8Y:g7 Tryz.prog (g6 Tryz.f76) c6m:=g7.cons d83 (g7.nil)
def c0W (p0:LI) (K:Res→List Cell→Prop):Prop:=
 (wfD S2 (p0,(0:Int),(0:Int),())→∃ n,b0h (fun (v5:Int) (n6:Int)=>wfD a6j (v5,n6,())→(
 K (.tup [.v yI v5,.v yI n6,.v .bool (decide (n6≤(9:Int)))]) [])) n p0 (0:Int) (0:Int))
def b59:List AS:=[.v yB]
def b6b (s:LI) (n i:Int):Prop:=n=0∧i=0∧s.length≤lim
def b6a (s:LI) (_ _:Int):Int×Int:=(dv s,(dgs s:Int))
theorem b8t (kx0:Int→Int→Prop) (s:LI) (hs:s.length≤lim) (hx:kx0 (dv s) (dgs s)) :
  ∀ (n i:Nat),s.length<n+i→i≤dgs s→b0h kx0 n s (a42 0 (s.take (min i 9))) (i:Int)
 | 0,i,hn,hi=>absurd hn (by have:=R0 s; omega)
 | n+1,i,hn,hi=>by
  intro _
  unfold b3t
  have hlim:lim=1099511627776:=rfl
  have hd:=a5V s i hi
  have hl:=R0 s
  have fin:dgs s=i→kx0 (a42 0 (s.take (min i 9))) (i:Int):=fun e=>by
   unfold dv at hx
   rw [e] at hx
   exact hx
  refine brn (fun hlt=>C1 (by omega) ?_) (fun hge=>fin (by omega))
  have hi':i<s.length:=by omega
  rw [D4 hi']
  rw [D3 hi',a0f] at hd
  have no:¬ (48≤s[i]∧s[i]≤57)→kx0 (a42 0 (s.take (min i 9))) (i:Int):=fun h=>by
   rw [if_neg (by simp [L8,h])] at hd
   exact fin (by omega)
  refine brn (fun b1=>C1 (by omega) (brn (fun b2=>?_) (fun b2=>no (by omega)))) (fun b1=>no (by omega))
  rw [if_pos (by simp [L8,b1,b2])] at hd
  refine brn (fun e9=>C1 (by omega) ?_) (fun e9=>?_)
  ·obtain ⟨v1,v2⟩:=a1j s i hi
   have v3:=d2f (i:=i) (by omega)
   have e10:=b8t kx0 s hs hx n (i+1) (by omega) (by omega)
   rw [show min (i+1) 9=i+1 by omega,List.take_succ_eq_append_getElem hi',a4t] at e10
   rw [show min i 9=i by omega,N1 (by omega) (by omega),wrap_i64 (n:=s[i] - 48) (by omega) (by omega),wrap_i64 (n:=a42 0 (s.take i) * 10) (by omega) (by omega),wrap_i64 (n:=a42 0 (s.take i) * 10+(s[i] - 48)) (by omega) (by omega),wrap_i64 (by omega) (by omega),show (i:Int)+1=((i+1:Nat):Int) by omega]
   exact e10
  ·have e10:=b8t kx0 s hs hx n (i+1) (by omega) (by omega)
   rw [show min (i+1) 9=min i 9 by omega] at e10
   rw [wrap_i64 (by omega) (by omega),show (i:Int)+1=((i+1:Nat):Int) by omega]
   exact e10
theorem c3r (kx0:Int→Int→Prop) (s:LI) (n i:Int) (hp:b6b s n i) (hx:∀ q:Int×Int,q=b6a s n i→kx0 q.1 q.2):∃ m,b0h kx0 m s n i:=by
 obtain ⟨rfl,rfl,hs⟩:=hp
 exact ⟨s.length+1,b8t kx0 s hs (hx _ rfl) _ 0 (by omega) (by omega)⟩
def a8p (p0:LI):Prop:=
 b6b p0 (0:Int) (0:Int)
def a5j (p0:LI):Int×Int×Bool:=
 let q0x0:Int×Int:=b6a p0 (0:Int) (0:Int)
 let v5:Int:=q0x0.1
 let n6:Int:=q0x0.2
 (v5,n6,(decide (n6≤(9:Int))))
theorem d81 (p0:LI) (K:Res→List Cell→Prop) (_:wfA b59 (p0,())) (hp:a8p p0) (h:∀ r:Int×Int×Bool,r=a5j p0→K (.tup [.v yI r.1,.v yI r.2.1,.v .bool r.2.2]) []):c0W p0 K:=
 fun _=>c3r _ _ _ _ hp (al (h _ rfl))
def e5o (v:j3 b59) (K:Res→List Cell→Prop):Prop:=a8p v.1∧∀ r:Int×Int×Bool,r=a5j v.1→K (.tup [.v yI r.1,.v yI r.2.1,.v .bool r.2.2]) []
def d5w:App:=specW b59 e5o
theorem d82 (K:Res→List Cell→Prop):∀ v:j3 b59,q7 tb (j8 c6n) c6m Tryz.f76 [true,true,true] (mkA b59 v) K=c0W v.1 K
 | (p0,())=>by kernel_rfl
theorem d8Z:g8 Tryz.prog 76 d5w:=
 g8.specW (l9 ((l8 o0 j9 c0V (d8Y) (f:=76) (fn:=Tryz.f76) (by kernel_rfl) (by kernel_rfl) c6s [true,true,true])) fun v K hw h=>(d82 K v).mpr (d81 v.1 K hw h.1 h.2))
def c6v:List (Nat×App):=[]
theorem c0X:GOk Tryz.prog (j8 c6v):=GOk.nil
theorem c6z:o8 (g6 Tryz.f77)=true:=by kernel_rfl
def S3:List LS:=[.v 0 yB,.v 1 yU,.v 6 yI]
def a6k:List LS:=[.v 0 yB,.v 6 yI]
def b3w:DX:=⟨none,none,[(0,a6k)]⟩
def b0l (k:Ex→St→Prop) (p0:LI) (n6:Int):Prop:=wfD a6k (p0,n6,())→k (.exit 0) (mkD 50 a6k (p0,n6,()))
def b3v (Y:LI→Int→Int→Prop) (kx0:LI→Int→Prop) (p0:LI) (sign1:Int) (n6:Int):Prop:=
 bif (decide (n6<(List.length p0:Int))) then
 bif decide (0≤n6∧n6<(List.length p0:Int)) then
 bif (!decide ((rd (0:Int) p0 n6)=sign1)) then
 bif decide (0≤n6∧n6<(List.length p0:Int)) then
 bif (decide ((rd (0:Int) p0 n6)=(92:Int))) then
 bif (decide ((IntKind.wrap .i64 (n6+(1:Int)))<(List.length p0:Int))) then
 Y p0 sign1 (IntKind.wrap .i64 ((IntKind.wrap .i64 (n6+(1:Int)))+(1:Int)))
 else
 Y p0 sign1 (IntKind.wrap .i64 (n6+(1:Int)))
 else
 Y p0 sign1 (IntKind.wrap .i64 (n6+(1:Int)))
 else False
 else
 kx0 p0 n6
 else False
 else
 kx0 p0 n6
def b0j (kx0:LI→Int→Prop):Nat→LI→Int→Int→Prop
 | 0,_,_,_=>False
 | n+1,p0,sign1,n6=>wfD S3 (p0,sign1,n6,())→b3v (b0j kx0 n) kx0 p0 sign1 n6
def c6x:Pce:=ex tb (j8 c6v) [] (at' (g6 Tryz.f77) [0,0,0,1,1]) [0,0,0,1,1]
def c6y (k:Ex→St→Prop) (n:Nat) (v:l6 S3):Prop:=b0j (b0l k) n v.1 v.2.1 v.2.2.1
theorem d86 (k:Ex→St→Prop) (Y:l6 S3→Prop):∀ v:l6 S3,c6x (mkD 50 S3 v) (lpK 50 S3 b3w k Y)=b3v (fun p0 sign1 n6=>Y (p0,sign1,n6,())) (b0l k) v.1 v.2.1 v.2.2.1
 | (p0,sign1,n6,())=>by kernel_rfl
theorem c6A (k:Ex→St→Prop):∀ (n:Nat) (v:l6 S3),lpD 50 S3 b3w c6x k n v=c6y k n v
 | 0,(p0,sign1,n6,())=>rfl
 | n+1,(p0,sign1,n6,())=>congrArg (fun Z:Prop=>wfD S3 (p0,sign1,n6,())→Z) ((d86 k _ (p0,sign1,n6,())).trans (congrArg (fun Y=>b3v Y (b0l k) p0 sign1 n6) (funext fun p0=>funext fun sign1=>funext fun n6=>c6A k n (p0,sign1,n6,()))))
def c6w:Pce:=fun st k=>ckD 50 S3 st fun v=>wfD S3 v→∃ n,c6y k n v
theorem d89:j5 Tryz.prog (at' (g6 Tryz.f77) [0,0,1,1]) c6w:=
 (j5.loop (l3 o0 j9 c0X (g7.nil) (at' (g6 Tryz.f77) [0,0,0,1,1]) [0,0,0,1,1] rfl (g9 c6z [0,0,0,1,1])) 50 S3 b3w).mono fun st k h=>l4 h fun v hv hw=>(hv hw).elim fun n hn=>⟨n,Eq.mpr (c6A k n v) hn⟩
def c6u:q8:=([0,0,1,1],c6w)::[]
theorem d84:g7 Tryz.prog (g6 Tryz.f77) c6u:=g7.cons d89 (g7.nil)
def c0Y (p0:LI) (sign1:Int) (K:Res→List Cell→Prop):Prop:=
 (wfD S3 (p0,sign1,(0:Int),())→∃ n,b0j (fun (p0:LI) (n6:Int)=>wfD a6k (p0,n6,())→(
 bif decide (0≤n6∧n6≤(List.length p0:Int)) then
 bif decide (List.length ([]:LI)+List.length (List.take (Int.toNat n6) p0)≤lim) then
 bif (decide (n6<(List.length p0:Int))) then
 K (.tup [.fr 5 yU (([]:LI)++(List.take (Int.toNat n6) p0)),.v yI (IntKind.wrap .i64 (n6+(1:Int)))]) []
 else
 K (.tup [.fr 5 yU (([]:LI)++(List.take (Int.toNat n6) p0)),.v yI n6]) []
 else False
 else False)) n p0 sign1 (0:Int))
def b6c:List AS:=[.v yB,.v yU]
def b6d (s:LI) (_ i:Int):Prop:=i=0∧s.length≤lim
def b0k (s:LI) (c _:Int):LI×Int:=(s,(sou s c:Int))
theorem b3x (kx0:LI→Int→Prop) (s:LI) (c:Int) (hs:s.length≤lim) :
  ∀ (n i:Nat),s.length<n+i→i≤s.length→kx0 s ((i+sou (s.drop i) c:Nat):Int)→b0j kx0 n s c (i:Int)
 | 0,i,hn,hi,hx=>absurd hn (by omega)
 | n+1,i,hn,hi,hx=>by
  intro _
  unfold b3v
  have hlim:lim=1099511627776:=rfl
  refine brn (fun hlt=>C1 (by omega) ?_) (fun hge=>by rw [List.drop_eq_nil_of_le (by omega)] at hx; exact hx)
  have hi':i<s.length:=by omega
  rw [D4 hi',wrap_i64 (n:=(i:Int)+1) (by omega) (by omega),wrap_i64 (by omega) (by omega),show (i:Int)+1+1=((i+2:Nat):Int) by omega,show (i:Int)+1=((i+1:Nat):Int) by omega]
  rw [D3 hi',b1n] at hx
  refine brx (fun hc=>C1 (by omega) (brn (fun h92=>?_) (fun h92=>?_))) (fun hc=>?_)
  ·rw [if_neg hc,if_pos h92] at hx
   refine brn (fun he=>?_) (fun he=>?_)
   ·have h:i+1<s.length:=by omega
    rw [D3 h] at hx
    exact b3x kx0 s c hs n (i+2) (by omega) (by omega) (by rw [show i+2+sou (s.drop (i+2)) c=i+(sou (s.drop (i+1+1)) c+2) by rw [show i+1+1=i+2 from rfl]; omega]; exact hx)
   ·rw [List.drop_eq_nil_of_le (show s.length≤i+1 by omega)] at hx
    exact b3x kx0 s c hs n (i+1) (by omega) (by omega) (by rw [List.drop_eq_nil_of_le (show s.length≤i+1 by omega)]; exact hx)
  ·rw [if_neg hc,if_neg h92] at hx
   exact b3x kx0 s c hs n (i+1) (by omega) (by omega) (by rw [show i+1+sou (s.drop (i+1)) c=i+(sou (s.drop (i+1)) c+1) by omega]; exact hx)
  ·rw [if_pos hc] at hx; exact hx
theorem c3s (kx0:LI→Int→Prop) (s:LI) (c i:Int) (hp:b6d s c i)
  (hx:∀ q:LI×Int,q=b0k s c i→kx0 q.1 q.2):∃ m,b0j kx0 m s c i:=by
 obtain ⟨rfl,hs⟩:=hp
 exact ⟨s.length+1,b3x kx0 s c hs _ 0 (by omega) (by omega) (by simp only [List.drop_zero,Nat.zero_add]; exact hx _ rfl)⟩
def a2G (p0:LI) (sign1:Int):Prop:=
 b6d p0 sign1 (0:Int)∧(
 let q0x0:LI×Int:=b0k p0 sign1 (0:Int)
 let p0:LI:=q0x0.1
 let n6:Int:=q0x0.2
 (0≤n6∧n6≤(List.length p0:Int))∧(
 (List.length ([]:LI)+List.length (List.take (Int.toNat n6) p0)≤lim)))
def F3 (p0:LI) (sign1:Int):LI×Int:=
 let q0x0:LI×Int:=b0k p0 sign1 (0:Int)
 let p0:LI:=q0x0.1
 let n6:Int:=q0x0.2
 bif (decide (n6<(List.length p0:Int))) then
 ((([]:LI)++(List.take (Int.toNat n6) p0)),(IntKind.wrap .i64 (n6+(1:Int))))
 else
 ((([]:LI)++(List.take (Int.toNat n6) p0)),n6)
theorem d87 (p0:LI) (sign1:Int) (K:Res→List Cell→Prop) (_:wfA b6c (p0,sign1,())) (hp:a2G p0 sign1) (h:∀ r:LI×Int,r=F3 p0 sign1→K (.tup [.fr 5 yU r.1,.v yI r.2]) []):c0Y p0 sign1 K:=
 fun _=>c3s _ _ _ _ hp.1 (have hp:=hp.2; al (as1 hp fun hp=>as0 hp (br0 h (fun _ h=>h _ rfl)
 fun _ h=>h _ rfl)))
def e5p (v:j3 b6c) (K:Res→List Cell→Prop):Prop:=a2G v.1 v.2.1∧∀ r:LI×Int,r=F3 v.1 v.2.1→K (.tup [.fr 5 yU r.1,.v yI r.2]) []
def d5x:App:=specW b6c e5p
theorem d88 (K:Res→List Cell→Prop):∀ v:j3 b6c,q7 tb (j8 c6v) c6u Tryz.f77 [true,true] (mkA b6c v) K=c0Y v.1 v.2.1 K
 | (p0,sign1,())=>by kernel_rfl
theorem d85:g8 Tryz.prog 77 d5x:=
 g8.specW (l9 ((l8 o0 j9 c0X (d84) (f:=77) (fn:=Tryz.f77) (by kernel_rfl) (by kernel_rfl) c6z [true,true])) fun v K hw h=>(d88 K v).mpr (d87 v.1 v.2.1 K hw h.1 h.2))
def c6L:List (Nat×App):=[]
theorem c05:GOk Tryz.prog (j8 c6L):=GOk.nil
theorem c6R:o8 (g6 Tryz.f78)=true:=by kernel_rfl
def S5:List LS:=[.v 0 yB,.v 1 yU,.v 5 yI]
def a8W:List LS:=[.v 4 .bool]
def a6o:List LS:=[]
def b3C:DX:=⟨none,some a8W,[(0,a6o)]⟩
def b3D (k:Ex→St→Prop) (x4:Bool):Prop:=wfD a8W (x4,())→k .ret (mkD 39 a8W (x4,()))
def b0r (k:Ex→St→Prop):Prop:=wfD a6o ()→k (.exit 0) (mkD 39 a6o ())
def b3B (Y:LI→Int→Int→Prop) (kr:Bool→Prop) (kx0:Prop) (text0:LI) (sign1:Int) (i5:Int):Prop:=
 bif (decide (i5<(List.length text0:Int))) then
 bif decide (0≤i5∧i5<(List.length text0:Int)) then
 bif (decide ((rd (0:Int) text0 i5)=sign1)) then
 kr false
 else
 bif decide (0≤i5∧i5<(List.length text0:Int)) then
 bif (decide ((rd (0:Int) text0 i5)=(92:Int))) then
 bif (decide ((IntKind.wrap .i64 (i5+(1:Int)))=(List.length text0:Int))) then
 kr false
 else
 bif decide (0≤i5∧i5<(List.length text0:Int)) then
 bif (decide ((rd (0:Int) text0 i5)=(92:Int))) then
 Y text0 sign1 (IntKind.wrap .i64 ((IntKind.wrap .i64 (i5+(1:Int)))+(1:Int)))
 else
 Y text0 sign1 (IntKind.wrap .i64 (i5+(1:Int)))
 else False
 else
 bif decide (0≤i5∧i5<(List.length text0:Int)) then
 bif (decide ((rd (0:Int) text0 i5)=(92:Int))) then
 Y text0 sign1 (IntKind.wrap .i64 ((IntKind.wrap .i64 (i5+(1:Int)))+(1:Int)))
 else
 Y text0 sign1 (IntKind.wrap .i64 (i5+(1:Int)))
 else False
 else False
 else False
 else
 kx0
def b0q (kr:Bool→Prop) (kx0:Prop):Nat→LI→Int→Int→Prop
 | 0,_,_,_=>False
 | n+1,text0,sign1,i5=>wfD S5 (text0,sign1,i5,())→b3B (b0q kr kx0 n) kr kx0 text0 sign1 i5
def c6O:Pce:=ex tb (j8 c6L) [] (at' (g6 Tryz.f78) [0,0,0,1,1]) [0,0,0,1,1]
def c6P (k:Ex→St→Prop) (n:Nat) (v:l6 S5):Prop:=b0q (b3D k) (b0r k) n v.1 v.2.1 v.2.2.1
theorem d9u (k:Ex→St→Prop) (Y:l6 S5→Prop):∀ v:l6 S5,c6O (mkD 39 S5 v) (lpK 39 S5 b3C k Y)=b3B (fun text0 sign1 i5=>Y (text0,sign1,i5,())) (b3D k) (b0r k) v.1 v.2.1 v.2.2.1
 | (text0,sign1,i5,())=>by kernel_rfl
theorem c6S (k:Ex→St→Prop):∀ (n:Nat) (v:l6 S5),lpD 39 S5 b3C c6O k n v=c6P k n v
 | 0,(text0,sign1,i5,())=>rfl
 | n+1,(text0,sign1,i5,())=>congrArg (fun Z:Prop=>wfD S5 (text0,sign1,i5,())→Z) ((d9u k _ (text0,sign1,i5,())).trans (congrArg (fun Y=>b3B Y (b3D k) (b0r k) text0 sign1 i5) (funext fun text0=>funext fun sign1=>funext fun i5=>c6S k n (text0,sign1,i5,()))))
def c6N:Pce:=fun st k=>ckD 39 S5 st fun v=>wfD S5 v→∃ n,c6P k n v
theorem d9x:j5 Tryz.prog (at' (g6 Tryz.f78) [0,0,1,1]) c6N:=
 (j5.loop (l3 o0 j9 c05 (g7.nil) (at' (g6 Tryz.f78) [0,0,0,1,1]) [0,0,0,1,1] rfl (g9 c6R [0,0,0,1,1])) 39 S5 b3C).mono fun st k h=>l4 h fun v hv hw=>(hv hw).elim fun n hn=>⟨n,Eq.mpr (c6S k n v) hn⟩
def c6K:q8:=([0,0,1,1],c6N)::[]
theorem d9t:g7 Tryz.prog (g6 Tryz.f78) c6K:=g7.cons d9x (g7.nil)
def c06 (text0:LI) (sign1:Int) (K:Res→List Cell→Prop):Prop:=
 (wfD S5 (text0,sign1,(0:Int),())→∃ n,b0q (fun (x4:Bool)=>wfD a8W (x4,())→(
 K (.one (.v .bool x4)) [])) (wfD a6o ()→(
 K (.one (.v .bool true)) [])) n text0 sign1 (0:Int))
def b6j:List AS:=[.v yB,.v yU]
def b6k (s:LI) (_ i:Int):Prop:=i=0∧s.length≤lim
def a0q (s:LI) (c _:Int):Bool⊕Unit:=if who s c then .inr () else .inl false
theorem b8x (kr:Bool→Prop) (kx0:Prop) (s:LI) (c:Int) (hs:s.length≤lim) :
  ∀ (n i:Nat),s.length+1<n+i→i≤s.length+1→(who (s.drop i) c=false→kr false)→(who (s.drop i) c=true→kx0)→b0q kr kx0 n s c (i:Int)
 | 0,i,hn,hi,hr,hx=>absurd hn (by omega)
 | n+1,i,hn,hi,hr,hx=>by
  intro _
  unfold b3B
  have hlim:lim=1099511627776:=rfl
  refine brn (fun hlt=>C1 (by omega) ?_) (fun hge=>hx (by rw [List.drop_eq_nil_of_le (by omega)]; rfl))
  have hi':i<s.length:=by omega
  rw [D4 hi',wrap_i64 (n:=(i:Int)+1) (by omega) (by omega),wrap_i64 (by omega) (by omega),show (i:Int)+1+1=((i+2:Nat):Int) by omega,show (i:Int)+1=((i+1:Nat):Int) by omega]
  rw [D3 hi',b1u] at hr hx
  refine brn (fun hc=>?_) (fun hc=>C1 (by omega) (brn (fun h92=>?_) (fun h92=>?_)))
  ·rw [if_pos hc] at hr; exact hr rfl
  ·rw [if_neg hc,if_pos h92] at hr hx
   refine brn (fun he=>?_) (fun he=>C1 (by omega) (brn (fun _=>?_) (fun h=>absurd h92 h)))
   ·rw [List.drop_eq_nil_of_le (show s.length≤i+1 by omega)] at hr
    exact hr rfl
   ·have h:i+1<s.length:=by omega
    rw [D3 h] at hr hx
    exact b8x kr kx0 s c hs n (i+2) (by omega) (by omega) hr hx
  ·rw [if_neg hc,if_neg h92] at hr hx
   exact C1 (by omega) (brn (fun h=>absurd h h92) (fun _=>b8x kr kx0 s c hs n (i+1) (by omega) (by omega) hr hx))
theorem c3u (kr:Bool→Prop) (kx0:Prop) (s:LI) (c i:Int) (hp:b6k s c i)
  (hr:∀ q:Bool,a0q s c i=.inl q→kr q) (hx:∀ q:Unit,a0q s c i=.inr q→kx0):∃ m,b0q kr kx0 m s c i:=by
 obtain ⟨rfl,hs⟩:=hp
 refine ⟨s.length+2,b8x kr kx0 s c hs _ 0 (by omega) (by omega) (fun h=>?_) (fun h=>?_)⟩
 ·rw [List.drop_zero] at h
  exact hr _ (by unfold a0q; rw [if_neg (by rw [h]; simp)])
 ·rw [List.drop_zero] at h
  exact hx () (by unfold a0q; rw [if_pos h])
def a0r (text0:LI) (sign1:Int):Prop:=
 b6k text0 sign1 (0:Int)
def M5 (text0:LI) (sign1:Int):Bool:=
 Sum.elim (fun q0r=>
 let x4:Bool:=q0r
 x4) (fun q0x0=>
 true) (a0q text0 sign1 (0:Int))
theorem d9v (text0:LI) (sign1:Int) (K:Res→List Cell→Prop) (_:wfA b6j (text0,sign1,())) (hp:a0r text0 sign1) (h:∀ r:Bool,r=M5 text0 sign1→K (.one (.v .bool r)) []):c06 text0 sign1 K:=
 fun _=>c3u _ _ _ _ _ hp
 (fun _ e _=>have h:=sl e h; h _ rfl)
 (fun _ e _=>have h:=sr e h; h _ rfl)
def e5B (v:j3 b6j) (K:Res→List Cell→Prop):Prop:=a0r v.1 v.2.1∧∀ r:Bool,r=M5 v.1 v.2.1→K (.one (.v .bool r)) []
def c6M:App:=specW b6j e5B
theorem d9w (K:Res→List Cell→Prop):∀ v:j3 b6j,q7 tb (j8 c6L) c6K Tryz.f78 [true] (mkA b6j v) K=c06 v.1 v.2.1 K
 | (text0,sign1,())=>by kernel_rfl
theorem c6Q:g8 Tryz.prog 78 c6M:=
 g8.specW (l9 ((l8 o0 j9 c05 (d9t) (f:=78) (fn:=Tryz.f78) (by kernel_rfl) (by kernel_rfl) c6R [true])) fun v K hw h=>(d9w K v).mpr (d9v v.1 v.2.1 K hw h.1 h.2))
def b2a:List (Nat×App):=[(76,d5w),(77,d5x),(78,c6M)]
theorem a6p:GOk Tryz.prog (j8 b2a):=GOk.cons d8Z (GOk.cons d85 (GOk.cons c6Q (GOk.nil)))
theorem b0t:o8 (g6 Tryz.f36)=true:=by kernel_rfl
def a2g:List LS:=[.v 0 yB,.b 2 16 [],.b 5 40 [],.v 6 yI,.v 13 yI,.v 14 yI,.c 16 tyA,.c 40 tyA]
def a4K:List LS:=[.v 0 yB,.b 2 16 [],.b 5 40 [],.v 6 yI,.c 16 tyA,.c 40 tyA]
def c07:DX:=⟨some a4K,none,[]⟩
def d28 (k:Ex→St→Prop) (line0:LI) (at6:Int) (x2b:tAd) (a5b:tAd):Prop:=wfD a4K (line0,at6,x2b,a5b,())→k .nrm (mkD 146 a4K (line0,at6,x2b,a5b,()))
def a70 (kn:LI→Int→tAd→tAd→Prop) (line0:LI) (at6:Int) (v13:Int) (n14:Int) (x2b:tAd) (a5b:tAd):Prop:=
 kn line0 (IntKind.wrap .i64 (at6+(IntKind.wrap .i64 ((1:Int)+n14)))) x2b (a5b.1,a5b.2.1,a5b.2.2.1,a5b.2.2.2.1,(IntKind.wrap .i64 (a5b.2.2.2.2.1+v13)),true)
def c67 (k:Ex→St→Prop) (v:l6 a2g):Prop:=a70 (d28 k) v.1 v.2.1 v.2.2.1 v.2.2.2.1 v.2.2.2.2.1 v.2.2.2.2.2.1
theorem d9B (k:Ex→St→Prop):∀ v:l6 a2g,ex tb (j8 b2a) [] (at' (g6 Tryz.f36) [1,1,1,1,0,1,0,0,0,1,1,1,1]) [1,1,1,1,0,1,0,0,0,1,1,1,1] (mkD 146 a2g v) (wk 146 c07 k)=c67 k v
 | (line0,at6,v13,n14,x2b,a5b,())=>by kernel_rfl
def c6X:Pce:=fun st k=>ckD 146 a2g st fun v=>wfD a2g v→c67 k v
theorem d9F:j5 Tryz.prog (at' (g6 Tryz.f36) [1,1,1,1,0,1,0,0,0,1,1,1,1]) c6X:=
 (j5.wk (N:=146) (ds:=a2g) (dx:=c07) (l3 o0 j9 a6p (g7.nil) (at' (g6 Tryz.f36) [1,1,1,1,0,1,0,0,0,1,1,1,1]) [1,1,1,1,0,1,0,0,0,1,1,1,1] rfl (g9 b0t [1,1,1,1,0,1,0,0,0,1,1,1,1]))).mono fun st k h=>l4 h fun v hv hw=>Eq.mpr (d9B k v) (hv hw)
def b8y:q8:=([1,1,1,1,0,1,0,0,0,1,1,1,1],c6X)::[]
theorem c63:g7 Tryz.prog (g6 Tryz.f36) b8y:=g7.cons d9F (g7.nil)
def S6:List LS:=[.v 0 yB,.b 2 16 [],.b 5 40 [],.v 6 yI,.v 13 yI,.v 14 yI,.c 16 tyA,.c 40 tyA]
def P8:List LS:=[.v 0 yB,.b 2 16 [],.b 5 40 [],.v 6 yI,.c 16 tyA,.c 40 tyA]
def c08:DX:=⟨some P8,none,[]⟩
def d29 (k:Ex→St→Prop) (line0:LI) (at6:Int) (x2b:tAd) (a5b:tAd):Prop:=wfD P8 (line0,at6,x2b,a5b,())→k .nrm (mkD 146 P8 (line0,at6,x2b,a5b,()))
def a05 (kn:LI→Int→tAd→tAd→Prop) (line0:LI) (at6:Int) (v13:Int) (n14:Int) (x2b:tAd) (a5b:tAd):Prop:=
 bif decide (0≤at6∧at6<(List.length line0:Int)) then
 bif (decide ((rd (0:Int) line0 at6)=(45:Int))) then
 (wfD a2g (line0,at6,(IntKind.wrap .i64 (0 - v13)),n14,x2b,a5b,())→a70 (fun (line0:LI) (at6:Int) (x2b:tAd) (a5b:tAd)=>wfD a4K (line0,at6,x2b,a5b,())→(
 kn line0 at6 x2b a5b)) line0 at6 (IntKind.wrap .i64 (0 - v13)) n14 x2b a5b)
 else
 (wfD a2g (line0,at6,v13,n14,x2b,a5b,())→a70 (fun (line0:LI) (at6:Int) (x2b:tAd) (a5b:tAd)=>wfD a4K (line0,at6,x2b,a5b,())→(
 kn line0 at6 x2b a5b)) line0 at6 v13 n14 x2b a5b)
 else False
def c68 (k:Ex→St→Prop) (v:l6 S6):Prop:=a05 (d29 k) v.1 v.2.1 v.2.2.1 v.2.2.2.1 v.2.2.2.2.1 v.2.2.2.2.2.1
theorem d9C (k:Ex→St→Prop):∀ v:l6 S6,ex tb (j8 b2a) b8y (at' (g6 Tryz.f36) [1,1,1,0,1,0,0,0,1,1,1,1]) [1,1,1,0,1,0,0,0,1,1,1,1] (mkD 146 S6 v) (wk 146 c08 k)=c68 k v
 | (line0,at6,v13,n14,x2b,a5b,())=>by kernel_rfl
def c6Y:Pce:=fun st k=>ckD 146 S6 st fun v=>wfD S6 v→c68 k v
theorem d9G:j5 Tryz.prog (at' (g6 Tryz.f36) [1,1,1,0,1,0,0,0,1,1,1,1]) c6Y:=
 (j5.wk (N:=146) (ds:=S6) (dx:=c08) (l3 o0 j9 a6p (c63) (at' (g6 Tryz.f36) [1,1,1,0,1,0,0,0,1,1,1,1]) [1,1,1,0,1,0,0,0,1,1,1,1] rfl (g9 b0t [1,1,1,0,1,0,0,0,1,1,1,1]))).mono fun st k h=>l4 h fun v hv hw=>Eq.mpr (d9C k v) (hv hw)
def b8z:q8:=([1,1,1,0,1,0,0,0,1,1,1,1],c6Y)::b8y
theorem c64:g7 Tryz.prog (g6 Tryz.f36) b8z:=g7.cons d9G (c63)
def S7:List LS:=[.v 0 yB,.b 2 16 [],.b 5 40 [],.v 6 yI,.c 16 tyA,.c 40 tyA]
def a8X:List LS:=[.b 2 16 [],.v 3 yI,.v 4 yI,.c 16 tyA]
def a6q:List LS:=[.b 2 16 [],.b 5 40 [],.v 6 yI,.c 16 tyA,.c 40 tyA]
def b3F:DX:=⟨none,some a8X,[(1,a6q)]⟩
def b3G (k:Ex→St→Prop) (x3:Int) (x4:Int) (x2b:tAd):Prop:=wfD a8X (x3,x4,x2b,())→k .ret (mkD 146 a8X (x3,x4,x2b,()))
def b0u (k:Ex→St→Prop) (at6:Int) (x2b:tAd) (a5b:tAd):Prop:=wfD a6q (at6,x2b,a5b,())→k (.exit 1) (mkD 146 a6q (at6,x2b,a5b,()))
def b3E (Y:LI→Int→tAd→tAd→Prop) (kr:Int→Int→tAd→Prop) (kx1:Int→tAd→tAd→Prop) (line0:LI) (at6:Int) (x2b:tAd) (a5b:tAd):Prop:=
 bif (decide (at6<(List.length line0:Int))) then
 bif decide (0≤at6∧at6<(List.length line0:Int)) then
 bif (decide ((rd (0:Int) line0 at6)=(43:Int))) then
 bif decide (0≤(IntKind.wrap .i64 (at6+(1:Int)))∧(IntKind.wrap .i64 (at6+(1:Int)))≤(List.length line0:Int)) then
 a8p (List.drop (Int.toNat (IntKind.wrap .i64 (at6+(1:Int)))) line0)∧(
 ∀ (r2:Int×Int×Bool),r2=a5j (List.drop (Int.toNat (IntKind.wrap .i64 (at6+(1:Int)))) line0)→(
 wfR (.tup [.v yI r2.1,.v yI r2.2.1,.v .bool r2.2.2])→(
 bif (!r2.2.2) then
 kr (0:Int) (230:Int) zA
 else
 bif (decide (r2.2.1=(0:Int))) then
 (wfD S6 (line0,at6,(1:Int),r2.2.1,x2b,a5b,())→a05 (fun (line0:LI) (at6:Int) (x2b:tAd) (a5b:tAd)=>wfD P8 (line0,at6,x2b,a5b,())→(
 Y line0 at6 x2b a5b)) line0 at6 (1:Int) r2.2.1 x2b a5b)
 else
 (wfD S6 (line0,at6,r2.1,r2.2.1,x2b,a5b,())→a05 (fun (line0:LI) (at6:Int) (x2b:tAd) (a5b:tAd)=>wfD P8 (line0,at6,x2b,a5b,())→(
 Y line0 at6 x2b a5b)) line0 at6 r2.1 r2.2.1 x2b a5b))))
 else False
 else
 bif decide (0≤at6∧at6<(List.length line0:Int)) then
 bif (decide ((rd (0:Int) line0 at6)=(45:Int))) then
 bif decide (0≤(IntKind.wrap .i64 (at6+(1:Int)))∧(IntKind.wrap .i64 (at6+(1:Int)))≤(List.length line0:Int)) then
 a8p (List.drop (Int.toNat (IntKind.wrap .i64 (at6+(1:Int)))) line0)∧(
 ∀ (r3:Int×Int×Bool),r3=a5j (List.drop (Int.toNat (IntKind.wrap .i64 (at6+(1:Int)))) line0)→(
 wfR (.tup [.v yI r3.1,.v yI r3.2.1,.v .bool r3.2.2])→(
 bif (!r3.2.2) then
 kr (0:Int) (230:Int) zA
 else
 bif (decide (r3.2.1=(0:Int))) then
 (wfD S6 (line0,at6,(1:Int),r3.2.1,x2b,a5b,())→a05 (fun (line0:LI) (at6:Int) (x2b:tAd) (a5b:tAd)=>wfD P8 (line0,at6,x2b,a5b,())→(
 Y line0 at6 x2b a5b)) line0 at6 (1:Int) r3.2.1 x2b a5b)
 else
 (wfD S6 (line0,at6,r3.1,r3.2.1,x2b,a5b,())→a05 (fun (line0:LI) (at6:Int) (x2b:tAd) (a5b:tAd)=>wfD P8 (line0,at6,x2b,a5b,())→(
 Y line0 at6 x2b a5b)) line0 at6 r3.1 r3.2.1 x2b a5b))))
 else False
 else
 kx1 at6 x2b a5b
 else False
 else False
 else
 kx1 at6 x2b a5b
def a2f (kr:Int→Int→tAd→Prop) (kx1:Int→tAd→tAd→Prop):Nat→LI→Int→tAd→tAd→Prop
 | 0,_,_,_,_=>False
 | n+1,line0,at6,x2b,a5b=>wfD S7 (line0,at6,x2b,a5b,())→b3E (a2f kr kx1 n) kr kx1 line0 at6 x2b a5b
def c66:Pce:=ex tb (j8 b2a) b8z (at' (g6 Tryz.f36) [0,0,0,1,1,1,1]) [0,0,0,1,1,1,1]
def c69 (k:Ex→St→Prop) (n:Nat) (v:l6 S7):Prop:=a2f (b3G k) (b0u k) n v.1 v.2.1 v.2.2.1 v.2.2.2.1
theorem d9z (k:Ex→St→Prop) (Y:l6 S7→Prop):∀ v:l6 S7,c66 (mkD 146 S7 v) (lpK 146 S7 b3F k Y)=b3E (fun line0 at6 x2b a5b=>Y (line0,at6,x2b,a5b,())) (b3G k) (b0u k) v.1 v.2.1 v.2.2.1 v.2.2.2.1
 | (line0,at6,x2b,a5b,())=>by kernel_rfl
theorem c7d (k:Ex→St→Prop):∀ (n:Nat) (v:l6 S7),lpD 146 S7 b3F c66 k n v=c69 k n v
 | 0,(line0,at6,x2b,a5b,())=>rfl
 | n+1,(line0,at6,x2b,a5b,())=>congrArg (fun Z:Prop=>wfD S7 (line0,at6,x2b,a5b,())→Z) ((d9z k _ (line0,at6,x2b,a5b,())).trans (congrArg (fun Y=>b3E Y (b3G k) (b0u k) line0 at6 x2b a5b) (funext fun line0=>funext fun at6=>funext fun x2b=>funext fun a5b=>c7d k n (line0,at6,x2b,a5b,()))))
def c6Z:Pce:=fun st k=>ckD 146 S7 st fun v=>wfD S7 v→∃ n,c69 k n v
theorem d9H:j5 Tryz.prog (at' (g6 Tryz.f36) [0,0,1,1,1,1]) c6Z:=
 (j5.loop (l3 o0 j9 a6p (c64) (at' (g6 Tryz.f36) [0,0,0,1,1,1,1]) [0,0,0,1,1,1,1] rfl (g9 b0t [0,0,0,1,1,1,1])) 146 S7 b3F).mono fun st k h=>l4 h fun v hv hw=>(hv hw).elim fun n hn=>⟨n,Eq.mpr (c7d k n v) hn⟩
def b8A:q8:=([0,0,1,1,1,1],c6Z)::b8z
theorem c65:g7 Tryz.prog (g6 Tryz.f36) b8A:=g7.cons d9H (c64)
def E6:List LS:=[.v 0 yB,.b 2 16 [],.b 5 40 [],.v 6 yI,.c 16 tyA,.c 40 tyA]
def D8:List LS:=[.b 2 16 [],.v 3 yI,.v 4 yI,.c 16 tyA]
def c09:DX:=⟨none,some D8,[]⟩
def d3a (k:Ex→St→Prop) (x3:Int) (x4:Int) (x2b:tAd):Prop:=wfD D8 (x3,x4,x2b,())→k .ret (mkD 146 D8 (x3,x4,x2b,()))
def M1 (kr:Int→Int→tAd→Prop) (line0:LI) (at6:Int) (x2b:tAd) (a5b:tAd):Prop:=
 (wfD S7 (line0,at6,x2b,a5b,())→∃ n,a2f (fun (x3:Int) (x4:Int) (x2b:tAd)=>wfD a8X (x3,x4,x2b,())→(
 kr x3 x4 x2b)) (fun (at6:Int) (x2b:tAd) (a5b:tAd)=>wfD a6q (at6,x2b,a5b,())→(
 bif (decide (a5b.2.2.2.2.1<(-999999999:Int))) then
 kr (0:Int) (230:Int) zA
 else
 bif (decide ((999999999:Int)<a5b.2.2.2.2.1)) then
 kr (0:Int) (230:Int) zA
 else
 kr at6 (0:Int) a5b)) n line0 at6 x2b a5b)
def c7a (k:Ex→St→Prop) (v:l6 E6):Prop:=M1 (d3a k) v.1 v.2.1 v.2.2.1 v.2.2.2.1
theorem d9D (k:Ex→St→Prop):∀ v:l6 E6,ex tb (j8 b2a) b8A (at' (g6 Tryz.f36) [1,1,1,1]) [1,1,1,1] (mkD 146 E6 v) (wk 146 c09 k)=c7a k v
 | (line0,at6,x2b,a5b,())=>by kernel_rfl
def c60:Pce:=fun st k=>ckD 146 E6 st fun v=>wfD E6 v→c7a k v
theorem d9I:j5 Tryz.prog (at' (g6 Tryz.f36) [1,1,1,1]) c60:=
 (j5.wk (N:=146) (ds:=E6) (dx:=c09) (l3 o0 j9 a6p (c65) (at' (g6 Tryz.f36) [1,1,1,1]) [1,1,1,1] rfl (g9 b0t [1,1,1,1]))).mono fun st k h=>l4 h fun v hv hw=>Eq.mpr (d9D k v) (hv hw)
def c6T:q8:=([1,1,1,1],c60)::b8A
theorem d9y:g7 Tryz.prog (g6 Tryz.f36) c6T:=g7.cons d9I (c65)
def c1a (line0:LI) (K:Res→List Cell→Prop):Prop:=
 bif (decide ((0:Int)<(List.length line0:Int))) then
 bif decide (0≤(0:Int)∧(0:Int)<(List.length line0:Int)) then
 bif (decide ((48:Int)≤(rd (0:Int) line0 (0:Int)))) then
 bif (decide ((rd (0:Int) line0 (0:Int))≤(57:Int))) then
 a8p line0∧(
 ∀ (r1:Int×Int×Bool),r1=a5j line0→(
 wfR (.tup [.v yI r1.1,.v yI r1.2.1,.v .bool r1.2.2])→(
 bif (!r1.2.2) then
 K (.tup [.v tyA zA,.v yI (0:Int),.v yI (230:Int)]) []
 else
 (wfD E6 (line0,r1.2.1,zA,((110:Int),r1.1,(0:Int),([]:LI),(0:Int),true),())→M1 (fun (x3:Int) (x4:Int) (x2b:tAd)=>wfD D8 (x3,x4,x2b,())→(
 K (.tup [.v tyA x2b,.v yI x3,.v yI x4]) [])) line0 r1.2.1 zA ((110:Int),r1.1,(0:Int),([]:LI),(0:Int),true)))))
 else
 bif (decide ((rd (0:Int) line0 (0:Int))=(46:Int))) then
 (wfD E6 (line0,(1:Int),zA,((rd (0:Int) line0 (0:Int)),(0:Int),(0:Int),([]:LI),(0:Int),true),())→M1 (fun (x3:Int) (x4:Int) (x2b:tAd)=>wfD D8 (x3,x4,x2b,())→(
 K (.tup [.v tyA x2b,.v yI x3,.v yI x4]) [])) line0 (1:Int) zA ((rd (0:Int) line0 (0:Int)),(0:Int),(0:Int),([]:LI),(0:Int),true))
 else
 bif (decide ((rd (0:Int) line0 (0:Int))=(36:Int))) then
 (wfD E6 (line0,(1:Int),zA,((rd (0:Int) line0 (0:Int)),(0:Int),(0:Int),([]:LI),(0:Int),true),())→M1 (fun (x3:Int) (x4:Int) (x2b:tAd)=>wfD D8 (x3,x4,x2b,())→(
 K (.tup [.v tyA x2b,.v yI x3,.v yI x4]) [])) line0 (1:Int) zA ((rd (0:Int) line0 (0:Int)),(0:Int),(0:Int),([]:LI),(0:Int),true))
 else
 bif (decide ((rd (0:Int) line0 (0:Int))=(39:Int))) then
 bif (decide ((List.length line0:Int)=(1:Int))) then
 K (.tup [.v tyA zA,.v yI (0:Int),.v yI (230:Int)]) []
 else
 bif decide (0≤(1:Int)∧(1:Int)<(List.length line0:Int)) then
 (wfD E6 (line0,(2:Int),zA,((rd (0:Int) line0 (0:Int)),(0:Int),(rd (0:Int) line0 (1:Int)),([]:LI),(0:Int),true),())→M1 (fun (x3:Int) (x4:Int) (x2b:tAd)=>wfD D8 (x3,x4,x2b,())→(
 K (.tup [.v tyA x2b,.v yI x3,.v yI x4]) [])) line0 (2:Int) zA ((rd (0:Int) line0 (0:Int)),(0:Int),(rd (0:Int) line0 (1:Int)),([]:LI),(0:Int),true))
 else False
 else
 bif (decide ((rd (0:Int) line0 (0:Int))=(47:Int))) then
 bif decide (0≤(1:Int)∧(1:Int)≤(List.length line0:Int)) then
 a2G (List.drop (Int.toNat (1:Int)) line0) (rd (0:Int) line0 (0:Int))∧(
 ∀ (r4:LI×Int),r4=F3 (List.drop (Int.toNat (1:Int)) line0) (rd (0:Int) line0 (0:Int))→(
 wfR (.tup [.fr 5 yU r4.1,.v yI r4.2])→(
 a0r r4.1 (rd (0:Int) line0 (0:Int))∧(
 ∀ (r5:Bool),r5=M5 r4.1 (rd (0:Int) line0 (0:Int))→(
 wB r5→(
 bif (!r5) then
 K (.tup [.v tyA zA,.v yI (0:Int),.v yI (230:Int)]) []
 else
 (wfD E6 (line0,(IntKind.wrap .i64 ((1:Int)+r4.2)),zA,((rd (0:Int) line0 (0:Int)),(0:Int),(0:Int),r4.1,(0:Int),true),())→M1 (fun (x3:Int) (x4:Int) (x2b:tAd)=>wfD D8 (x3,x4,x2b,())→(
 K (.tup [.v tyA x2b,.v yI x3,.v yI x4]) [])) line0 (IntKind.wrap .i64 ((1:Int)+r4.2)) zA ((rd (0:Int) line0 (0:Int)),(0:Int),(0:Int),r4.1,(0:Int),true))))))))
 else False
 else
 bif (decide ((rd (0:Int) line0 (0:Int))=(63:Int))) then
 bif decide (0≤(1:Int)∧(1:Int)≤(List.length line0:Int)) then
 a2G (List.drop (Int.toNat (1:Int)) line0) (rd (0:Int) line0 (0:Int))∧(
 ∀ (r6:LI×Int),r6=F3 (List.drop (Int.toNat (1:Int)) line0) (rd (0:Int) line0 (0:Int))→(
 wfR (.tup [.fr 5 yU r6.1,.v yI r6.2])→(
 a0r r6.1 (rd (0:Int) line0 (0:Int))∧(
 ∀ (r7:Bool),r7=M5 r6.1 (rd (0:Int) line0 (0:Int))→(
 wB r7→(
 bif (!r7) then
 K (.tup [.v tyA zA,.v yI (0:Int),.v yI (230:Int)]) []
 else
 (wfD E6 (line0,(IntKind.wrap .i64 ((1:Int)+r6.2)),zA,((rd (0:Int) line0 (0:Int)),(0:Int),(0:Int),r6.1,(0:Int),true),())→M1 (fun (x3:Int) (x4:Int) (x2b:tAd)=>wfD D8 (x3,x4,x2b,())→(
 K (.tup [.v tyA x2b,.v yI x3,.v yI x4]) [])) line0 (IntKind.wrap .i64 ((1:Int)+r6.2)) zA ((rd (0:Int) line0 (0:Int)),(0:Int),(0:Int),r6.1,(0:Int),true))))))))
 else False
 else
 (wfD E6 (line0,(0:Int),zA,zA,())→M1 (fun (x3:Int) (x4:Int) (x2b:tAd)=>wfD D8 (x3,x4,x2b,())→(
 K (.tup [.v tyA x2b,.v yI x3,.v yI x4]) [])) line0 (0:Int) zA zA)
 else
 bif (decide ((rd (0:Int) line0 (0:Int))=(46:Int))) then
 (wfD E6 (line0,(1:Int),zA,((rd (0:Int) line0 (0:Int)),(0:Int),(0:Int),([]:LI),(0:Int),true),())→M1 (fun (x3:Int) (x4:Int) (x2b:tAd)=>wfD D8 (x3,x4,x2b,())→(
 K (.tup [.v tyA x2b,.v yI x3,.v yI x4]) [])) line0 (1:Int) zA ((rd (0:Int) line0 (0:Int)),(0:Int),(0:Int),([]:LI),(0:Int),true))
 else
 bif (decide ((rd (0:Int) line0 (0:Int))=(36:Int))) then
 (wfD E6 (line0,(1:Int),zA,((rd (0:Int) line0 (0:Int)),(0:Int),(0:Int),([]:LI),(0:Int),true),())→M1 (fun (x3:Int) (x4:Int) (x2b:tAd)=>wfD D8 (x3,x4,x2b,())→(
 K (.tup [.v tyA x2b,.v yI x3,.v yI x4]) [])) line0 (1:Int) zA ((rd (0:Int) line0 (0:Int)),(0:Int),(0:Int),([]:LI),(0:Int),true))
 else
 bif (decide ((rd (0:Int) line0 (0:Int))=(39:Int))) then
 bif (decide ((List.length line0:Int)=(1:Int))) then
 K (.tup [.v tyA zA,.v yI (0:Int),.v yI (230:Int)]) []
 else
 bif decide (0≤(1:Int)∧(1:Int)<(List.length line0:Int)) then
 (wfD E6 (line0,(2:Int),zA,((rd (0:Int) line0 (0:Int)),(0:Int),(rd (0:Int) line0 (1:Int)),([]:LI),(0:Int),true),())→M1 (fun (x3:Int) (x4:Int) (x2b:tAd)=>wfD D8 (x3,x4,x2b,())→(
 K (.tup [.v tyA x2b,.v yI x3,.v yI x4]) [])) line0 (2:Int) zA ((rd (0:Int) line0 (0:Int)),(0:Int),(rd (0:Int) line0 (1:Int)),([]:LI),(0:Int),true))
 else False
 else
 bif (decide ((rd (0:Int) line0 (0:Int))=(47:Int))) then
 bif decide (0≤(1:Int)∧(1:Int)≤(List.length line0:Int)) then
 a2G (List.drop (Int.toNat (1:Int)) line0) (rd (0:Int) line0 (0:Int))∧(
 ∀ (r8:LI×Int),r8=F3 (List.drop (Int.toNat (1:Int)) line0) (rd (0:Int) line0 (0:Int))→(
 wfR (.tup [.fr 5 yU r8.1,.v yI r8.2])→(
 a0r r8.1 (rd (0:Int) line0 (0:Int))∧(
 ∀ (r9:Bool),r9=M5 r8.1 (rd (0:Int) line0 (0:Int))→(
 wB r9→(
 bif (!r9) then
 K (.tup [.v tyA zA,.v yI (0:Int),.v yI (230:Int)]) []
 else
 (wfD E6 (line0,(IntKind.wrap .i64 ((1:Int)+r8.2)),zA,((rd (0:Int) line0 (0:Int)),(0:Int),(0:Int),r8.1,(0:Int),true),())→M1 (fun (x3:Int) (x4:Int) (x2b:tAd)=>wfD D8 (x3,x4,x2b,())→(
 K (.tup [.v tyA x2b,.v yI x3,.v yI x4]) [])) line0 (IntKind.wrap .i64 ((1:Int)+r8.2)) zA ((rd (0:Int) line0 (0:Int)),(0:Int),(0:Int),r8.1,(0:Int),true))))))))
 else False
 else
 bif (decide ((rd (0:Int) line0 (0:Int))=(63:Int))) then
 bif decide (0≤(1:Int)∧(1:Int)≤(List.length line0:Int)) then
 a2G (List.drop (Int.toNat (1:Int)) line0) (rd (0:Int) line0 (0:Int))∧(
 ∀ (r10:LI×Int),r10=F3 (List.drop (Int.toNat (1:Int)) line0) (rd (0:Int) line0 (0:Int))→(
 wfR (.tup [.fr 5 yU r10.1,.v yI r10.2])→(
 a0r r10.1 (rd (0:Int) line0 (0:Int))∧(
 ∀ (r11:Bool),r11=M5 r10.1 (rd (0:Int) line0 (0:Int))→(
 wB r11→(
 bif (!r11) then
 K (.tup [.v tyA zA,.v yI (0:Int),.v yI (230:Int)]) []
 else
 (wfD E6 (line0,(IntKind.wrap .i64 ((1:Int)+r10.2)),zA,((rd (0:Int) line0 (0:Int)),(0:Int),(0:Int),r10.1,(0:Int),true),())→M1 (fun (x3:Int) (x4:Int) (x2b:tAd)=>wfD D8 (x3,x4,x2b,())→(
 K (.tup [.v tyA x2b,.v yI x3,.v yI x4]) [])) line0 (IntKind.wrap .i64 ((1:Int)+r10.2)) zA ((rd (0:Int) line0 (0:Int)),(0:Int),(0:Int),r10.1,(0:Int),true))))))))
 else False
 else
 (wfD E6 (line0,(0:Int),zA,zA,())→M1 (fun (x3:Int) (x4:Int) (x2b:tAd)=>wfD D8 (x3,x4,x2b,())→(
 K (.tup [.v tyA x2b,.v yI x3,.v yI x4]) [])) line0 (0:Int) zA zA)
 else False
 else
 (wfD E6 (line0,(0:Int),zA,zA,())→M1 (fun (x3:Int) (x4:Int) (x2b:tAd)=>wfD D8 (x3,x4,x2b,())→(
 K (.tup [.v tyA x2b,.v yI x3,.v yI x4]) [])) line0 (0:Int) zA zA)
def b6l:List AS:=[.v yB]
theorem c6q (s:LI):a5j s=(dv s,(dgs s:Int),decide (dgs s≤9)):=by
 unfold a5j
 show (dv s,(dgs s:Int),decide ((dgs s:Int)≤9))=_
 rw [decide_eq_decide.2 (show (dgs s:Int)≤9↔dgs s≤9 by omega)]
def b6m (s:LI) (at':Int) (_ _:Adr):Prop:=0≤at'∧at'≤s.length∧s.length≤lim
def a1B (s:LI) (at':Int) (x y:Adr):(Int×Int×Adr)⊕(Int×Adr×Adr):=a0U s at' x y
theorem c7b (kr:Int→Int→Adr→Prop) (kx1:Int→Adr→Adr→Prop) (s:LI) (x:Adr) (hs:s.length≤lim) :
  ∀ (n i:Nat) (y:Adr),s.length<n+i→i≤s.length→(a1i n (s.drop i) y.2.2.2.2.1 y.2.2.2.2.2=none→kr 0 230 p9)→
   (∀ m a g,a1i n (s.drop i) y.2.2.2.2.1 y.2.2.2.2.2=some (m,a,g)→kx1 ((i+m:Nat):Int) x (b2Y y a g))→a2f kr kx1 n s (i:Int) x y
 | 0,i,y,hn,hi,hr,hx=>absurd hn (by omega)
 | n+1,i,y,hn,hi,hr,hx=>by
  intro _
  unfold b3E
  have hlim:lim=1099511627776:=rfl
  refine brn (fun hlt=>C1 (by omega) ?_) (fun hge=>by
   rw [List.drop_eq_nil_of_le (by omega)] at hx
   exact hx 0 _ _ rfl)
  have hi':i<s.length:=by omega
  have hw1:IntKind.wrap .i64 ((i:Int)+1)=((i+1:Nat):Int):=by rw [wrap_i64 (by omega) (by omega)]; omega
  rw [D4 hi',hw1,Int.toNat_natCast]
  rw [D3 hi'] at hr hx
  unfold a1i at hr hx
  have hdl:dgs (s.drop (i+1))+(i+1)≤s.length:=by have:=R0 (s.drop (i+1)); rw [List.length_drop] at this; omega
  -- what is added,whichever the sign
  have step:∀ (v:Int),(s[i]=43∨s[i]=45)→dgs (s.drop (i+1))≤9→(if s[i]=45 then -(if dgs (s.drop (i+1))=0 then 1 else dv (s.drop (i+1))) else (if dgs (s.drop (i+1))=0 then 1 else dv (s.drop (i+1))))=(if s[i]=45 then -v else v)→0≤v→v≤1000000000→
    (wfD S6 (s,(i:Int),v,((dgs (s.drop (i+1)):Nat):Int),x,y,())→a05 (fun line0 at6 x2b a5b=>wfD P8 (line0,at6,x2b,a5b,())→a2f kr kx1 n line0 at6 x2b a5b) s (i:Int) v ((dgs (s.drop (i+1)):Nat):Int) x y):=by
   intro v hs9 h9 hv hv0 hv1 _
   unfold a05
   rw [D4 hi']
   have hw2:∀ v:Int,(wfD a2g (s,(i:Int),v,((dgs (s.drop (i+1)):Nat):Int),x,y,())→(if s[i]=45 then -(if dgs (s.drop (i+1))=0 then 1 else dv (s.drop (i+1))) else (if dgs (s.drop (i+1))=0 then 1 else dv (s.drop (i+1))))=v→
     a70 (fun line0 at6 x2b a5b=>wfD a4K (line0,at6,x2b,a5b,())→wfD P8 (line0,at6,x2b,a5b,())→a2f kr kx1 n line0 at6 x2b a5b) s (i:Int) v ((dgs (s.drop (i+1)):Nat):Int) x y):=by
    intro v _ hv
    unfold a70
    rw [wrap_i64 (n:=(1:Int)+_) (by omega) (by omega),wrap_i64 (n:=(i:Int)+_) (by omega) (by omega),show (i:Int)+(1+((dgs (s.drop (i+1)):Nat):Int))=((i+1+dgs (s.drop (i+1)):Nat):Int) by omega]
    intro _ _
    rw [if_pos hs9,if_pos h9] at hr hx
    rw [hv,List.drop_drop] at hr hx
    refine c7b kr kx1 s x hs n (i+1+dgs (s.drop (i+1))) _ (by omega) (by omega) (fun h=>hr ?_) (fun m a g h=>?_)
    ·dsimp only at h ⊢
     rw [h]
    ·have:=hx (1+dgs (s.drop (i+1))+m) a g (by dsimp only at h ⊢; rw [h])
     rw [show i+1+dgs (s.drop (i+1))+m=i+(1+dgs (s.drop (i+1))+m) by omega]
     exact this
   refine C1 (by omega) (brn (fun h45=>?_) (fun h45=>?_))
   ·rw [if_pos h45,if_pos h45] at hv
    rw [wrap_i64 (n:=0 - v) (by omega) (by omega),Int.zero_sub]
    rw [if_pos h45] at hw2
    exact fun hwf=>hw2 (-v) hwf hv
   ·rw [if_neg h45,if_neg h45] at hv
    rw [if_neg h45] at hw2
    exact fun hwf=>hw2 v hwf hv
  have sign:(s[i]=43∨s[i]=45)→(bif decide (0≤((i+1:Nat):Int)∧((i+1:Nat):Int)≤(List.length s:Int)) then
    a8p (s.drop (i+1))∧(∀ (r2:Int×Int×Bool),r2=a5j (s.drop (i+1))→(
     wfR (.tup [.v yI r2.1,.v yI r2.2.1,.v .bool r2.2.2])→(
     bif (!r2.2.2) then kr (0:Int) (230:Int) p9
     else bif (decide (r2.2.1=(0:Int))) then
      (wfD S6 (s,(i:Int),(1:Int),r2.2.1,x,y,())→a05 (fun line0 at6 x2b a5b=>wfD P8 (line0,at6,x2b,a5b,())→a2f kr kx1 n line0 at6 x2b a5b) s (i:Int) (1:Int) r2.2.1 x y)
     else (wfD S6 (s,(i:Int),r2.1,r2.2.1,x,y,())→a05 (fun line0 at6 x2b a5b=>wfD P8 (line0,at6,x2b,a5b,())→a2f kr kx1 n line0 at6 x2b a5b) s (i:Int) r2.1 r2.2.1 x y))))
    else False):=by
   intro hsg
   refine C1 (by omega) ⟨⟨rfl,rfl,by rw [List.length_drop]; omega⟩,fun r hr2 _=>?_⟩
   rw [c6q] at hr2
   by_cases h9:dgs (s.drop (i+1))≤9
   ·have e:r.2.2=true∧r.2.1=((dgs (s.drop (i+1)):Nat):Int)∧r.1=dv (s.drop (i+1)):=by subst hr2; exact ⟨by simp [h9],rfl,rfl⟩
    rw [e.1,e.2.1,e.2.2]
    have hv:=a1j (s.drop (i+1)) (min (dgs (s.drop (i+1))) 9) (by omega)
    have hp9:=d2f (i:=min (dgs (s.drop (i+1))) 9) (by omega)
    refine brn (fun h0=>?_) (fun h0=>?_)
    ·exact step 1 hsg h9 (by rw [if_pos (show dgs (s.drop (i+1))=0 by omega)]) (by omega) (by omega)
    ·exact step (dv (s.drop (i+1))) hsg h9 (by rw [if_neg (show ¬ dgs (s.drop (i+1))=0 by omega)]) hv.1 (by have:=hv.2; unfold dv; omega)
   ·have e:r.2.2=false:=by subst hr2; simp [h9]
    rw [e]
    exact hr (by rw [if_pos hsg,if_neg h9])
  refine brn (fun h43=>sign (.inl h43)) (fun h43=>C1 (by omega) (brn (fun h45=>sign (.inr h45)) (fun h45=>?_)))
  rw [if_neg (fun h=>h.elim h43 h45)] at hx
  have:=hx 0 _ _ rfl
  exact this
theorem c3v (kr:Int→Int→Adr→Prop) (kx1:Int→Adr→Adr→Prop) (s:LI) (i:Int) (x y:Adr) (hp:b6m s i x y)
  (hr:∀ q:Int×Int×Adr,a1B s i x y=.inl q→kr q.1 q.2.1 q.2.2) (hx:∀ q:Int×Adr×Adr,a1B s i x y=.inr q→kx1 q.1 q.2.1 q.2.2):∃ m,a2f kr kx1 m s i x y:=by
 obtain ⟨h0,h1,hs⟩:=hp
 obtain ⟨j,rfl⟩:=Int.eq_ofNat_of_zero_le h0
 have h1:j≤s.length:=Int.ofNat_le.1 h1
 refine ⟨s.length+1,c7b kr kx1 s x hs _ j y (by omega) h1 (fun h=>?_) (fun m a g h=>?_)⟩
 ·refine hr (0,230,p9) ?_
  unfold a1B a0U
  rw [Int.toNat_natCast,h]
 ·have:=hx (((j+m:Nat):Int),x,b2Y y a g) (by
   unfold a1B a0U
   rw [Int.toNat_natCast,h]
   rfl)
  exact this
def b0s (line0:LI) (at6:Int) (v13:Int) (n14:Int) (x2b:tAd) (a5b:tAd):LI×Int×tAd×tAd:=
 (line0,(IntKind.wrap .i64 (at6+(IntKind.wrap .i64 ((1:Int)+n14)))),x2b,(a5b.1,a5b.2.1,a5b.2.2.1,a5b.2.2.2.1,(IntKind.wrap .i64 (a5b.2.2.2.2.1+v13)),true))
theorem b2b (kn:LI→Int→tAd→tAd→Prop) (line0:LI) (at6:Int) (v13:Int) (n14:Int) (x2b:tAd) (a5b:tAd) (hn:∀ q:LI×Int×tAd×tAd,q=b0s line0 at6 v13 n14 x2b a5b→kn q.1 q.2.1 q.2.2.1 q.2.2.2):a70 kn line0 at6 v13 n14 x2b a5b:=
 have h:=hn; h _ rfl
def c6V (line0:LI) (at6:Int) (v13:Int) (n14:Int) (x2b:tAd) (a5b:tAd):Prop:=
 (0≤at6∧at6<(List.length line0:Int))
def c6U (line0:LI) (at6:Int) (v13:Int) (n14:Int) (x2b:tAd) (a5b:tAd):LI×Int×tAd×tAd:=
 bif (decide ((rd (0:Int) line0 at6)=(45:Int))) then
 let q0n:LI×Int×tAd×tAd:=b0s line0 at6 (IntKind.wrap .i64 (0 - v13)) n14 x2b a5b
 let line0:LI:=q0n.1
 let at6:Int:=q0n.2.1
 let x2b:tAd:=q0n.2.2.1
 let a5b:tAd:=q0n.2.2.2
 (line0,at6,x2b,a5b)
 else
 let q0n:LI×Int×tAd×tAd:=b0s line0 at6 v13 n14 x2b a5b
 let line0:LI:=q0n.1
 let at6:Int:=q0n.2.1
 let x2b:tAd:=q0n.2.2.1
 let a5b:tAd:=q0n.2.2.2
 (line0,at6,x2b,a5b)
theorem e4u (kn:LI→Int→tAd→tAd→Prop) (line0:LI) (at6:Int) (v13:Int) (n14:Int) (x2b:tAd) (a5b:tAd) (hp:c6V line0 at6 v13 n14 x2b a5b) (hn:∀ q:LI×Int×tAd×tAd,q=c6U line0 at6 v13 n14 x2b a5b→kn q.1 q.2.1 q.2.2.1 q.2.2.2):a05 kn line0 at6 v13 n14 x2b a5b:=
 have h:=hn; as0 hp (br0 h (fun _ h=>fun _=>b2b _ _ _ _ _ _ _ (al (h _ rfl)))
 fun _ h=>fun _=>b2b _ _ _ _ _ _ _ (al (h _ rfl)))
def C5 (line0:LI) (at6:Int) (x2b:tAd) (a5b:tAd):Prop:=
 b6m line0 at6 x2b a5b
def u9 (line0:LI) (at6:Int) (x2b:tAd) (a5b:tAd):Int×Int×tAd:=
 Sum.elim (fun q2r=>
 let x3:Int:=q2r.1
 let x4:Int:=q2r.2.1
 let x2b:tAd:=q2r.2.2
 (x3,x4,x2b)) (fun q2x1=>
 let at6:Int:=q2x1.1
 let x2b:tAd:=q2x1.2.1
 let a5b:tAd:=q2x1.2.2
 bif (decide (a5b.2.2.2.2.1<(-999999999:Int))) then
 ((0:Int),(230:Int),zA)
 else
 bif (decide ((999999999:Int)<a5b.2.2.2.2.1)) then
 ((0:Int),(230:Int),zA)
 else
 (at6,(0:Int),a5b)) (a1B line0 at6 x2b a5b)
theorem C9 (kr:Int→Int→tAd→Prop) (line0:LI) (at6:Int) (x2b:tAd) (a5b:tAd) (hp:C5 line0 at6 x2b a5b) (hr:∀ q:Int×Int×tAd,q=u9 line0 at6 x2b a5b→kr q.1 q.2.1 q.2.2):M1 kr line0 at6 x2b a5b:=
 have h:=hr; fun _=>c3v _ _ _ _ _ _ hp
 (fun _ e _=>have h:=sl e h; h _ rfl)
 (fun _ e _=>have h:=sr e h; br0 h (fun _ h=>h _ rfl)
 fun _ h=>br0 h (fun _ h=>h _ rfl)
 fun _ h=>h _ rfl)
def a0P (line0:LI):Prop:=
 bif (decide ((0:Int)<(List.length line0:Int))) then
 (0≤(0:Int)∧(0:Int)<(List.length line0:Int))∧(
 bif (decide ((48:Int)≤(rd (0:Int) line0 (0:Int)))) then
 bif (decide ((rd (0:Int) line0 (0:Int))≤(57:Int))) then
 a8p line0∧(
 let r1:Int×Int×Bool:=a5j line0
 bif (!r1.2.2) then
 True
 else
 C5 line0 r1.2.1 zA ((110:Int),r1.1,(0:Int),([]:LI),(0:Int),true))
 else
 bif (decide ((rd (0:Int) line0 (0:Int))=(46:Int))) then
 C5 line0 (1:Int) zA ((rd (0:Int) line0 (0:Int)),(0:Int),(0:Int),([]:LI),(0:Int),true)
 else
 bif (decide ((rd (0:Int) line0 (0:Int))=(36:Int))) then
 C5 line0 (1:Int) zA ((rd (0:Int) line0 (0:Int)),(0:Int),(0:Int),([]:LI),(0:Int),true)
 else
 bif (decide ((rd (0:Int) line0 (0:Int))=(39:Int))) then
 bif (decide ((List.length line0:Int)=(1:Int))) then
 True
 else
 (0≤(1:Int)∧(1:Int)<(List.length line0:Int))∧(
 C5 line0 (2:Int) zA ((rd (0:Int) line0 (0:Int)),(0:Int),(rd (0:Int) line0 (1:Int)),([]:LI),(0:Int),true))
 else
 bif (decide ((rd (0:Int) line0 (0:Int))=(47:Int))) then
 (0≤(1:Int)∧(1:Int)≤(List.length line0:Int))∧(
 a2G (List.drop (Int.toNat (1:Int)) line0) (rd (0:Int) line0 (0:Int))∧(
 let r4:LI×Int:=F3 (List.drop (Int.toNat (1:Int)) line0) (rd (0:Int) line0 (0:Int))
 a0r r4.1 (rd (0:Int) line0 (0:Int))∧(
 let r5:Bool:=M5 r4.1 (rd (0:Int) line0 (0:Int))
 bif (!r5) then
 True
 else
 C5 line0 (IntKind.wrap .i64 ((1:Int)+r4.2)) zA ((rd (0:Int) line0 (0:Int)),(0:Int),(0:Int),r4.1,(0:Int),true))))
 else
 bif (decide ((rd (0:Int) line0 (0:Int))=(63:Int))) then
 (0≤(1:Int)∧(1:Int)≤(List.length line0:Int))∧(
 a2G (List.drop (Int.toNat (1:Int)) line0) (rd (0:Int) line0 (0:Int))∧(
 let r6:LI×Int:=F3 (List.drop (Int.toNat (1:Int)) line0) (rd (0:Int) line0 (0:Int))
 a0r r6.1 (rd (0:Int) line0 (0:Int))∧(
 let r7:Bool:=M5 r6.1 (rd (0:Int) line0 (0:Int))
 bif (!r7) then
 True
 else
 C5 line0 (IntKind.wrap .i64 ((1:Int)+r6.2)) zA ((rd (0:Int) line0 (0:Int)),(0:Int),(0:Int),r6.1,(0:Int),true))))
 else
 C5 line0 (0:Int) zA zA
 else
 bif (decide ((rd (0:Int) line0 (0:Int))=(46:Int))) then
 C5 line0 (1:Int) zA ((rd (0:Int) line0 (0:Int)),(0:Int),(0:Int),([]:LI),(0:Int),true)
 else
 bif (decide ((rd (0:Int) line0 (0:Int))=(36:Int))) then
 C5 line0 (1:Int) zA ((rd (0:Int) line0 (0:Int)),(0:Int),(0:Int),([]:LI),(0:Int),true)
 else
 bif (decide ((rd (0:Int) line0 (0:Int))=(39:Int))) then
 bif (decide ((List.length line0:Int)=(1:Int))) then
 True
 else
 (0≤(1:Int)∧(1:Int)<(List.length line0:Int))∧(
 C5 line0 (2:Int) zA ((rd (0:Int) line0 (0:Int)),(0:Int),(rd (0:Int) line0 (1:Int)),([]:LI),(0:Int),true))
 else
 bif (decide ((rd (0:Int) line0 (0:Int))=(47:Int))) then
 (0≤(1:Int)∧(1:Int)≤(List.length line0:Int))∧(
 a2G (List.drop (Int.toNat (1:Int)) line0) (rd (0:Int) line0 (0:Int))∧(
 let r8:LI×Int:=F3 (List.drop (Int.toNat (1:Int)) line0) (rd (0:Int) line0 (0:Int))
 a0r r8.1 (rd (0:Int) line0 (0:Int))∧(
 let r9:Bool:=M5 r8.1 (rd (0:Int) line0 (0:Int))
 bif (!r9) then
 True
 else
 C5 line0 (IntKind.wrap .i64 ((1:Int)+r8.2)) zA ((rd (0:Int) line0 (0:Int)),(0:Int),(0:Int),r8.1,(0:Int),true))))
 else
 bif (decide ((rd (0:Int) line0 (0:Int))=(63:Int))) then
 (0≤(1:Int)∧(1:Int)≤(List.length line0:Int))∧(
 a2G (List.drop (Int.toNat (1:Int)) line0) (rd (0:Int) line0 (0:Int))∧(
 let r10:LI×Int:=F3 (List.drop (Int.toNat (1:Int)) line0) (rd (0:Int) line0 (0:Int))
 a0r r10.1 (rd (0:Int) line0 (0:Int))∧(
 let r11:Bool:=M5 r10.1 (rd (0:Int) line0 (0:Int))
 bif (!r11) then
 True
 else
 C5 line0 (IntKind.wrap .i64 ((1:Int)+r10.2)) zA ((rd (0:Int) line0 (0:Int)),(0:Int),(0:Int),r10.1,(0:Int),true))))
 else
 C5 line0 (0:Int) zA zA)
 else
 C5 line0 (0:Int) zA zA
def Y8 (line0:LI):tAd×Int×Int:=
 bif (decide ((0:Int)<(List.length line0:Int))) then
 bif (decide ((48:Int)≤(rd (0:Int) line0 (0:Int)))) then
 bif (decide ((rd (0:Int) line0 (0:Int))≤(57:Int))) then
 let r1:Int×Int×Bool:=a5j line0
 bif (!r1.2.2) then
 (zA,(0:Int),(230:Int))
 else
 let q3r:Int×Int×tAd:=u9 line0 r1.2.1 zA ((110:Int),r1.1,(0:Int),([]:LI),(0:Int),true)
 let x3:Int:=q3r.1
 let x4:Int:=q3r.2.1
 let x2b:tAd:=q3r.2.2
 (x2b,x3,x4)
 else
 bif (decide ((rd (0:Int) line0 (0:Int))=(46:Int))) then
 let q3r:Int×Int×tAd:=u9 line0 (1:Int) zA ((rd (0:Int) line0 (0:Int)),(0:Int),(0:Int),([]:LI),(0:Int),true)
 let x3:Int:=q3r.1
 let x4:Int:=q3r.2.1
 let x2b:tAd:=q3r.2.2
 (x2b,x3,x4)
 else
 bif (decide ((rd (0:Int) line0 (0:Int))=(36:Int))) then
 let q3r:Int×Int×tAd:=u9 line0 (1:Int) zA ((rd (0:Int) line0 (0:Int)),(0:Int),(0:Int),([]:LI),(0:Int),true)
 let x3:Int:=q3r.1
 let x4:Int:=q3r.2.1
 let x2b:tAd:=q3r.2.2
 (x2b,x3,x4)
 else
 bif (decide ((rd (0:Int) line0 (0:Int))=(39:Int))) then
 bif (decide ((List.length line0:Int)=(1:Int))) then
 (zA,(0:Int),(230:Int))
 else
 let q3r:Int×Int×tAd:=u9 line0 (2:Int) zA ((rd (0:Int) line0 (0:Int)),(0:Int),(rd (0:Int) line0 (1:Int)),([]:LI),(0:Int),true)
 let x3:Int:=q3r.1
 let x4:Int:=q3r.2.1
 let x2b:tAd:=q3r.2.2
 (x2b,x3,x4)
 else
 bif (decide ((rd (0:Int) line0 (0:Int))=(47:Int))) then
 let r4:LI×Int:=F3 (List.drop (Int.toNat (1:Int)) line0) (rd (0:Int) line0 (0:Int))
 let r5:Bool:=M5 r4.1 (rd (0:Int) line0 (0:Int))
 bif (!r5) then
 (zA,(0:Int),(230:Int))
 else
 let q3r:Int×Int×tAd:=u9 line0 (IntKind.wrap .i64 ((1:Int)+r4.2)) zA ((rd (0:Int) line0 (0:Int)),(0:Int),(0:Int),r4.1,(0:Int),true)
 let x3:Int:=q3r.1
 let x4:Int:=q3r.2.1
 let x2b:tAd:=q3r.2.2
 (x2b,x3,x4)
 else
 bif (decide ((rd (0:Int) line0 (0:Int))=(63:Int))) then
 let r6:LI×Int:=F3 (List.drop (Int.toNat (1:Int)) line0) (rd (0:Int) line0 (0:Int))
 let r7:Bool:=M5 r6.1 (rd (0:Int) line0 (0:Int))
 bif (!r7) then
 (zA,(0:Int),(230:Int))
 else
 let q3r:Int×Int×tAd:=u9 line0 (IntKind.wrap .i64 ((1:Int)+r6.2)) zA ((rd (0:Int) line0 (0:Int)),(0:Int),(0:Int),r6.1,(0:Int),true)
 let x3:Int:=q3r.1
 let x4:Int:=q3r.2.1
 let x2b:tAd:=q3r.2.2
 (x2b,x3,x4)
 else
 let q3r:Int×Int×tAd:=u9 line0 (0:Int) zA zA
 let x3:Int:=q3r.1
 let x4:Int:=q3r.2.1
 let x2b:tAd:=q3r.2.2
 (x2b,x3,x4)
 else
 bif (decide ((rd (0:Int) line0 (0:Int))=(46:Int))) then
 let q3r:Int×Int×tAd:=u9 line0 (1:Int) zA ((rd (0:Int) line0 (0:Int)),(0:Int),(0:Int),([]:LI),(0:Int),true)
 let x3:Int:=q3r.1
 let x4:Int:=q3r.2.1
 let x2b:tAd:=q3r.2.2
 (x2b,x3,x4)
 else
 bif (decide ((rd (0:Int) line0 (0:Int))=(36:Int))) then
 let q3r:Int×Int×tAd:=u9 line0 (1:Int) zA ((rd (0:Int) line0 (0:Int)),(0:Int),(0:Int),([]:LI),(0:Int),true)
 let x3:Int:=q3r.1
 let x4:Int:=q3r.2.1
 let x2b:tAd:=q3r.2.2
 (x2b,x3,x4)
 else
 bif (decide ((rd (0:Int) line0 (0:Int))=(39:Int))) then
 bif (decide ((List.length line0:Int)=(1:Int))) then
 (zA,(0:Int),(230:Int))
 else
 let q3r:Int×Int×tAd:=u9 line0 (2:Int) zA ((rd (0:Int) line0 (0:Int)),(0:Int),(rd (0:Int) line0 (1:Int)),([]:LI),(0:Int),true)
 let x3:Int:=q3r.1
 let x4:Int:=q3r.2.1
 let x2b:tAd:=q3r.2.2
 (x2b,x3,x4)
 else
 bif (decide ((rd (0:Int) line0 (0:Int))=(47:Int))) then
 let r8:LI×Int:=F3 (List.drop (Int.toNat (1:Int)) line0) (rd (0:Int) line0 (0:Int))
 let r9:Bool:=M5 r8.1 (rd (0:Int) line0 (0:Int))
 bif (!r9) then
 (zA,(0:Int),(230:Int))
 else
 let q3r:Int×Int×tAd:=u9 line0 (IntKind.wrap .i64 ((1:Int)+r8.2)) zA ((rd (0:Int) line0 (0:Int)),(0:Int),(0:Int),r8.1,(0:Int),true)
 let x3:Int:=q3r.1
 let x4:Int:=q3r.2.1
 let x2b:tAd:=q3r.2.2
 (x2b,x3,x4)
 else
 bif (decide ((rd (0:Int) line0 (0:Int))=(63:Int))) then
 let r10:LI×Int:=F3 (List.drop (Int.toNat (1:Int)) line0) (rd (0:Int) line0 (0:Int))
 let r11:Bool:=M5 r10.1 (rd (0:Int) line0 (0:Int))
 bif (!r11) then
 (zA,(0:Int),(230:Int))
 else
 let q3r:Int×Int×tAd:=u9 line0 (IntKind.wrap .i64 ((1:Int)+r10.2)) zA ((rd (0:Int) line0 (0:Int)),(0:Int),(0:Int),r10.1,(0:Int),true)
 let x3:Int:=q3r.1
 let x4:Int:=q3r.2.1
 let x2b:tAd:=q3r.2.2
 (x2b,x3,x4)
 else
 let q3r:Int×Int×tAd:=u9 line0 (0:Int) zA zA
 let x3:Int:=q3r.1
 let x4:Int:=q3r.2.1
 let x2b:tAd:=q3r.2.2
 (x2b,x3,x4)
 else
 let q3r:Int×Int×tAd:=u9 line0 (0:Int) zA zA
 let x3:Int:=q3r.1
 let x4:Int:=q3r.2.1
 let x2b:tAd:=q3r.2.2
 (x2b,x3,x4)
theorem d9A (line0:LI) (K:Res→List Cell→Prop) (_:wfA b6l (line0,())) (hp:a0P line0) (h:∀ r:tAd×Int×Int,r=Y8 line0→K (.tup [.v tyA r.1,.v yI r.2.1,.v yI r.2.2]) []):c1a line0 K:=
 br1 hp h (fun _ hp h=>as1 hp fun hp=>br1 hp h (fun _ hp h=>br1 hp h (fun _ hp h=>an1 hp fun hp=>al (br1 hp h (fun _ hp h=>h _ rfl)
 fun _ hp h=>fun _=>C9 _ _ _ _ _ hp (al (h _ rfl))))
 fun _ hp h=>br1 hp h (fun _ hp h=>fun _=>C9 _ _ _ _ _ hp (al (h _ rfl)))
 fun _ hp h=>br1 hp h (fun _ hp h=>fun _=>C9 _ _ _ _ _ hp (al (h _ rfl)))
 fun _ hp h=>br1 hp h (fun _ hp h=>br1 hp h (fun _ hp h=>h _ rfl)
 fun _ hp h=>as1 hp fun hp=>fun _=>C9 _ _ _ _ _ hp (al (h _ rfl)))
 fun _ hp h=>br1 hp h (fun _ hp h=>as1 hp fun hp=>an1 hp fun hp=>al (an1 hp fun hp=>al (br1 hp h (fun _ hp h=>h _ rfl)
 fun _ hp h=>fun _=>C9 _ _ _ _ _ hp (al (h _ rfl)))))
 fun _ hp h=>br1 hp h (fun _ hp h=>as1 hp fun hp=>an1 hp fun hp=>al (an1 hp fun hp=>al (br1 hp h (fun _ hp h=>h _ rfl)
 fun _ hp h=>fun _=>C9 _ _ _ _ _ hp (al (h _ rfl)))))
 fun _ hp h=>fun _=>C9 _ _ _ _ _ hp (al (h _ rfl)))
 fun _ hp h=>br1 hp h (fun _ hp h=>fun _=>C9 _ _ _ _ _ hp (al (h _ rfl)))
 fun _ hp h=>br1 hp h (fun _ hp h=>fun _=>C9 _ _ _ _ _ hp (al (h _ rfl)))
 fun _ hp h=>br1 hp h (fun _ hp h=>br1 hp h (fun _ hp h=>h _ rfl)
 fun _ hp h=>as1 hp fun hp=>fun _=>C9 _ _ _ _ _ hp (al (h _ rfl)))
 fun _ hp h=>br1 hp h (fun _ hp h=>as1 hp fun hp=>an1 hp fun hp=>al (an1 hp fun hp=>al (br1 hp h (fun _ hp h=>h _ rfl)
 fun _ hp h=>fun _=>C9 _ _ _ _ _ hp (al (h _ rfl)))))
 fun _ hp h=>br1 hp h (fun _ hp h=>as1 hp fun hp=>an1 hp fun hp=>al (an1 hp fun hp=>al (br1 hp h (fun _ hp h=>h _ rfl)
 fun _ hp h=>fun _=>C9 _ _ _ _ _ hp (al (h _ rfl)))))
 fun _ hp h=>fun _=>C9 _ _ _ _ _ hp (al (h _ rfl)))
 fun _ hp h=>fun _=>C9 _ _ _ _ _ hp (al (h _ rfl))
def e5C (v:j3 b6l) (K:Res→List Cell→Prop):Prop:=a0P v.1∧∀ r:tAd×Int×Int,r=Y8 v.1→K (.tup [.v tyA r.1,.v yI r.2.1,.v yI r.2.2]) []
def c6W:App:=specW b6l e5C
theorem d9E (K:Res→List Cell→Prop):∀ v:j3 b6l,q7 tb (j8 b2a) c6T Tryz.f36 [true,true,true] (mkA b6l v) K=c1a v.1 K
 | (line0,())=>by kernel_rfl
theorem c7c:g8 Tryz.prog 36 c6W:=
 g8.specW (l9 ((l8 o0 j9 a6p (d9y) (f:=36) (fn:=Tryz.f36) (by kernel_rfl) (by kernel_rfl) b0t [true,true,true])) fun v K hw h=>(d9E K v).mpr (d9A v.1 K hw h.1 h.2))
end Go.VE
namespace Go.VE
abbrev Rd (α:Type):=(α×LI)⊕Int
def bsM:LI→Rd Adr
 | []=>.inl (p9,[])
 | c::r=>if L8 c=true then (if dgs (c::r)≤9 then .inl ((110,dv (c::r),0,[],0,true),(c::r).drop (dgs (c::r))) else .inr 230)
  else if c=46∨c=36 then .inl ((c,0,0,[],0,true),r)
  else if c=39 then (match r with | []=>.inr 230 | n::r2=>.inl ((39,0,n,[],0,true),r2))
  else if c=47∨c=63 then (if clo r c=r.length∧alo r=true then .inr 230 else .inl ((c,0,0,r.take (clo r c),0,true),r.drop (clo r c+1)))
  else .inl (p9,c::r)
theorem a5P (c:Int) (r:LI):bsM (c::r)=if L8 c=true then (if dgs (c::r)≤9 then .inl ((110,dv (c::r),0,[],0,true),(c::r).drop (dgs (c::r))) else .inr 230)
  else if c=46∨c=36 then .inl ((c,0,0,[],0,true),r)
  else if c=39 then (match r with | []=>.inr 230 | n::r2=>.inl ((39,0,n,[],0,true),r2))
  else if c=47∨c=63 then (if clo r c=r.length∧alo r=true then .inr 230 else .inl ((c,0,0,r.take (clo r c),0,true),r.drop (clo r c+1)))
  else .inl (p9,c::r):=rfl
def adF (l:LI) (a:Adr):Rd Adr:=match a1i (l.length+1) l a.2.2.2.2.1 a.2.2.2.2.2 with
 | none=>.inr 230
 | some (m,s,g)=>if s < -999999999∨999999999<s then .inr 230 else .inl (b2Y a s g,l.drop m)
def adM (l:LI):Rd Adr:=match bsM l with
 | .inr e=>.inr e
 | .inl (a,r)=>adF r a
def adR (l:LI):Rd Adr→Adr×Int×Int
 | .inl (a,r)=>(a,(l.length:Int) - r.length,0)
 | .inr e=>(p9,0,e)
theorem b9H (l:LI) {a:Adr} {r:LI} (h:bsM l=.inl (a,r)):r <:+ l:=by
 cases l with
 | nil=>cases h; exact List.suffix_refl _
 | cons c t=>
  rw [a5P] at h
  split at h
  ·split at h
   ·cases h; exact List.drop_suffix _ _
   ·cases h
  ·split at h
   ·cases h; exact List.suffix_cons _ _
   ·split at h
    ·cases t with
     | nil=>cases h
     | cons n t=>cases h; exact (List.suffix_cons _ _).trans (List.suffix_cons _ _)
    ·split at h
     ·split at h
      ·cases h
      ·cases h; exact (List.drop_suffix _ _).trans (List.suffix_cons _ _)
     ·cases h; exact List.suffix_refl _
theorem d1P (l:LI) (b:Adr) {a:Adr} {r:LI} (h:adF l b=.inl (a,r)):r <:+ l:=by
 unfold adF at h
 split at h
 ·cases h
 ·split at h
  ·cases h
  ·cases h; exact List.drop_suffix _ _
theorem a0H (l:LI) {a:Adr} {r:LI} (h:adM l=.inl (a,r)):r <:+ l:=by
 unfold adM at h
 split at h
 ·cases h
 ·rename_i b t hb
  exact (d1P _ _ h).trans (b9H _ hb)
theorem b9G (l:LI) {e:Int} (h:bsM l=.inr e):e=230:=by
 cases l with
 | nil=>cases h
 | cons c t=>
  rw [a5P] at h
  repeat' split at h
  all_goals first | (cases h; rfl) | cases h
theorem Z9 (l:LI) {e:Int} (h:adM l=.inr e):e=230:=by
 unfold adM at h
 split at h
 ·rename_i e' hb
  cases h; exact b9G _ hb
 ·unfold adF at h
  repeat' split at h
  all_goals first | (cases h; rfl) | cases h
theorem B1 {r l:LI} (h:r <:+ l):r.length≤l.length:=h.length_le
theorem a5X {r l:LI} (h:r <:+ l):l.drop (l.length - r.length)=r:=by
 obtain ⟨t,rfl⟩:=h
 rw [List.length_append,Nat.add_sub_cancel]
 simp
theorem b7Q {s r:LI} (h:r <:+ s) (x a:Adr):a0U s ((s.length:Int) - r.length) x a=(match a1i (r.length+1) r a.2.2.2.2.1 a.2.2.2.2.2 with
  | none=>.inl (0,230,p9)
  | some (m,t,g)=>.inr ((s.length:Int) - r.length+m,x,b2Y a t g)):=by
 have hl:=B1 h
 unfold a0U
 rw [show ((s.length:Int) - r.length).toNat=s.length - r.length by omega,a5X h,b1I (s.length+1) (r.length+1) r _ _ (by omega) (by omega)]
 all_goals (rcases a1i (r.length+1) r a.2.2.2.2.1 a.2.2.2.2.2 with _ | ⟨m,t,g⟩ <;> rfl)
theorem a9l (r:LI) (c:Int):a1I r c=(clo r c:Int):=by
 unfold a1I a1J
 have:=a1Y r c
 split
 ·rfl
 ·show (r.length:Int)=_
  omega
theorem c3Z (r:LI):a5q r=alo r:=by
 unfold a5q a1M
 cases alo r <;> rfl
theorem c4t (b:Int):a5o b=L8 b:=by
 unfold a5o L8
 by_cases h1:48≤b <;> by_cases h2:b≤57 <;> simp [h1,h2]
theorem d1y (c:Int) (r:LI) (k:Nat):slc (c::r) 1 ((1+k:Nat):Int)=r.take k:=by
 unfold slc
 rw [Int.toNat_natCast,Nat.add_comm]
 rfl
theorem e4O {a b:Int}:mn a b=if a≤b then a else b:=by
 unfold mn
 by_cases h:b<a
 ·rw [decide_eq_true h,if_neg (by omega)]; rfl
 ·rw [decide_eq_false h,if_pos (by omega)]; rfl
theorem d1T (l:LI) (hl:l.length≤lim):b2D l∧b0Z l=adR l (bsM l):=by
 have hlim:lim=1099511627776:=rfl
 cases l with
 | nil=>exact ⟨trivial,rfl⟩
 | cons c r=>
  have e0:rd (0:Int) (c::r) 0=c:=rfl
  have hn:decide (((c::r).length:Int)=0)=false:=decide_eq_false (by simp only [List.length_cons]; omega)
  have hd:List.drop (Int.toNat (1:Int)) (c::r)=r:=rfl
  have hl2:r.length+1≤lim:=hl
  have hc:=a1Y r c
  have hdl:=R0 (c::r)
  have hw:IntKind.wrap .i64 (((c::r).length:Int) - 1)=r.length:=by rw [wrap_i64 (by simp only [List.length_cons]; omega) (by simp only [List.length_cons]; omega)]; simp only [List.length_cons]; omega
  have hw1:IntKind.wrap .i64 (1+(clo r c:Int))=((1+clo r c:Nat):Int):=by rw [wrap_i64 (by omega) (by omega)]; omega
  have hw2:IntKind.wrap .i64 ((clo r c:Int)+2)=((clo r c+2:Nat):Int):=by rw [wrap_i64 (by omega) (by omega)]; omega
  have hm:mn ((clo r c+2:Nat):Int) ((c::r).length:Int)=((c::r).length:Int) - ((r.drop (clo r c+1)).length:Int):=by
   rw [e4O,List.length_drop]; simp only [List.length_cons]; split <;> omega
  have hr0:(0:Int)≤0∧(0:Int)<((c::r).length:Int):=by simp only [List.length_cons]; omega
  have hr1:(0:Int)≤1∧(1:Int)≤((c::r).length:Int):=by simp only [List.length_cons]; omega
  have hr2:(0:Int)≤1∧(1:Int)≤((1+clo r c:Nat):Int)∧((1+clo r c:Nat):Int)≤((c::r).length:Int):=by simp only [List.length_cons]; omega
  have hcl:a3Q r c:=⟨rfl,by omega⟩
  have hal:a8v r:=⟨rfl,by omega⟩
  have hcn:D9 (r.take (clo r c)):=by unfold D9; rw [List.length_take]; omega
  have hnp:a8t (c::r):=⟨rfl,rfl,hl⟩
  have hdr:(((c::r).length:Int) - (((c::r).drop (dgs (c::r))).length:Int))=(dgs (c::r):Int):=by rw [List.length_drop]; omega
  have fin:(c=47∨c=63)→(bif decide ((clo r c:Int)=r.length) then (bif alo r then ((p9,0,230):Adr×Int×Int) else ((c,0,0,r.take (clo r c),0,true),mn ((clo r c+2:Nat):Int) ((c::r).length:Int),0)) else ((c,0,0,r.take (clo r c),0,true),mn ((clo r c+2:Nat):Int) ((c::r).length:Int),0)) =
    adR (c::r) (if clo r c=r.length∧alo r=true then .inr 230 else .inl ((c,0,0,r.take (clo r c),0,true),r.drop (clo r c+1))):=fun _=>by
   rw [hm]
   by_cases h1:clo r c=r.length
   ·rw [decide_eq_true (by omega)]
    cases h2:alo r
    ·rw [if_neg (by simp)]; rfl
    ·rw [if_pos ⟨h1,rfl⟩]; rfl
   ·rw [decide_eq_false (by omega),if_neg (fun h=>h1 h.1)]; rfl
  have finP:(bif decide ((clo r c:Int)=r.length) then ((0:Int)≤1∧(1:Int)≤((c::r).length:Int))∧(a8v r∧(bif alo r then True else ((0:Int)≤1∧(1:Int)≤((1+clo r c:Nat):Int)∧((1+clo r c:Nat):Int)≤((c::r).length:Int))∧D9 (r.take (clo r c)))) else
    ((0:Int)≤1∧(1:Int)≤((1+clo r c:Nat):Int)∧((1+clo r c:Nat):Int)≤((c::r).length:Int))∧D9 (r.take (clo r c))):=by
   refine brn (fun _=>⟨hr1,hal,brb (fun _=>trivial) (fun _=>⟨hr2,hcn⟩)⟩) (fun _=>⟨hr2,hcn⟩)
  unfold b2D b0Z
  rw [hn,a5P]
  simp only [e0,c4t,cond_false,hd,a9l,c3Z,F7,hw,hw1,hw2,d1y,c8O]
  by_cases c1:L8 c=true
  ·rw [c1]
   refine ⟨⟨hr0,hnp⟩,?_⟩
   rw [if_pos rfl,cond_true]
   by_cases h9:dgs (c::r)≤9
   ·rw [if_pos h9,if_pos h9]
    unfold adR
    dsimp only
    rw [hdr]; rfl
   ·rw [if_neg h9,if_neg h9]; rfl
  ·rw [if_neg c1,show L8 c=false by simpa using c1]
   by_cases c2:c=46
   ·subst c2
    refine ⟨⟨hr0,trivial⟩,?_⟩
    unfold adR
    rw [if_pos (show ((46:Int)=46∨(46:Int)=36) from .inl rfl)]
    show _=(_,(((r.length+1:Nat):Int) - (r.length:Int)),_)
    rw [show (((r.length+1:Nat):Int) - (r.length:Int))=1 by omega]; rfl
   by_cases c3:c=36
   ·subst c3
    refine ⟨⟨hr0,trivial⟩,?_⟩
    unfold adR
    rw [if_pos (show ((36:Int)=46∨(36:Int)=36) from .inr rfl)]
    show _=(_,(((r.length+1:Nat):Int) - (r.length:Int)),_)
    rw [show (((r.length+1:Nat):Int) - (r.length:Int))=1 by omega]; rfl
   rw [if_neg (show ¬ (c=46∨c=36) by simp [c2,c3]),decide_eq_false c2,decide_eq_false c3]
   by_cases c4:c=39
   ·subst c4
    rw [if_pos rfl]
    cases r with
    | nil=>exact ⟨⟨hr0,trivial⟩,rfl⟩
    | cons n r2=>
     have hq:decide ((((39:Int)::n::r2).length:Int)=1)=false:=decide_eq_false (by simp only [List.length_cons]; omega)
     rw [hq]
     refine ⟨⟨hr0,show (0:Int)≤1∧(1:Int)<(((39:Int)::n::r2).length:Int) from by simp only [List.length_cons]; omega⟩,?_⟩
     unfold adR
     simp only [List.length_cons,cond_false,decide_true,cond_true]
     rw [show (((r2.length+1+1:Nat):Int) - (r2.length:Int))=2 by omega]
     rfl
   rw [if_neg c4,decide_eq_false c4]
   by_cases c5:c=47
   ·subst c5
    rw [if_pos (show ((47:Int)=47∨(47:Int)=63) from .inl rfl)]
    exact ⟨⟨hr0,hr1,hcl,finP⟩,fin (.inl rfl)⟩
   by_cases c6:c=63
   ·subst c6
    rw [if_pos (show ((63:Int)=47∨(63:Int)=63) from .inr rfl)]
    exact ⟨⟨hr0,hr1,hcl,finP⟩,fin (.inr rfl)⟩
   rw [if_neg (show ¬ (c=47∨c=63) by simp [c5,c6]),decide_eq_false c5,decide_eq_false c6]
   refine ⟨⟨hr0,trivial⟩,?_⟩
   unfold adR
   dsimp only
   rw [Int.sub_self]; rfl
theorem c20 (l:LI) (a:Adr):(a1i (l.length+1) l a.2.2.2.2.1 a.2.2.2.2.2=none∧adF l a=.inr 230)∨
  ∃ m s g,a1i (l.length+1) l a.2.2.2.2.1 a.2.2.2.2.2=some (m,s,g)∧m≤l.length∧adF l a=if s < -999999999∨999999999<s then .inr 230 else .inl (b2Y a s g,l.drop m):=by
 unfold adF
 cases h:a1i (l.length+1) l a.2.2.2.2.1 a.2.2.2.2.2 with
 | none=>exact .inl ⟨rfl,rfl⟩
 | some p=>
  obtain ⟨m,s,g⟩:=p
  exact .inr ⟨m,s,g,rfl,b9B _ _ _ _ _ _ _ h,rfl⟩
theorem c2X {l r:LI} (hr:r <:+ l) (a:Adr) :
  Sum.elim (fun q:Int×Int×Adr=>(q.2.2,q.1,q.2.1)) (fun q:Int×Adr×Adr=>bif decide (q.2.2.2.2.2.2.1<(-999999999:Int)) then ((p9,0,230):Adr×Int×Int) else bif decide ((999999999:Int)<q.2.2.2.2.2.2.1) then (p9,0,230) else (q.2.2,q.1,0)) (a0U l ((l.length:Int) - r.length) p9 a)=adR l (adF r a):=by
 rw [b7Q hr]
 have hl:=B1 hr
 rcases c20 r a with ⟨h1,h2⟩ | ⟨m,s,g,h1,hm,h2⟩
 ·rw [h1,h2]; rfl
 ·rw [h1,h2]
  show (bif decide (s<(-999999999:Int)) then ((p9,0,230):Adr×Int×Int) else bif decide ((999999999:Int)<s) then (p9,0,230) else (b2Y a s g,(l.length:Int) - r.length+m,0))=_
  by_cases c1:s < -999999999
  ·rw [if_pos (.inl c1),decide_eq_true c1]; rfl
  ·rw [decide_eq_false c1]
   by_cases c2:999999999<s
   ·rw [if_pos (.inr c2),decide_eq_true c2]; rfl
   ·rw [if_neg (by omega),decide_eq_false c2]
    unfold adR
    dsimp only
    rw [List.length_drop,show ((l.length:Int) - ((r.length - m:Nat):Int))=(l.length:Int) - r.length+m by omega]; rfl
theorem b7P (l:LI) (hl:l.length≤lim):b0W l∧b0U l=adR l (adM l):=by
 obtain ⟨hp,hf⟩:=d1T l hl
 unfold b0W b0U
 rw [hf]
 unfold adM
 cases hb:bsM l with
 | inr e=>
  have:=b9G _ hb
  subst this
  exact ⟨⟨hp,trivial⟩,rfl⟩
 | inl p=>
  obtain ⟨a,r⟩:=p
  have hs:=b9H l hb
  have hsl:=B1 hs
  refine ⟨⟨hp,show 0≤(l.length:Int) - r.length∧(l.length:Int) - r.length≤l.length∧_ from ⟨by omega,by omega,hl⟩⟩,?_⟩
  exact c2X hs a
theorem b47 {c:Int} (hc:c≠92):∀ r,sou r c=clo r c
 | []=>rfl
 | [b]=>by
  rw [b1n,O1]
  by_cases h1:b=c
  ·rw [if_pos h1,if_neg (by rw [h1]; exact hc),if_pos h1]
  ·rw [if_neg h1]
   by_cases h2:b=92
   ·rw [if_pos h2,if_pos h2]
   ·rw [if_neg h2,if_neg h2,if_neg h1]; rfl
 | b::d::r=>by
  rw [b1n,O1]
  dsimp only
  rw [b47 hc r,b47 hc (d::r)]
  by_cases h1:b=c
  ·rw [if_pos h1,if_neg (by rw [h1]; exact hc),if_pos h1]
  ·rw [if_neg h1]
   by_cases h2:b=92
   ·rw [if_pos h2,if_pos h2]
   ·rw [if_neg h2,if_neg h2,if_neg h1]
theorem b1v {c:Int} (hc:c≠92):∀ r,who (r.take (clo r c)) c=!(decide (clo r c=r.length) && alo r)
 | []=>rfl
 | [b]=>by
  rw [O1]
  by_cases h2:b=92
  ·subst h2
   rw [if_pos rfl]
   simp [who,alo]
  ·rw [if_neg h2]
   by_cases h1:b=c
   ·rw [if_pos h1]; simp [who]
   ·rw [if_neg h1]; simp [who,alo,h1,h2,clo]
 | b::d::r=>by
  have ih1:=b1v hc r
  have ih2:=b1v hc (d::r)
  have hle:=a1Y r c
  by_cases h2:b=92
  ·subst h2
   rw [show clo (92::d::r) c=clo r c+2 by rw [O1,if_pos rfl],show alo (92::d::r)=alo r by rw [a2Q]; dsimp only; rw [if_pos rfl]]
   rw [show List.take (clo r c+2) (92::d::r)=92::d::r.take (clo r c) from rfl,b1u,if_neg (Ne.symm hc),if_pos rfl]
   dsimp only
   rw [ih1,decide_eq_decide.2 (show clo r c+2=(92::d::r).length↔clo r c=r.length by simp only [List.length_cons]; omega)]
  ·by_cases h1:b=c
   ·rw [show clo (b::d::r) c=0 by rw [O1,if_neg h2,if_pos h1]]
    simp [who]
   ·rw [show clo (b::d::r) c=clo (d::r) c+1 by rw [O1,if_neg h2,if_neg h1],c3Y h2]
    rw [List.take_succ_cons,b1u,if_neg h1,if_neg h2,ih2]
    rw [decide_eq_decide.2 (show clo (d::r) c+1=(b::d::r).length↔clo (d::r) c=(d::r).length by simp only [List.length_cons]; omega)]
theorem d1J (s:LI) (c:Int):M5 s c=who s c:=by
 unfold M5 a0q
 cases who s c <;> rfl
theorem c3L (s:LI) (c:Int) (hs:s.length≤lim):a2G s c∧F3 s c=(s.take (sou s c),(s.length:Int) - ((s.drop (sou s c+1)).length:Int)):=by
 have hl:=b9t s c
 have hlim:lim=1099511627776:=rfl
 refine ⟨⟨⟨rfl,hs⟩,⟨show (0:Int)≤(sou s c:Int) by omega,show (sou s c:Int)≤(s.length:Int) by omega⟩,?_⟩,?_⟩
 ·show ([]:LI).length+(s.take (Int.toNat (sou s c:Int))).length≤lim
  rw [List.length_take]; simp only [List.length_nil]; omega
 ·show (bif decide ((sou s c:Int)<(s.length:Int)) then (([]++s.take (Int.toNat (sou s c:Int))),IntKind.wrap .i64 ((sou s c:Int)+1)) else (([]++s.take (Int.toNat (sou s c:Int))),(sou s c:Int)))=_
  rw [Int.toNat_natCast,List.nil_append,List.length_drop,wrap_i64 (by omega) (by omega)]
  by_cases h:sou s c<s.length
  ·rw [decide_eq_true (by omega)]
   show (_,_)=(_,_)
   rw [show ((sou s c:Int)+1)=((s.length:Int) - ((s.length - (sou s c+1):Nat):Int)) by omega]
  ·rw [decide_eq_false (by omega)]
   show (_,_)=(_,_)
   rw [show ((sou s c:Int))=((s.length:Int) - ((s.length - (sou s c+1):Nat):Int)) by omega]
end Go.VE
namespace Go.VE
set_option maxRecDepth 20000
open Go Go.Proofs
def b6Z:List (Nat×App):=[(67,b7g),(139,c8q)]
theorem a87:GOk Tryz.prog (j8 b6Z):=GOk.cons b4N (GOk.cons c8u (GOk.nil))
theorem b4s:o8 (g6 Tryz.f90)=true:=by kernel_rfl
def a3X:List LS:=[.b 1 8 [],.v 34 .bool,.c 8 tyA]
def a63:List LS:=[.v 2 .bool]
def a62:List LS:=[]
def c10:DX:=⟨some a62,some a63,[]⟩
def d3O (k:Ex→St→Prop) (x2:Bool):Prop:=wfD a63 (x2,())→k .ret (mkD 52 a63 (x2,()))
def d3N (k:Ex→St→Prop):Prop:=wfD a62 ()→k .nrm (mkD 52 a62 ())
def b4r (kr:Bool→Prop) (kn:Prop) (x34:Bool) (a1b:tAd):Prop:=
 bif x34 then
 (
 D9 a1b.2.2.2.1∧(
 ∀ (r1:LI),r1=F7 a1b.2.2.2.1→(
 wfR (.one (.fr 5 yU r1))→(
 bif decide (List.length r1+List.length ([a1b.1]:LI)≤lim) then
 a3Q (r1++([a1b.1]:LI)) a1b.1∧(
 ∀ (r2:Int),r2=a1I (r1++([a1b.1]:LI)) a1b.1→(
 wI r2→(
 kr (decide (r2=(List.length a1b.2.2.2.1:Int))))))
 else False))))∧(
 D9 a1b.2.2.2.1∧(
 ∀ (r3:LI),r3=F7 a1b.2.2.2.1→(
 wfR (.one (.fr 5 yU r3))→(
 bif decide (List.length r3+List.length ([a1b.1]:LI)≤lim) then
 a3Q (r3++([a1b.1]:LI)) a1b.1∧(
 ∀ (r4:Int),r4=a1I (r3++([a1b.1]:LI)) a1b.1→(
 wI r4→(
 kr (decide (r4=(List.length a1b.2.2.2.1:Int))))))
 else False))))∧True
 else
 kn
def c9x (k:Ex→St→Prop) (v:l6 a3X):Prop:=b4r (d3O k) (d3N k) v.1 v.2.1
theorem e15 (k:Ex→St→Prop):∀ v:l6 a3X,ex tb (j8 b6Z) [] (at' (g6 Tryz.f90) [1,1,1,1,1,0,1,0,1,1]) [1,1,1,1,1,0,1,0,1,1] (mkD 52 a3X v) (wk 52 c10 k)=c9x k v
 | (x34,a1b,())=>by kernel_rfl
def c9s:Pce:=fun st k=>ckD 52 a3X st fun v=>wfD a3X v→c9x k v
theorem e2a:j5 Tryz.prog (at' (g6 Tryz.f90) [1,1,1,1,1,0,1,0,1,1]) c9s:=
 (j5.wk (N:=52) (ds:=a3X) (dx:=c10) (l3 o0 j9 a87 (g7.nil) (at' (g6 Tryz.f90) [1,1,1,1,1,0,1,0,1,1]) [1,1,1,1,1,0,1,0,1,1] rfl (g9 b4s [1,1,1,1,1,0,1,0,1,1]))).mono fun st k h=>l4 h fun v hv hw=>Eq.mpr (e15 k v) (hv hw)
def b81:q8:=([1,1,1,1,1,0,1,0,1,1],c9s)::[]
theorem c9v:g7 Tryz.prog (g6 Tryz.f90) b81:=g7.cons e2a (g7.nil)
def a07:List LS:=[.b 1 8 [],.v 18 yU,.v 19 .bool,.c 8 tyA]
def a2n:List LS:=[.v 2 .bool]
def a2m:List LS:=[]
def c11:DX:=⟨some a2m,some a2n,[]⟩
def d3Q (k:Ex→St→Prop) (x2:Bool):Prop:=wfD a2n (x2,())→k .ret (mkD 52 a2n (x2,()))
def d3P (k:Ex→St→Prop):Prop:=wfD a2m ()→k .nrm (mkD 52 a2m ())
def a77 (kr:Bool→Prop) (kn:Prop) (x18:Int) (x19:Bool) (a1b:tAd):Prop:=
 bif x19 then
 kr true
 else
 bif (decide (x18=(110:Int))) then
 bif (decide ((0:Int)≤a1b.2.1)) then
 kr (decide (a1b.2.1≤(999999999:Int)))
 else
 kr false
 else
 bif (decide (x18=(47:Int))) then
 (wfD a3X ((decide (x18=(47:Int))),a1b,())→b4r (fun (x2:Bool)=>wfD a63 (x2,())→(
 kr x2)) (wfD a62 ()→(
 kn)) (decide (x18=(47:Int))) a1b)
 else
 (wfD a3X ((decide (x18=(63:Int))),a1b,())→b4r (fun (x2:Bool)=>wfD a63 (x2,())→(
 kr x2)) (wfD a62 ()→(
 kn)) (decide (x18=(63:Int))) a1b)
def c9y (k:Ex→St→Prop) (v:l6 a07):Prop:=a77 (d3Q k) (d3P k) v.1 v.2.1 v.2.2.1
theorem e16 (k:Ex→St→Prop):∀ v:l6 a07,ex tb (j8 b6Z) b81 (at' (g6 Tryz.f90) [1,0,1,0,1,1]) [1,0,1,0,1,1] (mkD 52 a07 v) (wk 52 c11 k)=c9y k v
 | (x18,x19,a1b,())=>by kernel_rfl
def c9t:Pce:=fun st k=>ckD 52 a07 st fun v=>wfD a07 v→c9y k v
theorem e2b:j5 Tryz.prog (at' (g6 Tryz.f90) [1,0,1,0,1,1]) c9t:=
 (j5.wk (N:=52) (ds:=a07) (dx:=c11) (l3 o0 j9 a87 (c9v) (at' (g6 Tryz.f90) [1,0,1,0,1,1]) [1,0,1,0,1,1] rfl (g9 b4s [1,0,1,0,1,1]))).mono fun st k h=>l4 h fun v hv hw=>Eq.mpr (e16 k v) (hv hw)
def b82:q8:=([1,0,1,0,1,1],c9t)::b81
theorem c9w:g7 Tryz.prog (g6 Tryz.f90) b82:=g7.cons e2b (c9v)
def a08:List LS:=[]
def a2o:List LS:=[.v 2 .bool]
def c12:DX:=⟨none,some a2o,[]⟩
def d3R (k:Ex→St→Prop) (x2:Bool):Prop:=wfD a2o (x2,())→k .ret (mkD 52 a2o (x2,()))
def a78 (kr:Bool→Prop):Prop:=
 kr false
def c9z (k:Ex→St→Prop) (v:l6 a08):Prop:=a78 (d3R k) 
theorem e18 (k:Ex→St→Prop):∀ v:l6 a08,ex tb (j8 b6Z) b82 (at' (g6 Tryz.f90) [1,1,1]) [1,1,1] (mkD 52 a08 v) (wk 52 c12 k)=c9z k v
 | ()=>by kernel_rfl
def c9u:Pce:=fun st k=>ckD 52 a08 st fun v=>wfD a08 v→c9z k v
theorem e2c:j5 Tryz.prog (at' (g6 Tryz.f90) [1,1,1]) c9u:=
 (j5.wk (N:=52) (ds:=a08) (dx:=c12) (l3 o0 j9 a87 (c9w) (at' (g6 Tryz.f90) [1,1,1]) [1,1,1] rfl (g9 b4s [1,1,1]))).mono fun st k h=>l4 h fun v hv hw=>Eq.mpr (e18 k v) (hv hw)
def c9r:q8:=([1,1,1],c9u)::b82
theorem e12:g7 Tryz.prog (g6 Tryz.f90) c9r:=g7.cons e2c (c9w)
def c13 (a0:tAd) (K:Res→List Cell→Prop):Prop:=
 bif (!a0.2.2.2.2.2) then
 K (.one (.v .bool false)) []
 else
 bif (decide (a0.2.2.2.2.1<(-999999999:Int))) then
 K (.one (.v .bool false)) []
 else
 bif (decide ((999999999:Int)<a0.2.2.2.2.1)) then
 K (.one (.v .bool false)) []
 else
 bif (decide (a0.1=(0:Int))) then
 (wfD a07 (a0.1,(decide (a0.1=(0:Int))),a0,())→a77 (fun (x2:Bool)=>wfD a2n (x2,())→(
 K (.one (.v .bool x2)) [])) (wfD a2m ()→(
 (wfD a08 ()→a78 (fun (x2:Bool)=>wfD a2o (x2,())→(
 K (.one (.v .bool x2)) [])) ))) a0.1 (decide (a0.1=(0:Int))) a0)
 else
 bif (decide (a0.1=(46:Int))) then
 (wfD a07 (a0.1,(decide (a0.1=(46:Int))),a0,())→a77 (fun (x2:Bool)=>wfD a2n (x2,())→(
 K (.one (.v .bool x2)) [])) (wfD a2m ()→(
 (wfD a08 ()→a78 (fun (x2:Bool)=>wfD a2o (x2,())→(
 K (.one (.v .bool x2)) [])) ))) a0.1 (decide (a0.1=(46:Int))) a0)
 else
 bif (decide (a0.1=(36:Int))) then
 (wfD a07 (a0.1,(decide (a0.1=(36:Int))),a0,())→a77 (fun (x2:Bool)=>wfD a2n (x2,())→(
 K (.one (.v .bool x2)) [])) (wfD a2m ()→(
 (wfD a08 ()→a78 (fun (x2:Bool)=>wfD a2o (x2,())→(
 K (.one (.v .bool x2)) [])) ))) a0.1 (decide (a0.1=(36:Int))) a0)
 else
 (wfD a07 (a0.1,(decide (a0.1=(39:Int))),a0,())→a77 (fun (x2:Bool)=>wfD a2n (x2,())→(
 K (.one (.v .bool x2)) [])) (wfD a2m ()→(
 (wfD a08 ()→a78 (fun (x2:Bool)=>wfD a2o (x2,())→(
 K (.one (.v .bool x2)) [])) ))) a0.1 (decide (a0.1=(39:Int))) a0)
def b6Y:List AS:=[.v tyA]
def a61 (x34:Bool) (a1b:tAd):Prop:=
 bif x34 then
 D9 a1b.2.2.2.1∧(
 let r1:LI:=F7 a1b.2.2.2.1
 (List.length r1+List.length ([a1b.1]:LI)≤lim)∧(
 a3Q (r1++([a1b.1]:LI)) a1b.1))
 else
 True
def a3V (x34:Bool) (a1b:tAd):(Bool)⊕(Unit):=
 bif x34 then
 let r1:LI:=F7 a1b.2.2.2.1
 let r2:Int:=a1I (r1++([a1b.1]:LI)) a1b.1
 .inl ((decide (r2=(List.length a1b.2.2.2.1:Int))))
 else
 .inr ()
theorem b2A (kr:Bool→Prop) (kn:Prop) (x34:Bool) (a1b:tAd) (hp:a61 x34 a1b) (hr:∀ q:Bool,a3V x34 a1b=.inl q→kr q) (hn:∀ q:Unit,a3V x34 a1b=.inr q→kn):b4r kr kn x34 a1b:=
 have h:=hc2 hr hn; br1 hp h (fun _ hp h=>⟨an1 hp fun hp=>al (as1 hp fun hp=>⟨hp,al (h _ rfl)⟩),
 an1 hp fun hp=>al (as1 hp fun hp=>⟨hp,al (h _ rfl)⟩),trivial⟩)
 fun _ hp h=>h _ rfl
def a1N (x18:Int) (x19:Bool) (a1b:tAd):Prop:=
 bif x19 then
 True
 else
 bif (decide (x18=(110:Int))) then
 True
 else
 bif (decide (x18=(47:Int))) then
 a61 (decide (x18=(47:Int))) a1b
 else
 a61 (decide (x18=(63:Int))) a1b
def a0x (x18:Int) (x19:Bool) (a1b:tAd):(Bool)⊕(Unit):=
 bif x19 then
 .inl (true)
 else
 bif (decide (x18=(110:Int))) then
 bif (decide ((0:Int)≤a1b.2.1)) then
 .inl ((decide (a1b.2.1≤(999999999:Int))))
 else
 .inl (false)
 else
 bif (decide (x18=(47:Int))) then
 Sum.elim (fun q0r=>
 let x2:Bool:=q0r
 .inl (x2)) (fun q0n=>
 .inr ()) (a3V (decide (x18=(47:Int))) a1b)
 else
 Sum.elim (fun q0r=>
 let x2:Bool:=q0r
 .inl (x2)) (fun q0n=>
 .inr ()) (a3V (decide (x18=(63:Int))) a1b)
theorem a4Q (kr:Bool→Prop) (kn:Prop) (x18:Int) (x19:Bool) (a1b:tAd) (hp:a1N x18 x19 a1b) (hr:∀ q:Bool,a0x x18 x19 a1b=.inl q→kr q) (hn:∀ q:Unit,a0x x18 x19 a1b=.inr q→kn):a77 kr kn x18 x19 a1b:=
 have h:=hc2 hr hn; br1 hp h (fun _ hp h=>h _ rfl)
 fun _ hp h=>br1 hp h (fun _ hp h=>br0 h (fun _ h=>h _ rfl)
 fun _ h=>h _ rfl)
 fun _ hp h=>br1 hp h (fun _ hp h=>fun _=>b2A _ _ _ _ hp
 (fun _ e _=>have h:=sl e h; h _ rfl)
 (fun _ e _=>have h:=sr e h; h _ rfl))
 fun _ hp h=>fun _=>b2A _ _ _ _ hp
 (fun _ e _=>have h:=sl e h; h _ rfl)
 (fun _ e _=>have h:=sr e h; h _ rfl)
def a3W:Bool:=
 (false)
theorem a4R (kr:Bool→Prop)  (hr:∀ q:Bool,q=a3W→kr q):a78 kr:=
 have h:=hr; h _ rfl
def b2B (a0:tAd):Prop:=
 bif (!a0.2.2.2.2.2) then
 True
 else
 bif (decide (a0.2.2.2.2.1<(-999999999:Int))) then
 True
 else
 bif (decide ((999999999:Int)<a0.2.2.2.2.1)) then
 True
 else
 bif (decide (a0.1=(0:Int))) then
 a1N a0.1 (decide (a0.1=(0:Int))) a0
 else
 bif (decide (a0.1=(46:Int))) then
 a1N a0.1 (decide (a0.1=(46:Int))) a0
 else
 bif (decide (a0.1=(36:Int))) then
 a1N a0.1 (decide (a0.1=(36:Int))) a0
 else
 a1N a0.1 (decide (a0.1=(39:Int))) a0
def b0Y (a0:tAd):Bool:=
 bif (!a0.2.2.2.2.2) then
 false
 else
 bif (decide (a0.2.2.2.2.1<(-999999999:Int))) then
 false
 else
 bif (decide ((999999999:Int)<a0.2.2.2.2.1)) then
 false
 else
 bif (decide (a0.1=(0:Int))) then
 Sum.elim (fun q1r=>
 let x2:Bool:=q1r
 x2) (fun q1n=>
 let q2r:Bool:=a3W 
 let x2:Bool:=q2r
 x2) (a0x a0.1 (decide (a0.1=(0:Int))) a0)
 else
 bif (decide (a0.1=(46:Int))) then
 Sum.elim (fun q1r=>
 let x2:Bool:=q1r
 x2) (fun q1n=>
 let q2r:Bool:=a3W 
 let x2:Bool:=q2r
 x2) (a0x a0.1 (decide (a0.1=(46:Int))) a0)
 else
 bif (decide (a0.1=(36:Int))) then
 Sum.elim (fun q1r=>
 let x2:Bool:=q1r
 x2) (fun q1n=>
 let q2r:Bool:=a3W 
 let x2:Bool:=q2r
 x2) (a0x a0.1 (decide (a0.1=(36:Int))) a0)
 else
 Sum.elim (fun q1r=>
 let x2:Bool:=q1r
 x2) (fun q1n=>
 let q2r:Bool:=a3W 
 let x2:Bool:=q2r
 x2) (a0x a0.1 (decide (a0.1=(39:Int))) a0)
theorem e14 (a0:tAd) (K:Res→List Cell→Prop) (_:wfA b6Y (a0,())) (hp:b2B a0) (h:∀ r:Bool,r=b0Y a0→K (.one (.v .bool r)) []):c13 a0 K:=
 br1 hp h (fun _ hp h=>h _ rfl)
 fun _ hp h=>br1 hp h (fun _ hp h=>h _ rfl)
 fun _ hp h=>br1 hp h (fun _ hp h=>h _ rfl)
 fun _ hp h=>br1 hp h (fun _ hp h=>fun _=>a4Q _ _ _ _ _ hp
 (fun _ e _=>have h:=sl e h; h _ rfl)
 (fun _ e _=>have h:=sr e h; fun _=>a4R _  (al (h _ rfl))))
 fun _ hp h=>br1 hp h (fun _ hp h=>fun _=>a4Q _ _ _ _ _ hp
 (fun _ e _=>have h:=sl e h; h _ rfl)
 (fun _ e _=>have h:=sr e h; fun _=>a4R _  (al (h _ rfl))))
 fun _ hp h=>br1 hp h (fun _ hp h=>fun _=>a4Q _ _ _ _ _ hp
 (fun _ e _=>have h:=sl e h; h _ rfl)
 (fun _ e _=>have h:=sr e h; fun _=>a4R _  (al (h _ rfl))))
 fun _ hp h=>fun _=>a4Q _ _ _ _ _ hp
 (fun _ e _=>have h:=sl e h; h _ rfl)
 (fun _ e _=>have h:=sr e h; fun _=>a4R _  (al (h _ rfl)))
def e6h (v:j3 b6Y) (K:Res→List Cell→Prop):Prop:=b2B v.1∧∀ r:Bool,r=b0Y v.1→K (.one (.v .bool r)) []
def d6g:App:=specW b6Y e6h
theorem e19 (K:Res→List Cell→Prop):∀ v:j3 b6Y,q7 tb (j8 b6Z) c9r Tryz.f90 [true] (mkA b6Y v) K=c13 v.1 K
 | (a0,())=>by kernel_rfl
theorem e13:g8 Tryz.prog 90 d6g:=
 g8.specW (l9 ((l8 o0 j9 a87 (e12) (f:=90) (fn:=Tryz.f90) (by kernel_rfl) (by kernel_rfl) b4s [true])) fun v K hw h=>(e19 K v).mpr (e14 v.1 K hw h.1 h.2))
def d4Z:List (Nat×App):=[]
theorem d2F:GOk Tryz.prog (j8 d4Z):=GOk.nil
def c0i (i0:Int) (K:Res→List Cell→Prop):Prop:=
 bif (decide (i0<(10:Int))) then
 bif decide (0≤i0∧i0≤(IntKind.wrap .i64 (i0+(1:Int)))∧(IntKind.wrap .i64 (i0+(1:Int)))≤(List.length ([48,49,50,51,52,53,54,55,56,57,97,98,99,100,101,102,103,104,105,106,107,108,109,110,111,112,113,114,115,116,117,118,119,120,121,122]:LI):Int)) then
 K (.one (.v .str (slc ([48,49,50,51,52,53,54,55,56,57,97,98,99,100,101,102,103,104,105,106,107,108,109,110,111,112,113,114,115,116,117,118,119,120,121,122]:LI) i0 (IntKind.wrap .i64 (i0+(1:Int)))))) []
 else False
 else
 bif decide (0≤(IntKind.wrap .i64 (i0 * (2:Int)))∧(IntKind.wrap .i64 (i0 * (2:Int)))≤(IntKind.wrap .i64 ((IntKind.wrap .i64 (i0 * (2:Int)))+(2:Int)))∧(IntKind.wrap .i64 ((IntKind.wrap .i64 (i0 * (2:Int)))+(2:Int)))≤(List.length ([48,48,48,49,48,50,48,51,48,52,48,53,48,54,48,55,48,56,48,57,49,48,49,49,49,50,49,51,49,52,49,53,49,54,49,55,49,56,49,57,50,48,50,49,50,50,50,51,50,52,50,53,50,54,50,55,50,56,50,57,51,48,51,49,51,50,51,51,51,52,51,53,51,54,51,55,51,56,51,57,52,48,52,49,52,50,52,51,52,52,52,53,52,54,52,55,52,56,52,57,53,48,53,49,53,50,53,51,53,52,53,53,53,54,53,55,53,56,53,57,54,48,54,49,54,50,54,51,54,52,54,53,54,54,54,55,54,56,54,57,55,48,55,49,55,50,55,51,55,52,55,53,55,54,55,55,55,56,55,57,56,48,56,49,56,50,56,51,56,52,56,53,56,54,56,55,56,56,56,57,57,48,57,49,57,50,57,51,57,52,57,53,57,54,57,55,57,56,57,57]:LI):Int)) then
 K (.one (.v .str (slc ([48,48,48,49,48,50,48,51,48,52,48,53,48,54,48,55,48,56,48,57,49,48,49,49,49,50,49,51,49,52,49,53,49,54,49,55,49,56,49,57,50,48,50,49,50,50,50,51,50,52,50,53,50,54,50,55,50,56,50,57,51,48,51,49,51,50,51,51,51,52,51,53,51,54,51,55,51,56,51,57,52,48,52,49,52,50,52,51,52,52,52,53,52,54,52,55,52,56,52,57,53,48,53,49,53,50,53,51,53,52,53,53,53,54,53,55,53,56,53,57,54,48,54,49,54,50,54,51,54,52,54,53,54,54,54,55,54,56,54,57,55,48,55,49,55,50,55,51,55,52,55,53,55,54,55,55,55,56,55,57,56,48,56,49,56,50,56,51,56,52,56,53,56,54,56,55,56,56,56,57,57,48,57,49,57,50,57,51,57,52,57,53,57,54,57,55,57,56,57,57]:LI) (IntKind.wrap .i64 (i0 * (2:Int))) (IntKind.wrap .i64 ((IntKind.wrap .i64 (i0 * (2:Int)))+(2:Int)))))) []
 else False
def b5K:List AS:=[.v yI]
def a9V (i0:Int):Prop:=
 bif (decide (i0<(10:Int))) then
 (0≤i0∧i0≤(IntKind.wrap .i64 (i0+(1:Int)))∧(IntKind.wrap .i64 (i0+(1:Int)))≤(List.length ([48,49,50,51,52,53,54,55,56,57,97,98,99,100,101,102,103,104,105,106,107,108,109,110,111,112,113,114,115,116,117,118,119,120,121,122]:LI):Int))
 else
 (0≤(IntKind.wrap .i64 (i0 * (2:Int)))∧(IntKind.wrap .i64 (i0 * (2:Int)))≤(IntKind.wrap .i64 ((IntKind.wrap .i64 (i0 * (2:Int)))+(2:Int)))∧(IntKind.wrap .i64 ((IntKind.wrap .i64 (i0 * (2:Int)))+(2:Int)))≤(List.length ([48,48,48,49,48,50,48,51,48,52,48,53,48,54,48,55,48,56,48,57,49,48,49,49,49,50,49,51,49,52,49,53,49,54,49,55,49,56,49,57,50,48,50,49,50,50,50,51,50,52,50,53,50,54,50,55,50,56,50,57,51,48,51,49,51,50,51,51,51,52,51,53,51,54,51,55,51,56,51,57,52,48,52,49,52,50,52,51,52,52,52,53,52,54,52,55,52,56,52,57,53,48,53,49,53,50,53,51,53,52,53,53,53,54,53,55,53,56,53,57,54,48,54,49,54,50,54,51,54,52,54,53,54,54,54,55,54,56,54,57,55,48,55,49,55,50,55,51,55,52,55,53,55,54,55,55,55,56,55,57,56,48,56,49,56,50,56,51,56,52,56,53,56,54,56,55,56,56,56,57,57,48,57,49,57,50,57,51,57,52,57,53,57,54,57,55,57,56,57,57]:LI):Int))
def a56 (i0:Int):LI:=
 bif (decide (i0<(10:Int))) then
 (slc ([48,49,50,51,52,53,54,55,56,57,97,98,99,100,101,102,103,104,105,106,107,108,109,110,111,112,113,114,115,116,117,118,119,120,121,122]:LI) i0 (IntKind.wrap .i64 (i0+(1:Int))))
 else
 (slc ([48,48,48,49,48,50,48,51,48,52,48,53,48,54,48,55,48,56,48,57,49,48,49,49,49,50,49,51,49,52,49,53,49,54,49,55,49,56,49,57,50,48,50,49,50,50,50,51,50,52,50,53,50,54,50,55,50,56,50,57,51,48,51,49,51,50,51,51,51,52,51,53,51,54,51,55,51,56,51,57,52,48,52,49,52,50,52,51,52,52,52,53,52,54,52,55,52,56,52,57,53,48,53,49,53,50,53,51,53,52,53,53,53,54,53,55,53,56,53,57,54,48,54,49,54,50,54,51,54,52,54,53,54,54,54,55,54,56,54,57,55,48,55,49,55,50,55,51,55,52,55,53,55,54,55,55,55,56,55,57,56,48,56,49,56,50,56,51,56,52,56,53,56,54,56,55,56,56,56,57,57,48,57,49,57,50,57,51,57,52,57,53,57,54,57,55,57,56,57,57]:LI) (IntKind.wrap .i64 (i0 * (2:Int))) (IntKind.wrap .i64 ((IntKind.wrap .i64 (i0 * (2:Int)))+(2:Int))))
theorem d7j (i0:Int) (K:Res→List Cell→Prop) (_:wfA b5K (i0,())) (hp:a9V i0) (h:∀ r:LI,r=a56 i0→K (.one (.v .str r)) []):c0i i0 K:=
 br1 hp h (fun _ hp h=>as0 hp (h _ rfl))
 fun _ hp h=>as0 hp (h _ rfl)
def e4V (v:j3 b5K) (K:Res→List Cell→Prop):Prop:=a9V v.1∧∀ r:LI,r=a56 v.1→K (.one (.v .str r)) []
def d40:App:=specW b5K e4V
theorem d7k (K:Res→List Cell→Prop):∀ v:j3 b5K,q7 tb (j8 d4Z) [] Tryz.f226 [true] (mkA b5K v) K=c0i v.1 K
 | (i0,())=>by kernel_rfl
theorem d7i:g8 Tryz.prog 226 d40:=
 g8.specW (l9 ((l8 o0 j9 d2F (g7.nil) (f:=226) (fn:=Tryz.f226) (by kernel_rfl) (by kernel_rfl) (by kernel_rfl) [true])) fun v K hw h=>(d7k K v).mpr (d7j v.1 K hw h.1 h.2))
end Go.VE
namespace Go.VE
open Go Go.Proofs
def e7x:List AS:=[]
def e5I:App:=specW e7x fun _ _=>False
theorem e5J:g8 Tryz.prog 227 e5I:=g8.never
def e7v:List AS:=[]
def e44:App:=specW e7v fun _ _=>False
theorem e45:g8 Tryz.prog 229 e44:=g8.never
end Go.VE
namespace Go.VE
set_option maxRecDepth 20000
open Go Go.Proofs
def e4Q:List (Nat×App):=[(226,d40),(227,e5I),(229,e44)]
theorem d69:GOk Tryz.prog (j8 e4Q):=GOk.cons d7i (GOk.cons e5J (GOk.cons e45 (GOk.nil)))
def c4I (dst0:LI) (i1:Int) (base2:Int) (K:Res→List Cell→Prop):Prop:=
 bif (decide (base2=(10:Int))) then
 bif (decide (i1<(100:Int))) then
 a9V (IntKind.wrap .i64 i1)∧(
 ∀ (r1:LI),r1=a56 (IntKind.wrap .i64 i1)→(
 wfR (.one (.v .str r1))→(
 bif decide (List.length dst0+List.length r1≤lim) then
 K (.one (.fr 5 yU (dst0++r1))) []
 else False)))
 else
 False
 else
 False
def b79:List AS:=[.o 5 yU,.v (.int .u64),.v yI]
def d2h (dst0:LI) (i1:Int) (base2:Int):Prop:=
 bif (decide (base2=(10:Int))) then
 bif (decide (i1<(100:Int))) then
 a9V (IntKind.wrap .i64 i1)∧(
 let r1:LI:=a56 (IntKind.wrap .i64 i1)
 (List.length dst0+List.length r1≤lim))
 else
 False
 else
 False
def d2g (dst0:LI) (i1:Int) (base2:Int):LI:=
 bif (decide (base2=(10:Int))) then
 bif (decide (i1<(100:Int))) then
 let r1:LI:=a56 (IntKind.wrap .i64 i1)
 (dst0++r1)
 else
 default
 else
 default
theorem e4S (dst0:LI) (i1:Int) (base2:Int) (K:Res→List Cell→Prop) (_:wfA b79 (dst0,i1,base2,())) (hp:d2h dst0 i1 base2) (h:∀ r:LI,r=d2g dst0 i1 base2→K (.one (.fr 5 yU r)) []):c4I dst0 i1 base2 K:=
 br1 hp h (fun _ hp h=>br1 hp h (fun _ hp h=>an1 hp fun hp=>al (as0 hp (h _ rfl)))
 fun _ hp h=>hp.elim)
 fun _ hp h=>hp.elim
def e4P (v:j3 b79) (K:Res→List Cell→Prop):Prop:=d2h v.1 v.2.1 v.2.2.1∧∀ r:LI,r=d2g v.1 v.2.1 v.2.2.1→K (.one (.fr 5 yU r)) []
def e7u:App:=specW b79 e4P
theorem e4T (K:Res→List Cell→Prop):∀ v:j3 b79,q7 tb (j8 e4Q) [] Tryz.f195 [true] (mkA b79 v) K=c4I v.1 v.2.1 v.2.2.1 K
 | (dst0,i1,base2,())=>by kernel_rfl
theorem e4R:g8 Tryz.prog 195 e7u:=
 g8.specW (l9 ((l8 o0 j9 d69 (g7.nil) (f:=195) (fn:=Tryz.f195) (by kernel_rfl) (by kernel_rfl) (by kernel_rfl) [true])) fun v K hw h=>(e4T K v).mpr (e4S v.1 v.2.1 v.2.2.1 K hw h.1 h.2))
end Go.VE
