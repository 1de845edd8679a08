import Derived.Test.YtogkdhgjefiipaaGreatDoorEB10
import Derived.Test.YtogkdhgjefiipaaGreatDoorProg
import Derived.Lib.LaidTab
import Derived.Lib.ItoaNum
set_option linter.unusedVariables false
set_option linter.unusedSectionVars false
set_option linter.unusedSimpArgs false
namespace Go.VE
abbrev LI:=List Int
abbrev tJb:Type:=List Int×Int×(Int×Int×Bool×Bool)×Int×Int×Int
abbrev tEf:Type:=List ((Int×List Int×List Int))×Int×(Bool×Bool×List Int)×Int×Bool
abbrev tyJ:Ty:=.st (.pair (.sl (.int .u8)) (.pair (.int .i64) (.pair (.st (.pair (.int .i64) (.pair (.int .i64) (.pair (.bool) (.bool))))) (.pair (.int .i64) (.pair (.int .i64) (.int .i64))))))
abbrev tyE:Ty:=.st (.pair (.sl (.st (.pair (.int .i64) (.pair (.sl (.int .u8)) (.sl (.int .u8)))))) (.pair (.int .i64) (.pair (.st (.pair (.bool) (.pair (.bool) (.sl (.int .u8))))) (.pair (.int .i64) (.bool)))))
abbrev tyA:Ty:=.st (.pair (.int .u8) (.pair (.int .i64) (.pair (.int .u8) (.pair (.sl (.int .u8)) (.pair (.int .i64) (.bool))))))
abbrev tAd:Type:=Int×Int×Int×List Int×Int×Bool
abbrev tyX:Ty:=.st (.pair (.st (.pair (.int .u8) (.pair (.int .i64) (.pair (.int .u8) (.pair (.sl (.int .u8)) (.pair (.int .i64) (.bool))))))) (.pair (.st (.pair (.int .u8) (.pair (.int .i64) (.pair (.int .u8) (.pair (.sl (.int .u8)) (.pair (.int .i64) (.bool))))))) (.pair (.bool) (.pair (.str) (.pair (.st (.pair (.int .u8) (.pair (.int .i64) (.pair (.int .u8) (.pair (.sl (.int .u8)) (.pair (.int .i64) (.bool))))))) (.pair (.int .u8) (.pair (.int .i64) (.pair (.sl (.int .u8)) (.pair (.sl (.int .u8)) (.bool))))))))))
abbrev tEx:Type:=(Int×Int×Int×List Int×Int×Bool)×(Int×Int×Int×List Int×Int×Bool)×Bool×List Int×(Int×Int×Int×List Int×Int×Bool)×Int×Int×List Int×List Int×Bool
abbrev tBk:Type:=(Bool×Bool×List Int)×(Bool×Bool×List Int)×Unit×Unit
abbrev tyB:Ty:=.st (.pair (.st (.pair (.bool) (.pair (.bool) (.sl (.int .u8))))) (.pair (.st (.pair (.bool) (.pair (.bool) (.sl (.int .u8))))) (.pair (.arr 9 (.st (.pair (.bool) (.pair (.bool) (.sl (.int .u8)))))) (.arr 26 (.st (.pair (.bool) (.pair (.bool) (.sl (.int .u8)))))))))
abbrev tyW:Ty:=.st (.pair (.sl (.int .u8)) (.pair (.int .i64) (.pair (.int .i64) (.pair (.int .i64) (.pair (.st (.pair (.arr 26 (.int .i64)) (.int .i64))) (.pair (.st (.pair (.st (.pair (.bool) (.pair (.bool) (.sl (.int .u8))))) (.pair (.st (.pair (.bool) (.pair (.bool) (.sl (.int .u8))))) (.pair (.arr 9 (.st (.pair (.bool) (.pair (.bool) (.sl (.int .u8)))))) (.arr 26 (.st (.pair (.bool) (.pair (.bool) (.sl (.int .u8)))))))))) (.pair (.sl (.int .u8)) (.pair (.st (.pair (.st (.pair (.int .u8) (.pair (.int .i64) (.pair (.int .u8) (.pair (.sl (.int .u8)) (.pair (.int .i64) (.bool))))))) (.pair (.st (.pair (.int .u8) (.pair (.int .i64) (.pair (.int .u8) (.pair (.sl (.int .u8)) (.pair (.int .i64) (.bool))))))) (.pair (.bool) (.pair (.str) (.pair (.st (.pair (.int .u8) (.pair (.int .i64) (.pair (.int .u8) (.pair (.sl (.int .u8)) (.pair (.int .i64) (.bool))))))) (.pair (.int .u8) (.pair (.int .i64) (.pair (.sl (.int .u8)) (.pair (.sl (.int .u8)) (.bool))))))))))) (.pair (.int .i64) (.int .i64))))))))))
abbrev tWk:Type:=List Int×Int×Int×Int×(Unit×Int)×((Bool×Bool×List Int)×(Bool×Bool×List Int)×Unit×Unit)×List Int×((Int×Int×Int×List Int×Int×Bool)×(Int×Int×Int×List Int×Int×Bool)×Bool×List Int×(Int×Int×Int×List Int×Int×Bool)×Int×Int×List Int×List Int×Bool)×Int×Int
abbrev zA:tAd:=(0,0,0,[],0,false)
abbrev zX:tEx:=(zA,zA,false,[],zA,0,0,[],[],false)
abbrev yB:Ty:=.sl (.int .u8)
abbrev yI:Ty:=.int .i64
abbrev yU:Ty:=.int .u8
abbrev wI (n:Int):Prop:=wfR (.one (.v yI n))
abbrev wB (b:Bool):Prop:=wfR (.one (.v .bool b))
open Go Go.Proofs
instance:Glob where
  ok I w := ∃ g ob, Tryz.prog.globalNamed "internal/strconv.uint64pow10" = some g ∧ I g ∧ w.heap[g]? = some ob ∧ ∀ w' : World, w'.heap[g]? = some ob → Lib.TabIs Tryz.prog w' "internal/strconv.uint64pow10" .u64 Lib.pow10Tab
  keep:=fun hk ⟨g,ob,h0,h1,h2,h3⟩=>⟨g,ob,h0,hk.sub g h1,(hk.heap g h1).trans h2,h3⟩
  pan n:=.iface 85 (.agg #[.int .i64 n])
  trk:=fun e=>e == 27 || e == 30
theorem glob_pow10 {I : Nat → Prop} {w : World} (h : Glob.ok I w) : ∃ g ob, Tryz.prog.globalNamed "internal/strconv.uint64pow10" = some g ∧ I g ∧ w.heap[g]? = some ob ∧ ∀ w' : World, w'.heap[g]? = some ob → Lib.TabIs Tryz.prog w' "internal/strconv.uint64pow10" .u64 Lib.pow10Tab := h
def tb:Tab:=[(2,⟨.int .i64,0,[],8⟩),(3,⟨.int .i64,0,[],8⟩),(4,⟨.bool,0,[],1⟩),(5,⟨.int .u8,0,[],1⟩),(9,⟨.str,0,[],16⟩),(21,⟨.int .i32,0,[],4⟩),(22,⟨.sl (.int .u8),5,[],24⟩),(25,⟨.st (.pair (.int .u8) (.pair (.int .i64) (.pair (.int .u8) (.pair (.sl (.int .u8)) (.pair (.int .i64) (.bool)))))),0,[],64⟩),(27,⟨.st (.pair (.st (.pair (.int .u8) (.pair (.int .i64) (.pair (.int .u8) (.pair (.sl (.int .u8)) (.pair (.int .i64) (.bool))))))) (.pair (.st (.pair (.int .u8) (.pair (.int .i64) (.pair (.int .u8) (.pair (.sl (.int .u8)) (.pair (.int .i64) (.bool))))))) (.pair (.bool) (.pair (.str) (.pair (.st (.pair (.int .u8) (.pair (.int .i64) (.pair (.int .u8) (.pair (.sl (.int .u8)) (.pair (.int .i64) (.bool))))))) (.pair (.int .u8) (.pair (.int .i64) (.pair (.sl (.int .u8)) (.pair (.sl (.int .u8)) (.bool)))))))))),0,[],288⟩),(30,⟨.int .i64,0,[],8⟩),(37,⟨.arr 26 (.int .i64),0,[],208⟩),(39,⟨.st (.pair (.arr 26 (.int .i64)) (.int .i64)),0,[],216⟩),(41,⟨.st (.pair (.bool) (.pair (.bool) (.sl (.int .u8)))),0,[],32⟩),(42,⟨.arr 9 (.st (.pair (.bool) (.pair (.bool) (.sl (.int .u8))))),0,[],288⟩),(43,⟨.arr 26 (.st (.pair (.bool) (.pair (.bool) (.sl (.int .u8))))),0,[],832⟩),(45,⟨.st (.pair (.st (.pair (.bool) (.pair (.bool) (.sl (.int .u8))))) (.pair (.st (.pair (.bool) (.pair (.bool) (.sl (.int .u8))))) (.pair (.arr 9 (.st (.pair (.bool) (.pair (.bool) (.sl (.int .u8)))))) (.arr 26 (.st (.pair (.bool) (.pair (.bool) (.sl (.int .u8))))))))),0,[],1184⟩),(48,⟨.sl (.st (.pair (.int .i64) (.pair (.sl (.int .u8)) (.sl (.int .u8))))),75,[],24⟩),(50,⟨.st (.pair (.sl (.st (.pair (.int .i64) (.pair (.sl (.int .u8)) (.sl (.int .u8)))))) (.pair (.int .i64) (.pair (.st (.pair (.bool) (.pair (.bool) (.sl (.int .u8))))) (.pair (.int .i64) (.bool))))),0,[],80⟩),(61,⟨.sl (.sl (.int .u8)),22,[],24⟩),(69,⟨.sl (.str),9,[],24⟩),(75,⟨.st (.pair (.int .i64) (.pair (.sl (.int .u8)) (.sl (.int .u8)))),0,[],56⟩),(85,⟨.st (.int .i64),1,[],8⟩),(89,⟨.st (.pair (.sl (.int .u8)) (.int .i64)),0,[],32⟩),(108,⟨.st (.pair (.sl (.int .u8)) (.pair (.int .i64) (.pair (.int .i64) (.pair (.int .i64) (.pair (.st (.pair (.arr 26 (.int .i64)) (.int .i64))) (.pair (.st (.pair (.st (.pair (.bool) (.pair (.bool) (.sl (.int .u8))))) (.pair (.st (.pair (.bool) (.pair (.bool) (.sl (.int .u8))))) (.pair (.arr 9 (.st (.pair (.bool) (.pair (.bool) (.sl (.int .u8)))))) (.arr 26 (.st (.pair (.bool) (.pair (.bool) (.sl (.int .u8)))))))))) (.pair (.sl (.int .u8)) (.pair (.st (.pair (.st (.pair (.int .u8) (.pair (.int .i64) (.pair (.int .u8) (.pair (.sl (.int .u8)) (.pair (.int .i64) (.bool))))))) (.pair (.st (.pair (.int .u8) (.pair (.int .i64) (.pair (.int .u8) (.pair (.sl (.int .u8)) (.pair (.int .i64) (.bool))))))) (.pair (.bool) (.pair (.str) (.pair (.st (.pair (.int .u8) (.pair (.int .i64) (.pair (.int .u8) (.pair (.sl (.int .u8)) (.pair (.int .i64) (.bool))))))) (.pair (.int .u8) (.pair (.int .i64) (.pair (.sl (.int .u8)) (.pair (.sl (.int .u8)) (.bool))))))))))) (.pair (.int .i64) (.int .i64)))))))))),0,[],1776⟩),(136,⟨.int .u64,0,[],8⟩),(145,⟨.st (.pair (.int .i64) (.pair (.int .i64) (.pair (.bool) (.bool)))),1,[],24⟩),(172,⟨.int .u32,0,[],4⟩),(175,⟨.int .u64,0,[],8⟩),(237,⟨.st (.pair (.sl (.int .u8)) (.pair (.int .i64) (.pair (.st (.pair (.int .i64) (.pair (.int .i64) (.pair (.bool) (.bool))))) (.pair (.int .i64) (.pair (.int .i64) (.int .i64)))))),0,[],80⟩),(254,⟨.arr 24 (.int .u8),0,[],24⟩),(259,⟨.sl (.int .i64),3,[],24⟩),(278,⟨.arr 20 (.int .u64),0,[],160⟩),(279,⟨.arr 65 (.int .u8),0,[],65⟩),(291,⟨.arr 256 (.int .u8),0,[],256⟩),(293,⟨.st (.pair (.int .u8) (.int .u8)),1,[],2⟩),(294,⟨.arr 16 (.st (.pair (.int .u8) (.int .u8))),0,[],32⟩),(299,⟨.arr 32 (.int .u8),0,[],32⟩),(300,⟨.arr 64 (.int .u8),0,[],64⟩)]
theorem tb_M:Tryz.prog.follows .mixedOrders=true:=by kernel_rfl
theorem ty_2:TySem Tryz.prog tb 2 ⟨.int .i64,0,[],8⟩:=TySem.ofInt (by kernel_rfl) (by kernel_rfl) rfl
theorem ty_3:TySem Tryz.prog tb 3 ⟨.int .i64,0,[],8⟩:=TySem.ofInt (by kernel_rfl) (by kernel_rfl) rfl
theorem ty_4:TySem Tryz.prog tb 4 ⟨.bool,0,[],1⟩:=TySem.ofBool (by kernel_rfl) (by kernel_rfl) rfl
theorem ty_5:TySem Tryz.prog tb 5 ⟨.int .u8,0,[],1⟩:=TySem.ofInt (by kernel_rfl) (by kernel_rfl) rfl
theorem ty_9:TySem Tryz.prog tb 9 ⟨.str,0,[],16⟩:=TySem.ofStr (by kernel_rfl) (by kernel_rfl) rfl
theorem ty_21:TySem Tryz.prog tb 21 ⟨.int .i32,0,[],4⟩:=TySem.ofInt (by kernel_rfl) (by kernel_rfl) rfl
theorem ty_22:TySem Tryz.prog tb 22 ⟨.sl (.int .u8),5,[],24⟩:=TySem.ofSl (by kernel_rfl) (by kernel_rfl) rfl (by kernel_rfl)
theorem ty_25:TySem Tryz.prog tb 25 ⟨.st (.pair (.int .u8) (.pair (.int .i64) (.pair (.int .u8) (.pair (.sl (.int .u8)) (.pair (.int .i64) (.bool)))))),0,[],64⟩:=TySem.ofSt (c:=6) (by kernel_rfl) (by kernel_rfl) (by kernel_rfl) rfl (by kernel_rfl)
theorem ty_27:TySem Tryz.prog tb 27 ⟨.st (.pair (.st (.pair (.int .u8) (.pair (.int .i64) (.pair (.int .u8) (.pair (.sl (.int .u8)) (.pair (.int .i64) (.bool))))))) (.pair (.st (.pair (.int .u8) (.pair (.int .i64) (.pair (.int .u8) (.pair (.sl (.int .u8)) (.pair (.int .i64) (.bool))))))) (.pair (.bool) (.pair (.str) (.pair (.st (.pair (.int .u8) (.pair (.int .i64) (.pair (.int .u8) (.pair (.sl (.int .u8)) (.pair (.int .i64) (.bool))))))) (.pair (.int .u8) (.pair (.int .i64) (.pair (.sl (.int .u8)) (.pair (.sl (.int .u8)) (.bool)))))))))),0,[],288⟩:=TySem.ofSt (c:=25) (by kernel_rfl) (by kernel_rfl) (by kernel_rfl) rfl (by kernel_rfl)
theorem ty_30:TySem Tryz.prog tb 30 ⟨.int .i64,0,[],8⟩:=TySem.ofInt (by kernel_rfl) (by kernel_rfl) rfl
theorem ty_37:TySem Tryz.prog tb 37 ⟨.arr 26 (.int .i64),0,[],208⟩:=TySem.ofArr (by kernel_rfl) rfl (by kernel_rfl) rfl
theorem ty_39:TySem Tryz.prog tb 39 ⟨.st (.pair (.arr 26 (.int .i64)) (.int .i64)),0,[],216⟩:=TySem.ofSt (c:=27) (by kernel_rfl) (by kernel_rfl) (by kernel_rfl) rfl (by kernel_rfl)
theorem ty_41:TySem Tryz.prog tb 41 ⟨.st (.pair (.bool) (.pair (.bool) (.sl (.int .u8)))),0,[],32⟩:=TySem.ofSt (c:=3) (by kernel_rfl) (by kernel_rfl) (by kernel_rfl) rfl (by kernel_rfl)
theorem ty_42:TySem Tryz.prog tb 42 ⟨.arr 9 (.st (.pair (.bool) (.pair (.bool) (.sl (.int .u8))))),0,[],288⟩:=TySem.ofArr (by kernel_rfl) rfl (by kernel_rfl) rfl
theorem ty_43:TySem Tryz.prog tb 43 ⟨.arr 26 (.st (.pair (.bool) (.pair (.bool) (.sl (.int .u8))))),0,[],832⟩:=TySem.ofArr (by kernel_rfl) rfl (by kernel_rfl) rfl
theorem ty_45:TySem Tryz.prog tb 45 ⟨.st (.pair (.st (.pair (.bool) (.pair (.bool) (.sl (.int .u8))))) (.pair (.st (.pair (.bool) (.pair (.bool) (.sl (.int .u8))))) (.pair (.arr 9 (.st (.pair (.bool) (.pair (.bool) (.sl (.int .u8)))))) (.arr 26 (.st (.pair (.bool) (.pair (.bool) (.sl (.int .u8))))))))),0,[],1184⟩:=TySem.ofSt (c:=111) (by kernel_rfl) (by kernel_rfl) (by kernel_rfl) rfl (by kernel_rfl)
theorem ty_48:TySem Tryz.prog tb 48 ⟨.sl (.st (.pair (.int .i64) (.pair (.sl (.int .u8)) (.sl (.int .u8))))),75,[],24⟩:=TySem.ofSl (by kernel_rfl) (by kernel_rfl) rfl (by kernel_rfl)
theorem ty_50:TySem Tryz.prog tb 50 ⟨.st (.pair (.sl (.st (.pair (.int .i64) (.pair (.sl (.int .u8)) (.sl (.int .u8)))))) (.pair (.int .i64) (.pair (.st (.pair (.bool) (.pair (.bool) (.sl (.int .u8))))) (.pair (.int .i64) (.bool))))),0,[],80⟩:=TySem.ofSt (c:=7) (by kernel_rfl) (by kernel_rfl) (by kernel_rfl) rfl (by kernel_rfl)
theorem ty_61:TySem Tryz.prog tb 61 ⟨.sl (.sl (.int .u8)),22,[],24⟩:=TySem.ofSl (by kernel_rfl) (by kernel_rfl) rfl (by kernel_rfl)
theorem ty_69:TySem Tryz.prog tb 69 ⟨.sl (.str),9,[],24⟩:=TySem.ofSl (by kernel_rfl) (by kernel_rfl) rfl (by kernel_rfl)
theorem ty_75:TySem Tryz.prog tb 75 ⟨.st (.pair (.int .i64) (.pair (.sl (.int .u8)) (.sl (.int .u8)))),0,[],56⟩:=TySem.ofSt (c:=3) (by kernel_rfl) (by kernel_rfl) (by kernel_rfl) rfl (by kernel_rfl)
theorem ty_85:TySem Tryz.prog tb 85 ⟨.st (.int .i64),1,[],8⟩:=TySem.ofStE (c:=1) (by kernel_rfl) (by kernel_rfl) (by kernel_rfl) rfl (by kernel_rfl) (by kernel_rfl)
theorem ty_89:TySem Tryz.prog tb 89 ⟨.st (.pair (.sl (.int .u8)) (.int .i64)),0,[],32⟩:=TySem.ofSt (c:=2) (by kernel_rfl) (by kernel_rfl) (by kernel_rfl) rfl (by kernel_rfl)
theorem ty_108:TySem Tryz.prog tb 108 ⟨.st (.pair (.sl (.int .u8)) (.pair (.int .i64) (.pair (.int .i64) (.pair (.int .i64) (.pair (.st (.pair (.arr 26 (.int .i64)) (.int .i64))) (.pair (.st (.pair (.st (.pair (.bool) (.pair (.bool) (.sl (.int .u8))))) (.pair (.st (.pair (.bool) (.pair (.bool) (.sl (.int .u8))))) (.pair (.arr 9 (.st (.pair (.bool) (.pair (.bool) (.sl (.int .u8)))))) (.arr 26 (.st (.pair (.bool) (.pair (.bool) (.sl (.int .u8)))))))))) (.pair (.sl (.int .u8)) (.pair (.st (.pair (.st (.pair (.int .u8) (.pair (.int .i64) (.pair (.int .u8) (.pair (.sl (.int .u8)) (.pair (.int .i64) (.bool))))))) (.pair (.st (.pair (.int .u8) (.pair (.int .i64) (.pair (.int .u8) (.pair (.sl (.int .u8)) (.pair (.int .i64) (.bool))))))) (.pair (.bool) (.pair (.str) (.pair (.st (.pair (.int .u8) (.pair (.int .i64) (.pair (.int .u8) (.pair (.sl (.int .u8)) (.pair (.int .i64) (.bool))))))) (.pair (.int .u8) (.pair (.int .i64) (.pair (.sl (.int .u8)) (.pair (.sl (.int .u8)) (.bool))))))))))) (.pair (.int .i64) (.int .i64)))))))))),0,[],1776⟩:=TySem.ofSt (c:=170) (by kernel_rfl) (by kernel_rfl) (by kernel_rfl) rfl (by kernel_rfl)
theorem ty_136:TySem Tryz.prog tb 136 ⟨.int .u64,0,[],8⟩:=TySem.ofInt (by kernel_rfl) (by kernel_rfl) rfl
theorem ty_145:TySem Tryz.prog tb 145 ⟨.st (.pair (.int .i64) (.pair (.int .i64) (.pair (.bool) (.bool)))),1,[],24⟩:=TySem.ofStE (c:=4) (by kernel_rfl) (by kernel_rfl) (by kernel_rfl) rfl (by kernel_rfl) (by kernel_rfl)
theorem ty_172:TySem Tryz.prog tb 172 ⟨.int .u32,0,[],4⟩:=TySem.ofInt (by kernel_rfl) (by kernel_rfl) rfl
theorem ty_175:TySem Tryz.prog tb 175 ⟨.int .u64,0,[],8⟩:=TySem.ofInt (by kernel_rfl) (by kernel_rfl) rfl
theorem ty_237:TySem Tryz.prog tb 237 ⟨.st (.pair (.sl (.int .u8)) (.pair (.int .i64) (.pair (.st (.pair (.int .i64) (.pair (.int .i64) (.pair (.bool) (.bool))))) (.pair (.int .i64) (.pair (.int .i64) (.int .i64)))))),0,[],80⟩:=TySem.ofSt (c:=9) (by kernel_rfl) (by kernel_rfl) (by kernel_rfl) rfl (by kernel_rfl)
theorem ty_254:TySem Tryz.prog tb 254 ⟨.arr 24 (.int .u8),0,[],24⟩:=TySem.ofArr (by kernel_rfl) rfl (by kernel_rfl) rfl
theorem ty_259:TySem Tryz.prog tb 259 ⟨.sl (.int .i64),3,[],24⟩:=TySem.ofSl (by kernel_rfl) (by kernel_rfl) rfl (by kernel_rfl)
theorem ty_278:TySem Tryz.prog tb 278 ⟨.arr 20 (.int .u64),0,[],160⟩:=TySem.ofArr (by kernel_rfl) rfl (by kernel_rfl) rfl
theorem ty_279:TySem Tryz.prog tb 279 ⟨.arr 65 (.int .u8),0,[],65⟩:=TySem.ofArr (by kernel_rfl) rfl (by kernel_rfl) rfl
theorem ty_291:TySem Tryz.prog tb 291 ⟨.arr 256 (.int .u8),0,[],256⟩:=TySem.ofArr (by kernel_rfl) rfl (by kernel_rfl) rfl
theorem ty_293:TySem Tryz.prog tb 293 ⟨.st (.pair (.int .u8) (.int .u8)),1,[],2⟩:=TySem.ofStE (c:=2) (by kernel_rfl) (by kernel_rfl) (by kernel_rfl) rfl (by kernel_rfl) (by kernel_rfl)
theorem ty_294:TySem Tryz.prog tb 294 ⟨.arr 16 (.st (.pair (.int .u8) (.int .u8))),0,[],32⟩:=TySem.ofArr (by kernel_rfl) rfl (by kernel_rfl) rfl
theorem ty_299:TySem Tryz.prog tb 299 ⟨.arr 32 (.int .u8),0,[],32⟩:=TySem.ofArr (by kernel_rfl) rfl (by kernel_rfl) rfl
theorem ty_300:TySem Tryz.prog tb 300 ⟨.arr 64 (.int .u8),0,[],64⟩:=TySem.ofArr (by kernel_rfl) rfl (by kernel_rfl) rfl
theorem tb_ok:TabOk Tryz.prog tb:=TabOk.of (all_cons ty_2 (all_cons ty_3 (all_cons ty_4 (all_cons ty_5 (all_cons ty_9 (all_cons ty_21 (all_cons ty_22 (all_cons ty_25 (all_cons ty_27 (all_cons ty_30 (all_cons ty_37 (all_cons ty_39 (all_cons ty_41 (all_cons ty_42 (all_cons ty_43 (all_cons ty_45 (all_cons ty_48 (all_cons ty_50 (all_cons ty_61 (all_cons ty_69 (all_cons ty_75 (all_cons ty_85 (all_cons ty_89 (all_cons ty_108 (all_cons ty_136 (all_cons ty_145 (all_cons ty_172 (all_cons ty_175 (all_cons ty_237 (all_cons ty_254 (all_cons ty_259 (all_cons ty_278 (all_cons ty_279 (all_cons ty_291 (all_cons ty_293 (all_cons ty_294 (all_cons ty_299 (all_cons ty_300 (all_nil)))))))))))))))))))))))))))))))))))))))
end Go.VE
namespace Go.VE
set_option maxRecDepth 20000
open Go Go.Proofs
def q43_G:List (Nat×App):=[]
theorem q43_Gok:GOk Tryz.prog (getG q43_G):=GOk.nil
def q43_raw (b0:Int) (K:Res→List Cell→Prop):Prop:=
 bif (decide ((48:Int)≤b0)) then
 K (.one (.v .bool (decide (b0≤(57:Int))))) []
 else
 K (.one (.v .bool false)) []
def q43_A:List AS:=[.v yU]

def q43_F (b0:Int):Bool:=
 bif (decide ((48:Int)≤b0)) then
 (decide (b0≤(57:Int)))
 else
 false
theorem q43_sp (b0:Int) (K:Res→List Cell→Prop) (_:wfA q43_A (b0,())) (h:∀ r:Bool,r=q43_F b0→K (.one (.v .bool r)) []):q43_raw b0 K:=
 br0 h (fun _ h=>h _ rfl)
 fun _ h=>h _ rfl
def q43_C (v:valsA q43_A) (K:Res→List Cell→Prop):Prop:=∀ r:Bool,r=q43_F v.1→K (.one (.v .bool r)) []
def q43_S:App:=specW q43_A q43_C
theorem q43_wv (K:Res→List Cell→Prop):∀ v:valsA q43_A,runF tb (getG q43_G) [] Tryz.f224 [true] (mkA q43_A v) K=q43_raw v.1 K
  | (b0,())=>by kernel_rfl
theorem q43_ok:AppOk Tryz.prog 224 q43_S:=
  AppOk.specW (spec_ok ((runF_ok tb_M tb_ok q43_Gok (LabsOk.nil) (f:=224) (fn:=Tryz.f224) (by kernel_rfl) (by kernel_rfl) (by kernel_rfl) [true])) fun v K hw h=>(q43_wv K v).mpr (q43_sp v.1 K hw h))

end Go.VE
namespace Go.VE

def bls:List Int→Nat
  | []=>0
  | b::r=>if b=32∨b=9 then bls r+1 else 0
theorem bls_le:∀ s,bls s≤s.length
  | []=>Nat.le_refl _
  | b::r=>by have:=bls_le r; unfold bls; split <;> simp <;> omega

def isDg (b:Int):Bool:=decide (48≤b∧b≤57)
def dgs:List Int→Nat
  | []=>0
  | b::r=>if isDg b then dgs r+1 else 0
theorem dgs_le:∀ s,dgs s≤s.length
  | []=>Nat.le_refl _
  | b::r=>by have:=dgs_le r; unfold dgs; split <;> simp <;> omega
def dval:Int→List Int→Int
  | a,[]=>a
  | a,b::r=>dval (a * 10+(b - 48)) r
def dv (s:List Int):Int:=dval 0 (s.take (min (dgs s) 9))

def clo:List Int→Int→Nat
  | [],_=>0
  | [b],s=>if b=92 then 1 else if b=s then 0 else 1
  | b::c::r,s=>if b=92 then clo r s+2 else if b=s then 0 else clo (c::r) s+1
theorem clo_le:∀ s c,clo s c≤s.length
  | [],_=>Nat.le_refl _
  | [b],s=>by unfold clo; split <;> (try split) <;> simp
  | b::c::r,s=>by
    have h1:=clo_le r s; have h2:=clo_le (c::r) s
    unfold clo
    simp only [List.length_cons] at h2 ⊢
    split <;> (try split) <;> omega
def alo:List Int→Bool
  | []=>false
  | [b]=>decide (b=92)
  | b::c::r=>if b=92 then alo r else alo (c::r)
def who:List Int→Int→Bool
  | [],_=>true
  | [b],s=>!(decide (b=s) || decide (b=92))
  | b::c::r,s=>if b=s then false else if b=92 then who r s else who (c::r) s
def sou:List Int→Int→Nat
  | [],_=>0
  | [b],s=>if b=s then 0 else 1
  | b::c::r,s=>if b=s then 0 else if b=92 then sou r s+2 else sou (c::r) s+1
theorem sou_le:∀ s c,sou s c≤s.length
  | [],_=>Nat.le_refl _
  | [b],s=>by unfold sou; split <;> simp
  | b::c::r,s=>by
    have h1:=sou_le r s; have h2:=sou_le (c::r) s
    unfold sou
    simp only [List.length_cons] at h2 ⊢
    split <;> (try split) <;> omega

theorem bls_cons (b:Int) (r:List Int):bls (b::r)=if b=32∨b=9 then bls r+1 else 0:=rfl
theorem dgs_cons (b:Int) (r:List Int):dgs (b::r)=if isDg b then dgs r+1 else 0:=rfl
theorem dval_snoc:∀ (l:List Int) (a b:Int),dval a (l++[b])=dval a l * 10+(b - 48)
  | [],a,b=>rfl
  | c::l,a,b=>dval_snoc l _ b
theorem clo_cons (b:Int) (r:List Int) (s:Int):clo (b::r) s=if b=92 then (match r with | []=>1 | _::r=>clo r s+2) else if b=s then 0 else clo r s+1:=by
  cases r with
  | nil=>unfold clo; rfl
  | cons c r=>conv=>lhs; unfold clo
theorem alo_cons (b:Int) (r:List Int):alo (b::r)=(match r with | []=>decide (b=92) | _::r'=>if b=92 then alo r' else alo r):=by
  cases r with
  | nil=>rfl
  | cons c r=>conv=>lhs; unfold alo
theorem alo_ne {b:Int} {r:List Int} (h:¬ b=92):alo (b::r)=alo r:=by
  rw [alo_cons]
  cases r with
  | nil=>simp [h,alo]
  | cons c r=>dsimp only; rw [if_neg h]
theorem who_cons (b:Int) (r:List Int) (s:Int):who (b::r) s=if b=s then false else if b=92 then (match r with | []=>false | _::r=>who r s) else who r s:=by
  cases r with
  | nil=>unfold who; by_cases h1:b=s <;> by_cases h2:b=92 <;> simp [h1,h2]; all_goals (try unfold who); all_goals (try rfl)
  | cons c r=>conv=>lhs; unfold who
theorem sou_cons (b:Int) (r:List Int) (s:Int):sou (b::r) s=if b=s then 0 else if b=92 then (match r with | []=>1 | _::r=>sou r s+2) else sou r s+1:=by
  cases r with
  | nil=>unfold sou; by_cases h1:b=s <;> by_cases h2:b=92 <;> simp [h1,h2]; all_goals (try unfold sou); all_goals (try rfl)
  | cons c r=>conv=>lhs; unfold sou

theorem rd_drop {xs:List Int} {i:Nat} (h:i<xs.length):rd (0:Int) xs (i:Int)=xs[i]:=by show xs.getD (i:Int).toNat 0=_; rw [Int.toNat_natCast]; simp [h]
theorem dropc {xs:List Int} {i:Nat} (h:i<xs.length):xs.drop i=xs[i]::xs.drop (i+1):=List.drop_eq_getElem_cons h

theorem isDg_of {b:Int} (h:isDg b=true):48≤b∧b≤57:=of_decide_eq_true h
theorem dgs_get:∀ (s:List Int) (i:Nat) (h:i<s.length),i<dgs s→isDg s[i]=true
  | b::r,0,_,h=>by
    rw [dgs_cons] at h
    split at h
    · assumption
    · exact absurd h (Nat.not_lt_zero _)
  | b::r,i+1,h1,h=>by
    rw [dgs_cons] at h
    split at h
    · exact dgs_get r i (by simpa using h1) (by omega)
    · exact absurd h (Nat.not_lt_zero _)
theorem dval_take (s:List Int):∀ (i:Nat),i≤dgs s→0≤dval 0 (s.take i)∧dval 0 (s.take i)<10 ^ i
  | 0,_=>by simp [dval]
  | i+1,h=>by
    have hl:=dgs_le s
    have hi:i<s.length:=by omega
    obtain ⟨h1,h2⟩:=dval_take s i (by omega)
    obtain ⟨h3,h4⟩:=isDg_of (dgs_get s i hi (by omega))
    rw [List.take_succ_eq_append_getElem hi,dval_snoc,Int.pow_succ]
    omega
theorem dgs_drop:∀ (s:List Int) (i:Nat),i≤dgs s→dgs s=i+dgs (s.drop i)
  | s,0,_=>by simp
  | [],i+1,h=>absurd h (Nat.not_succ_le_zero _)
  | b::r,i+1,h=>by
    rw [dgs_cons] at h ⊢
    split at h
    · rename_i hb
      rw [if_pos hb,List.drop_succ_cons,dgs_drop r i (by omega)]
      have:=dgs_drop r i (by omega); omega
    · exact absurd h (Nat.not_succ_le_zero _)
theorem pow9 {i:Nat} (h:i≤9):(10:Int) ^ i≤1000000000:=by
  have:i=0∨i=1∨i=2∨i=3∨i=4∨i=5∨i=6∨i=7∨i=8∨i=9:=by omega
  rcases this with h | h | h | h | h | h | h | h | h | h <;> subst h <;> decide

def adds:Nat→List Int→Int→Bool→Option (Nat×Int×Bool)
  | 0,_,_,_=>none
  | _+1,[],a,g=>some (0,a,g)
  | f+1,b::r,a,g=>if b=43∨b=45 then
      (if dgs r≤9 then
        (match adds f (r.drop (dgs r)) (IntKind.wrap .i64 (a+(if b=45 then -(if dgs r=0 then 1 else dv r) else (if dgs r=0 then 1 else dv r)))) true with
          | some (m,a',g')=>some (1+dgs r+m,a',g')
          | none=>none)
      else none)
    else some (0,a,g)
theorem adds_fuel:∀ (f f':Nat) (s:List Int) (a:Int) (g:Bool),s.length<f→s.length<f'→adds f s a g=adds f' s a g
  | 0,_,_,_,_,h,_=>absurd h (Nat.not_lt_zero _)
  | _+1,0,_,_,_,_,h=>absurd h (Nat.not_lt_zero _)
  | f+1,f'+1,[],a,g,_,_=>rfl
  | f+1,f'+1,b::r,a,g,h,h'=>by
    unfold adds
    rw [adds_fuel f f' (r.drop (dgs r)) _ true (by simp only [List.length_drop,List.length_cons] at h ⊢; omega) (by simp only [List.length_drop,List.length_cons] at h' ⊢; omega)]
theorem adds_le:∀ (f:Nat) (s:List Int) (a:Int) (g:Bool) (m:Nat) (a':Int) (g':Bool),adds f s a g=some (m,a',g')→m≤s.length
  | 0,_,_,_,_,_,_,h=>by cases h
  | f+1,[],a,g,m,a',g',h=>by
    simp only [adds,Option.some.injEq,Prod.mk.injEq] at h
    rw [← h.1]; exact Nat.le_refl _
  | f+1,b::r,a,g,m,a',g',h=>by
    unfold adds at h
    split at h
    · split at h
      · split at h
        · rename_i m2 a2 g2 h2
          simp only [Option.some.injEq,Prod.mk.injEq] at h
          have:=adds_le f _ _ _ _ _ _ h2
          have:=dgs_le r
          simp only [List.length_drop,List.length_cons] at *
          omega
        · cases h
      · cases h
    · simp only [Option.some.injEq,Prod.mk.injEq] at h
      rw [← h.1]; exact Nat.zero_le _
abbrev Adr:=Int×Int×Int×List Int×Int×Bool
def adr0:Adr:=(0,0,0,[],0,false)
def adrA (x:Adr) (a:Int) (g:Bool):Adr:=(x.1,x.2.1,x.2.2.1,x.2.2.2.1,a,g)
def addsAt (s:List Int) (at':Int) (x:Adr) (y:Adr):(Int×Int×Adr)⊕(Int×Adr×Adr):=
  match adds (s.length+1) (s.drop at'.toNat) y.2.2.2.2.1 y.2.2.2.2.2 with
  | none=>.inl (0,230,adr0)
  | some (m,a,g)=>.inr (at'+m,x,adrA y a g)

def decL:Nat→Nat→List Int
  | 0,_=>[]
  | k+1,n=>if n<10 then [48+(n:Int)] else decL k (n / 10)++[48+((n % 10:Nat):Int)]
theorem decL_len:∀ (k n:Nat),(decL k n).length≤k
  | 0,_=>Nat.le_refl 0
  | k+1,n=>by
    unfold decL
    split
    · simp
    · have:=decL_len k (n / 10); rw [List.length_append]; simp only [List.length_cons,List.length_nil]; omega
theorem decL_more:∀ (k n:Nat),n<10 ^ k→0<k→decL (k+1) n=decL k n
  | 0,n,h,h0=>absurd h0 (Nat.lt_irrefl 0)
  | 1,n,h,_=>by
    unfold decL
    rw [if_pos (by omega),if_pos (by omega)]
  | k+2,n,h,_=>by
    rw [show decL (k+2+1) n=if n<10 then [48+(n:Int)] else decL (k+2) (n / 10)++[48+((n % 10:Nat):Int)] from rfl,
      show decL (k+2) n=if n<10 then [48+(n:Int)] else decL (k+1) (n / 10)++[48+((n % 10:Nat):Int)] from rfl]
    split
    · rfl
    · rw [decL_more (k+1) (n / 10) (by rw [Nat.pow_succ] at h; omega) (by omega)]
def dec (n:Nat):List Int:=decL 10 n
theorem dec_small {n:Nat} (h:n<10):dec n=[48+(n:Int)]:=by unfold dec decL; rw [if_pos h]
theorem dec_great {n:Nat} (h:10≤n) (h2:n<10000000000):dec n=dec (n / 10)++[48+((n % 10:Nat):Int)]:=by
  unfold dec
  rw [show decL 10 n=if n<10 then [48+(n:Int)] else decL 9 (n / 10)++[48+((n % 10:Nat):Int)] from rfl,if_neg (by omega),decL_more 9 (n / 10) (by omega) (by omega)]
def cnt:Int→List Int→Int
  | a,[]=>a
  | a,b::r=>if isDg b then cnt (if 9999<a * 10+(b - 48) then 9999 else a * 10+(b - 48)) r else a
theorem cnt_cons (a b:Int) (r:List Int):cnt a (b::r)=if isDg b then cnt (if 9999<a * 10+(b - 48) then 9999 else a * 10+(b - 48)) r else a:=rfl
theorem cnt_range:∀ (s:List Int) (a:Int),0≤a→a≤9999→0≤cnt a s∧cnt a s≤9999
  | [],a,h1,h2=>⟨h1,h2⟩
  | b::r,a,h1,h2=>by
    rw [cnt_cons]
    split
    · rename_i hb
      have:=isDg_of hb
      refine cnt_range r _ ?_ ?_ <;> split <;> omega
    · exact ⟨h1,h2⟩
def reps (b:Int):List Int→Nat
  | []=>0
  | c::r=>if c=b then reps b r+1 else 0
theorem reps_cons (b c:Int) (r:List Int):reps b (c::r)=if c=b then reps b r+1 else 0:=rfl
theorem reps_le (b:Int):∀ s,reps b s≤s.length
  | []=>Nat.le_refl _
  | c::r=>by have:=reps_le b r; rw [reps_cons]; split <;> simp <;> omega

abbrev ExD:=Adr×Adr×Bool×List Int×Adr×Int×Int×List Int×List Int×Bool
def exN (x:ExD) (n:Int):ExD:=(x.1,x.2.1,x.2.2.1,x.2.2.2.1,x.2.2.2.2.1,x.2.2.2.2.2.1,n,x.2.2.2.2.2.2.2.1,x.2.2.2.2.2.2.2.2.1,x.2.2.2.2.2.2.2.2.2)
end Go.VE
namespace Go.VE
set_option maxRecDepth 20000
open Go Go.Proofs
def q50_G:List (Nat×App):=[(224,q43_S)]
theorem q50_Gok:GOk Tryz.prog (getG q50_G):=GOk.cons q43_ok (GOk.nil)
theorem q50_st:storesC (bodyOf Tryz.f194)=true:=by kernel_rfl
def q50_d0:List LS:=[.v 0 yB,.v 5 yI,.v 6 yI]
def q50_d0r:List LS:=[.v 2 yI,.v 3 yI,.v 4 .bool]
def q50_d0x0:List LS:=[.v 5 yI,.v 6 yI]
def q50_dx0:DX:=⟨none,some q50_d0r,[(0,q50_d0x0)]⟩
def q50_y0r (k:Ex→St→Prop) (x2:Int) (x3:Int) (x4:Bool):Prop:=wfD q50_d0r (x2,x3,x4,())→k .ret (mkD 33 q50_d0r (x2,x3,x4,()))
def q50_y0x0 (k:Ex→St→Prop) (n5:Int) (i6:Int):Prop:=wfD q50_d0x0 (n5,i6,())→k (.exit 0) (mkD 33 q50_d0x0 (n5,i6,()))
def q50_T0 (Y:LI→Int→Int→Prop) (kr:Int→Int→Bool→Prop) (kx0:Int→Int→Prop) (line0:LI) (n5:Int) (i6:Int):Prop:=
 bif (decide (i6<(List.length line0:Int))) then
 bif decide (0≤i6∧i6<(List.length line0:Int)) then
 ∀ (r1:Bool),r1=q43_F (rd (0:Int) line0 i6)→(
 wB r1→(
 bif r1 then
 bif (decide (i6=(9:Int))) then
 kr (0:Int) (0:Int) false
 else
 bif decide (0≤i6∧i6<(List.length line0:Int)) then
 Y line0 (IntKind.wrap .i64 ((IntKind.wrap .i64 (n5 * (10:Int)))+(IntKind.wrap .i64 (IntKind.wrap .u8 ((rd (0:Int) line0 i6) - (48:Int)))))) (IntKind.wrap .i64 (i6+(1:Int)))
 else False
 else
 kx0 n5 i6))
 else False
 else
 kx0 n5 i6
def q50_L0 (kr:Int→Int→Bool→Prop) (kx0:Int→Int→Prop):Nat→LI→Int→Int→Prop
  | 0,_,_,_=>False
  | n+1,line0,n5,i6=>wfD q50_d0 (line0,n5,i6,())→q50_T0 (q50_L0 kr kx0 n) kr kx0 line0 n5 i6
def q50_c0:Pce:=ex tb (getG q50_G) [] (at' (bodyOf Tryz.f194) [0,0,0,1,1]) [0,0,0,1,1]
def q50_g0 (k:Ex→St→Prop) (n:Nat) (v:vals q50_d0):Prop:=q50_L0 (q50_y0r k) (q50_y0x0 k) n v.1 v.2.1 v.2.2.1
theorem q50_s0 (k:Ex→St→Prop) (Y:vals q50_d0→Prop):∀ v:vals q50_d0,q50_c0 (mkD 33 q50_d0 v) (lpK 33 q50_d0 q50_dx0 k Y)=q50_T0 (fun line0 n5 i6=>Y (line0,n5,i6,())) (q50_y0r k) (q50_y0x0 k) v.1 v.2.1 v.2.2.1
  | (line0,n5,i6,())=>by kernel_rfl
theorem q50_v0 (k:Ex→St→Prop):∀ (n:Nat) (v:vals q50_d0),lpD 33 q50_d0 q50_dx0 q50_c0 k n v=q50_g0 k n v
  | 0,(line0,n5,i6,())=>rfl
  | n+1,(line0,n5,i6,())=>congrArg (fun Z:Prop=>wfD q50_d0 (line0,n5,i6,())→Z) ((q50_s0 k _ (line0,n5,i6,())).trans (congrArg (fun Y=>q50_T0 Y (q50_y0r k) (q50_y0x0 k) line0 n5 i6) (funext fun line0=>funext fun n5=>funext fun i6=>q50_v0 k n (line0,n5,i6,()))))
def q50_X0:Pce:=fun st k=>ckD 33 q50_d0 st fun v=>wfD q50_d0 v→∃ n,q50_g0 k n v
theorem q50_x0:SemOk Tryz.prog (at' (bodyOf Tryz.f194) [0,0,1,1]) q50_X0:=
  (SemOk.loop (ex_sound tb_M tb_ok q50_Gok (LabsOk.nil) (at' (bodyOf Tryz.f194) [0,0,0,1,1]) [0,0,0,1,1] rfl (storesC_at q50_st [0,0,0,1,1])) 33 q50_d0 q50_dx0).mono fun st k h=>ckD_mono h fun v hv hw=>(hv hw).elim fun n hn=>⟨n,Eq.mpr (q50_v0 k n v) hn⟩
def q50_B0:Labs:=([0,0,1,1],q50_X0)::[]
theorem q50_b0:LabsOk Tryz.prog (bodyOf Tryz.f194) q50_B0:=LabsOk.cons q50_x0 (LabsOk.nil)
def q50_raw (line0:LI) (K:Res→List Cell→Prop):Prop:=
 (wfD q50_d0 (line0,(0:Int),(0:Int),())→∃ n,q50_L0 (fun (x2:Int) (x3:Int) (x4:Bool)=>wfD q50_d0r (x2,x3,x4,())→(
 K (.tup [.v yI x2,.v yI x3,.v .bool x4]) [])) (fun (n5:Int) (i6:Int)=>wfD q50_d0x0 (n5,i6,())→(
 K (.tup [.v yI n5,.v yI i6,.v .bool true]) [])) n line0 (0:Int) (0:Int))
def q50_A:List AS:=[.v yB]
def q50_L0_P (s:LI) (n i:Int):Prop:=n=0∧i=0∧s.length≤lim
def q50_L0_F (s:LI) (_ _:Int):(Int×Int×Bool)⊕(Int×Int):=if dgs s≤9 then .inr (dv s,(dgs s:Int)) else .inl (0,0,false)
theorem q43_eq (b:Int):q43_F b=isDg b:=by
  unfold q43_F isDg
  by_cases h1:48≤b <;> by_cases h2:b≤57 <;> simp [h1,h2]
theorem q50_l0 (kr:Int→Int→Bool→Prop) (kx0:Int→Int→Prop) (s:LI) (hs:s.length≤lim) (hr:9<dgs s→kr 0 0 false) (hx:dgs s≤9→kx0 (dv s) (dgs s)) :
    ∀ (n i:Nat),s.length<n+i→i≤9→i≤dgs s→q50_L0 kr kx0 n s (dval 0 (s.take i)) (i:Int)
  | 0,i,hn,_,hi=>absurd hn (by have:=dgs_le s; omega)
  | n+1,i,hn,h9,hi=>by
    intro _
    unfold q50_T0
    have hlim:lim=1099511627776:=rfl
    have hd:=dgs_drop s i hi
    have hl:=dgs_le s
    have fin:dgs s=i→kx0 (dval 0 (s.take i)) (i:Int):=fun e=>by
      have:=hx (by omega)
      unfold dv at this
      rw [e,show min i 9=i by omega] at this
      exact this
    refine brn (fun hlt=>asrt (by omega) ?_) (fun hge=>fin (by omega))
    have hi':i<s.length:=by omega
    intro r hr2 _
    rw [rd_drop hi',q43_eq] at hr2
    subst hr2
    rw [dropc hi',dgs_cons] at hd
    refine brb (fun hb=>?_) (fun hb=>?_)
    · rw [if_pos hb] at hd
      obtain ⟨b1,b2⟩:=isDg_of hb
      refine brn (fun e9=>hr (by omega)) (fun e9=>asrt (by omega) ?_)
      obtain ⟨v1,v2⟩:=dval_take s i hi
      have v3:=pow9 h9
      rw [rd_drop hi',wrap_u8 (by omega) (by omega),wrap_i64 (n:=s[i] - 48) (by omega) (by omega),wrap_i64 (n:=dval 0 (s.take i) * 10) (by omega) (by omega),wrap_i64 (n:=dval 0 (s.take i) * 10+(s[i] - 48)) (by omega) (by omega),wrap_i64 (by omega) (by omega),show (i:Int)+1=((i+1:Nat):Int) by omega,← dval_snoc,← List.take_succ_eq_append_getElem hi']
      exact q50_l0 kr kx0 s hs hr hx n (i+1) (by omega) (by omega) (by omega)
    · rw [if_neg (by rw [hb]; simp)] at hd
      exact fin (by omega)
theorem q50_L0_sp (kr:Int→Int→Bool→Prop) (kx0:Int→Int→Prop) (s:LI) (n i:Int) (hp:q50_L0_P s n i)
    (hr:∀ q:Int×Int×Bool,q50_L0_F s n i=.inl q→kr q.1 q.2.1 q.2.2) (hx:∀ q:Int×Int,q50_L0_F s n i=.inr q→kx0 q.1 q.2):∃ m,q50_L0 kr kx0 m s n i:=by
  obtain ⟨rfl,rfl,hs⟩:=hp
  refine ⟨s.length+1,q50_l0 kr kx0 s hs (fun h=>hr (0,0,false) ?_) (fun h=>hx (dv s,(dgs s:Int)) ?_) _ 0 (by omega) (by omega) (by omega)⟩
  · unfold q50_L0_F; rw [if_neg (by omega)]
  · unfold q50_L0_F; rw [if_pos h]

def q50_P (line0:LI):Prop:=
 q50_L0_P line0 (0:Int) (0:Int)
def q50_F (line0:LI):Int×Int×Bool:=
 Sum.elim (fun q0r=>
 let x2:Int:=q0r.1
 let x3:Int:=q0r.2.1
 let x4:Bool:=q0r.2.2
 (x2,x3,x4)) (fun q0x0=>
 let n5:Int:=q0x0.1
 let i6:Int:=q0x0.2
 (n5,i6,true)) (q50_L0_F line0 (0:Int) (0:Int))
theorem q50_sp (line0:LI) (K:Res→List Cell→Prop) (_:wfA q50_A (line0,())) (hp:q50_P line0) (h:∀ r:Int×Int×Bool,r=q50_F line0→K (.tup [.v yI r.1,.v yI r.2.1,.v .bool r.2.2]) []):q50_raw line0 K:=
 fun _=>q50_L0_sp _ _ _ _ _ hp
 (fun _ e _=>have h:=sl e h; h _ rfl)
 (fun _ e _=>have h:=sr e h; h _ rfl)
def q50_C (v:valsA q50_A) (K:Res→List Cell→Prop):Prop:=q50_P v.1∧∀ r:Int×Int×Bool,r=q50_F v.1→K (.tup [.v yI r.1,.v yI r.2.1,.v .bool r.2.2]) []
def q50_S:App:=specW q50_A q50_C
theorem q50_wv (K:Res→List Cell→Prop):∀ v:valsA q50_A,runF tb (getG q50_G) q50_B0 Tryz.f194 [true,true,true] (mkA q50_A v) K=q50_raw v.1 K
  | (line0,())=>by kernel_rfl
theorem q50_ok:AppOk Tryz.prog 194 q50_S:=
  AppOk.specW (spec_ok ((runF_ok tb_M tb_ok q50_Gok (q50_b0) (f:=194) (fn:=Tryz.f194) (by kernel_rfl) (by kernel_rfl) q50_st [true,true,true])) fun v K hw h=>(q50_wv K v).mpr (q50_sp v.1 K hw h.1 h.2))

def q44_G:List (Nat×App):=[]
theorem q44_Gok:GOk Tryz.prog (getG q44_G):=GOk.nil
theorem q44_st:storesC (bodyOf Tryz.f139)=true:=by kernel_rfl
def q44_d0:List LS:=[.v 0 yB,.v 1 yU,.v 5 yI]
def q44_d0r:List LS:=[.v 4 yI]
def q44_d0x0:List LS:=[.v 0 yB]
def q44_dx0:DX:=⟨none,some q44_d0r,[(0,q44_d0x0)]⟩
def q44_y0r (k:Ex→St→Prop) (x4:Int):Prop:=wfD q44_d0r (x4,())→k .ret (mkD 26 q44_d0r (x4,()))
def q44_y0x0 (k:Ex→St→Prop) (line0:LI):Prop:=wfD q44_d0x0 (line0,())→k (.exit 0) (mkD 26 q44_d0x0 (line0,()))
def q44_T0 (Y:LI→Int→Int→Prop) (kr:Int→Prop) (kx0:LI→Prop) (line0:LI) (sign1:Int) (i5:Int):Prop:=
 bif (decide (i5<(List.length line0:Int))) then
 bif decide (0≤i5∧i5<(List.length line0:Int)) then
 bif (decide ((rd (0:Int) line0 i5)=(92:Int))) then
 Y line0 sign1 (IntKind.wrap .i64 ((IntKind.wrap .i64 (i5+(1:Int)))+(1:Int)))
 else
 bif (decide ((rd (0:Int) line0 i5)=sign1)) then
 kr i5
 else
 Y line0 sign1 (IntKind.wrap .i64 (i5+(1:Int)))
 else False
 else
 kx0 line0
def q44_L0 (kr:Int→Prop) (kx0:LI→Prop):Nat→LI→Int→Int→Prop
  | 0,_,_,_=>False
  | n+1,line0,sign1,i5=>wfD q44_d0 (line0,sign1,i5,())→q44_T0 (q44_L0 kr kx0 n) kr kx0 line0 sign1 i5
def q44_c0:Pce:=ex tb (getG q44_G) [] (at' (bodyOf Tryz.f139) [0,0,1,0,1]) [0,0,1,0,1]
def q44_g0 (k:Ex→St→Prop) (n:Nat) (v:vals q44_d0):Prop:=q44_L0 (q44_y0r k) (q44_y0x0 k) n v.1 v.2.1 v.2.2.1
theorem q44_s0 (k:Ex→St→Prop) (Y:vals q44_d0→Prop):∀ v:vals q44_d0,q44_c0 (mkD 26 q44_d0 v) (lpK 26 q44_d0 q44_dx0 k Y)=q44_T0 (fun line0 sign1 i5=>Y (line0,sign1,i5,())) (q44_y0r k) (q44_y0x0 k) v.1 v.2.1 v.2.2.1
  | (line0,sign1,i5,())=>by kernel_rfl
theorem q44_v0 (k:Ex→St→Prop):∀ (n:Nat) (v:vals q44_d0),lpD 26 q44_d0 q44_dx0 q44_c0 k n v=q44_g0 k n v
  | 0,(line0,sign1,i5,())=>rfl
  | n+1,(line0,sign1,i5,())=>congrArg (fun Z:Prop=>wfD q44_d0 (line0,sign1,i5,())→Z) ((q44_s0 k _ (line0,sign1,i5,())).trans (congrArg (fun Y=>q44_T0 Y (q44_y0r k) (q44_y0x0 k) line0 sign1 i5) (funext fun line0=>funext fun sign1=>funext fun i5=>q44_v0 k n (line0,sign1,i5,()))))
def q44_X0:Pce:=fun st k=>ckD 26 q44_d0 st fun v=>wfD q44_d0 v→∃ n,q44_g0 k n v
theorem q44_x0:SemOk Tryz.prog (at' (bodyOf Tryz.f139) [0,1,0,1]) q44_X0:=
  (SemOk.loop (ex_sound tb_M tb_ok q44_Gok (LabsOk.nil) (at' (bodyOf Tryz.f139) [0,0,1,0,1]) [0,0,1,0,1] rfl (storesC_at q44_st [0,0,1,0,1])) 26 q44_d0 q44_dx0).mono fun st k h=>ckD_mono h fun v hv hw=>(hv hw).elim fun n hn=>⟨n,Eq.mpr (q44_v0 k n v) hn⟩
def q44_B0:Labs:=([0,1,0,1],q44_X0)::[]
theorem q44_b0:LabsOk Tryz.prog (bodyOf Tryz.f139) q44_B0:=LabsOk.cons q44_x0 (LabsOk.nil)
def q44_raw (line0:LI) (sign1:Int) (K:Res→List Cell→Prop):Prop:=
 (wfD q44_d0 (line0,sign1,(0:Int),())→∃ n,q44_L0 (fun (x4:Int)=>wfD q44_d0r (x4,())→(
 K (.one (.v yI x4)) [])) (fun (line0:LI)=>wfD q44_d0x0 (line0,())→(
 K (.one (.v yI (List.length line0:Int))) [])) n line0 sign1 (0:Int))
def q44_A:List AS:=[.v yB,.v yU]
def q44_L0_P (s:LI) (_ i:Int):Prop:=i=0∧s.length≤lim
def q44_L0_F (s:LI) (c _:Int):Int⊕LI:=if clo s c<s.length then .inl (clo s c:Int) else .inr s
theorem q44_l0 (kr:Int→Prop) (kx0:LI→Prop) (s:LI) (c:Int) (hs:s.length≤lim) :
    ∀ (n i:Nat),s.length+1<n+i→i≤s.length+1→(i+clo (s.drop i) c<s.length→kr ((i+clo (s.drop i) c:Nat):Int))→(s.length≤i+clo (s.drop i) c→kx0 s)→q44_L0 kr kx0 n s c (i:Int)
  | 0,i,hn,hi,hr,hx=>absurd hn (by omega)
  | n+1,i,hn,hi,hr,hx=>by
    intro _
    unfold q44_T0
    have hlim:lim=1099511627776:=rfl
    refine brn (fun hlt=>asrt (by omega) ?_) (fun hge=>hx (by omega))
    have hi':i<s.length:=by omega
    rw [rd_drop hi',wrap_i64 (n:=(i:Int)+1) (by omega) (by omega),wrap_i64 (by omega) (by omega),show (i:Int)+1+1=((i+2:Nat):Int) by omega,show (i:Int)+1=((i+1:Nat):Int) by omega]
    rw [dropc hi',clo_cons] at hr hx
    refine brn (fun h92=>?_) (fun h92=>brn (fun hc=>?_) (fun hc=>?_))
    · rw [if_pos h92] at hr hx
      refine q44_l0 kr kx0 s c hs n (i+2) (by omega) (by omega) ?_ ?_
      · rcases Nat.lt_or_ge (i+1) s.length with h | h
        · rw [dropc h] at hr
          dsimp only at hr
          intro h2
          rw [show i+2+clo (s.drop (i+2)) c=i+(clo (s.drop (i+1+1)) c+2) by rw [show i+1+1=i+2 from rfl]; omega] at h2 ⊢
          exact hr h2
        · intro h2; omega
      · rcases Nat.lt_or_ge (i+1) s.length with h | h
        · rw [dropc h] at hx
          dsimp only at hx
          intro h2
          exact hx (by rw [show i+1+1=i+2 from rfl]; omega)
        · rw [List.drop_eq_nil_of_le h] at hx
          exact fun _=>hx (by dsimp only; omega)
    · rw [if_neg h92,if_pos hc] at hr
      exact hr (by omega)
    · rw [if_neg h92,if_neg hc] at hr hx
      exact q44_l0 kr kx0 s c hs n (i+1) (by omega) (by omega) (fun h2=>by
        rw [show i+1+clo (s.drop (i+1)) c=i+(clo (s.drop (i+1)) c+1) by omega] at h2 ⊢; exact hr h2) (fun h2=>hx (by omega))
theorem q44_L0_sp (kr:Int→Prop) (kx0:LI→Prop) (s:LI) (c i:Int) (hp:q44_L0_P s c i)
    (hr:∀ q:Int,q44_L0_F s c i=.inl q→kr q) (hx:∀ q:LI,q44_L0_F s c i=.inr q→kx0 q):∃ m,q44_L0 kr kx0 m s c i:=by
  obtain ⟨rfl,hs⟩:=hp
  refine ⟨s.length+2,q44_l0 kr kx0 s c hs _ 0 (by omega) (by omega) (fun h=>?_) (fun h=>?_)⟩
  · simp only [List.drop_zero,Nat.zero_add] at h ⊢
    exact hr _ (by unfold q44_L0_F; rw [if_pos h])
  · simp only [List.drop_zero,Nat.zero_add] at h
    exact hx _ (by unfold q44_L0_F; rw [if_neg (by omega)])

def q44_P (line0:LI) (sign1:Int):Prop:=
 q44_L0_P line0 sign1 (0:Int)
def q44_F (line0:LI) (sign1:Int):Int:=
 Sum.elim (fun q0r=>
 let x4:Int:=q0r
 x4) (fun q0x0=>
 let line0:LI:=q0x0
 (List.length line0:Int)) (q44_L0_F line0 sign1 (0:Int))
theorem q44_sp (line0:LI) (sign1:Int) (K:Res→List Cell→Prop) (_:wfA q44_A (line0,sign1,())) (hp:q44_P line0 sign1) (h:∀ r:Int,r=q44_F line0 sign1→K (.one (.v yI r)) []):q44_raw line0 sign1 K:=
 fun _=>q44_L0_sp _ _ _ _ _ hp
 (fun _ e _=>have h:=sl e h; h _ rfl)
 (fun _ e _=>have h:=sr e h; h _ rfl)
def q44_C (v:valsA q44_A) (K:Res→List Cell→Prop):Prop:=q44_P v.1 v.2.1∧∀ r:Int,r=q44_F v.1 v.2.1→K (.one (.v yI r)) []
def q44_S:App:=specW q44_A q44_C
theorem q44_wv (K:Res→List Cell→Prop):∀ v:valsA q44_A,runF tb (getG q44_G) q44_B0 Tryz.f139 [true] (mkA q44_A v) K=q44_raw v.1 v.2.1 K
  | (line0,sign1,())=>by kernel_rfl
theorem q44_ok:AppOk Tryz.prog 139 q44_S:=
  AppOk.specW (spec_ok ((runF_ok tb_M tb_ok q44_Gok (q44_b0) (f:=139) (fn:=Tryz.f139) (by kernel_rfl) (by kernel_rfl) q44_st [true])) fun v K hw h=>(q44_wv K v).mpr (q44_sp v.1 v.2.1 K hw h.1 h.2))

def q55_G:List (Nat×App):=[]
theorem q55_Gok:GOk Tryz.prog (getG q55_G):=GOk.nil
theorem q55_st:storesC (bodyOf Tryz.f225)=true:=by kernel_rfl
def q55_d0:List LS:=[.v 0 yB,.v 3 yI]
def q55_d0r:List LS:=[.v 2 .bool]
def q55_d0x0:List LS:=[]
def q55_dx0:DX:=⟨none,some q55_d0r,[(0,q55_d0x0)]⟩
def q55_y0r (k:Ex→St→Prop) (x2:Bool):Prop:=wfD q55_d0r (x2,())→k .ret (mkD 22 q55_d0r (x2,()))
def q55_y0x0 (k:Ex→St→Prop):Prop:=wfD q55_d0x0 ()→k (.exit 0) (mkD 22 q55_d0x0 ())
def q55_T0 (Y:LI→Int→Prop) (kr:Bool→Prop) (kx0:Prop) (text0:LI) (i3:Int):Prop:=
 bif (decide (i3<(List.length text0:Int))) then
 bif decide (0≤i3∧i3<(List.length text0:Int)) then
 bif (decide ((rd (0:Int) text0 i3)=(92:Int))) then
 bif (decide (i3=(IntKind.wrap .i64 ((List.length text0:Int) - (1:Int))))) then
 kr true
 else
 Y text0 (IntKind.wrap .i64 ((IntKind.wrap .i64 (i3+(1:Int)))+(1:Int)))
 else
 Y text0 (IntKind.wrap .i64 (i3+(1:Int)))
 else False
 else
 kx0
def q55_L0 (kr:Bool→Prop) (kx0:Prop):Nat→LI→Int→Prop
  | 0,_,_=>False
  | n+1,text0,i3=>wfD q55_d0 (text0,i3,())→q55_T0 (q55_L0 kr kx0 n) kr kx0 text0 i3
def q55_c0:Pce:=ex tb (getG q55_G) [] (at' (bodyOf Tryz.f225) [0,0,1,0,1]) [0,0,1,0,1]
def q55_g0 (k:Ex→St→Prop) (n:Nat) (v:vals q55_d0):Prop:=q55_L0 (q55_y0r k) (q55_y0x0 k) n v.1 v.2.1
theorem q55_s0 (k:Ex→St→Prop) (Y:vals q55_d0→Prop):∀ v:vals q55_d0,q55_c0 (mkD 22 q55_d0 v) (lpK 22 q55_d0 q55_dx0 k Y)=q55_T0 (fun text0 i3=>Y (text0,i3,())) (q55_y0r k) (q55_y0x0 k) v.1 v.2.1
  | (text0,i3,())=>by kernel_rfl
theorem q55_v0 (k:Ex→St→Prop):∀ (n:Nat) (v:vals q55_d0),lpD 22 q55_d0 q55_dx0 q55_c0 k n v=q55_g0 k n v
  | 0,(text0,i3,())=>rfl
  | n+1,(text0,i3,())=>congrArg (fun Z:Prop=>wfD q55_d0 (text0,i3,())→Z) ((q55_s0 k _ (text0,i3,())).trans (congrArg (fun Y=>q55_T0 Y (q55_y0r k) (q55_y0x0 k) text0 i3) (funext fun text0=>funext fun i3=>q55_v0 k n (text0,i3,()))))
def q55_X0:Pce:=fun st k=>ckD 22 q55_d0 st fun v=>wfD q55_d0 v→∃ n,q55_g0 k n v
theorem q55_x0:SemOk Tryz.prog (at' (bodyOf Tryz.f225) [0,1,0,1]) q55_X0:=
  (SemOk.loop (ex_sound tb_M tb_ok q55_Gok (LabsOk.nil) (at' (bodyOf Tryz.f225) [0,0,1,0,1]) [0,0,1,0,1] rfl (storesC_at q55_st [0,0,1,0,1])) 22 q55_d0 q55_dx0).mono fun st k h=>ckD_mono h fun v hv hw=>(hv hw).elim fun n hn=>⟨n,Eq.mpr (q55_v0 k n v) hn⟩
def q55_B0:Labs:=([0,1,0,1],q55_X0)::[]
theorem q55_b0:LabsOk Tryz.prog (bodyOf Tryz.f225) q55_B0:=LabsOk.cons q55_x0 (LabsOk.nil)
def q55_raw (text0:LI) (K:Res→List Cell→Prop):Prop:=
 (wfD q55_d0 (text0,(0:Int),())→∃ n,q55_L0 (fun (x2:Bool)=>wfD q55_d0r (x2,())→(
 K (.one (.v .bool x2)) [])) (wfD q55_d0x0 ()→(
 K (.one (.v .bool false)) [])) n text0 (0:Int))
def q55_A:List AS:=[.v yB]
def q55_L0_P (s:LI) (i:Int):Prop:=i=0∧s.length≤lim
def q55_L0_F (s:LI) (_:Int):Bool⊕Unit:=if alo s then .inl true else .inr ()
theorem q55_l0 (kr:Bool→Prop) (kx0:Prop) (s:LI) (hs:s.length≤lim) :
    ∀ (n i:Nat),s.length+1<n+i→i≤s.length+1→(alo (s.drop i)=true→kr true)→(alo (s.drop i)=false→kx0)→q55_L0 kr kx0 n s (i:Int)
  | 0,i,hn,hi,hr,hx=>absurd hn (by omega)
  | n+1,i,hn,hi,hr,hx=>by
    intro _
    unfold q55_T0
    have hlim:lim=1099511627776:=rfl
    refine brn (fun hlt=>asrt (by omega) ?_) (fun hge=>hx (by rw [List.drop_eq_nil_of_le (by omega)]; rfl))
    have hi':i<s.length:=by omega
    rw [rd_drop hi',wrap_i64 (n:=(i:Int)+1) (by omega) (by omega),wrap_i64 (n:=(s.length:Int) - 1) (by omega) (by omega),wrap_i64 (by omega) (by omega),show (i:Int)+1+1=((i+2:Nat):Int) by omega,show (i:Int)+1=((i+1:Nat):Int) by omega]
    rw [dropc hi',alo_cons] at hr hx
    refine brn (fun h92=>?_) (fun h92=>?_)
    · refine brn (fun he=>?_) (fun he=>?_)
      · rw [List.drop_eq_nil_of_le (show s.length≤i+1 by omega)] at hr
        exact hr (by simp [h92])
      · have h:i+1<s.length:=by omega
        rw [dropc h] at hr hx
        dsimp only at hr hx
        rw [if_pos h92] at hr hx
        exact q55_l0 kr kx0 s hs n (i+2) (by omega) (by omega) hr hx
    · refine q55_l0 kr kx0 s hs n (i+1) (by omega) (by omega) ?_ ?_
      · rcases Nat.lt_or_ge (i+1) s.length with h | h
        · rw [dropc h] at hr ⊢
          dsimp only at hr
          rw [if_neg h92] at hr; exact hr
        · rw [List.drop_eq_nil_of_le h]; intro h2; cases h2
      · rcases Nat.lt_or_ge (i+1) s.length with h | h
        · rw [dropc h] at hx ⊢
          dsimp only at hx
          rw [if_neg h92] at hx; exact hx
        · rw [List.drop_eq_nil_of_le h] at hx
          exact fun _=>hx (by simp [h92])
theorem q55_L0_sp (kr:Bool→Prop) (kx0:Prop) (s:LI) (i:Int) (hp:q55_L0_P s i)
    (hr:∀ q:Bool,q55_L0_F s i=.inl q→kr q) (hx:∀ q:Unit,q55_L0_F s i=.inr q→kx0):∃ m,q55_L0 kr kx0 m s i:=by
  obtain ⟨rfl,hs⟩:=hp
  refine ⟨s.length+2,q55_l0 kr kx0 s hs _ 0 (by omega) (by omega) (fun h=>?_) (fun h=>?_)⟩
  · rw [List.drop_zero] at h
    exact hr _ (by unfold q55_L0_F; rw [if_pos h])
  · rw [List.drop_zero] at h
    exact hx () (by unfold q55_L0_F; rw [if_neg (by rw [h]; simp)])

def q55_P (text0:LI):Prop:=
 q55_L0_P text0 (0:Int)
def q55_F (text0:LI):Bool:=
 Sum.elim (fun q0r=>
 let x2:Bool:=q0r
 x2) (fun q0x0=>
 false) (q55_L0_F text0 (0:Int))
theorem q55_sp (text0:LI) (K:Res→List Cell→Prop) (_:wfA q55_A (text0,())) (hp:q55_P text0) (h:∀ r:Bool,r=q55_F text0→K (.one (.v .bool r)) []):q55_raw text0 K:=
 fun _=>q55_L0_sp _ _ _ _ hp
 (fun _ e _=>have h:=sl e h; h _ rfl)
 (fun _ e _=>have h:=sr e h; h _ rfl)
def q55_C (v:valsA q55_A) (K:Res→List Cell→Prop):Prop:=q55_P v.1∧∀ r:Bool,r=q55_F v.1→K (.one (.v .bool r)) []
def q55_S:App:=specW q55_A q55_C
theorem q55_wv (K:Res→List Cell→Prop):∀ v:valsA q55_A,runF tb (getG q55_G) q55_B0 Tryz.f225 [true] (mkA q55_A v) K=q55_raw v.1 K
  | (text0,())=>by kernel_rfl
theorem q55_ok:AppOk Tryz.prog 225 q55_S:=
  AppOk.specW (spec_ok ((runF_ok tb_M tb_ok q55_Gok (q55_b0) (f:=225) (fn:=Tryz.f225) (by kernel_rfl) (by kernel_rfl) q55_st [true])) fun v K hw h=>(q55_wv K v).mpr (q55_sp v.1 K hw h.1 h.2))

end Go.VE
namespace Go.VE
open Go Go.Proofs
def q71_G:List (Nat×App):=[]
theorem q71_Gok:GOk Tryz.prog (getG q71_G):=GOk.nil
def q71_raw (b0:LI) (K:Res→List Cell→Prop):Prop:=
 (
 bif decide (List.length ([]:LI)+List.length b0≤lim) then
 K (.one (.fr 5 yU (([]:LI)++b0))) []
 else False)∧(bif decide (List.length b0=0) then
 K (.one (.fr 5 yU ([]:LI))) []
 else True)
def q71_A:List AS:=[.v yB]
def q71_P (b:LI):Prop:=b.length≤lim
def q71_F (b:LI):LI:=b
theorem q71_sp (b:LI) (K:Res→List Cell→Prop) (_:wfA q71_A (b,())) (hp:q71_P b) (h:∀ r:LI,r=q71_F b→K (.one (.fr 5 yU r)) []):q71_raw b K:=by
  unfold q71_raw
  unfold q71_P at hp
  refine ⟨asrt (by simpa using hp) (h _ rfl),?_⟩
  by_cases hz:b.length=0
  · rw [decide_eq_true hz]
    exact h _ (List.eq_nil_of_length_eq_zero hz).symm
  · rw [decide_eq_false hz]; trivial

def q71_C (v:valsA q71_A) (K:Res→List Cell→Prop):Prop:=q71_P v.1∧∀ r:LI,r=q71_F v.1→K (.one (.fr 5 yU r)) []
def q71_S:App:=specW q71_A q71_C
theorem q71_wv (K:Res→List Cell→Prop):∀ v:valsA q71_A,runF tb (getG q71_G) [] Tryz.f67 [true] (mkA q71_A v) K=q71_raw v.1 K
  | (b0,())=>by kernel_rfl
set_option maxRecDepth 20000 in
theorem q71_ok:AppOk Tryz.prog 67 q71_S:=
  AppOk.specW (spec_ok ((runF_ok tb_M tb_ok q71_Gok (LabsOk.nil) (f:=67) (fn:=Tryz.f67) (by kernel_rfl) (by kernel_rfl) (by kernel_rfl) [true])) fun v K hw h=>(q71_wv K v).mpr (q71_sp v.1 K hw h.1 h.2))

end Go.VE
namespace Go.VE
set_option maxRecDepth 20000
open Go Go.Proofs
def q61_G:List (Nat×App):=[(224,q43_S),(194,q50_S),(139,q44_S),(225,q55_S),(67,q71_S)]
theorem q61_Gok:GOk Tryz.prog (getG q61_G):=GOk.cons q43_ok (GOk.cons q50_ok (GOk.cons q44_ok (GOk.cons q55_ok (GOk.cons q71_ok (GOk.nil)))))
def q61_raw (line0:LI) (K:Res→List Cell→Prop):Prop:=
 bif (decide ((List.length line0:Int)=(0:Int))) then
 K (.tup [.v tyA zA,.v yI (0:Int),.v yI (0:Int)]) []
 else
 bif decide (0≤(0:Int)∧(0:Int)<(List.length line0:Int)) then
 ∀ (r1:Bool),r1=q43_F (rd (0:Int) line0 (0:Int))→(
 wB r1→(
 bif r1 then
 q50_P line0∧(
 ∀ (r2:Int×Int×Bool),r2=q50_F line0→(
 wfR (.tup [.v yI r2.1,.v yI r2.2.1,.v .bool r2.2.2])→(
 bif (!r2.2.2) then
 K (.tup [.v tyA zA,.v yI (0:Int),.v yI (230:Int)]) []
 else
 K (.tup [.v tyA ((110:Int),r2.1,(0:Int),([]:LI),(0:Int),true),.v yI r2.2.1,.v yI (0:Int)]) [])))
 else
 bif (decide ((rd (0:Int) line0 (0:Int))=(46:Int))) then
 K (.tup [.v tyA ((rd (0:Int) line0 (0:Int)),(0:Int),(0:Int),([]:LI),(0:Int),true),.v yI (1:Int),.v yI (0:Int)]) []
 else
 bif (decide ((rd (0:Int) line0 (0:Int))=(36:Int))) then
 K (.tup [.v tyA ((rd (0:Int) line0 (0:Int)),(0:Int),(0:Int),([]:LI),(0:Int),true),.v yI (1:Int),.v yI (0:Int)]) []
 else
 bif (decide ((rd (0:Int) line0 (0:Int))=(39:Int))) then
 bif (decide ((List.length line0:Int)=(1:Int))) then
 K (.tup [.v tyA zA,.v yI (0:Int),.v yI (230:Int)]) []
 else
 bif decide (0≤(1:Int)∧(1:Int)<(List.length line0:Int)) then
 K (.tup [.v tyA ((rd (0:Int) line0 (0:Int)),(0:Int),(rd (0:Int) line0 (1:Int)),([]:LI),(0:Int),true),.v yI (2:Int),.v yI (0:Int)]) []
 else False
 else
 bif (decide ((rd (0:Int) line0 (0:Int))=(47:Int))) then
 bif decide (0≤(1:Int)∧(1:Int)≤(List.length line0:Int)) then
 q44_P (List.drop (Int.toNat (1:Int)) line0) (rd (0:Int) line0 (0:Int))∧(
 ∀ (r3:Int),r3=q44_F (List.drop (Int.toNat (1:Int)) line0) (rd (0:Int) line0 (0:Int))→(
 wI r3→(
 bif (decide (r3=(IntKind.wrap .i64 ((List.length line0:Int) - (1:Int))))) then
 bif decide (0≤(1:Int)∧(1:Int)≤(List.length line0:Int)) then
 q55_P (List.drop (Int.toNat (1:Int)) line0)∧(
 ∀ (r4:Bool),r4=q55_F (List.drop (Int.toNat (1:Int)) line0)→(
 wB r4→(
 bif r4 then
 K (.tup [.v tyA zA,.v yI (0:Int),.v yI (230:Int)]) []
 else
 bif decide (0≤(1:Int)∧(1:Int)≤(IntKind.wrap .i64 ((1:Int)+r3))∧(IntKind.wrap .i64 ((1:Int)+r3))≤(List.length line0:Int)) then
 q71_P (slc line0 (1:Int) (IntKind.wrap .i64 ((1:Int)+r3)))∧(
 ∀ (r5:LI),r5=q71_F (slc line0 (1:Int) (IntKind.wrap .i64 ((1:Int)+r3)))→(
 wfR (.one (.fr 5 yU r5))→(
 K (.tup [.v tyA ((rd (0:Int) line0 (0:Int)),(0:Int),(0:Int),r5,(0:Int),true),.v yI (mn (IntKind.wrap .i64 (r3+(2:Int))) (List.length line0:Int)),.v yI (0:Int)]) [])))
 else False)))
 else False
 else
 bif decide (0≤(1:Int)∧(1:Int)≤(IntKind.wrap .i64 ((1:Int)+r3))∧(IntKind.wrap .i64 ((1:Int)+r3))≤(List.length line0:Int)) then
 q71_P (slc line0 (1:Int) (IntKind.wrap .i64 ((1:Int)+r3)))∧(
 ∀ (r6:LI),r6=q71_F (slc line0 (1:Int) (IntKind.wrap .i64 ((1:Int)+r3)))→(
 wfR (.one (.fr 5 yU r6))→(
 K (.tup [.v tyA ((rd (0:Int) line0 (0:Int)),(0:Int),(0:Int),r6,(0:Int),true),.v yI (mn (IntKind.wrap .i64 (r3+(2:Int))) (List.length line0:Int)),.v yI (0:Int)]) [])))
 else False)))
 else False
 else
 bif (decide ((rd (0:Int) line0 (0:Int))=(63:Int))) then
 bif decide (0≤(1:Int)∧(1:Int)≤(List.length line0:Int)) then
 q44_P (List.drop (Int.toNat (1:Int)) line0) (rd (0:Int) line0 (0:Int))∧(
 ∀ (r7:Int),r7=q44_F (List.drop (Int.toNat (1:Int)) line0) (rd (0:Int) line0 (0:Int))→(
 wI r7→(
 bif (decide (r7=(IntKind.wrap .i64 ((List.length line0:Int) - (1:Int))))) then
 bif decide (0≤(1:Int)∧(1:Int)≤(List.length line0:Int)) then
 q55_P (List.drop (Int.toNat (1:Int)) line0)∧(
 ∀ (r8:Bool),r8=q55_F (List.drop (Int.toNat (1:Int)) line0)→(
 wB r8→(
 bif r8 then
 K (.tup [.v tyA zA,.v yI (0:Int),.v yI (230:Int)]) []
 else
 bif decide (0≤(1:Int)∧(1:Int)≤(IntKind.wrap .i64 ((1:Int)+r7))∧(IntKind.wrap .i64 ((1:Int)+r7))≤(List.length line0:Int)) then
 q71_P (slc line0 (1:Int) (IntKind.wrap .i64 ((1:Int)+r7)))∧(
 ∀ (r9:LI),r9=q71_F (slc line0 (1:Int) (IntKind.wrap .i64 ((1:Int)+r7)))→(
 wfR (.one (.fr 5 yU r9))→(
 K (.tup [.v tyA ((rd (0:Int) line0 (0:Int)),(0:Int),(0:Int),r9,(0:Int),true),.v yI (mn (IntKind.wrap .i64 (r7+(2:Int))) (List.length line0:Int)),.v yI (0:Int)]) [])))
 else False)))
 else False
 else
 bif decide (0≤(1:Int)∧(1:Int)≤(IntKind.wrap .i64 ((1:Int)+r7))∧(IntKind.wrap .i64 ((1:Int)+r7))≤(List.length line0:Int)) then
 q71_P (slc line0 (1:Int) (IntKind.wrap .i64 ((1:Int)+r7)))∧(
 ∀ (r10:LI),r10=q71_F (slc line0 (1:Int) (IntKind.wrap .i64 ((1:Int)+r7)))→(
 wfR (.one (.fr 5 yU r10))→(
 K (.tup [.v tyA ((rd (0:Int) line0 (0:Int)),(0:Int),(0:Int),r10,(0:Int),true),.v yI (mn (IntKind.wrap .i64 (r7+(2:Int))) (List.length line0:Int)),.v yI (0:Int)]) [])))
 else False)))
 else False
 else
 K (.tup [.v tyA zA,.v yI (0:Int),.v yI (0:Int)]) []))
 else False
def q61_A:List AS:=[.v yB]

def q61_P (line0:LI):Prop:=
 bif (decide ((List.length line0:Int)=(0:Int))) then
 True
 else
 (0≤(0:Int)∧(0:Int)<(List.length line0:Int))∧(
 let r1:Bool:=q43_F (rd (0:Int) line0 (0:Int))
 bif r1 then
 q50_P line0
 else
 bif (decide ((rd (0:Int) line0 (0:Int))=(46:Int))) then
 True
 else
 bif (decide ((rd (0:Int) line0 (0:Int))=(36:Int))) then
 True
 else
 bif (decide ((rd (0:Int) line0 (0:Int))=(39:Int))) then
 bif (decide ((List.length line0:Int)=(1:Int))) then
 True
 else
 (0≤(1:Int)∧(1:Int)<(List.length line0:Int))
 else
 bif (decide ((rd (0:Int) line0 (0:Int))=(47:Int))) then
 (0≤(1:Int)∧(1:Int)≤(List.length line0:Int))∧(
 q44_P (List.drop (Int.toNat (1:Int)) line0) (rd (0:Int) line0 (0:Int))∧(
 let r3:Int:=q44_F (List.drop (Int.toNat (1:Int)) line0) (rd (0:Int) line0 (0:Int))
 bif (decide (r3=(IntKind.wrap .i64 ((List.length line0:Int) - (1:Int))))) then
 (0≤(1:Int)∧(1:Int)≤(List.length line0:Int))∧(
 q55_P (List.drop (Int.toNat (1:Int)) line0)∧(
 let r4:Bool:=q55_F (List.drop (Int.toNat (1:Int)) line0)
 bif r4 then
 True
 else
 (0≤(1:Int)∧(1:Int)≤(IntKind.wrap .i64 ((1:Int)+r3))∧(IntKind.wrap .i64 ((1:Int)+r3))≤(List.length line0:Int))∧(
 q71_P (slc line0 (1:Int) (IntKind.wrap .i64 ((1:Int)+r3))))))
 else
 (0≤(1:Int)∧(1:Int)≤(IntKind.wrap .i64 ((1:Int)+r3))∧(IntKind.wrap .i64 ((1:Int)+r3))≤(List.length line0:Int))∧(
 q71_P (slc line0 (1:Int) (IntKind.wrap .i64 ((1:Int)+r3))))))
 else
 bif (decide ((rd (0:Int) line0 (0:Int))=(63:Int))) then
 (0≤(1:Int)∧(1:Int)≤(List.length line0:Int))∧(
 q44_P (List.drop (Int.toNat (1:Int)) line0) (rd (0:Int) line0 (0:Int))∧(
 let r7:Int:=q44_F (List.drop (Int.toNat (1:Int)) line0) (rd (0:Int) line0 (0:Int))
 bif (decide (r7=(IntKind.wrap .i64 ((List.length line0:Int) - (1:Int))))) then
 (0≤(1:Int)∧(1:Int)≤(List.length line0:Int))∧(
 q55_P (List.drop (Int.toNat (1:Int)) line0)∧(
 let r8:Bool:=q55_F (List.drop (Int.toNat (1:Int)) line0)
 bif r8 then
 True
 else
 (0≤(1:Int)∧(1:Int)≤(IntKind.wrap .i64 ((1:Int)+r7))∧(IntKind.wrap .i64 ((1:Int)+r7))≤(List.length line0:Int))∧(
 q71_P (slc line0 (1:Int) (IntKind.wrap .i64 ((1:Int)+r7))))))
 else
 (0≤(1:Int)∧(1:Int)≤(IntKind.wrap .i64 ((1:Int)+r7))∧(IntKind.wrap .i64 ((1:Int)+r7))≤(List.length line0:Int))∧(
 q71_P (slc line0 (1:Int) (IntKind.wrap .i64 ((1:Int)+r7))))))
 else
 True)
def q61_F (line0:LI):tAd×Int×Int:=
 bif (decide ((List.length line0:Int)=(0:Int))) then
 (zA,(0:Int),(0:Int))
 else
 let r1:Bool:=q43_F (rd (0:Int) line0 (0:Int))
 bif r1 then
 let r2:Int×Int×Bool:=q50_F line0
 bif (!r2.2.2) then
 (zA,(0:Int),(230:Int))
 else
 (((110:Int),r2.1,(0:Int),([]:LI),(0:Int),true),r2.2.1,(0:Int))
 else
 bif (decide ((rd (0:Int) line0 (0:Int))=(46:Int))) then
 (((rd (0:Int) line0 (0:Int)),(0:Int),(0:Int),([]:LI),(0:Int),true),(1:Int),(0:Int))
 else
 bif (decide ((rd (0:Int) line0 (0:Int))=(36:Int))) then
 (((rd (0:Int) line0 (0:Int)),(0:Int),(0:Int),([]:LI),(0:Int),true),(1:Int),(0:Int))
 else
 bif (decide ((rd (0:Int) line0 (0:Int))=(39:Int))) then
 bif (decide ((List.length line0:Int)=(1:Int))) then
 (zA,(0:Int),(230:Int))
 else
 (((rd (0:Int) line0 (0:Int)),(0:Int),(rd (0:Int) line0 (1:Int)),([]:LI),(0:Int),true),(2:Int),(0:Int))
 else
 bif (decide ((rd (0:Int) line0 (0:Int))=(47:Int))) then
 let r3:Int:=q44_F (List.drop (Int.toNat (1:Int)) line0) (rd (0:Int) line0 (0:Int))
 bif (decide (r3=(IntKind.wrap .i64 ((List.length line0:Int) - (1:Int))))) then
 let r4:Bool:=q55_F (List.drop (Int.toNat (1:Int)) line0)
 bif r4 then
 (zA,(0:Int),(230:Int))
 else
 let r5:LI:=q71_F (slc line0 (1:Int) (IntKind.wrap .i64 ((1:Int)+r3)))
 (((rd (0:Int) line0 (0:Int)),(0:Int),(0:Int),r5,(0:Int),true),(mn (IntKind.wrap .i64 (r3+(2:Int))) (List.length line0:Int)),(0:Int))
 else
 let r6:LI:=q71_F (slc line0 (1:Int) (IntKind.wrap .i64 ((1:Int)+r3)))
 (((rd (0:Int) line0 (0:Int)),(0:Int),(0:Int),r6,(0:Int),true),(mn (IntKind.wrap .i64 (r3+(2:Int))) (List.length line0:Int)),(0:Int))
 else
 bif (decide ((rd (0:Int) line0 (0:Int))=(63:Int))) then
 let r7:Int:=q44_F (List.drop (Int.toNat (1:Int)) line0) (rd (0:Int) line0 (0:Int))
 bif (decide (r7=(IntKind.wrap .i64 ((List.length line0:Int) - (1:Int))))) then
 let r8:Bool:=q55_F (List.drop (Int.toNat (1:Int)) line0)
 bif r8 then
 (zA,(0:Int),(230:Int))
 else
 let r9:LI:=q71_F (slc line0 (1:Int) (IntKind.wrap .i64 ((1:Int)+r7)))
 (((rd (0:Int) line0 (0:Int)),(0:Int),(0:Int),r9,(0:Int),true),(mn (IntKind.wrap .i64 (r7+(2:Int))) (List.length line0:Int)),(0:Int))
 else
 let r10:LI:=q71_F (slc line0 (1:Int) (IntKind.wrap .i64 ((1:Int)+r7)))
 (((rd (0:Int) line0 (0:Int)),(0:Int),(0:Int),r10,(0:Int),true),(mn (IntKind.wrap .i64 (r7+(2:Int))) (List.length line0:Int)),(0:Int))
 else
 (zA,(0:Int),(0:Int))
theorem q61_sp (line0:LI) (K:Res→List Cell→Prop) (_:wfA q61_A (line0,())) (hp:q61_P line0) (h:∀ r:tAd×Int×Int,r=q61_F line0→K (.tup [.v tyA r.1,.v yI r.2.1,.v yI r.2.2]) []):q61_raw line0 K:=
 br1 hp h (fun _ hp h=>h _ rfl)
 fun _ hp h=>as1 hp fun hp=>al (br1 hp h (fun _ hp h=>⟨hp,al (br0 h (fun _ h=>h _ rfl)
 fun _ h=>h _ rfl)⟩)
 fun _ hp h=>br1 hp h (fun _ hp h=>h _ rfl)
 fun _ hp h=>br1 hp h (fun _ hp h=>h _ rfl)
 fun _ hp h=>br1 hp h (fun _ hp h=>br1 hp h (fun _ hp h=>h _ rfl)
 fun _ hp h=>as0 hp (h _ rfl))
 fun _ hp h=>br1 hp h (fun _ hp h=>as1 hp fun hp=>an1 hp fun hp=>al (br1 hp h (fun _ hp h=>as1 hp fun hp=>an1 hp fun hp=>al (br1 hp h (fun _ hp h=>h _ rfl)
 fun _ hp h=>as1 hp fun hp=>⟨hp,al (h _ rfl)⟩))
 fun _ hp h=>as1 hp fun hp=>⟨hp,al (h _ rfl)⟩))
 fun _ hp h=>br1 hp h (fun _ hp h=>as1 hp fun hp=>an1 hp fun hp=>al (br1 hp h (fun _ hp h=>as1 hp fun hp=>an1 hp fun hp=>al (br1 hp h (fun _ hp h=>h _ rfl)
 fun _ hp h=>as1 hp fun hp=>⟨hp,al (h _ rfl)⟩))
 fun _ hp h=>as1 hp fun hp=>⟨hp,al (h _ rfl)⟩))
 fun _ hp h=>h _ rfl)
def q61_C (v:valsA q61_A) (K:Res→List Cell→Prop):Prop:=q61_P v.1∧∀ r:tAd×Int×Int,r=q61_F v.1→K (.tup [.v tyA r.1,.v yI r.2.1,.v yI r.2.2]) []
def q61_S:App:=specW q61_A q61_C
theorem q61_wv (K:Res→List Cell→Prop):∀ v:valsA q61_A,runF tb (getG q61_G) [] Tryz.f193 [true,true,true] (mkA q61_A v) K=q61_raw v.1 K
  | (line0,())=>by kernel_rfl
theorem q61_ok:AppOk Tryz.prog 193 q61_S:=
  AppOk.specW (spec_ok ((runF_ok tb_M tb_ok q61_Gok (LabsOk.nil) (f:=193) (fn:=Tryz.f193) (by kernel_rfl) (by kernel_rfl) (by kernel_rfl) [true,true,true])) fun v K hw h=>(q61_wv K v).mpr (q61_sp v.1 K hw h.1 h.2))

def q56_G:List (Nat×App):=[(193,q61_S),(194,q50_S)]
theorem q56_Gok:GOk Tryz.prog (getG q56_G):=GOk.cons q61_ok (GOk.cons q50_ok (GOk.nil))
theorem q56_st:storesC (bodyOf Tryz.f135)=true:=by kernel_rfl
def q56_d0:List LS:=[.v 0 yB,.b 2 16 [],.b 5 40 [],.v 6 yI,.v 8 yI,.v 9 yI,.c 16 tyA,.c 40 tyA]
def q56_d0n:List LS:=[.v 0 yB,.b 2 16 [],.b 5 40 [],.v 6 yI,.c 16 tyA,.c 40 tyA]
def q56_dx0:DX:=⟨some q56_d0n,none,[]⟩
def q56_y0n (k:Ex→St→Prop) (line0:LI) (at6:Int) (x2b:tAd) (a5b:tAd):Prop:=wfD q56_d0n (line0,at6,x2b,a5b,())→k .nrm (mkD 81 q56_d0n (line0,at6,x2b,a5b,()))
def q56_J0 (kn:LI→Int→tAd→tAd→Prop) (line0:LI) (at6:Int) (n8:Int) (k9:Int) (x2b:tAd) (a5b:tAd):Prop:=
 kn line0 (IntKind.wrap .i64 (at6+(IntKind.wrap .i64 ((1:Int)+k9)))) x2b (a5b.1,a5b.2.1,a5b.2.2.1,a5b.2.2.2.1,(IntKind.wrap .i64 (a5b.2.2.2.2.1+n8)),true)
def q56_g0 (k:Ex→St→Prop) (v:vals q56_d0):Prop:=q56_J0 (q56_y0n k) v.1 v.2.1 v.2.2.1 v.2.2.2.1 v.2.2.2.2.1 v.2.2.2.2.2.1
theorem q56_v0 (k:Ex→St→Prop):∀ v:vals q56_d0,ex tb (getG q56_G) [] (at' (bodyOf Tryz.f135) [1,1,1,1,0,1,0,0,0,1,1,1]) [1,1,1,1,0,1,0,0,0,1,1,1] (mkD 81 q56_d0 v) (wk 81 q56_dx0 k)=q56_g0 k v
  | (line0,at6,n8,k9,x2b,a5b,())=>by kernel_rfl
def q56_X0:Pce:=fun st k=>ckD 81 q56_d0 st fun v=>wfD q56_d0 v→q56_g0 k v
theorem q56_x0:SemOk Tryz.prog (at' (bodyOf Tryz.f135) [1,1,1,1,0,1,0,0,0,1,1,1]) q56_X0:=
  (SemOk.wk (N:=81) (ds:=q56_d0) (dx:=q56_dx0) (ex_sound tb_M tb_ok q56_Gok (LabsOk.nil) (at' (bodyOf Tryz.f135) [1,1,1,1,0,1,0,0,0,1,1,1]) [1,1,1,1,0,1,0,0,0,1,1,1] rfl (storesC_at q56_st [1,1,1,1,0,1,0,0,0,1,1,1]))).mono fun st k h=>ckD_mono h fun v hv hw=>Eq.mpr (q56_v0 k v) (hv hw)
def q56_B0:Labs:=([1,1,1,1,0,1,0,0,0,1,1,1],q56_X0)::[]
theorem q56_b0:LabsOk Tryz.prog (bodyOf Tryz.f135) q56_B0:=LabsOk.cons q56_x0 (LabsOk.nil)
def q56_d1:List LS:=[.v 0 yB,.b 2 16 [],.b 5 40 [],.v 6 yI,.v 8 yI,.v 9 yI,.c 16 tyA,.c 40 tyA]
def q56_d1n:List LS:=[.v 0 yB,.b 2 16 [],.b 5 40 [],.v 6 yI,.c 16 tyA,.c 40 tyA]
def q56_dx1:DX:=⟨some q56_d1n,none,[]⟩
def q56_y1n (k:Ex→St→Prop) (line0:LI) (at6:Int) (x2b:tAd) (a5b:tAd):Prop:=wfD q56_d1n (line0,at6,x2b,a5b,())→k .nrm (mkD 81 q56_d1n (line0,at6,x2b,a5b,()))
def q56_J1 (kn:LI→Int→tAd→tAd→Prop) (line0:LI) (at6:Int) (n8:Int) (k9:Int) (x2b:tAd) (a5b:tAd):Prop:=
 bif decide (0≤at6∧at6<(List.length line0:Int)) then
 bif (decide ((rd (0:Int) line0 at6)=(45:Int))) then
 (wfD q56_d0 (line0,at6,(IntKind.wrap .i64 (0 - n8)),k9,x2b,a5b,())→q56_J0 (fun (line0:LI) (at6:Int) (x2b:tAd) (a5b:tAd)=>wfD q56_d0n (line0,at6,x2b,a5b,())→(
 kn line0 at6 x2b a5b)) line0 at6 (IntKind.wrap .i64 (0 - n8)) k9 x2b a5b)
 else
 (wfD q56_d0 (line0,at6,n8,k9,x2b,a5b,())→q56_J0 (fun (line0:LI) (at6:Int) (x2b:tAd) (a5b:tAd)=>wfD q56_d0n (line0,at6,x2b,a5b,())→(
 kn line0 at6 x2b a5b)) line0 at6 n8 k9 x2b a5b)
 else False
def q56_g1 (k:Ex→St→Prop) (v:vals q56_d1):Prop:=q56_J1 (q56_y1n k) v.1 v.2.1 v.2.2.1 v.2.2.2.1 v.2.2.2.2.1 v.2.2.2.2.2.1
theorem q56_v1 (k:Ex→St→Prop):∀ v:vals q56_d1,ex tb (getG q56_G) q56_B0 (at' (bodyOf Tryz.f135) [1,1,1,0,1,0,0,0,1,1,1]) [1,1,1,0,1,0,0,0,1,1,1] (mkD 81 q56_d1 v) (wk 81 q56_dx1 k)=q56_g1 k v
  | (line0,at6,n8,k9,x2b,a5b,())=>by kernel_rfl
def q56_X1:Pce:=fun st k=>ckD 81 q56_d1 st fun v=>wfD q56_d1 v→q56_g1 k v
theorem q56_x1:SemOk Tryz.prog (at' (bodyOf Tryz.f135) [1,1,1,0,1,0,0,0,1,1,1]) q56_X1:=
  (SemOk.wk (N:=81) (ds:=q56_d1) (dx:=q56_dx1) (ex_sound tb_M tb_ok q56_Gok (q56_b0) (at' (bodyOf Tryz.f135) [1,1,1,0,1,0,0,0,1,1,1]) [1,1,1,0,1,0,0,0,1,1,1] rfl (storesC_at q56_st [1,1,1,0,1,0,0,0,1,1,1]))).mono fun st k h=>ckD_mono h fun v hv hw=>Eq.mpr (q56_v1 k v) (hv hw)
def q56_B1:Labs:=([1,1,1,0,1,0,0,0,1,1,1],q56_X1)::q56_B0
theorem q56_b1:LabsOk Tryz.prog (bodyOf Tryz.f135) q56_B1:=LabsOk.cons q56_x1 (q56_b0)
def q56_d2:List LS:=[.v 0 yB,.b 2 16 [],.b 5 40 [],.v 6 yI,.c 16 tyA,.c 40 tyA]
def q56_d2r:List LS:=[.b 2 16 [],.v 3 yI,.v 4 yI,.c 16 tyA]
def q56_d2x0:List LS:=[.b 2 16 [],.b 5 40 [],.v 6 yI,.c 16 tyA,.c 40 tyA]
def q56_dx2:DX:=⟨none,some q56_d2r,[(0,q56_d2x0)]⟩
def q56_y2r (k:Ex→St→Prop) (x3:Int) (x4:Int) (x2b:tAd):Prop:=wfD q56_d2r (x3,x4,x2b,())→k .ret (mkD 81 q56_d2r (x3,x4,x2b,()))
def q56_y2x0 (k:Ex→St→Prop) (at6:Int) (x2b:tAd) (a5b:tAd):Prop:=wfD q56_d2x0 (at6,x2b,a5b,())→k (.exit 0) (mkD 81 q56_d2x0 (at6,x2b,a5b,()))
def q56_T2 (Y:LI→Int→tAd→tAd→Prop) (kr:Int→Int→tAd→Prop) (kx0:Int→tAd→tAd→Prop) (line0:LI) (at6:Int) (x2b:tAd) (a5b:tAd):Prop:=
 bif (decide (at6<(List.length line0:Int))) then
 bif decide (0≤at6∧at6<(List.length line0:Int)) then
 bif (decide ((rd (0:Int) line0 at6)=(43:Int))) then
 bif decide (0≤(IntKind.wrap .i64 (at6+(1:Int)))∧(IntKind.wrap .i64 (at6+(1:Int)))≤(List.length line0:Int)) then
 q50_P (List.drop (Int.toNat (IntKind.wrap .i64 (at6+(1:Int)))) line0)∧(
 ∀ (r2:Int×Int×Bool),r2=q50_F (List.drop (Int.toNat (IntKind.wrap .i64 (at6+(1:Int)))) line0)→(
 wfR (.tup [.v yI r2.1,.v yI r2.2.1,.v .bool r2.2.2])→(
 bif (!r2.2.2) then
 kr (0:Int) (230:Int) zA
 else
 bif (decide (r2.2.1=(0:Int))) then
 (wfD q56_d1 (line0,at6,(1:Int),r2.2.1,x2b,a5b,())→q56_J1 (fun (line0:LI) (at6:Int) (x2b:tAd) (a5b:tAd)=>wfD q56_d1n (line0,at6,x2b,a5b,())→(
 Y line0 at6 x2b a5b)) line0 at6 (1:Int) r2.2.1 x2b a5b)
 else
 (wfD q56_d1 (line0,at6,r2.1,r2.2.1,x2b,a5b,())→q56_J1 (fun (line0:LI) (at6:Int) (x2b:tAd) (a5b:tAd)=>wfD q56_d1n (line0,at6,x2b,a5b,())→(
 Y line0 at6 x2b a5b)) line0 at6 r2.1 r2.2.1 x2b a5b))))
 else False
 else
 bif decide (0≤at6∧at6<(List.length line0:Int)) then
 bif (decide ((rd (0:Int) line0 at6)=(45:Int))) then
 bif decide (0≤(IntKind.wrap .i64 (at6+(1:Int)))∧(IntKind.wrap .i64 (at6+(1:Int)))≤(List.length line0:Int)) then
 q50_P (List.drop (Int.toNat (IntKind.wrap .i64 (at6+(1:Int)))) line0)∧(
 ∀ (r3:Int×Int×Bool),r3=q50_F (List.drop (Int.toNat (IntKind.wrap .i64 (at6+(1:Int)))) line0)→(
 wfR (.tup [.v yI r3.1,.v yI r3.2.1,.v .bool r3.2.2])→(
 bif (!r3.2.2) then
 kr (0:Int) (230:Int) zA
 else
 bif (decide (r3.2.1=(0:Int))) then
 (wfD q56_d1 (line0,at6,(1:Int),r3.2.1,x2b,a5b,())→q56_J1 (fun (line0:LI) (at6:Int) (x2b:tAd) (a5b:tAd)=>wfD q56_d1n (line0,at6,x2b,a5b,())→(
 Y line0 at6 x2b a5b)) line0 at6 (1:Int) r3.2.1 x2b a5b)
 else
 (wfD q56_d1 (line0,at6,r3.1,r3.2.1,x2b,a5b,())→q56_J1 (fun (line0:LI) (at6:Int) (x2b:tAd) (a5b:tAd)=>wfD q56_d1n (line0,at6,x2b,a5b,())→(
 Y line0 at6 x2b a5b)) line0 at6 r3.1 r3.2.1 x2b a5b))))
 else False
 else
 kx0 at6 x2b a5b
 else False
 else False
 else
 kx0 at6 x2b a5b
def q56_L2 (kr:Int→Int→tAd→Prop) (kx0:Int→tAd→tAd→Prop):Nat→LI→Int→tAd→tAd→Prop
  | 0,_,_,_,_=>False
  | n+1,line0,at6,x2b,a5b=>wfD q56_d2 (line0,at6,x2b,a5b,())→q56_T2 (q56_L2 kr kx0 n) kr kx0 line0 at6 x2b a5b
def q56_c2:Pce:=ex tb (getG q56_G) q56_B1 (at' (bodyOf Tryz.f135) [0,0,0,1,1,1]) [0,0,0,1,1,1]
def q56_g2 (k:Ex→St→Prop) (n:Nat) (v:vals q56_d2):Prop:=q56_L2 (q56_y2r k) (q56_y2x0 k) n v.1 v.2.1 v.2.2.1 v.2.2.2.1
theorem q56_s2 (k:Ex→St→Prop) (Y:vals q56_d2→Prop):∀ v:vals q56_d2,q56_c2 (mkD 81 q56_d2 v) (lpK 81 q56_d2 q56_dx2 k Y)=q56_T2 (fun line0 at6 x2b a5b=>Y (line0,at6,x2b,a5b,())) (q56_y2r k) (q56_y2x0 k) v.1 v.2.1 v.2.2.1 v.2.2.2.1
  | (line0,at6,x2b,a5b,())=>by kernel_rfl
theorem q56_v2 (k:Ex→St→Prop):∀ (n:Nat) (v:vals q56_d2),lpD 81 q56_d2 q56_dx2 q56_c2 k n v=q56_g2 k n v
  | 0,(line0,at6,x2b,a5b,())=>rfl
  | n+1,(line0,at6,x2b,a5b,())=>congrArg (fun Z:Prop=>wfD q56_d2 (line0,at6,x2b,a5b,())→Z) ((q56_s2 k _ (line0,at6,x2b,a5b,())).trans (congrArg (fun Y=>q56_T2 Y (q56_y2r k) (q56_y2x0 k) line0 at6 x2b a5b) (funext fun line0=>funext fun at6=>funext fun x2b=>funext fun a5b=>q56_v2 k n (line0,at6,x2b,a5b,()))))
def q56_X2:Pce:=fun st k=>ckD 81 q56_d2 st fun v=>wfD q56_d2 v→∃ n,q56_g2 k n v
theorem q56_x2:SemOk Tryz.prog (at' (bodyOf Tryz.f135) [0,0,1,1,1]) q56_X2:=
  (SemOk.loop (ex_sound tb_M tb_ok q56_Gok (q56_b1) (at' (bodyOf Tryz.f135) [0,0,0,1,1,1]) [0,0,0,1,1,1] rfl (storesC_at q56_st [0,0,0,1,1,1])) 81 q56_d2 q56_dx2).mono fun st k h=>ckD_mono h fun v hv hw=>(hv hw).elim fun n hn=>⟨n,Eq.mpr (q56_v2 k n v) hn⟩
def q56_B2:Labs:=([0,0,1,1,1],q56_X2)::q56_B1
theorem q56_b2:LabsOk Tryz.prog (bodyOf Tryz.f135) q56_B2:=LabsOk.cons q56_x2 (q56_b1)
def q56_raw (line0:LI) (K:Res→List Cell→Prop):Prop:=
 q61_P line0∧(
 ∀ (r1:tAd×Int×Int),r1=q61_F line0→(
 wfR (.tup [.v tyA r1.1,.v yI r1.2.1,.v yI r1.2.2])→(
 bif (!decide (r1.2.2=(0:Int))) then
 K (.tup [.v tyA zA,.v yI (0:Int),.v yI r1.2.2]) []
 else
 (wfD q56_d2 (line0,r1.2.1,zA,r1.1,())→∃ n,q56_L2 (fun (x3:Int) (x4:Int) (x2b:tAd)=>wfD q56_d2r (x3,x4,x2b,())→(
 K (.tup [.v tyA x2b,.v yI x3,.v yI x4]) [])) (fun (at6:Int) (x2b:tAd) (a5b:tAd)=>wfD q56_d2x0 (at6,x2b,a5b,())→(
 bif (decide (a5b.2.2.2.2.1<(-999999999:Int))) then
 K (.tup [.v tyA zA,.v yI (0:Int),.v yI (230:Int)]) []
 else
 bif (decide ((999999999:Int)<a5b.2.2.2.2.1)) then
 K (.tup [.v tyA zA,.v yI (0:Int),.v yI (230:Int)]) []
 else
 K (.tup [.v tyA a5b,.v yI at6,.v yI (0:Int)]) [])) n line0 r1.2.1 zA r1.1))))
def q56_A:List AS:=[.v yB]
theorem q50_eq (s:LI):q50_F s=if dgs s≤9 then (dv s,(dgs s:Int),true) else (0,0,false):=by
  unfold q50_F
  unfold q50_L0_F
  by_cases h:dgs s≤9 <;> simp [h]
def q56_L2_P (s:LI) (at':Int) (_ _:Adr):Prop:=0≤at'∧at'≤s.length∧s.length≤lim
def q56_L2_F (s:LI) (at':Int) (x y:Adr):(Int×Int×Adr)⊕(Int×Adr×Adr):=addsAt s at' x y
theorem q56_l2 (kr:Int→Int→Adr→Prop) (kx0:Int→Adr→Adr→Prop) (s:LI) (x:Adr) (hs:s.length≤lim) :
    ∀ (n i:Nat) (y:Adr),s.length<n+i→i≤s.length→(adds n (s.drop i) y.2.2.2.2.1 y.2.2.2.2.2=none→kr 0 230 adr0)→
      (∀ m a g,adds n (s.drop i) y.2.2.2.2.1 y.2.2.2.2.2=some (m,a,g)→kx0 ((i+m:Nat):Int) x (adrA y a g))→q56_L2 kr kx0 n s (i:Int) x y
  | 0,i,y,hn,hi,hr,hx=>absurd hn (by omega)
  | n+1,i,y,hn,hi,hr,hx=>by
    intro _
    unfold q56_T2
    have hlim:lim=1099511627776:=rfl
    refine brn (fun hlt=>asrt (by omega) ?_) (fun hge=>by
      rw [List.drop_eq_nil_of_le (by omega)] at hx
      exact hx 0 _ _ rfl)
    have hi':i<s.length:=by omega
    have hw1:IntKind.wrap .i64 ((i:Int)+1)=((i+1:Nat):Int):=by rw [wrap_i64 (by omega) (by omega)]; omega
    rw [rd_drop hi',hw1,Int.toNat_natCast]
    rw [dropc hi'] at hr hx
    unfold adds at hr hx
    have hdl:dgs (s.drop (i+1))+(i+1)≤s.length:=by have:=dgs_le (s.drop (i+1)); rw [List.length_drop] at this; omega
    -- what is added,whichever the sign
    have step:∀ (v:Int),(s[i]=43∨s[i]=45)→dgs (s.drop (i+1))≤9→(if s[i]=45 then -(if dgs (s.drop (i+1))=0 then 1 else dv (s.drop (i+1))) else (if dgs (s.drop (i+1))=0 then 1 else dv (s.drop (i+1))))=(if s[i]=45 then -v else v)→0≤v→v≤1000000000→
        (wfD q56_d1 (s,(i:Int),v,((dgs (s.drop (i+1)):Nat):Int),x,y,())→q56_J1 (fun line0 at6 x2b a5b=>wfD q56_d1n (line0,at6,x2b,a5b,())→q56_L2 kr kx0 n line0 at6 x2b a5b) s (i:Int) v ((dgs (s.drop (i+1)):Nat):Int) x y):=by
      intro v hs9 h9 hv hv0 hv1 _
      unfold q56_J1
      rw [rd_drop hi']
      have hw2:∀ v:Int,(wfD q56_d0 (s,(i:Int),v,((dgs (s.drop (i+1)):Nat):Int),x,y,())→(if s[i]=45 then -(if dgs (s.drop (i+1))=0 then 1 else dv (s.drop (i+1))) else (if dgs (s.drop (i+1))=0 then 1 else dv (s.drop (i+1))))=v→
          q56_J0 (fun line0 at6 x2b a5b=>wfD q56_d0n (line0,at6,x2b,a5b,())→wfD q56_d1n (line0,at6,x2b,a5b,())→q56_L2 kr kx0 n line0 at6 x2b a5b) s (i:Int) v ((dgs (s.drop (i+1)):Nat):Int) x y):=by
        intro v _ hv
        unfold q56_J0
        rw [wrap_i64 (n:=(1:Int)+_) (by omega) (by omega),wrap_i64 (n:=(i:Int)+_) (by omega) (by omega),show (i:Int)+(1+((dgs (s.drop (i+1)):Nat):Int))=((i+1+dgs (s.drop (i+1)):Nat):Int) by omega]
        intro _ _
        rw [if_pos hs9,if_pos h9] at hr hx
        rw [hv,List.drop_drop] at hr hx
        refine q56_l2 kr kx0 s x hs n (i+1+dgs (s.drop (i+1))) _ (by omega) (by omega) (fun h=>hr ?_) (fun m a g h=>?_)
        · dsimp only at h ⊢
          rw [h]
        · have:=hx (1+dgs (s.drop (i+1))+m) a g (by dsimp only at h ⊢; rw [h])
          rw [show i+1+dgs (s.drop (i+1))+m=i+(1+dgs (s.drop (i+1))+m) by omega]
          exact this
      refine asrt (by omega) (brn (fun h45=>?_) (fun h45=>?_))
      · rw [if_pos h45,if_pos h45] at hv
        rw [wrap_i64 (n:=0 - v) (by omega) (by omega),Int.zero_sub]
        rw [if_pos h45] at hw2
        exact fun hwf=>hw2 (-v) hwf hv
      · rw [if_neg h45,if_neg h45] at hv
        rw [if_neg h45] at hw2
        exact fun hwf=>hw2 v hwf hv
    have sign:(s[i]=43∨s[i]=45)→(bif decide (0≤((i+1:Nat):Int)∧((i+1:Nat):Int)≤(List.length s:Int)) then
        q50_P (s.drop (i+1))∧(∀ (r2:Int×Int×Bool),r2=q50_F (s.drop (i+1))→(
          wfR (.tup [.v yI r2.1,.v yI r2.2.1,.v .bool r2.2.2])→(
          bif (!r2.2.2) then kr (0:Int) (230:Int) adr0
          else bif (decide (r2.2.1=(0:Int))) then
            (wfD q56_d1 (s,(i:Int),(1:Int),r2.2.1,x,y,())→q56_J1 (fun line0 at6 x2b a5b=>wfD q56_d1n (line0,at6,x2b,a5b,())→q56_L2 kr kx0 n line0 at6 x2b a5b) s (i:Int) (1:Int) r2.2.1 x y)
          else (wfD q56_d1 (s,(i:Int),r2.1,r2.2.1,x,y,())→q56_J1 (fun line0 at6 x2b a5b=>wfD q56_d1n (line0,at6,x2b,a5b,())→q56_L2 kr kx0 n line0 at6 x2b a5b) s (i:Int) r2.1 r2.2.1 x y))))
        else False):=by
      intro hsg
      refine asrt (by omega) ⟨⟨rfl,rfl,by rw [List.length_drop]; omega⟩,fun r hr2 _=>?_⟩
      rw [q50_eq] at hr2
      by_cases h9:dgs (s.drop (i+1))≤9
      · have e:r.2.2=true∧r.2.1=((dgs (s.drop (i+1)):Nat):Int)∧r.1=dv (s.drop (i+1)):=by subst hr2; rw [if_pos h9]; exact ⟨rfl,rfl,rfl⟩
        rw [e.1,e.2.1,e.2.2]
        have hv:=dval_take (s.drop (i+1)) (min (dgs (s.drop (i+1))) 9) (by omega)
        have hp9:=pow9 (i:=min (dgs (s.drop (i+1))) 9) (by omega)
        refine brn (fun h0=>?_) (fun h0=>?_)
        · exact step 1 hsg h9 (by rw [if_pos (show dgs (s.drop (i+1))=0 by omega)]) (by omega) (by omega)
        · exact step (dv (s.drop (i+1))) hsg h9 (by rw [if_neg (show ¬ dgs (s.drop (i+1))=0 by omega)]) hv.1 (by have:=hv.2; unfold dv; omega)
      · have e:r.2.2=false:=by subst hr2; rw [if_neg h9]
        rw [e]
        exact hr (by rw [if_pos hsg,if_neg h9])
    refine brn (fun h43=>sign (.inl h43)) (fun h43=>asrt (by omega) (brn (fun h45=>sign (.inr h45)) (fun h45=>?_)))
    rw [if_neg (fun h=>h.elim h43 h45)] at hx
    have:=hx 0 _ _ rfl
    exact this
theorem q56_L2_sp (kr:Int→Int→Adr→Prop) (kx0:Int→Adr→Adr→Prop) (s:LI) (i:Int) (x y:Adr) (hp:q56_L2_P s i x y)
    (hr:∀ q:Int×Int×Adr,q56_L2_F s i x y=.inl q→kr q.1 q.2.1 q.2.2) (hx:∀ q:Int×Adr×Adr,q56_L2_F s i x y=.inr q→kx0 q.1 q.2.1 q.2.2):∃ m,q56_L2 kr kx0 m s i x y:=by
  obtain ⟨h0,h1,hs⟩:=hp
  obtain ⟨j,rfl⟩:=Int.eq_ofNat_of_zero_le h0
  have h1:j≤s.length:=Int.ofNat_le.1 h1
  refine ⟨s.length+1,q56_l2 kr kx0 s x hs _ j y (by omega) h1 (fun h=>?_) (fun m a g h=>?_)⟩
  · refine hr (0,230,adr0) ?_
    unfold q56_L2_F addsAt
    rw [Int.toNat_natCast,h]
  · have:=hx (((j+m:Nat):Int),x,adrA y a g) (by
      unfold q56_L2_F addsAt
      rw [Int.toNat_natCast,h]
      rfl)
    exact this

def q56_J0_F (line0:LI) (at6:Int) (n8:Int) (k9:Int) (x2b:tAd) (a5b:tAd):LI×Int×tAd×tAd:=
 (line0,(IntKind.wrap .i64 (at6+(IntKind.wrap .i64 ((1:Int)+k9)))),x2b,(a5b.1,a5b.2.1,a5b.2.2.1,a5b.2.2.2.1,(IntKind.wrap .i64 (a5b.2.2.2.2.1+n8)),true))
theorem q56_J0_sp (kn:LI→Int→tAd→tAd→Prop) (line0:LI) (at6:Int) (n8:Int) (k9:Int) (x2b:tAd) (a5b:tAd) (hn:∀ q:LI×Int×tAd×tAd,q=q56_J0_F line0 at6 n8 k9 x2b a5b→kn q.1 q.2.1 q.2.2.1 q.2.2.2):q56_J0 kn line0 at6 n8 k9 x2b a5b:=
 have h:=hn; h _ rfl
def q56_J1_P (line0:LI) (at6:Int) (n8:Int) (k9:Int) (x2b:tAd) (a5b:tAd):Prop:=
 (0≤at6∧at6<(List.length line0:Int))
def q56_J1_F (line0:LI) (at6:Int) (n8:Int) (k9:Int) (x2b:tAd) (a5b:tAd):LI×Int×tAd×tAd:=
 bif (decide ((rd (0:Int) line0 at6)=(45:Int))) then
 let q0n:LI×Int×tAd×tAd:=q56_J0_F line0 at6 (IntKind.wrap .i64 (0 - n8)) k9 x2b a5b
 let line0:LI:=q0n.1
 let at6:Int:=q0n.2.1
 let x2b:tAd:=q0n.2.2.1
 let a5b:tAd:=q0n.2.2.2
 (line0,at6,x2b,a5b)
 else
 let q0n:LI×Int×tAd×tAd:=q56_J0_F line0 at6 n8 k9 x2b a5b
 let line0:LI:=q0n.1
 let at6:Int:=q0n.2.1
 let x2b:tAd:=q0n.2.2.1
 let a5b:tAd:=q0n.2.2.2
 (line0,at6,x2b,a5b)
theorem q56_J1_sp (kn:LI→Int→tAd→tAd→Prop) (line0:LI) (at6:Int) (n8:Int) (k9:Int) (x2b:tAd) (a5b:tAd) (hp:q56_J1_P line0 at6 n8 k9 x2b a5b) (hn:∀ q:LI×Int×tAd×tAd,q=q56_J1_F line0 at6 n8 k9 x2b a5b→kn q.1 q.2.1 q.2.2.1 q.2.2.2):q56_J1 kn line0 at6 n8 k9 x2b a5b:=
 have h:=hn; as0 hp (br0 h (fun _ h=>fun _=>q56_J0_sp _ _ _ _ _ _ _ (al (h _ rfl)))
 fun _ h=>fun _=>q56_J0_sp _ _ _ _ _ _ _ (al (h _ rfl)))
def q56_P (line0:LI):Prop:=
 q61_P line0∧(
 let r1:tAd×Int×Int:=q61_F line0
 bif (!decide (r1.2.2=(0:Int))) then
 True
 else
 q56_L2_P line0 r1.2.1 zA r1.1)
def q56_F (line0:LI):tAd×Int×Int:=
 let r1:tAd×Int×Int:=q61_F line0
 bif (!decide (r1.2.2=(0:Int))) then
 (zA,(0:Int),r1.2.2)
 else
 Sum.elim (fun q2r=>
 let x3:Int:=q2r.1
 let x4:Int:=q2r.2.1
 let x2b:tAd:=q2r.2.2
 (x2b,x3,x4)) (fun q2x0=>
 let at6:Int:=q2x0.1
 let x2b:tAd:=q2x0.2.1
 let a5b:tAd:=q2x0.2.2
 bif (decide (a5b.2.2.2.2.1<(-999999999:Int))) then
 (zA,(0:Int),(230:Int))
 else
 bif (decide ((999999999:Int)<a5b.2.2.2.2.1)) then
 (zA,(0:Int),(230:Int))
 else
 (a5b,at6,(0:Int))) (q56_L2_F line0 r1.2.1 zA r1.1)
theorem q56_sp (line0:LI) (K:Res→List Cell→Prop) (_:wfA q56_A (line0,())) (hp:q56_P line0) (h:∀ r:tAd×Int×Int,r=q56_F line0→K (.tup [.v tyA r.1,.v yI r.2.1,.v yI r.2.2]) []):q56_raw line0 K:=
 an1 hp fun hp=>al (br1 hp h (fun _ hp h=>h _ rfl)
 fun _ hp h=>fun _=>q56_L2_sp _ _ _ _ _ _ hp
 (fun _ e _=>have h:=sl e h; h _ rfl)
 (fun _ e _=>have h:=sr e h; br0 h (fun _ h=>h _ rfl)
 fun _ h=>br0 h (fun _ h=>h _ rfl)
 fun _ h=>h _ rfl))
def q56_C (v:valsA q56_A) (K:Res→List Cell→Prop):Prop:=q56_P v.1∧∀ r:tAd×Int×Int,r=q56_F v.1→K (.tup [.v tyA r.1,.v yI r.2.1,.v yI r.2.2]) []
def q56_S:App:=specW q56_A q56_C
theorem q56_wv (K:Res→List Cell→Prop):∀ v:valsA q56_A,runF tb (getG q56_G) q56_B2 Tryz.f135 [true,true,true] (mkA q56_A v) K=q56_raw v.1 K
  | (line0,())=>by kernel_rfl
theorem q56_ok:AppOk Tryz.prog 135 q56_S:=
  AppOk.specW (spec_ok ((runF_ok tb_M tb_ok q56_Gok (q56_b2) (f:=135) (fn:=Tryz.f135) (by kernel_rfl) (by kernel_rfl) q56_st [true,true,true])) fun v K hw h=>(q56_wv K v).mpr (q56_sp v.1 K hw h.1 h.2))

def q30_G:List (Nat×App):=[]
theorem q30_Gok:GOk Tryz.prog (getG q30_G):=GOk.nil
theorem q30_st:storesC (bodyOf Tryz.f76)=true:=by kernel_rfl
def q30_d0:List LS:=[.v 0 yB,.v 5 yI,.v 6 yI]
def q30_d0x0:List LS:=[.v 5 yI,.v 6 yI]
def q30_dx0:DX:=⟨none,none,[(0,q30_d0x0)]⟩
def q30_y0x0 (k:Ex→St→Prop) (v5:Int) (n6:Int):Prop:=wfD q30_d0x0 (v5,n6,())→k (.exit 0) (mkD 42 q30_d0x0 (v5,n6,()))
def q30_T0 (Y:LI→Int→Int→Prop) (kx0:Int→Int→Prop) (p0:LI) (v5:Int) (n6:Int):Prop:=
 bif (decide (n6<(List.length p0:Int))) then
 bif decide (0≤n6∧n6<(List.length p0:Int)) then
 bif (decide ((48:Int)≤(rd (0:Int) p0 n6))) then
 bif decide (0≤n6∧n6<(List.length p0:Int)) then
 bif (decide ((rd (0:Int) p0 n6)≤(57:Int))) then
 bif (decide (n6<(9:Int))) then
 bif decide (0≤n6∧n6<(List.length p0:Int)) then
 Y p0 (IntKind.wrap .i64 ((IntKind.wrap .i64 (v5 * (10:Int)))+(IntKind.wrap .i64 (IntKind.wrap .u8 ((rd (0:Int) p0 n6) - (48:Int)))))) (IntKind.wrap .i64 (n6+(1:Int)))
 else False
 else
 Y p0 v5 (IntKind.wrap .i64 (n6+(1:Int)))
 else
 kx0 v5 n6
 else False
 else
 kx0 v5 n6
 else False
 else
 kx0 v5 n6
def q30_L0 (kx0:Int→Int→Prop):Nat→LI→Int→Int→Prop
  | 0,_,_,_=>False
  | n+1,p0,v5,n6=>wfD q30_d0 (p0,v5,n6,())→q30_T0 (q30_L0 kx0 n) kx0 p0 v5 n6
def q30_c0:Pce:=ex tb (getG q30_G) [] (at' (bodyOf Tryz.f76) [0,0,0,1,1]) [0,0,0,1,1]
def q30_g0 (k:Ex→St→Prop) (n:Nat) (v:vals q30_d0):Prop:=q30_L0 (q30_y0x0 k) n v.1 v.2.1 v.2.2.1
theorem q30_s0 (k:Ex→St→Prop) (Y:vals q30_d0→Prop):∀ v:vals q30_d0,q30_c0 (mkD 42 q30_d0 v) (lpK 42 q30_d0 q30_dx0 k Y)=q30_T0 (fun p0 v5 n6=>Y (p0,v5,n6,())) (q30_y0x0 k) v.1 v.2.1 v.2.2.1
  | (p0,v5,n6,())=>by kernel_rfl
theorem q30_v0 (k:Ex→St→Prop):∀ (n:Nat) (v:vals q30_d0),lpD 42 q30_d0 q30_dx0 q30_c0 k n v=q30_g0 k n v
  | 0,(p0,v5,n6,())=>rfl
  | n+1,(p0,v5,n6,())=>congrArg (fun Z:Prop=>wfD q30_d0 (p0,v5,n6,())→Z) ((q30_s0 k _ (p0,v5,n6,())).trans (congrArg (fun Y=>q30_T0 Y (q30_y0x0 k) p0 v5 n6) (funext fun p0=>funext fun v5=>funext fun n6=>q30_v0 k n (p0,v5,n6,()))))
def q30_X0:Pce:=fun st k=>ckD 42 q30_d0 st fun v=>wfD q30_d0 v→∃ n,q30_g0 k n v
theorem q30_x0:SemOk Tryz.prog (at' (bodyOf Tryz.f76) [0,0,1,1]) q30_X0:=
  (SemOk.loop (ex_sound tb_M tb_ok q30_Gok (LabsOk.nil) (at' (bodyOf Tryz.f76) [0,0,0,1,1]) [0,0,0,1,1] rfl (storesC_at q30_st [0,0,0,1,1])) 42 q30_d0 q30_dx0).mono fun st k h=>ckD_mono h fun v hv hw=>(hv hw).elim fun n hn=>⟨n,Eq.mpr (q30_v0 k n v) hn⟩
def q30_B0:Labs:=([0,0,1,1],q30_X0)::[]
theorem q30_b0:LabsOk Tryz.prog (bodyOf Tryz.f76) q30_B0:=LabsOk.cons q30_x0 (LabsOk.nil)
def q30_raw (p0:LI) (K:Res→List Cell→Prop):Prop:=
 (wfD q30_d0 (p0,(0:Int),(0:Int),())→∃ n,q30_L0 (fun (v5:Int) (n6:Int)=>wfD q30_d0x0 (v5,n6,())→(
 K (.tup [.v yI v5,.v yI n6,.v .bool (decide (n6≤(9:Int)))]) [])) n p0 (0:Int) (0:Int))
def q30_A:List AS:=[.v yB]
def q30_L0_P (s:LI) (n i:Int):Prop:=n=0∧i=0∧s.length≤lim
def q30_L0_F (s:LI) (_ _:Int):Int×Int:=(dv s,(dgs s:Int))
theorem q30_l0 (kx0:Int→Int→Prop) (s:LI) (hs:s.length≤lim) (hx:kx0 (dv s) (dgs s)) :
    ∀ (n i:Nat),s.length<n+i→i≤dgs s→q30_L0 kx0 n s (dval 0 (s.take (min i 9))) (i:Int)
  | 0,i,hn,hi=>absurd hn (by have:=dgs_le s; omega)
  | n+1,i,hn,hi=>by
    intro _
    unfold q30_T0
    have hlim:lim=1099511627776:=rfl
    have hd:=dgs_drop s i hi
    have hl:=dgs_le s
    have fin:dgs s=i→kx0 (dval 0 (s.take (min i 9))) (i:Int):=fun e=>by
      unfold dv at hx
      rw [e] at hx
      exact hx
    refine brn (fun hlt=>asrt (by omega) ?_) (fun hge=>fin (by omega))
    have hi':i<s.length:=by omega
    rw [rd_drop hi']
    rw [dropc hi',dgs_cons] at hd
    have no:¬ (48≤s[i]∧s[i]≤57)→kx0 (dval 0 (s.take (min i 9))) (i:Int):=fun h=>by
      rw [if_neg (by simp [isDg,h])] at hd
      exact fin (by omega)
    refine brn (fun b1=>asrt (by omega) (brn (fun b2=>?_) (fun b2=>no (by omega)))) (fun b1=>no (by omega))
    rw [if_pos (by simp [isDg,b1,b2])] at hd
    refine brn (fun e9=>asrt (by omega) ?_) (fun e9=>?_)
    · obtain ⟨v1,v2⟩:=dval_take s i hi
      have v3:=pow9 (i:=i) (by omega)
      have e10:=q30_l0 kx0 s hs hx n (i+1) (by omega) (by omega)
      rw [show min (i+1) 9=i+1 by omega,List.take_succ_eq_append_getElem hi',dval_snoc] at e10
      rw [show min i 9=i by omega,wrap_u8 (by omega) (by omega),wrap_i64 (n:=s[i] - 48) (by omega) (by omega),wrap_i64 (n:=dval 0 (s.take i) * 10) (by omega) (by omega),wrap_i64 (n:=dval 0 (s.take i) * 10+(s[i] - 48)) (by omega) (by omega),wrap_i64 (by omega) (by omega),show (i:Int)+1=((i+1:Nat):Int) by omega]
      exact e10
    · have e10:=q30_l0 kx0 s hs hx n (i+1) (by omega) (by omega)
      rw [show min (i+1) 9=min i 9 by omega] at e10
      rw [wrap_i64 (by omega) (by omega),show (i:Int)+1=((i+1:Nat):Int) by omega]
      exact e10
theorem q30_L0_sp (kx0:Int→Int→Prop) (s:LI) (n i:Int) (hp:q30_L0_P s n i) (hx:∀ q:Int×Int,q=q30_L0_F s n i→kx0 q.1 q.2):∃ m,q30_L0 kx0 m s n i:=by
  obtain ⟨rfl,rfl,hs⟩:=hp
  exact ⟨s.length+1,q30_l0 kx0 s hs (hx _ rfl) _ 0 (by omega) (by omega)⟩

def q30_P (p0:LI):Prop:=
 q30_L0_P p0 (0:Int) (0:Int)
def q30_F (p0:LI):Int×Int×Bool:=
 let q0x0:Int×Int:=q30_L0_F p0 (0:Int) (0:Int)
 let v5:Int:=q0x0.1
 let n6:Int:=q0x0.2
 (v5,n6,(decide (n6≤(9:Int))))
theorem q30_sp (p0:LI) (K:Res→List Cell→Prop) (_:wfA q30_A (p0,())) (hp:q30_P p0) (h:∀ r:Int×Int×Bool,r=q30_F p0→K (.tup [.v yI r.1,.v yI r.2.1,.v .bool r.2.2]) []):q30_raw p0 K:=
 fun _=>q30_L0_sp _ _ _ _ hp (al (h _ rfl))
def q30_C (v:valsA q30_A) (K:Res→List Cell→Prop):Prop:=q30_P v.1∧∀ r:Int×Int×Bool,r=q30_F v.1→K (.tup [.v yI r.1,.v yI r.2.1,.v .bool r.2.2]) []
def q30_S:App:=specW q30_A q30_C
theorem q30_wv (K:Res→List Cell→Prop):∀ v:valsA q30_A,runF tb (getG q30_G) q30_B0 Tryz.f76 [true,true,true] (mkA q30_A v) K=q30_raw v.1 K
  | (p0,())=>by kernel_rfl
theorem q30_ok:AppOk Tryz.prog 76 q30_S:=
  AppOk.specW (spec_ok ((runF_ok tb_M tb_ok q30_Gok (q30_b0) (f:=76) (fn:=Tryz.f76) (by kernel_rfl) (by kernel_rfl) q30_st [true,true,true])) fun v K hw h=>(q30_wv K v).mpr (q30_sp v.1 K hw h.1 h.2))

def q31_G:List (Nat×App):=[]
theorem q31_Gok:GOk Tryz.prog (getG q31_G):=GOk.nil
theorem q31_st:storesC (bodyOf Tryz.f77)=true:=by kernel_rfl
def q31_d0:List LS:=[.v 0 yB,.v 1 yU,.v 6 yI]
def q31_d0x0:List LS:=[.v 0 yB,.v 6 yI]
def q31_dx0:DX:=⟨none,none,[(0,q31_d0x0)]⟩
def q31_y0x0 (k:Ex→St→Prop) (p0:LI) (n6:Int):Prop:=wfD q31_d0x0 (p0,n6,())→k (.exit 0) (mkD 50 q31_d0x0 (p0,n6,()))
def q31_T0 (Y:LI→Int→Int→Prop) (kx0:LI→Int→Prop) (p0:LI) (sign1:Int) (n6:Int):Prop:=
 bif (decide (n6<(List.length p0:Int))) then
 bif decide (0≤n6∧n6<(List.length p0:Int)) then
 bif (!decide ((rd (0:Int) p0 n6)=sign1)) then
 bif decide (0≤n6∧n6<(List.length p0:Int)) then
 bif (decide ((rd (0:Int) p0 n6)=(92:Int))) then
 bif (decide ((IntKind.wrap .i64 (n6+(1:Int)))<(List.length p0:Int))) then
 Y p0 sign1 (IntKind.wrap .i64 ((IntKind.wrap .i64 (n6+(1:Int)))+(1:Int)))
 else
 Y p0 sign1 (IntKind.wrap .i64 (n6+(1:Int)))
 else
 Y p0 sign1 (IntKind.wrap .i64 (n6+(1:Int)))
 else False
 else
 kx0 p0 n6
 else False
 else
 kx0 p0 n6
def q31_L0 (kx0:LI→Int→Prop):Nat→LI→Int→Int→Prop
  | 0,_,_,_=>False
  | n+1,p0,sign1,n6=>wfD q31_d0 (p0,sign1,n6,())→q31_T0 (q31_L0 kx0 n) kx0 p0 sign1 n6
def q31_c0:Pce:=ex tb (getG q31_G) [] (at' (bodyOf Tryz.f77) [0,0,0,1,1]) [0,0,0,1,1]
def q31_g0 (k:Ex→St→Prop) (n:Nat) (v:vals q31_d0):Prop:=q31_L0 (q31_y0x0 k) n v.1 v.2.1 v.2.2.1
theorem q31_s0 (k:Ex→St→Prop) (Y:vals q31_d0→Prop):∀ v:vals q31_d0,q31_c0 (mkD 50 q31_d0 v) (lpK 50 q31_d0 q31_dx0 k Y)=q31_T0 (fun p0 sign1 n6=>Y (p0,sign1,n6,())) (q31_y0x0 k) v.1 v.2.1 v.2.2.1
  | (p0,sign1,n6,())=>by kernel_rfl
theorem q31_v0 (k:Ex→St→Prop):∀ (n:Nat) (v:vals q31_d0),lpD 50 q31_d0 q31_dx0 q31_c0 k n v=q31_g0 k n v
  | 0,(p0,sign1,n6,())=>rfl
  | n+1,(p0,sign1,n6,())=>congrArg (fun Z:Prop=>wfD q31_d0 (p0,sign1,n6,())→Z) ((q31_s0 k _ (p0,sign1,n6,())).trans (congrArg (fun Y=>q31_T0 Y (q31_y0x0 k) p0 sign1 n6) (funext fun p0=>funext fun sign1=>funext fun n6=>q31_v0 k n (p0,sign1,n6,()))))
def q31_X0:Pce:=fun st k=>ckD 50 q31_d0 st fun v=>wfD q31_d0 v→∃ n,q31_g0 k n v
theorem q31_x0:SemOk Tryz.prog (at' (bodyOf Tryz.f77) [0,0,1,1]) q31_X0:=
  (SemOk.loop (ex_sound tb_M tb_ok q31_Gok (LabsOk.nil) (at' (bodyOf Tryz.f77) [0,0,0,1,1]) [0,0,0,1,1] rfl (storesC_at q31_st [0,0,0,1,1])) 50 q31_d0 q31_dx0).mono fun st k h=>ckD_mono h fun v hv hw=>(hv hw).elim fun n hn=>⟨n,Eq.mpr (q31_v0 k n v) hn⟩
def q31_B0:Labs:=([0,0,1,1],q31_X0)::[]
theorem q31_b0:LabsOk Tryz.prog (bodyOf Tryz.f77) q31_B0:=LabsOk.cons q31_x0 (LabsOk.nil)
def q31_raw (p0:LI) (sign1:Int) (K:Res→List Cell→Prop):Prop:=
 (wfD q31_d0 (p0,sign1,(0:Int),())→∃ n,q31_L0 (fun (p0:LI) (n6:Int)=>wfD q31_d0x0 (p0,n6,())→(
 bif decide (0≤n6∧n6≤(List.length p0:Int)) then
 bif decide (List.length ([]:LI)+List.length (List.take (Int.toNat n6) p0)≤lim) then
 bif (decide (n6<(List.length p0:Int))) then
 K (.tup [.fr 5 yU (([]:LI)++(List.take (Int.toNat n6) p0)),.v yI (IntKind.wrap .i64 (n6+(1:Int)))]) []
 else
 K (.tup [.fr 5 yU (([]:LI)++(List.take (Int.toNat n6) p0)),.v yI n6]) []
 else False
 else False)) n p0 sign1 (0:Int))
def q31_A:List AS:=[.v yB,.v yU]
def q31_L0_P (s:LI) (_ i:Int):Prop:=i=0∧s.length≤lim
def q31_L0_F (s:LI) (c _:Int):LI×Int:=(s,(sou s c:Int))
theorem q31_l0 (kx0:LI→Int→Prop) (s:LI) (c:Int) (hs:s.length≤lim) :
    ∀ (n i:Nat),s.length<n+i→i≤s.length→kx0 s ((i+sou (s.drop i) c:Nat):Int)→q31_L0 kx0 n s c (i:Int)
  | 0,i,hn,hi,hx=>absurd hn (by omega)
  | n+1,i,hn,hi,hx=>by
    intro _
    unfold q31_T0
    have hlim:lim=1099511627776:=rfl
    refine brn (fun hlt=>asrt (by omega) ?_) (fun hge=>by rw [List.drop_eq_nil_of_le (by omega)] at hx; exact hx)
    have hi':i<s.length:=by omega
    rw [rd_drop hi',wrap_i64 (n:=(i:Int)+1) (by omega) (by omega),wrap_i64 (by omega) (by omega),show (i:Int)+1+1=((i+2:Nat):Int) by omega,show (i:Int)+1=((i+1:Nat):Int) by omega]
    rw [dropc hi',sou_cons] at hx
    refine brx (fun hc=>asrt (by omega) (brn (fun h92=>?_) (fun h92=>?_))) (fun hc=>?_)
    · rw [if_neg hc,if_pos h92] at hx
      refine brn (fun he=>?_) (fun he=>?_)
      · have h:i+1<s.length:=by omega
        rw [dropc h] at hx
        exact q31_l0 kx0 s c hs n (i+2) (by omega) (by omega) (by rw [show i+2+sou (s.drop (i+2)) c=i+(sou (s.drop (i+1+1)) c+2) by rw [show i+1+1=i+2 from rfl]; omega]; exact hx)
      · rw [List.drop_eq_nil_of_le (show s.length≤i+1 by omega)] at hx
        exact q31_l0 kx0 s c hs n (i+1) (by omega) (by omega) (by rw [List.drop_eq_nil_of_le (show s.length≤i+1 by omega)]; exact hx)
    · rw [if_neg hc,if_neg h92] at hx
      exact q31_l0 kx0 s c hs n (i+1) (by omega) (by omega) (by rw [show i+1+sou (s.drop (i+1)) c=i+(sou (s.drop (i+1)) c+1) by omega]; exact hx)
    · rw [if_pos hc] at hx; exact hx
theorem q31_L0_sp (kx0:LI→Int→Prop) (s:LI) (c i:Int) (hp:q31_L0_P s c i)
    (hx:∀ q:LI×Int,q=q31_L0_F s c i→kx0 q.1 q.2):∃ m,q31_L0 kx0 m s c i:=by
  obtain ⟨rfl,hs⟩:=hp
  exact ⟨s.length+1,q31_l0 kx0 s c hs _ 0 (by omega) (by omega) (by simp only [List.drop_zero,Nat.zero_add]; exact hx _ rfl)⟩

def q31_P (p0:LI) (sign1:Int):Prop:=
 q31_L0_P p0 sign1 (0:Int)∧(
 let q0x0:LI×Int:=q31_L0_F p0 sign1 (0:Int)
 let p0:LI:=q0x0.1
 let n6:Int:=q0x0.2
 (0≤n6∧n6≤(List.length p0:Int))∧(
 (List.length ([]:LI)+List.length (List.take (Int.toNat n6) p0)≤lim)))
def q31_F (p0:LI) (sign1:Int):LI×Int:=
 let q0x0:LI×Int:=q31_L0_F p0 sign1 (0:Int)
 let p0:LI:=q0x0.1
 let n6:Int:=q0x0.2
 bif (decide (n6<(List.length p0:Int))) then
 ((([]:LI)++(List.take (Int.toNat n6) p0)),(IntKind.wrap .i64 (n6+(1:Int))))
 else
 ((([]:LI)++(List.take (Int.toNat n6) p0)),n6)
theorem q31_sp (p0:LI) (sign1:Int) (K:Res→List Cell→Prop) (_:wfA q31_A (p0,sign1,())) (hp:q31_P p0 sign1) (h:∀ r:LI×Int,r=q31_F p0 sign1→K (.tup [.fr 5 yU r.1,.v yI r.2]) []):q31_raw p0 sign1 K:=
 fun _=>q31_L0_sp _ _ _ _ hp.1 (have hp:=hp.2; al (as1 hp fun hp=>as0 hp (br0 h (fun _ h=>h _ rfl)
 fun _ h=>h _ rfl)))
def q31_C (v:valsA q31_A) (K:Res→List Cell→Prop):Prop:=q31_P v.1 v.2.1∧∀ r:LI×Int,r=q31_F v.1 v.2.1→K (.tup [.fr 5 yU r.1,.v yI r.2]) []
def q31_S:App:=specW q31_A q31_C
theorem q31_wv (K:Res→List Cell→Prop):∀ v:valsA q31_A,runF tb (getG q31_G) q31_B0 Tryz.f77 [true,true] (mkA q31_A v) K=q31_raw v.1 v.2.1 K
  | (p0,sign1,())=>by kernel_rfl
theorem q31_ok:AppOk Tryz.prog 77 q31_S:=
  AppOk.specW (spec_ok ((runF_ok tb_M tb_ok q31_Gok (q31_b0) (f:=77) (fn:=Tryz.f77) (by kernel_rfl) (by kernel_rfl) q31_st [true,true])) fun v K hw h=>(q31_wv K v).mpr (q31_sp v.1 v.2.1 K hw h.1 h.2))

def q35_G:List (Nat×App):=[]
theorem q35_Gok:GOk Tryz.prog (getG q35_G):=GOk.nil
theorem q35_st:storesC (bodyOf Tryz.f78)=true:=by kernel_rfl
def q35_d0:List LS:=[.v 0 yB,.v 1 yU,.v 5 yI]
def q35_d0r:List LS:=[.v 4 .bool]
def q35_d0x0:List LS:=[]
def q35_dx0:DX:=⟨none,some q35_d0r,[(0,q35_d0x0)]⟩
def q35_y0r (k:Ex→St→Prop) (x4:Bool):Prop:=wfD q35_d0r (x4,())→k .ret (mkD 39 q35_d0r (x4,()))
def q35_y0x0 (k:Ex→St→Prop):Prop:=wfD q35_d0x0 ()→k (.exit 0) (mkD 39 q35_d0x0 ())
def q35_T0 (Y:LI→Int→Int→Prop) (kr:Bool→Prop) (kx0:Prop) (text0:LI) (sign1:Int) (i5:Int):Prop:=
 bif (decide (i5<(List.length text0:Int))) then
 bif decide (0≤i5∧i5<(List.length text0:Int)) then
 bif (decide ((rd (0:Int) text0 i5)=sign1)) then
 kr false
 else
 bif decide (0≤i5∧i5<(List.length text0:Int)) then
 bif (decide ((rd (0:Int) text0 i5)=(92:Int))) then
 bif (decide ((IntKind.wrap .i64 (i5+(1:Int)))=(List.length text0:Int))) then
 kr false
 else
 bif decide (0≤i5∧i5<(List.length text0:Int)) then
 bif (decide ((rd (0:Int) text0 i5)=(92:Int))) then
 Y text0 sign1 (IntKind.wrap .i64 ((IntKind.wrap .i64 (i5+(1:Int)))+(1:Int)))
 else
 Y text0 sign1 (IntKind.wrap .i64 (i5+(1:Int)))
 else False
 else
 bif decide (0≤i5∧i5<(List.length text0:Int)) then
 bif (decide ((rd (0:Int) text0 i5)=(92:Int))) then
 Y text0 sign1 (IntKind.wrap .i64 ((IntKind.wrap .i64 (i5+(1:Int)))+(1:Int)))
 else
 Y text0 sign1 (IntKind.wrap .i64 (i5+(1:Int)))
 else False
 else False
 else False
 else
 kx0
def q35_L0 (kr:Bool→Prop) (kx0:Prop):Nat→LI→Int→Int→Prop
  | 0,_,_,_=>False
  | n+1,text0,sign1,i5=>wfD q35_d0 (text0,sign1,i5,())→q35_T0 (q35_L0 kr kx0 n) kr kx0 text0 sign1 i5
def q35_c0:Pce:=ex tb (getG q35_G) [] (at' (bodyOf Tryz.f78) [0,0,0,1,1]) [0,0,0,1,1]
def q35_g0 (k:Ex→St→Prop) (n:Nat) (v:vals q35_d0):Prop:=q35_L0 (q35_y0r k) (q35_y0x0 k) n v.1 v.2.1 v.2.2.1
theorem q35_s0 (k:Ex→St→Prop) (Y:vals q35_d0→Prop):∀ v:vals q35_d0,q35_c0 (mkD 39 q35_d0 v) (lpK 39 q35_d0 q35_dx0 k Y)=q35_T0 (fun text0 sign1 i5=>Y (text0,sign1,i5,())) (q35_y0r k) (q35_y0x0 k) v.1 v.2.1 v.2.2.1
  | (text0,sign1,i5,())=>by kernel_rfl
theorem q35_v0 (k:Ex→St→Prop):∀ (n:Nat) (v:vals q35_d0),lpD 39 q35_d0 q35_dx0 q35_c0 k n v=q35_g0 k n v
  | 0,(text0,sign1,i5,())=>rfl
  | n+1,(text0,sign1,i5,())=>congrArg (fun Z:Prop=>wfD q35_d0 (text0,sign1,i5,())→Z) ((q35_s0 k _ (text0,sign1,i5,())).trans (congrArg (fun Y=>q35_T0 Y (q35_y0r k) (q35_y0x0 k) text0 sign1 i5) (funext fun text0=>funext fun sign1=>funext fun i5=>q35_v0 k n (text0,sign1,i5,()))))
def q35_X0:Pce:=fun st k=>ckD 39 q35_d0 st fun v=>wfD q35_d0 v→∃ n,q35_g0 k n v
theorem q35_x0:SemOk Tryz.prog (at' (bodyOf Tryz.f78) [0,0,1,1]) q35_X0:=
  (SemOk.loop (ex_sound tb_M tb_ok q35_Gok (LabsOk.nil) (at' (bodyOf Tryz.f78) [0,0,0,1,1]) [0,0,0,1,1] rfl (storesC_at q35_st [0,0,0,1,1])) 39 q35_d0 q35_dx0).mono fun st k h=>ckD_mono h fun v hv hw=>(hv hw).elim fun n hn=>⟨n,Eq.mpr (q35_v0 k n v) hn⟩
def q35_B0:Labs:=([0,0,1,1],q35_X0)::[]
theorem q35_b0:LabsOk Tryz.prog (bodyOf Tryz.f78) q35_B0:=LabsOk.cons q35_x0 (LabsOk.nil)
def q35_raw (text0:LI) (sign1:Int) (K:Res→List Cell→Prop):Prop:=
 (wfD q35_d0 (text0,sign1,(0:Int),())→∃ n,q35_L0 (fun (x4:Bool)=>wfD q35_d0r (x4,())→(
 K (.one (.v .bool x4)) [])) (wfD q35_d0x0 ()→(
 K (.one (.v .bool true)) [])) n text0 sign1 (0:Int))
def q35_A:List AS:=[.v yB,.v yU]
def q35_L0_P (s:LI) (_ i:Int):Prop:=i=0∧s.length≤lim
def q35_L0_F (s:LI) (c _:Int):Bool⊕Unit:=if who s c then .inr () else .inl false
theorem q35_l0 (kr:Bool→Prop) (kx0:Prop) (s:LI) (c:Int) (hs:s.length≤lim) :
    ∀ (n i:Nat),s.length+1<n+i→i≤s.length+1→(who (s.drop i) c=false→kr false)→(who (s.drop i) c=true→kx0)→q35_L0 kr kx0 n s c (i:Int)
  | 0,i,hn,hi,hr,hx=>absurd hn (by omega)
  | n+1,i,hn,hi,hr,hx=>by
    intro _
    unfold q35_T0
    have hlim:lim=1099511627776:=rfl
    refine brn (fun hlt=>asrt (by omega) ?_) (fun hge=>hx (by rw [List.drop_eq_nil_of_le (by omega)]; rfl))
    have hi':i<s.length:=by omega
    rw [rd_drop hi',wrap_i64 (n:=(i:Int)+1) (by omega) (by omega),wrap_i64 (by omega) (by omega),show (i:Int)+1+1=((i+2:Nat):Int) by omega,show (i:Int)+1=((i+1:Nat):Int) by omega]
    rw [dropc hi',who_cons] at hr hx
    refine brn (fun hc=>?_) (fun hc=>asrt (by omega) (brn (fun h92=>?_) (fun h92=>?_)))
    · rw [if_pos hc] at hr; exact hr rfl
    · rw [if_neg hc,if_pos h92] at hr hx
      refine brn (fun he=>?_) (fun he=>asrt (by omega) (brn (fun _=>?_) (fun h=>absurd h92 h)))
      · rw [List.drop_eq_nil_of_le (show s.length≤i+1 by omega)] at hr
        exact hr rfl
      · have h:i+1<s.length:=by omega
        rw [dropc h] at hr hx
        exact q35_l0 kr kx0 s c hs n (i+2) (by omega) (by omega) hr hx
    · rw [if_neg hc,if_neg h92] at hr hx
      exact asrt (by omega) (brn (fun h=>absurd h h92) (fun _=>q35_l0 kr kx0 s c hs n (i+1) (by omega) (by omega) hr hx))
theorem q35_L0_sp (kr:Bool→Prop) (kx0:Prop) (s:LI) (c i:Int) (hp:q35_L0_P s c i)
    (hr:∀ q:Bool,q35_L0_F s c i=.inl q→kr q) (hx:∀ q:Unit,q35_L0_F s c i=.inr q→kx0):∃ m,q35_L0 kr kx0 m s c i:=by
  obtain ⟨rfl,hs⟩:=hp
  refine ⟨s.length+2,q35_l0 kr kx0 s c hs _ 0 (by omega) (by omega) (fun h=>?_) (fun h=>?_)⟩
  · rw [List.drop_zero] at h
    exact hr _ (by unfold q35_L0_F; rw [if_neg (by rw [h]; simp)])
  · rw [List.drop_zero] at h
    exact hx () (by unfold q35_L0_F; rw [if_pos h])

def q35_P (text0:LI) (sign1:Int):Prop:=
 q35_L0_P text0 sign1 (0:Int)
def q35_F (text0:LI) (sign1:Int):Bool:=
 Sum.elim (fun q0r=>
 let x4:Bool:=q0r
 x4) (fun q0x0=>
 true) (q35_L0_F text0 sign1 (0:Int))
theorem q35_sp (text0:LI) (sign1:Int) (K:Res→List Cell→Prop) (_:wfA q35_A (text0,sign1,())) (hp:q35_P text0 sign1) (h:∀ r:Bool,r=q35_F text0 sign1→K (.one (.v .bool r)) []):q35_raw text0 sign1 K:=
 fun _=>q35_L0_sp _ _ _ _ _ hp
 (fun _ e _=>have h:=sl e h; h _ rfl)
 (fun _ e _=>have h:=sr e h; h _ rfl)
def q35_C (v:valsA q35_A) (K:Res→List Cell→Prop):Prop:=q35_P v.1 v.2.1∧∀ r:Bool,r=q35_F v.1 v.2.1→K (.one (.v .bool r)) []
def q35_S:App:=specW q35_A q35_C
theorem q35_wv (K:Res→List Cell→Prop):∀ v:valsA q35_A,runF tb (getG q35_G) q35_B0 Tryz.f78 [true] (mkA q35_A v) K=q35_raw v.1 v.2.1 K
  | (text0,sign1,())=>by kernel_rfl
theorem q35_ok:AppOk Tryz.prog 78 q35_S:=
  AppOk.specW (spec_ok ((runF_ok tb_M tb_ok q35_Gok (q35_b0) (f:=78) (fn:=Tryz.f78) (by kernel_rfl) (by kernel_rfl) q35_st [true])) fun v K hw h=>(q35_wv K v).mpr (q35_sp v.1 v.2.1 K hw h.1 h.2))

def q36_G:List (Nat×App):=[(76,q30_S),(77,q31_S),(78,q35_S)]
theorem q36_Gok:GOk Tryz.prog (getG q36_G):=GOk.cons q30_ok (GOk.cons q31_ok (GOk.cons q35_ok (GOk.nil)))
theorem q36_st:storesC (bodyOf Tryz.f36)=true:=by kernel_rfl
def q36_d0:List LS:=[.v 0 yB,.b 2 16 [],.b 5 40 [],.v 6 yI,.v 13 yI,.v 14 yI,.c 16 tyA,.c 40 tyA]
def q36_d0n:List LS:=[.v 0 yB,.b 2 16 [],.b 5 40 [],.v 6 yI,.c 16 tyA,.c 40 tyA]
def q36_dx0:DX:=⟨some q36_d0n,none,[]⟩
def q36_y0n (k:Ex→St→Prop) (line0:LI) (at6:Int) (x2b:tAd) (a5b:tAd):Prop:=wfD q36_d0n (line0,at6,x2b,a5b,())→k .nrm (mkD 146 q36_d0n (line0,at6,x2b,a5b,()))
def q36_J0 (kn:LI→Int→tAd→tAd→Prop) (line0:LI) (at6:Int) (v13:Int) (n14:Int) (x2b:tAd) (a5b:tAd):Prop:=
 kn line0 (IntKind.wrap .i64 (at6+(IntKind.wrap .i64 ((1:Int)+n14)))) x2b (a5b.1,a5b.2.1,a5b.2.2.1,a5b.2.2.2.1,(IntKind.wrap .i64 (a5b.2.2.2.2.1+v13)),true)
def q36_g0 (k:Ex→St→Prop) (v:vals q36_d0):Prop:=q36_J0 (q36_y0n k) v.1 v.2.1 v.2.2.1 v.2.2.2.1 v.2.2.2.2.1 v.2.2.2.2.2.1
theorem q36_v0 (k:Ex→St→Prop):∀ v:vals q36_d0,ex tb (getG q36_G) [] (at' (bodyOf Tryz.f36) [1,1,1,1,0,1,0,0,0,1,1,1,1]) [1,1,1,1,0,1,0,0,0,1,1,1,1] (mkD 146 q36_d0 v) (wk 146 q36_dx0 k)=q36_g0 k v
  | (line0,at6,v13,n14,x2b,a5b,())=>by kernel_rfl
def q36_X0:Pce:=fun st k=>ckD 146 q36_d0 st fun v=>wfD q36_d0 v→q36_g0 k v
theorem q36_x0:SemOk Tryz.prog (at' (bodyOf Tryz.f36) [1,1,1,1,0,1,0,0,0,1,1,1,1]) q36_X0:=
  (SemOk.wk (N:=146) (ds:=q36_d0) (dx:=q36_dx0) (ex_sound tb_M tb_ok q36_Gok (LabsOk.nil) (at' (bodyOf Tryz.f36) [1,1,1,1,0,1,0,0,0,1,1,1,1]) [1,1,1,1,0,1,0,0,0,1,1,1,1] rfl (storesC_at q36_st [1,1,1,1,0,1,0,0,0,1,1,1,1]))).mono fun st k h=>ckD_mono h fun v hv hw=>Eq.mpr (q36_v0 k v) (hv hw)
def q36_B0:Labs:=([1,1,1,1,0,1,0,0,0,1,1,1,1],q36_X0)::[]
theorem q36_b0:LabsOk Tryz.prog (bodyOf Tryz.f36) q36_B0:=LabsOk.cons q36_x0 (LabsOk.nil)
def q36_d1:List LS:=[.v 0 yB,.b 2 16 [],.b 5 40 [],.v 6 yI,.v 13 yI,.v 14 yI,.c 16 tyA,.c 40 tyA]
def q36_d1n:List LS:=[.v 0 yB,.b 2 16 [],.b 5 40 [],.v 6 yI,.c 16 tyA,.c 40 tyA]
def q36_dx1:DX:=⟨some q36_d1n,none,[]⟩
def q36_y1n (k:Ex→St→Prop) (line0:LI) (at6:Int) (x2b:tAd) (a5b:tAd):Prop:=wfD q36_d1n (line0,at6,x2b,a5b,())→k .nrm (mkD 146 q36_d1n (line0,at6,x2b,a5b,()))
def q36_J1 (kn:LI→Int→tAd→tAd→Prop) (line0:LI) (at6:Int) (v13:Int) (n14:Int) (x2b:tAd) (a5b:tAd):Prop:=
 bif decide (0≤at6∧at6<(List.length line0:Int)) then
 bif (decide ((rd (0:Int) line0 at6)=(45:Int))) then
 (wfD q36_d0 (line0,at6,(IntKind.wrap .i64 (0 - v13)),n14,x2b,a5b,())→q36_J0 (fun (line0:LI) (at6:Int) (x2b:tAd) (a5b:tAd)=>wfD q36_d0n (line0,at6,x2b,a5b,())→(
 kn line0 at6 x2b a5b)) line0 at6 (IntKind.wrap .i64 (0 - v13)) n14 x2b a5b)
 else
 (wfD q36_d0 (line0,at6,v13,n14,x2b,a5b,())→q36_J0 (fun (line0:LI) (at6:Int) (x2b:tAd) (a5b:tAd)=>wfD q36_d0n (line0,at6,x2b,a5b,())→(
 kn line0 at6 x2b a5b)) line0 at6 v13 n14 x2b a5b)
 else False
def q36_g1 (k:Ex→St→Prop) (v:vals q36_d1):Prop:=q36_J1 (q36_y1n k) v.1 v.2.1 v.2.2.1 v.2.2.2.1 v.2.2.2.2.1 v.2.2.2.2.2.1
theorem q36_v1 (k:Ex→St→Prop):∀ v:vals q36_d1,ex tb (getG q36_G) q36_B0 (at' (bodyOf Tryz.f36) [1,1,1,0,1,0,0,0,1,1,1,1]) [1,1,1,0,1,0,0,0,1,1,1,1] (mkD 146 q36_d1 v) (wk 146 q36_dx1 k)=q36_g1 k v
  | (line0,at6,v13,n14,x2b,a5b,())=>by kernel_rfl
def q36_X1:Pce:=fun st k=>ckD 146 q36_d1 st fun v=>wfD q36_d1 v→q36_g1 k v
theorem q36_x1:SemOk Tryz.prog (at' (bodyOf Tryz.f36) [1,1,1,0,1,0,0,0,1,1,1,1]) q36_X1:=
  (SemOk.wk (N:=146) (ds:=q36_d1) (dx:=q36_dx1) (ex_sound tb_M tb_ok q36_Gok (q36_b0) (at' (bodyOf Tryz.f36) [1,1,1,0,1,0,0,0,1,1,1,1]) [1,1,1,0,1,0,0,0,1,1,1,1] rfl (storesC_at q36_st [1,1,1,0,1,0,0,0,1,1,1,1]))).mono fun st k h=>ckD_mono h fun v hv hw=>Eq.mpr (q36_v1 k v) (hv hw)
def q36_B1:Labs:=([1,1,1,0,1,0,0,0,1,1,1,1],q36_X1)::q36_B0
theorem q36_b1:LabsOk Tryz.prog (bodyOf Tryz.f36) q36_B1:=LabsOk.cons q36_x1 (q36_b0)
def q36_d2:List LS:=[.v 0 yB,.b 2 16 [],.b 5 40 [],.v 6 yI,.c 16 tyA,.c 40 tyA]
def q36_d2r:List LS:=[.b 2 16 [],.v 3 yI,.v 4 yI,.c 16 tyA]
def q36_d2x1:List LS:=[.b 2 16 [],.b 5 40 [],.v 6 yI,.c 16 tyA,.c 40 tyA]
def q36_dx2:DX:=⟨none,some q36_d2r,[(1,q36_d2x1)]⟩
def q36_y2r (k:Ex→St→Prop) (x3:Int) (x4:Int) (x2b:tAd):Prop:=wfD q36_d2r (x3,x4,x2b,())→k .ret (mkD 146 q36_d2r (x3,x4,x2b,()))
def q36_y2x1 (k:Ex→St→Prop) (at6:Int) (x2b:tAd) (a5b:tAd):Prop:=wfD q36_d2x1 (at6,x2b,a5b,())→k (.exit 1) (mkD 146 q36_d2x1 (at6,x2b,a5b,()))
def q36_T2 (Y:LI→Int→tAd→tAd→Prop) (kr:Int→Int→tAd→Prop) (kx1:Int→tAd→tAd→Prop) (line0:LI) (at6:Int) (x2b:tAd) (a5b:tAd):Prop:=
 bif (decide (at6<(List.length line0:Int))) then
 bif decide (0≤at6∧at6<(List.length line0:Int)) then
 bif (decide ((rd (0:Int) line0 at6)=(43:Int))) then
 bif decide (0≤(IntKind.wrap .i64 (at6+(1:Int)))∧(IntKind.wrap .i64 (at6+(1:Int)))≤(List.length line0:Int)) then
 q30_P (List.drop (Int.toNat (IntKind.wrap .i64 (at6+(1:Int)))) line0)∧(
 ∀ (r2:Int×Int×Bool),r2=q30_F (List.drop (Int.toNat (IntKind.wrap .i64 (at6+(1:Int)))) line0)→(
 wfR (.tup [.v yI r2.1,.v yI r2.2.1,.v .bool r2.2.2])→(
 bif (!r2.2.2) then
 kr (0:Int) (230:Int) zA
 else
 bif (decide (r2.2.1=(0:Int))) then
 (wfD q36_d1 (line0,at6,(1:Int),r2.2.1,x2b,a5b,())→q36_J1 (fun (line0:LI) (at6:Int) (x2b:tAd) (a5b:tAd)=>wfD q36_d1n (line0,at6,x2b,a5b,())→(
 Y line0 at6 x2b a5b)) line0 at6 (1:Int) r2.2.1 x2b a5b)
 else
 (wfD q36_d1 (line0,at6,r2.1,r2.2.1,x2b,a5b,())→q36_J1 (fun (line0:LI) (at6:Int) (x2b:tAd) (a5b:tAd)=>wfD q36_d1n (line0,at6,x2b,a5b,())→(
 Y line0 at6 x2b a5b)) line0 at6 r2.1 r2.2.1 x2b a5b))))
 else False
 else
 bif decide (0≤at6∧at6<(List.length line0:Int)) then
 bif (decide ((rd (0:Int) line0 at6)=(45:Int))) then
 bif decide (0≤(IntKind.wrap .i64 (at6+(1:Int)))∧(IntKind.wrap .i64 (at6+(1:Int)))≤(List.length line0:Int)) then
 q30_P (List.drop (Int.toNat (IntKind.wrap .i64 (at6+(1:Int)))) line0)∧(
 ∀ (r3:Int×Int×Bool),r3=q30_F (List.drop (Int.toNat (IntKind.wrap .i64 (at6+(1:Int)))) line0)→(
 wfR (.tup [.v yI r3.1,.v yI r3.2.1,.v .bool r3.2.2])→(
 bif (!r3.2.2) then
 kr (0:Int) (230:Int) zA
 else
 bif (decide (r3.2.1=(0:Int))) then
 (wfD q36_d1 (line0,at6,(1:Int),r3.2.1,x2b,a5b,())→q36_J1 (fun (line0:LI) (at6:Int) (x2b:tAd) (a5b:tAd)=>wfD q36_d1n (line0,at6,x2b,a5b,())→(
 Y line0 at6 x2b a5b)) line0 at6 (1:Int) r3.2.1 x2b a5b)
 else
 (wfD q36_d1 (line0,at6,r3.1,r3.2.1,x2b,a5b,())→q36_J1 (fun (line0:LI) (at6:Int) (x2b:tAd) (a5b:tAd)=>wfD q36_d1n (line0,at6,x2b,a5b,())→(
 Y line0 at6 x2b a5b)) line0 at6 r3.1 r3.2.1 x2b a5b))))
 else False
 else
 kx1 at6 x2b a5b
 else False
 else False
 else
 kx1 at6 x2b a5b
def q36_L2 (kr:Int→Int→tAd→Prop) (kx1:Int→tAd→tAd→Prop):Nat→LI→Int→tAd→tAd→Prop
  | 0,_,_,_,_=>False
  | n+1,line0,at6,x2b,a5b=>wfD q36_d2 (line0,at6,x2b,a5b,())→q36_T2 (q36_L2 kr kx1 n) kr kx1 line0 at6 x2b a5b
def q36_c2:Pce:=ex tb (getG q36_G) q36_B1 (at' (bodyOf Tryz.f36) [0,0,0,1,1,1,1]) [0,0,0,1,1,1,1]
def q36_g2 (k:Ex→St→Prop) (n:Nat) (v:vals q36_d2):Prop:=q36_L2 (q36_y2r k) (q36_y2x1 k) n v.1 v.2.1 v.2.2.1 v.2.2.2.1
theorem q36_s2 (k:Ex→St→Prop) (Y:vals q36_d2→Prop):∀ v:vals q36_d2,q36_c2 (mkD 146 q36_d2 v) (lpK 146 q36_d2 q36_dx2 k Y)=q36_T2 (fun line0 at6 x2b a5b=>Y (line0,at6,x2b,a5b,())) (q36_y2r k) (q36_y2x1 k) v.1 v.2.1 v.2.2.1 v.2.2.2.1
  | (line0,at6,x2b,a5b,())=>by kernel_rfl
theorem q36_v2 (k:Ex→St→Prop):∀ (n:Nat) (v:vals q36_d2),lpD 146 q36_d2 q36_dx2 q36_c2 k n v=q36_g2 k n v
  | 0,(line0,at6,x2b,a5b,())=>rfl
  | n+1,(line0,at6,x2b,a5b,())=>congrArg (fun Z:Prop=>wfD q36_d2 (line0,at6,x2b,a5b,())→Z) ((q36_s2 k _ (line0,at6,x2b,a5b,())).trans (congrArg (fun Y=>q36_T2 Y (q36_y2r k) (q36_y2x1 k) line0 at6 x2b a5b) (funext fun line0=>funext fun at6=>funext fun x2b=>funext fun a5b=>q36_v2 k n (line0,at6,x2b,a5b,()))))
def q36_X2:Pce:=fun st k=>ckD 146 q36_d2 st fun v=>wfD q36_d2 v→∃ n,q36_g2 k n v
theorem q36_x2:SemOk Tryz.prog (at' (bodyOf Tryz.f36) [0,0,1,1,1,1]) q36_X2:=
  (SemOk.loop (ex_sound tb_M tb_ok q36_Gok (q36_b1) (at' (bodyOf Tryz.f36) [0,0,0,1,1,1,1]) [0,0,0,1,1,1,1] rfl (storesC_at q36_st [0,0,0,1,1,1,1])) 146 q36_d2 q36_dx2).mono fun st k h=>ckD_mono h fun v hv hw=>(hv hw).elim fun n hn=>⟨n,Eq.mpr (q36_v2 k n v) hn⟩
def q36_B2:Labs:=([0,0,1,1,1,1],q36_X2)::q36_B1
theorem q36_b2:LabsOk Tryz.prog (bodyOf Tryz.f36) q36_B2:=LabsOk.cons q36_x2 (q36_b1)
def q36_d3:List LS:=[.v 0 yB,.b 2 16 [],.b 5 40 [],.v 6 yI,.c 16 tyA,.c 40 tyA]
def q36_d3r:List LS:=[.b 2 16 [],.v 3 yI,.v 4 yI,.c 16 tyA]
def q36_dx3:DX:=⟨none,some q36_d3r,[]⟩
def q36_y3r (k:Ex→St→Prop) (x3:Int) (x4:Int) (x2b:tAd):Prop:=wfD q36_d3r (x3,x4,x2b,())→k .ret (mkD 146 q36_d3r (x3,x4,x2b,()))
def q36_J3 (kr:Int→Int→tAd→Prop) (line0:LI) (at6:Int) (x2b:tAd) (a5b:tAd):Prop:=
 (wfD q36_d2 (line0,at6,x2b,a5b,())→∃ n,q36_L2 (fun (x3:Int) (x4:Int) (x2b:tAd)=>wfD q36_d2r (x3,x4,x2b,())→(
 kr x3 x4 x2b)) (fun (at6:Int) (x2b:tAd) (a5b:tAd)=>wfD q36_d2x1 (at6,x2b,a5b,())→(
 bif (decide (a5b.2.2.2.2.1<(-999999999:Int))) then
 kr (0:Int) (230:Int) zA
 else
 bif (decide ((999999999:Int)<a5b.2.2.2.2.1)) then
 kr (0:Int) (230:Int) zA
 else
 kr at6 (0:Int) a5b)) n line0 at6 x2b a5b)
def q36_g3 (k:Ex→St→Prop) (v:vals q36_d3):Prop:=q36_J3 (q36_y3r k) v.1 v.2.1 v.2.2.1 v.2.2.2.1
theorem q36_v3 (k:Ex→St→Prop):∀ v:vals q36_d3,ex tb (getG q36_G) q36_B2 (at' (bodyOf Tryz.f36) [1,1,1,1]) [1,1,1,1] (mkD 146 q36_d3 v) (wk 146 q36_dx3 k)=q36_g3 k v
  | (line0,at6,x2b,a5b,())=>by kernel_rfl
def q36_X3:Pce:=fun st k=>ckD 146 q36_d3 st fun v=>wfD q36_d3 v→q36_g3 k v
theorem q36_x3:SemOk Tryz.prog (at' (bodyOf Tryz.f36) [1,1,1,1]) q36_X3:=
  (SemOk.wk (N:=146) (ds:=q36_d3) (dx:=q36_dx3) (ex_sound tb_M tb_ok q36_Gok (q36_b2) (at' (bodyOf Tryz.f36) [1,1,1,1]) [1,1,1,1] rfl (storesC_at q36_st [1,1,1,1]))).mono fun st k h=>ckD_mono h fun v hv hw=>Eq.mpr (q36_v3 k v) (hv hw)
def q36_B3:Labs:=([1,1,1,1],q36_X3)::q36_B2
theorem q36_b3:LabsOk Tryz.prog (bodyOf Tryz.f36) q36_B3:=LabsOk.cons q36_x3 (q36_b2)
def q36_raw (line0:LI) (K:Res→List Cell→Prop):Prop:=
 bif (decide ((0:Int)<(List.length line0:Int))) then
 bif decide (0≤(0:Int)∧(0:Int)<(List.length line0:Int)) then
 bif (decide ((48:Int)≤(rd (0:Int) line0 (0:Int)))) then
 bif (decide ((rd (0:Int) line0 (0:Int))≤(57:Int))) then
 q30_P line0∧(
 ∀ (r1:Int×Int×Bool),r1=q30_F line0→(
 wfR (.tup [.v yI r1.1,.v yI r1.2.1,.v .bool r1.2.2])→(
 bif (!r1.2.2) then
 K (.tup [.v tyA zA,.v yI (0:Int),.v yI (230:Int)]) []
 else
 (wfD q36_d3 (line0,r1.2.1,zA,((110:Int),r1.1,(0:Int),([]:LI),(0:Int),true),())→q36_J3 (fun (x3:Int) (x4:Int) (x2b:tAd)=>wfD q36_d3r (x3,x4,x2b,())→(
 K (.tup [.v tyA x2b,.v yI x3,.v yI x4]) [])) line0 r1.2.1 zA ((110:Int),r1.1,(0:Int),([]:LI),(0:Int),true)))))
 else
 bif (decide ((rd (0:Int) line0 (0:Int))=(46:Int))) then
 (wfD q36_d3 (line0,(1:Int),zA,((rd (0:Int) line0 (0:Int)),(0:Int),(0:Int),([]:LI),(0:Int),true),())→q36_J3 (fun (x3:Int) (x4:Int) (x2b:tAd)=>wfD q36_d3r (x3,x4,x2b,())→(
 K (.tup [.v tyA x2b,.v yI x3,.v yI x4]) [])) line0 (1:Int) zA ((rd (0:Int) line0 (0:Int)),(0:Int),(0:Int),([]:LI),(0:Int),true))
 else
 bif (decide ((rd (0:Int) line0 (0:Int))=(36:Int))) then
 (wfD q36_d3 (line0,(1:Int),zA,((rd (0:Int) line0 (0:Int)),(0:Int),(0:Int),([]:LI),(0:Int),true),())→q36_J3 (fun (x3:Int) (x4:Int) (x2b:tAd)=>wfD q36_d3r (x3,x4,x2b,())→(
 K (.tup [.v tyA x2b,.v yI x3,.v yI x4]) [])) line0 (1:Int) zA ((rd (0:Int) line0 (0:Int)),(0:Int),(0:Int),([]:LI),(0:Int),true))
 else
 bif (decide ((rd (0:Int) line0 (0:Int))=(39:Int))) then
 bif (decide ((List.length line0:Int)=(1:Int))) then
 K (.tup [.v tyA zA,.v yI (0:Int),.v yI (230:Int)]) []
 else
 bif decide (0≤(1:Int)∧(1:Int)<(List.length line0:Int)) then
 (wfD q36_d3 (line0,(2:Int),zA,((rd (0:Int) line0 (0:Int)),(0:Int),(rd (0:Int) line0 (1:Int)),([]:LI),(0:Int),true),())→q36_J3 (fun (x3:Int) (x4:Int) (x2b:tAd)=>wfD q36_d3r (x3,x4,x2b,())→(
 K (.tup [.v tyA x2b,.v yI x3,.v yI x4]) [])) line0 (2:Int) zA ((rd (0:Int) line0 (0:Int)),(0:Int),(rd (0:Int) line0 (1:Int)),([]:LI),(0:Int),true))
 else False
 else
 bif (decide ((rd (0:Int) line0 (0:Int))=(47:Int))) then
 bif decide (0≤(1:Int)∧(1:Int)≤(List.length line0:Int)) then
 q31_P (List.drop (Int.toNat (1:Int)) line0) (rd (0:Int) line0 (0:Int))∧(
 ∀ (r4:LI×Int),r4=q31_F (List.drop (Int.toNat (1:Int)) line0) (rd (0:Int) line0 (0:Int))→(
 wfR (.tup [.fr 5 yU r4.1,.v yI r4.2])→(
 q35_P r4.1 (rd (0:Int) line0 (0:Int))∧(
 ∀ (r5:Bool),r5=q35_F r4.1 (rd (0:Int) line0 (0:Int))→(
 wB r5→(
 bif (!r5) then
 K (.tup [.v tyA zA,.v yI (0:Int),.v yI (230:Int)]) []
 else
 (wfD q36_d3 (line0,(IntKind.wrap .i64 ((1:Int)+r4.2)),zA,((rd (0:Int) line0 (0:Int)),(0:Int),(0:Int),r4.1,(0:Int),true),())→q36_J3 (fun (x3:Int) (x4:Int) (x2b:tAd)=>wfD q36_d3r (x3,x4,x2b,())→(
 K (.tup [.v tyA x2b,.v yI x3,.v yI x4]) [])) line0 (IntKind.wrap .i64 ((1:Int)+r4.2)) zA ((rd (0:Int) line0 (0:Int)),(0:Int),(0:Int),r4.1,(0:Int),true))))))))
 else False
 else
 bif (decide ((rd (0:Int) line0 (0:Int))=(63:Int))) then
 bif decide (0≤(1:Int)∧(1:Int)≤(List.length line0:Int)) then
 q31_P (List.drop (Int.toNat (1:Int)) line0) (rd (0:Int) line0 (0:Int))∧(
 ∀ (r6:LI×Int),r6=q31_F (List.drop (Int.toNat (1:Int)) line0) (rd (0:Int) line0 (0:Int))→(
 wfR (.tup [.fr 5 yU r6.1,.v yI r6.2])→(
 q35_P r6.1 (rd (0:Int) line0 (0:Int))∧(
 ∀ (r7:Bool),r7=q35_F r6.1 (rd (0:Int) line0 (0:Int))→(
 wB r7→(
 bif (!r7) then
 K (.tup [.v tyA zA,.v yI (0:Int),.v yI (230:Int)]) []
 else
 (wfD q36_d3 (line0,(IntKind.wrap .i64 ((1:Int)+r6.2)),zA,((rd (0:Int) line0 (0:Int)),(0:Int),(0:Int),r6.1,(0:Int),true),())→q36_J3 (fun (x3:Int) (x4:Int) (x2b:tAd)=>wfD q36_d3r (x3,x4,x2b,())→(
 K (.tup [.v tyA x2b,.v yI x3,.v yI x4]) [])) line0 (IntKind.wrap .i64 ((1:Int)+r6.2)) zA ((rd (0:Int) line0 (0:Int)),(0:Int),(0:Int),r6.1,(0:Int),true))))))))
 else False
 else
 (wfD q36_d3 (line0,(0:Int),zA,zA,())→q36_J3 (fun (x3:Int) (x4:Int) (x2b:tAd)=>wfD q36_d3r (x3,x4,x2b,())→(
 K (.tup [.v tyA x2b,.v yI x3,.v yI x4]) [])) line0 (0:Int) zA zA)
 else
 bif (decide ((rd (0:Int) line0 (0:Int))=(46:Int))) then
 (wfD q36_d3 (line0,(1:Int),zA,((rd (0:Int) line0 (0:Int)),(0:Int),(0:Int),([]:LI),(0:Int),true),())→q36_J3 (fun (x3:Int) (x4:Int) (x2b:tAd)=>wfD q36_d3r (x3,x4,x2b,())→(
 K (.tup [.v tyA x2b,.v yI x3,.v yI x4]) [])) line0 (1:Int) zA ((rd (0:Int) line0 (0:Int)),(0:Int),(0:Int),([]:LI),(0:Int),true))
 else
 bif (decide ((rd (0:Int) line0 (0:Int))=(36:Int))) then
 (wfD q36_d3 (line0,(1:Int),zA,((rd (0:Int) line0 (0:Int)),(0:Int),(0:Int),([]:LI),(0:Int),true),())→q36_J3 (fun (x3:Int) (x4:Int) (x2b:tAd)=>wfD q36_d3r (x3,x4,x2b,())→(
 K (.tup [.v tyA x2b,.v yI x3,.v yI x4]) [])) line0 (1:Int) zA ((rd (0:Int) line0 (0:Int)),(0:Int),(0:Int),([]:LI),(0:Int),true))
 else
 bif (decide ((rd (0:Int) line0 (0:Int))=(39:Int))) then
 bif (decide ((List.length line0:Int)=(1:Int))) then
 K (.tup [.v tyA zA,.v yI (0:Int),.v yI (230:Int)]) []
 else
 bif decide (0≤(1:Int)∧(1:Int)<(List.length line0:Int)) then
 (wfD q36_d3 (line0,(2:Int),zA,((rd (0:Int) line0 (0:Int)),(0:Int),(rd (0:Int) line0 (1:Int)),([]:LI),(0:Int),true),())→q36_J3 (fun (x3:Int) (x4:Int) (x2b:tAd)=>wfD q36_d3r (x3,x4,x2b,())→(
 K (.tup [.v tyA x2b,.v yI x3,.v yI x4]) [])) line0 (2:Int) zA ((rd (0:Int) line0 (0:Int)),(0:Int),(rd (0:Int) line0 (1:Int)),([]:LI),(0:Int),true))
 else False
 else
 bif (decide ((rd (0:Int) line0 (0:Int))=(47:Int))) then
 bif decide (0≤(1:Int)∧(1:Int)≤(List.length line0:Int)) then
 q31_P (List.drop (Int.toNat (1:Int)) line0) (rd (0:Int) line0 (0:Int))∧(
 ∀ (r8:LI×Int),r8=q31_F (List.drop (Int.toNat (1:Int)) line0) (rd (0:Int) line0 (0:Int))→(
 wfR (.tup [.fr 5 yU r8.1,.v yI r8.2])→(
 q35_P r8.1 (rd (0:Int) line0 (0:Int))∧(
 ∀ (r9:Bool),r9=q35_F r8.1 (rd (0:Int) line0 (0:Int))→(
 wB r9→(
 bif (!r9) then
 K (.tup [.v tyA zA,.v yI (0:Int),.v yI (230:Int)]) []
 else
 (wfD q36_d3 (line0,(IntKind.wrap .i64 ((1:Int)+r8.2)),zA,((rd (0:Int) line0 (0:Int)),(0:Int),(0:Int),r8.1,(0:Int),true),())→q36_J3 (fun (x3:Int) (x4:Int) (x2b:tAd)=>wfD q36_d3r (x3,x4,x2b,())→(
 K (.tup [.v tyA x2b,.v yI x3,.v yI x4]) [])) line0 (IntKind.wrap .i64 ((1:Int)+r8.2)) zA ((rd (0:Int) line0 (0:Int)),(0:Int),(0:Int),r8.1,(0:Int),true))))))))
 else False
 else
 bif (decide ((rd (0:Int) line0 (0:Int))=(63:Int))) then
 bif decide (0≤(1:Int)∧(1:Int)≤(List.length line0:Int)) then
 q31_P (List.drop (Int.toNat (1:Int)) line0) (rd (0:Int) line0 (0:Int))∧(
 ∀ (r10:LI×Int),r10=q31_F (List.drop (Int.toNat (1:Int)) line0) (rd (0:Int) line0 (0:Int))→(
 wfR (.tup [.fr 5 yU r10.1,.v yI r10.2])→(
 q35_P r10.1 (rd (0:Int) line0 (0:Int))∧(
 ∀ (r11:Bool),r11=q35_F r10.1 (rd (0:Int) line0 (0:Int))→(
 wB r11→(
 bif (!r11) then
 K (.tup [.v tyA zA,.v yI (0:Int),.v yI (230:Int)]) []
 else
 (wfD q36_d3 (line0,(IntKind.wrap .i64 ((1:Int)+r10.2)),zA,((rd (0:Int) line0 (0:Int)),(0:Int),(0:Int),r10.1,(0:Int),true),())→q36_J3 (fun (x3:Int) (x4:Int) (x2b:tAd)=>wfD q36_d3r (x3,x4,x2b,())→(
 K (.tup [.v tyA x2b,.v yI x3,.v yI x4]) [])) line0 (IntKind.wrap .i64 ((1:Int)+r10.2)) zA ((rd (0:Int) line0 (0:Int)),(0:Int),(0:Int),r10.1,(0:Int),true))))))))
 else False
 else
 (wfD q36_d3 (line0,(0:Int),zA,zA,())→q36_J3 (fun (x3:Int) (x4:Int) (x2b:tAd)=>wfD q36_d3r (x3,x4,x2b,())→(
 K (.tup [.v tyA x2b,.v yI x3,.v yI x4]) [])) line0 (0:Int) zA zA)
 else False
 else
 (wfD q36_d3 (line0,(0:Int),zA,zA,())→q36_J3 (fun (x3:Int) (x4:Int) (x2b:tAd)=>wfD q36_d3r (x3,x4,x2b,())→(
 K (.tup [.v tyA x2b,.v yI x3,.v yI x4]) [])) line0 (0:Int) zA zA)
def q36_A:List AS:=[.v yB]
theorem q30_eq (s:LI):q30_F s=(dv s,(dgs s:Int),decide (dgs s≤9)):=by
  unfold q30_F
  show (dv s,(dgs s:Int),decide ((dgs s:Int)≤9))=_
  rw [decide_eq_decide.2 (show (dgs s:Int)≤9↔dgs s≤9 by omega)]
def q36_L2_P (s:LI) (at':Int) (_ _:Adr):Prop:=0≤at'∧at'≤s.length∧s.length≤lim
def q36_L2_F (s:LI) (at':Int) (x y:Adr):(Int×Int×Adr)⊕(Int×Adr×Adr):=addsAt s at' x y
theorem q36_l2 (kr:Int→Int→Adr→Prop) (kx1:Int→Adr→Adr→Prop) (s:LI) (x:Adr) (hs:s.length≤lim) :
    ∀ (n i:Nat) (y:Adr),s.length<n+i→i≤s.length→(adds n (s.drop i) y.2.2.2.2.1 y.2.2.2.2.2=none→kr 0 230 adr0)→
      (∀ m a g,adds n (s.drop i) y.2.2.2.2.1 y.2.2.2.2.2=some (m,a,g)→kx1 ((i+m:Nat):Int) x (adrA y a g))→q36_L2 kr kx1 n s (i:Int) x y
  | 0,i,y,hn,hi,hr,hx=>absurd hn (by omega)
  | n+1,i,y,hn,hi,hr,hx=>by
    intro _
    unfold q36_T2
    have hlim:lim=1099511627776:=rfl
    refine brn (fun hlt=>asrt (by omega) ?_) (fun hge=>by
      rw [List.drop_eq_nil_of_le (by omega)] at hx
      exact hx 0 _ _ rfl)
    have hi':i<s.length:=by omega
    have hw1:IntKind.wrap .i64 ((i:Int)+1)=((i+1:Nat):Int):=by rw [wrap_i64 (by omega) (by omega)]; omega
    rw [rd_drop hi',hw1,Int.toNat_natCast]
    rw [dropc hi'] at hr hx
    unfold adds at hr hx
    have hdl:dgs (s.drop (i+1))+(i+1)≤s.length:=by have:=dgs_le (s.drop (i+1)); rw [List.length_drop] at this; omega
    -- what is added,whichever the sign
    have step:∀ (v:Int),(s[i]=43∨s[i]=45)→dgs (s.drop (i+1))≤9→(if s[i]=45 then -(if dgs (s.drop (i+1))=0 then 1 else dv (s.drop (i+1))) else (if dgs (s.drop (i+1))=0 then 1 else dv (s.drop (i+1))))=(if s[i]=45 then -v else v)→0≤v→v≤1000000000→
        (wfD q36_d1 (s,(i:Int),v,((dgs (s.drop (i+1)):Nat):Int),x,y,())→q36_J1 (fun line0 at6 x2b a5b=>wfD q36_d1n (line0,at6,x2b,a5b,())→q36_L2 kr kx1 n line0 at6 x2b a5b) s (i:Int) v ((dgs (s.drop (i+1)):Nat):Int) x y):=by
      intro v hs9 h9 hv hv0 hv1 _
      unfold q36_J1
      rw [rd_drop hi']
      have hw2:∀ v:Int,(wfD q36_d0 (s,(i:Int),v,((dgs (s.drop (i+1)):Nat):Int),x,y,())→(if s[i]=45 then -(if dgs (s.drop (i+1))=0 then 1 else dv (s.drop (i+1))) else (if dgs (s.drop (i+1))=0 then 1 else dv (s.drop (i+1))))=v→
          q36_J0 (fun line0 at6 x2b a5b=>wfD q36_d0n (line0,at6,x2b,a5b,())→wfD q36_d1n (line0,at6,x2b,a5b,())→q36_L2 kr kx1 n line0 at6 x2b a5b) s (i:Int) v ((dgs (s.drop (i+1)):Nat):Int) x y):=by
        intro v _ hv
        unfold q36_J0
        rw [wrap_i64 (n:=(1:Int)+_) (by omega) (by omega),wrap_i64 (n:=(i:Int)+_) (by omega) (by omega),show (i:Int)+(1+((dgs (s.drop (i+1)):Nat):Int))=((i+1+dgs (s.drop (i+1)):Nat):Int) by omega]
        intro _ _
        rw [if_pos hs9,if_pos h9] at hr hx
        rw [hv,List.drop_drop] at hr hx
        refine q36_l2 kr kx1 s x hs n (i+1+dgs (s.drop (i+1))) _ (by omega) (by omega) (fun h=>hr ?_) (fun m a g h=>?_)
        · dsimp only at h ⊢
          rw [h]
        · have:=hx (1+dgs (s.drop (i+1))+m) a g (by dsimp only at h ⊢; rw [h])
          rw [show i+1+dgs (s.drop (i+1))+m=i+(1+dgs (s.drop (i+1))+m) by omega]
          exact this
      refine asrt (by omega) (brn (fun h45=>?_) (fun h45=>?_))
      · rw [if_pos h45,if_pos h45] at hv
        rw [wrap_i64 (n:=0 - v) (by omega) (by omega),Int.zero_sub]
        rw [if_pos h45] at hw2
        exact fun hwf=>hw2 (-v) hwf hv
      · rw [if_neg h45,if_neg h45] at hv
        rw [if_neg h45] at hw2
        exact fun hwf=>hw2 v hwf hv
    have sign:(s[i]=43∨s[i]=45)→(bif decide (0≤((i+1:Nat):Int)∧((i+1:Nat):Int)≤(List.length s:Int)) then
        q30_P (s.drop (i+1))∧(∀ (r2:Int×Int×Bool),r2=q30_F (s.drop (i+1))→(
          wfR (.tup [.v yI r2.1,.v yI r2.2.1,.v .bool r2.2.2])→(
          bif (!r2.2.2) then kr (0:Int) (230:Int) adr0
          else bif (decide (r2.2.1=(0:Int))) then
            (wfD q36_d1 (s,(i:Int),(1:Int),r2.2.1,x,y,())→q36_J1 (fun line0 at6 x2b a5b=>wfD q36_d1n (line0,at6,x2b,a5b,())→q36_L2 kr kx1 n line0 at6 x2b a5b) s (i:Int) (1:Int) r2.2.1 x y)
          else (wfD q36_d1 (s,(i:Int),r2.1,r2.2.1,x,y,())→q36_J1 (fun line0 at6 x2b a5b=>wfD q36_d1n (line0,at6,x2b,a5b,())→q36_L2 kr kx1 n line0 at6 x2b a5b) s (i:Int) r2.1 r2.2.1 x y))))
        else False):=by
      intro hsg
      refine asrt (by omega) ⟨⟨rfl,rfl,by rw [List.length_drop]; omega⟩,fun r hr2 _=>?_⟩
      rw [q30_eq] at hr2
      by_cases h9:dgs (s.drop (i+1))≤9
      · have e:r.2.2=true∧r.2.1=((dgs (s.drop (i+1)):Nat):Int)∧r.1=dv (s.drop (i+1)):=by subst hr2; exact ⟨by simp [h9],rfl,rfl⟩
        rw [e.1,e.2.1,e.2.2]
        have hv:=dval_take (s.drop (i+1)) (min (dgs (s.drop (i+1))) 9) (by omega)
        have hp9:=pow9 (i:=min (dgs (s.drop (i+1))) 9) (by omega)
        refine brn (fun h0=>?_) (fun h0=>?_)
        · exact step 1 hsg h9 (by rw [if_pos (show dgs (s.drop (i+1))=0 by omega)]) (by omega) (by omega)
        · exact step (dv (s.drop (i+1))) hsg h9 (by rw [if_neg (show ¬ dgs (s.drop (i+1))=0 by omega)]) hv.1 (by have:=hv.2; unfold dv; omega)
      · have e:r.2.2=false:=by subst hr2; simp [h9]
        rw [e]
        exact hr (by rw [if_pos hsg,if_neg h9])
    refine brn (fun h43=>sign (.inl h43)) (fun h43=>asrt (by omega) (brn (fun h45=>sign (.inr h45)) (fun h45=>?_)))
    rw [if_neg (fun h=>h.elim h43 h45)] at hx
    have:=hx 0 _ _ rfl
    exact this
theorem q36_L2_sp (kr:Int→Int→Adr→Prop) (kx1:Int→Adr→Adr→Prop) (s:LI) (i:Int) (x y:Adr) (hp:q36_L2_P s i x y)
    (hr:∀ q:Int×Int×Adr,q36_L2_F s i x y=.inl q→kr q.1 q.2.1 q.2.2) (hx:∀ q:Int×Adr×Adr,q36_L2_F s i x y=.inr q→kx1 q.1 q.2.1 q.2.2):∃ m,q36_L2 kr kx1 m s i x y:=by
  obtain ⟨h0,h1,hs⟩:=hp
  obtain ⟨j,rfl⟩:=Int.eq_ofNat_of_zero_le h0
  have h1:j≤s.length:=Int.ofNat_le.1 h1
  refine ⟨s.length+1,q36_l2 kr kx1 s x hs _ j y (by omega) h1 (fun h=>?_) (fun m a g h=>?_)⟩
  · refine hr (0,230,adr0) ?_
    unfold q36_L2_F addsAt
    rw [Int.toNat_natCast,h]
  · have:=hx (((j+m:Nat):Int),x,adrA y a g) (by
      unfold q36_L2_F addsAt
      rw [Int.toNat_natCast,h]
      rfl)
    exact this

def q36_J0_F (line0:LI) (at6:Int) (v13:Int) (n14:Int) (x2b:tAd) (a5b:tAd):LI×Int×tAd×tAd:=
 (line0,(IntKind.wrap .i64 (at6+(IntKind.wrap .i64 ((1:Int)+n14)))),x2b,(a5b.1,a5b.2.1,a5b.2.2.1,a5b.2.2.2.1,(IntKind.wrap .i64 (a5b.2.2.2.2.1+v13)),true))
theorem q36_J0_sp (kn:LI→Int→tAd→tAd→Prop) (line0:LI) (at6:Int) (v13:Int) (n14:Int) (x2b:tAd) (a5b:tAd) (hn:∀ q:LI×Int×tAd×tAd,q=q36_J0_F line0 at6 v13 n14 x2b a5b→kn q.1 q.2.1 q.2.2.1 q.2.2.2):q36_J0 kn line0 at6 v13 n14 x2b a5b:=
 have h:=hn; h _ rfl
def q36_J1_P (line0:LI) (at6:Int) (v13:Int) (n14:Int) (x2b:tAd) (a5b:tAd):Prop:=
 (0≤at6∧at6<(List.length line0:Int))
def q36_J1_F (line0:LI) (at6:Int) (v13:Int) (n14:Int) (x2b:tAd) (a5b:tAd):LI×Int×tAd×tAd:=
 bif (decide ((rd (0:Int) line0 at6)=(45:Int))) then
 let q0n:LI×Int×tAd×tAd:=q36_J0_F line0 at6 (IntKind.wrap .i64 (0 - v13)) n14 x2b a5b
 let line0:LI:=q0n.1
 let at6:Int:=q0n.2.1
 let x2b:tAd:=q0n.2.2.1
 let a5b:tAd:=q0n.2.2.2
 (line0,at6,x2b,a5b)
 else
 let q0n:LI×Int×tAd×tAd:=q36_J0_F line0 at6 v13 n14 x2b a5b
 let line0:LI:=q0n.1
 let at6:Int:=q0n.2.1
 let x2b:tAd:=q0n.2.2.1
 let a5b:tAd:=q0n.2.2.2
 (line0,at6,x2b,a5b)
theorem q36_J1_sp (kn:LI→Int→tAd→tAd→Prop) (line0:LI) (at6:Int) (v13:Int) (n14:Int) (x2b:tAd) (a5b:tAd) (hp:q36_J1_P line0 at6 v13 n14 x2b a5b) (hn:∀ q:LI×Int×tAd×tAd,q=q36_J1_F line0 at6 v13 n14 x2b a5b→kn q.1 q.2.1 q.2.2.1 q.2.2.2):q36_J1 kn line0 at6 v13 n14 x2b a5b:=
 have h:=hn; as0 hp (br0 h (fun _ h=>fun _=>q36_J0_sp _ _ _ _ _ _ _ (al (h _ rfl)))
 fun _ h=>fun _=>q36_J0_sp _ _ _ _ _ _ _ (al (h _ rfl)))
def q36_J3_P (line0:LI) (at6:Int) (x2b:tAd) (a5b:tAd):Prop:=
 q36_L2_P line0 at6 x2b a5b
def q36_J3_F (line0:LI) (at6:Int) (x2b:tAd) (a5b:tAd):Int×Int×tAd:=
 Sum.elim (fun q2r=>
 let x3:Int:=q2r.1
 let x4:Int:=q2r.2.1
 let x2b:tAd:=q2r.2.2
 (x3,x4,x2b)) (fun q2x1=>
 let at6:Int:=q2x1.1
 let x2b:tAd:=q2x1.2.1
 let a5b:tAd:=q2x1.2.2
 bif (decide (a5b.2.2.2.2.1<(-999999999:Int))) then
 ((0:Int),(230:Int),zA)
 else
 bif (decide ((999999999:Int)<a5b.2.2.2.2.1)) then
 ((0:Int),(230:Int),zA)
 else
 (at6,(0:Int),a5b)) (q36_L2_F line0 at6 x2b a5b)
theorem q36_J3_sp (kr:Int→Int→tAd→Prop) (line0:LI) (at6:Int) (x2b:tAd) (a5b:tAd) (hp:q36_J3_P line0 at6 x2b a5b) (hr:∀ q:Int×Int×tAd,q=q36_J3_F line0 at6 x2b a5b→kr q.1 q.2.1 q.2.2):q36_J3 kr line0 at6 x2b a5b:=
 have h:=hr; fun _=>q36_L2_sp _ _ _ _ _ _ hp
 (fun _ e _=>have h:=sl e h; h _ rfl)
 (fun _ e _=>have h:=sr e h; br0 h (fun _ h=>h _ rfl)
 fun _ h=>br0 h (fun _ h=>h _ rfl)
 fun _ h=>h _ rfl)
def q36_P (line0:LI):Prop:=
 bif (decide ((0:Int)<(List.length line0:Int))) then
 (0≤(0:Int)∧(0:Int)<(List.length line0:Int))∧(
 bif (decide ((48:Int)≤(rd (0:Int) line0 (0:Int)))) then
 bif (decide ((rd (0:Int) line0 (0:Int))≤(57:Int))) then
 q30_P line0∧(
 let r1:Int×Int×Bool:=q30_F line0
 bif (!r1.2.2) then
 True
 else
 q36_J3_P line0 r1.2.1 zA ((110:Int),r1.1,(0:Int),([]:LI),(0:Int),true))
 else
 bif (decide ((rd (0:Int) line0 (0:Int))=(46:Int))) then
 q36_J3_P line0 (1:Int) zA ((rd (0:Int) line0 (0:Int)),(0:Int),(0:Int),([]:LI),(0:Int),true)
 else
 bif (decide ((rd (0:Int) line0 (0:Int))=(36:Int))) then
 q36_J3_P line0 (1:Int) zA ((rd (0:Int) line0 (0:Int)),(0:Int),(0:Int),([]:LI),(0:Int),true)
 else
 bif (decide ((rd (0:Int) line0 (0:Int))=(39:Int))) then
 bif (decide ((List.length line0:Int)=(1:Int))) then
 True
 else
 (0≤(1:Int)∧(1:Int)<(List.length line0:Int))∧(
 q36_J3_P line0 (2:Int) zA ((rd (0:Int) line0 (0:Int)),(0:Int),(rd (0:Int) line0 (1:Int)),([]:LI),(0:Int),true))
 else
 bif (decide ((rd (0:Int) line0 (0:Int))=(47:Int))) then
 (0≤(1:Int)∧(1:Int)≤(List.length line0:Int))∧(
 q31_P (List.drop (Int.toNat (1:Int)) line0) (rd (0:Int) line0 (0:Int))∧(
 let r4:LI×Int:=q31_F (List.drop (Int.toNat (1:Int)) line0) (rd (0:Int) line0 (0:Int))
 q35_P r4.1 (rd (0:Int) line0 (0:Int))∧(
 let r5:Bool:=q35_F r4.1 (rd (0:Int) line0 (0:Int))
 bif (!r5) then
 True
 else
 q36_J3_P line0 (IntKind.wrap .i64 ((1:Int)+r4.2)) zA ((rd (0:Int) line0 (0:Int)),(0:Int),(0:Int),r4.1,(0:Int),true))))
 else
 bif (decide ((rd (0:Int) line0 (0:Int))=(63:Int))) then
 (0≤(1:Int)∧(1:Int)≤(List.length line0:Int))∧(
 q31_P (List.drop (Int.toNat (1:Int)) line0) (rd (0:Int) line0 (0:Int))∧(
 let r6:LI×Int:=q31_F (List.drop (Int.toNat (1:Int)) line0) (rd (0:Int) line0 (0:Int))
 q35_P r6.1 (rd (0:Int) line0 (0:Int))∧(
 let r7:Bool:=q35_F r6.1 (rd (0:Int) line0 (0:Int))
 bif (!r7) then
 True
 else
 q36_J3_P line0 (IntKind.wrap .i64 ((1:Int)+r6.2)) zA ((rd (0:Int) line0 (0:Int)),(0:Int),(0:Int),r6.1,(0:Int),true))))
 else
 q36_J3_P line0 (0:Int) zA zA
 else
 bif (decide ((rd (0:Int) line0 (0:Int))=(46:Int))) then
 q36_J3_P line0 (1:Int) zA ((rd (0:Int) line0 (0:Int)),(0:Int),(0:Int),([]:LI),(0:Int),true)
 else
 bif (decide ((rd (0:Int) line0 (0:Int))=(36:Int))) then
 q36_J3_P line0 (1:Int) zA ((rd (0:Int) line0 (0:Int)),(0:Int),(0:Int),([]:LI),(0:Int),true)
 else
 bif (decide ((rd (0:Int) line0 (0:Int))=(39:Int))) then
 bif (decide ((List.length line0:Int)=(1:Int))) then
 True
 else
 (0≤(1:Int)∧(1:Int)<(List.length line0:Int))∧(
 q36_J3_P line0 (2:Int) zA ((rd (0:Int) line0 (0:Int)),(0:Int),(rd (0:Int) line0 (1:Int)),([]:LI),(0:Int),true))
 else
 bif (decide ((rd (0:Int) line0 (0:Int))=(47:Int))) then
 (0≤(1:Int)∧(1:Int)≤(List.length line0:Int))∧(
 q31_P (List.drop (Int.toNat (1:Int)) line0) (rd (0:Int) line0 (0:Int))∧(
 let r8:LI×Int:=q31_F (List.drop (Int.toNat (1:Int)) line0) (rd (0:Int) line0 (0:Int))
 q35_P r8.1 (rd (0:Int) line0 (0:Int))∧(
 let r9:Bool:=q35_F r8.1 (rd (0:Int) line0 (0:Int))
 bif (!r9) then
 True
 else
 q36_J3_P line0 (IntKind.wrap .i64 ((1:Int)+r8.2)) zA ((rd (0:Int) line0 (0:Int)),(0:Int),(0:Int),r8.1,(0:Int),true))))
 else
 bif (decide ((rd (0:Int) line0 (0:Int))=(63:Int))) then
 (0≤(1:Int)∧(1:Int)≤(List.length line0:Int))∧(
 q31_P (List.drop (Int.toNat (1:Int)) line0) (rd (0:Int) line0 (0:Int))∧(
 let r10:LI×Int:=q31_F (List.drop (Int.toNat (1:Int)) line0) (rd (0:Int) line0 (0:Int))
 q35_P r10.1 (rd (0:Int) line0 (0:Int))∧(
 let r11:Bool:=q35_F r10.1 (rd (0:Int) line0 (0:Int))
 bif (!r11) then
 True
 else
 q36_J3_P line0 (IntKind.wrap .i64 ((1:Int)+r10.2)) zA ((rd (0:Int) line0 (0:Int)),(0:Int),(0:Int),r10.1,(0:Int),true))))
 else
 q36_J3_P line0 (0:Int) zA zA)
 else
 q36_J3_P line0 (0:Int) zA zA
def q36_F (line0:LI):tAd×Int×Int:=
 bif (decide ((0:Int)<(List.length line0:Int))) then
 bif (decide ((48:Int)≤(rd (0:Int) line0 (0:Int)))) then
 bif (decide ((rd (0:Int) line0 (0:Int))≤(57:Int))) then
 let r1:Int×Int×Bool:=q30_F line0
 bif (!r1.2.2) then
 (zA,(0:Int),(230:Int))
 else
 let q3r:Int×Int×tAd:=q36_J3_F line0 r1.2.1 zA ((110:Int),r1.1,(0:Int),([]:LI),(0:Int),true)
 let x3:Int:=q3r.1
 let x4:Int:=q3r.2.1
 let x2b:tAd:=q3r.2.2
 (x2b,x3,x4)
 else
 bif (decide ((rd (0:Int) line0 (0:Int))=(46:Int))) then
 let q3r:Int×Int×tAd:=q36_J3_F line0 (1:Int) zA ((rd (0:Int) line0 (0:Int)),(0:Int),(0:Int),([]:LI),(0:Int),true)
 let x3:Int:=q3r.1
 let x4:Int:=q3r.2.1
 let x2b:tAd:=q3r.2.2
 (x2b,x3,x4)
 else
 bif (decide ((rd (0:Int) line0 (0:Int))=(36:Int))) then
 let q3r:Int×Int×tAd:=q36_J3_F line0 (1:Int) zA ((rd (0:Int) line0 (0:Int)),(0:Int),(0:Int),([]:LI),(0:Int),true)
 let x3:Int:=q3r.1
 let x4:Int:=q3r.2.1
 let x2b:tAd:=q3r.2.2
 (x2b,x3,x4)
 else
 bif (decide ((rd (0:Int) line0 (0:Int))=(39:Int))) then
 bif (decide ((List.length line0:Int)=(1:Int))) then
 (zA,(0:Int),(230:Int))
 else
 let q3r:Int×Int×tAd:=q36_J3_F line0 (2:Int) zA ((rd (0:Int) line0 (0:Int)),(0:Int),(rd (0:Int) line0 (1:Int)),([]:LI),(0:Int),true)
 let x3:Int:=q3r.1
 let x4:Int:=q3r.2.1
 let x2b:tAd:=q3r.2.2
 (x2b,x3,x4)
 else
 bif (decide ((rd (0:Int) line0 (0:Int))=(47:Int))) then
 let r4:LI×Int:=q31_F (List.drop (Int.toNat (1:Int)) line0) (rd (0:Int) line0 (0:Int))
 let r5:Bool:=q35_F r4.1 (rd (0:Int) line0 (0:Int))
 bif (!r5) then
 (zA,(0:Int),(230:Int))
 else
 let q3r:Int×Int×tAd:=q36_J3_F line0 (IntKind.wrap .i64 ((1:Int)+r4.2)) zA ((rd (0:Int) line0 (0:Int)),(0:Int),(0:Int),r4.1,(0:Int),true)
 let x3:Int:=q3r.1
 let x4:Int:=q3r.2.1
 let x2b:tAd:=q3r.2.2
 (x2b,x3,x4)
 else
 bif (decide ((rd (0:Int) line0 (0:Int))=(63:Int))) then
 let r6:LI×Int:=q31_F (List.drop (Int.toNat (1:Int)) line0) (rd (0:Int) line0 (0:Int))
 let r7:Bool:=q35_F r6.1 (rd (0:Int) line0 (0:Int))
 bif (!r7) then
 (zA,(0:Int),(230:Int))
 else
 let q3r:Int×Int×tAd:=q36_J3_F line0 (IntKind.wrap .i64 ((1:Int)+r6.2)) zA ((rd (0:Int) line0 (0:Int)),(0:Int),(0:Int),r6.1,(0:Int),true)
 let x3:Int:=q3r.1
 let x4:Int:=q3r.2.1
 let x2b:tAd:=q3r.2.2
 (x2b,x3,x4)
 else
 let q3r:Int×Int×tAd:=q36_J3_F line0 (0:Int) zA zA
 let x3:Int:=q3r.1
 let x4:Int:=q3r.2.1
 let x2b:tAd:=q3r.2.2
 (x2b,x3,x4)
 else
 bif (decide ((rd (0:Int) line0 (0:Int))=(46:Int))) then
 let q3r:Int×Int×tAd:=q36_J3_F line0 (1:Int) zA ((rd (0:Int) line0 (0:Int)),(0:Int),(0:Int),([]:LI),(0:Int),true)
 let x3:Int:=q3r.1
 let x4:Int:=q3r.2.1
 let x2b:tAd:=q3r.2.2
 (x2b,x3,x4)
 else
 bif (decide ((rd (0:Int) line0 (0:Int))=(36:Int))) then
 let q3r:Int×Int×tAd:=q36_J3_F line0 (1:Int) zA ((rd (0:Int) line0 (0:Int)),(0:Int),(0:Int),([]:LI),(0:Int),true)
 let x3:Int:=q3r.1
 let x4:Int:=q3r.2.1
 let x2b:tAd:=q3r.2.2
 (x2b,x3,x4)
 else
 bif (decide ((rd (0:Int) line0 (0:Int))=(39:Int))) then
 bif (decide ((List.length line0:Int)=(1:Int))) then
 (zA,(0:Int),(230:Int))
 else
 let q3r:Int×Int×tAd:=q36_J3_F line0 (2:Int) zA ((rd (0:Int) line0 (0:Int)),(0:Int),(rd (0:Int) line0 (1:Int)),([]:LI),(0:Int),true)
 let x3:Int:=q3r.1
 let x4:Int:=q3r.2.1
 let x2b:tAd:=q3r.2.2
 (x2b,x3,x4)
 else
 bif (decide ((rd (0:Int) line0 (0:Int))=(47:Int))) then
 let r8:LI×Int:=q31_F (List.drop (Int.toNat (1:Int)) line0) (rd (0:Int) line0 (0:Int))
 let r9:Bool:=q35_F r8.1 (rd (0:Int) line0 (0:Int))
 bif (!r9) then
 (zA,(0:Int),(230:Int))
 else
 let q3r:Int×Int×tAd:=q36_J3_F line0 (IntKind.wrap .i64 ((1:Int)+r8.2)) zA ((rd (0:Int) line0 (0:Int)),(0:Int),(0:Int),r8.1,(0:Int),true)
 let x3:Int:=q3r.1
 let x4:Int:=q3r.2.1
 let x2b:tAd:=q3r.2.2
 (x2b,x3,x4)
 else
 bif (decide ((rd (0:Int) line0 (0:Int))=(63:Int))) then
 let r10:LI×Int:=q31_F (List.drop (Int.toNat (1:Int)) line0) (rd (0:Int) line0 (0:Int))
 let r11:Bool:=q35_F r10.1 (rd (0:Int) line0 (0:Int))
 bif (!r11) then
 (zA,(0:Int),(230:Int))
 else
 let q3r:Int×Int×tAd:=q36_J3_F line0 (IntKind.wrap .i64 ((1:Int)+r10.2)) zA ((rd (0:Int) line0 (0:Int)),(0:Int),(0:Int),r10.1,(0:Int),true)
 let x3:Int:=q3r.1
 let x4:Int:=q3r.2.1
 let x2b:tAd:=q3r.2.2
 (x2b,x3,x4)
 else
 let q3r:Int×Int×tAd:=q36_J3_F line0 (0:Int) zA zA
 let x3:Int:=q3r.1
 let x4:Int:=q3r.2.1
 let x2b:tAd:=q3r.2.2
 (x2b,x3,x4)
 else
 let q3r:Int×Int×tAd:=q36_J3_F line0 (0:Int) zA zA
 let x3:Int:=q3r.1
 let x4:Int:=q3r.2.1
 let x2b:tAd:=q3r.2.2
 (x2b,x3,x4)
theorem q36_sp (line0:LI) (K:Res→List Cell→Prop) (_:wfA q36_A (line0,())) (hp:q36_P line0) (h:∀ r:tAd×Int×Int,r=q36_F line0→K (.tup [.v tyA r.1,.v yI r.2.1,.v yI r.2.2]) []):q36_raw line0 K:=
 br1 hp h (fun _ hp h=>as1 hp fun hp=>br1 hp h (fun _ hp h=>br1 hp h (fun _ hp h=>an1 hp fun hp=>al (br1 hp h (fun _ hp h=>h _ rfl)
 fun _ hp h=>fun _=>q36_J3_sp _ _ _ _ _ hp (al (h _ rfl))))
 fun _ hp h=>br1 hp h (fun _ hp h=>fun _=>q36_J3_sp _ _ _ _ _ hp (al (h _ rfl)))
 fun _ hp h=>br1 hp h (fun _ hp h=>fun _=>q36_J3_sp _ _ _ _ _ hp (al (h _ rfl)))
 fun _ hp h=>br1 hp h (fun _ hp h=>br1 hp h (fun _ hp h=>h _ rfl)
 fun _ hp h=>as1 hp fun hp=>fun _=>q36_J3_sp _ _ _ _ _ hp (al (h _ rfl)))
 fun _ hp h=>br1 hp h (fun _ hp h=>as1 hp fun hp=>an1 hp fun hp=>al (an1 hp fun hp=>al (br1 hp h (fun _ hp h=>h _ rfl)
 fun _ hp h=>fun _=>q36_J3_sp _ _ _ _ _ hp (al (h _ rfl)))))
 fun _ hp h=>br1 hp h (fun _ hp h=>as1 hp fun hp=>an1 hp fun hp=>al (an1 hp fun hp=>al (br1 hp h (fun _ hp h=>h _ rfl)
 fun _ hp h=>fun _=>q36_J3_sp _ _ _ _ _ hp (al (h _ rfl)))))
 fun _ hp h=>fun _=>q36_J3_sp _ _ _ _ _ hp (al (h _ rfl)))
 fun _ hp h=>br1 hp h (fun _ hp h=>fun _=>q36_J3_sp _ _ _ _ _ hp (al (h _ rfl)))
 fun _ hp h=>br1 hp h (fun _ hp h=>fun _=>q36_J3_sp _ _ _ _ _ hp (al (h _ rfl)))
 fun _ hp h=>br1 hp h (fun _ hp h=>br1 hp h (fun _ hp h=>h _ rfl)
 fun _ hp h=>as1 hp fun hp=>fun _=>q36_J3_sp _ _ _ _ _ hp (al (h _ rfl)))
 fun _ hp h=>br1 hp h (fun _ hp h=>as1 hp fun hp=>an1 hp fun hp=>al (an1 hp fun hp=>al (br1 hp h (fun _ hp h=>h _ rfl)
 fun _ hp h=>fun _=>q36_J3_sp _ _ _ _ _ hp (al (h _ rfl)))))
 fun _ hp h=>br1 hp h (fun _ hp h=>as1 hp fun hp=>an1 hp fun hp=>al (an1 hp fun hp=>al (br1 hp h (fun _ hp h=>h _ rfl)
 fun _ hp h=>fun _=>q36_J3_sp _ _ _ _ _ hp (al (h _ rfl)))))
 fun _ hp h=>fun _=>q36_J3_sp _ _ _ _ _ hp (al (h _ rfl)))
 fun _ hp h=>fun _=>q36_J3_sp _ _ _ _ _ hp (al (h _ rfl))
def q36_C (v:valsA q36_A) (K:Res→List Cell→Prop):Prop:=q36_P v.1∧∀ r:tAd×Int×Int,r=q36_F v.1→K (.tup [.v tyA r.1,.v yI r.2.1,.v yI r.2.2]) []
def q36_S:App:=specW q36_A q36_C
theorem q36_wv (K:Res→List Cell→Prop):∀ v:valsA q36_A,runF tb (getG q36_G) q36_B3 Tryz.f36 [true,true,true] (mkA q36_A v) K=q36_raw v.1 K
  | (line0,())=>by kernel_rfl
theorem q36_ok:AppOk Tryz.prog 36 q36_S:=
  AppOk.specW (spec_ok ((runF_ok tb_M tb_ok q36_Gok (q36_b3) (f:=36) (fn:=Tryz.f36) (by kernel_rfl) (by kernel_rfl) q36_st [true,true,true])) fun v K hw h=>(q36_wv K v).mpr (q36_sp v.1 K hw h.1 h.2))

end Go.VE
namespace Go.VE
abbrev Rd (α:Type):=(α×LI)⊕Int
def bsM:LI→Rd Adr
  | []=>.inl (adr0,[])
  | c::r=>if isDg c=true then (if dgs (c::r)≤9 then .inl ((110,dv (c::r),0,[],0,true),(c::r).drop (dgs (c::r))) else .inr 230)
    else if c=46∨c=36 then .inl ((c,0,0,[],0,true),r)
    else if c=39 then (match r with | []=>.inr 230 | n::r2=>.inl ((39,0,n,[],0,true),r2))
    else if c=47∨c=63 then (if clo r c=r.length∧alo r=true then .inr 230 else .inl ((c,0,0,r.take (clo r c),0,true),r.drop (clo r c+1)))
    else .inl (adr0,c::r)
theorem bsM_cons (c:Int) (r:LI):bsM (c::r)=if isDg c=true then (if dgs (c::r)≤9 then .inl ((110,dv (c::r),0,[],0,true),(c::r).drop (dgs (c::r))) else .inr 230)
    else if c=46∨c=36 then .inl ((c,0,0,[],0,true),r)
    else if c=39 then (match r with | []=>.inr 230 | n::r2=>.inl ((39,0,n,[],0,true),r2))
    else if c=47∨c=63 then (if clo r c=r.length∧alo r=true then .inr 230 else .inl ((c,0,0,r.take (clo r c),0,true),r.drop (clo r c+1)))
    else .inl (adr0,c::r):=rfl
def adF (l:LI) (a:Adr):Rd Adr:=match adds (l.length+1) l a.2.2.2.2.1 a.2.2.2.2.2 with
  | none=>.inr 230
  | some (m,s,g)=>if s < -999999999∨999999999<s then .inr 230 else .inl (adrA a s g,l.drop m)
def adM (l:LI):Rd Adr:=match bsM l with
  | .inr e=>.inr e
  | .inl (a,r)=>adF r a
def adR (l:LI):Rd Adr→Adr×Int×Int
  | .inl (a,r)=>(a,(l.length:Int) - r.length,0)
  | .inr e=>(adr0,0,e)

theorem bsM_suf (l:LI) {a:Adr} {r:LI} (h:bsM l=.inl (a,r)):r <:+ l:=by
  cases l with
  | nil=>cases h; exact List.suffix_refl _
  | cons c t=>
    rw [bsM_cons] at h
    split at h
    · split at h
      · cases h; exact List.drop_suffix _ _
      · cases h
    · split at h
      · cases h; exact List.suffix_cons _ _
      · split at h
        · cases t with
          | nil=>cases h
          | cons n t=>cases h; exact (List.suffix_cons _ _).trans (List.suffix_cons _ _)
        · split at h
          · split at h
            · cases h
            · cases h; exact (List.drop_suffix _ _).trans (List.suffix_cons _ _)
          · cases h; exact List.suffix_refl _
theorem adF_suf (l:LI) (b:Adr) {a:Adr} {r:LI} (h:adF l b=.inl (a,r)):r <:+ l:=by
  unfold adF at h
  split at h
  · cases h
  · split at h
    · cases h
    · cases h; exact List.drop_suffix _ _
theorem adM_suf (l:LI) {a:Adr} {r:LI} (h:adM l=.inl (a,r)):r <:+ l:=by
  unfold adM at h
  split at h
  · cases h
  · rename_i b t hb
    exact (adF_suf _ _ h).trans (bsM_suf _ hb)
theorem bsM_err (l:LI) {e:Int} (h:bsM l=.inr e):e=230:=by
  cases l with
  | nil=>cases h
  | cons c t=>
    rw [bsM_cons] at h
    repeat' split at h
    all_goals first | (cases h; rfl) | cases h
theorem adM_err (l:LI) {e:Int} (h:adM l=.inr e):e=230:=by
  unfold adM at h
  split at h
  · rename_i e' hb
    cases h; exact bsM_err _ hb
  · unfold adF at h
    repeat' split at h
    all_goals first | (cases h; rfl) | cases h

theorem suf_len {r l:LI} (h:r <:+ l):r.length≤l.length:=h.length_le
theorem drop_suf {r l:LI} (h:r <:+ l):l.drop (l.length - r.length)=r:=by
  obtain ⟨t,rfl⟩:=h
  rw [List.length_append,Nat.add_sub_cancel]
  simp

theorem addsAt_adF {s r:LI} (h:r <:+ s) (x a:Adr):addsAt s ((s.length:Int) - r.length) x a=(match adds (r.length+1) r a.2.2.2.2.1 a.2.2.2.2.2 with
    | none=>.inl (0,230,adr0)
    | some (m,t,g)=>.inr ((s.length:Int) - r.length+m,x,adrA a t g)):=by
  have hl:=suf_len h
  unfold addsAt
  rw [show ((s.length:Int) - r.length).toNat=s.length - r.length by omega,drop_suf h,adds_fuel (s.length+1) (r.length+1) r _ _ (by omega) (by omega)]
  all_goals (rcases adds (r.length+1) r a.2.2.2.2.1 a.2.2.2.2.2 with _ | ⟨m,t,g⟩ <;> rfl)
theorem closing_eq (r:LI) (c:Int):q44_F r c=(clo r c:Int):=by
  unfold q44_F q44_L0_F
  have:=clo_le r c
  split
  · rfl
  · show (r.length:Int)=_
    omega
theorem alone_eq (r:LI):q55_F r=alo r:=by
  unfold q55_F q55_L0_F
  cases alo r <;> rfl
theorem isDigitA (b:Int):q43_F b=isDg b:=by
  unfold q43_F isDg
  by_cases h1:48≤b <;> by_cases h2:b≤57 <;> simp [h1,h2]
theorem slc_take (c:Int) (r:LI) (k:Nat):slc (c::r) 1 ((1+k:Nat):Int)=r.take k:=by
  unfold slc
  rw [Int.toNat_natCast,Nat.add_comm]
  rfl
theorem mn_le {a b:Int}:mn a b=if a≤b then a else b:=by
  unfold mn
  by_cases h:b<a
  · rw [decide_eq_true h,if_neg (by omega)]; rfl
  · rw [decide_eq_false h,if_pos (by omega)]; rfl
theorem base_eq (l:LI) (hl:l.length≤lim):q61_P l∧q61_F l=adR l (bsM l):=by
  have hlim:lim=1099511627776:=rfl
  cases l with
  | nil=>exact ⟨trivial,rfl⟩
  | cons c r=>
    have e0:rd (0:Int) (c::r) 0=c:=rfl
    have hn:decide (((c::r).length:Int)=0)=false:=decide_eq_false (by simp only [List.length_cons]; omega)
    have hd:List.drop (Int.toNat (1:Int)) (c::r)=r:=rfl
    have hl2:r.length+1≤lim:=hl
    have hc:=clo_le r c
    have hdl:=dgs_le (c::r)
    have hw:IntKind.wrap .i64 (((c::r).length:Int) - 1)=r.length:=by rw [wrap_i64 (by simp only [List.length_cons]; omega) (by simp only [List.length_cons]; omega)]; simp only [List.length_cons]; omega
    have hw1:IntKind.wrap .i64 (1+(clo r c:Int))=((1+clo r c:Nat):Int):=by rw [wrap_i64 (by omega) (by omega)]; omega
    have hw2:IntKind.wrap .i64 ((clo r c:Int)+2)=((clo r c+2:Nat):Int):=by rw [wrap_i64 (by omega) (by omega)]; omega
    have hm:mn ((clo r c+2:Nat):Int) ((c::r).length:Int)=((c::r).length:Int) - ((r.drop (clo r c+1)).length:Int):=by
      rw [mn_le,List.length_drop]; simp only [List.length_cons]; split <;> omega
    have hr0:(0:Int)≤0∧(0:Int)<((c::r).length:Int):=by simp only [List.length_cons]; omega
    have hr1:(0:Int)≤1∧(1:Int)≤((c::r).length:Int):=by simp only [List.length_cons]; omega
    have hr2:(0:Int)≤1∧(1:Int)≤((1+clo r c:Nat):Int)∧((1+clo r c:Nat):Int)≤((c::r).length:Int):=by simp only [List.length_cons]; omega
    have hcl:q44_P r c:=⟨rfl,by omega⟩
    have hal:q55_P r:=⟨rfl,by omega⟩
    have hcn:q71_P (r.take (clo r c)):=by unfold q71_P; rw [List.length_take]; omega
    have hnp:q50_P (c::r):=⟨rfl,rfl,hl⟩
    have hdr:(((c::r).length:Int) - (((c::r).drop (dgs (c::r))).length:Int))=(dgs (c::r):Int):=by rw [List.length_drop]; omega
    have fin:(c=47∨c=63)→(bif decide ((clo r c:Int)=r.length) then (bif alo r then ((adr0,0,230):Adr×Int×Int) else ((c,0,0,r.take (clo r c),0,true),mn ((clo r c+2:Nat):Int) ((c::r).length:Int),0)) else ((c,0,0,r.take (clo r c),0,true),mn ((clo r c+2:Nat):Int) ((c::r).length:Int),0)) =
        adR (c::r) (if clo r c=r.length∧alo r=true then .inr 230 else .inl ((c,0,0,r.take (clo r c),0,true),r.drop (clo r c+1))):=fun _=>by
      rw [hm]
      by_cases h1:clo r c=r.length
      · rw [decide_eq_true (by omega)]
        cases h2:alo r
        · rw [if_neg (by simp)]; rfl
        · rw [if_pos ⟨h1,rfl⟩]; rfl
      · rw [decide_eq_false (by omega),if_neg (fun h=>h1 h.1)]; rfl
    have finP:(bif decide ((clo r c:Int)=r.length) then ((0:Int)≤1∧(1:Int)≤((c::r).length:Int))∧(q55_P r∧(bif alo r then True else ((0:Int)≤1∧(1:Int)≤((1+clo r c:Nat):Int)∧((1+clo r c:Nat):Int)≤((c::r).length:Int))∧q71_P (r.take (clo r c)))) else
        ((0:Int)≤1∧(1:Int)≤((1+clo r c:Nat):Int)∧((1+clo r c:Nat):Int)≤((c::r).length:Int))∧q71_P (r.take (clo r c))):=by
      refine brn (fun _=>⟨hr1,hal,brb (fun _=>trivial) (fun _=>⟨hr2,hcn⟩)⟩) (fun _=>⟨hr2,hcn⟩)
    unfold q61_P q61_F
    rw [hn,bsM_cons]
    simp only [e0,isDigitA,cond_false,hd,closing_eq,alone_eq,q71_F,hw,hw1,hw2,slc_take,q50_eq]
    by_cases c1:isDg c=true
    · rw [c1]
      refine ⟨⟨hr0,hnp⟩,?_⟩
      rw [if_pos rfl,cond_true]
      by_cases h9:dgs (c::r)≤9
      · rw [if_pos h9,if_pos h9]
        unfold adR
        dsimp only
        rw [hdr]; rfl
      · rw [if_neg h9,if_neg h9]; rfl
    · rw [if_neg c1,show isDg c=false by simpa using c1]
      by_cases c2:c=46
      · subst c2
        refine ⟨⟨hr0,trivial⟩,?_⟩
        unfold adR
        rw [if_pos (show ((46:Int)=46∨(46:Int)=36) from .inl rfl)]
        show _=(_,(((r.length+1:Nat):Int) - (r.length:Int)),_)
        rw [show (((r.length+1:Nat):Int) - (r.length:Int))=1 by omega]; rfl
      by_cases c3:c=36
      · subst c3
        refine ⟨⟨hr0,trivial⟩,?_⟩
        unfold adR
        rw [if_pos (show ((36:Int)=46∨(36:Int)=36) from .inr rfl)]
        show _=(_,(((r.length+1:Nat):Int) - (r.length:Int)),_)
        rw [show (((r.length+1:Nat):Int) - (r.length:Int))=1 by omega]; rfl
      rw [if_neg (show ¬ (c=46∨c=36) by simp [c2,c3]),decide_eq_false c2,decide_eq_false c3]
      by_cases c4:c=39
      · subst c4
        rw [if_pos rfl]
        cases r with
        | nil=>exact ⟨⟨hr0,trivial⟩,rfl⟩
        | cons n r2=>
          have hq:decide ((((39:Int)::n::r2).length:Int)=1)=false:=decide_eq_false (by simp only [List.length_cons]; omega)
          rw [hq]
          refine ⟨⟨hr0,show (0:Int)≤1∧(1:Int)<(((39:Int)::n::r2).length:Int) from by simp only [List.length_cons]; omega⟩,?_⟩
          unfold adR
          simp only [List.length_cons,cond_false,decide_true,cond_true]
          rw [show (((r2.length+1+1:Nat):Int) - (r2.length:Int))=2 by omega]
          rfl
      rw [if_neg c4,decide_eq_false c4]
      by_cases c5:c=47
      · subst c5
        rw [if_pos (show ((47:Int)=47∨(47:Int)=63) from .inl rfl)]
        exact ⟨⟨hr0,hr1,hcl,finP⟩,fin (.inl rfl)⟩
      by_cases c6:c=63
      · subst c6
        rw [if_pos (show ((63:Int)=47∨(63:Int)=63) from .inr rfl)]
        exact ⟨⟨hr0,hr1,hcl,finP⟩,fin (.inr rfl)⟩
      rw [if_neg (show ¬ (c=47∨c=63) by simp [c5,c6]),decide_eq_false c5,decide_eq_false c6]
      refine ⟨⟨hr0,trivial⟩,?_⟩
      unfold adR
      dsimp only
      rw [Int.sub_self]; rfl
theorem adF_cases (l:LI) (a:Adr):(adds (l.length+1) l a.2.2.2.2.1 a.2.2.2.2.2=none∧adF l a=.inr 230)∨
    ∃ m s g,adds (l.length+1) l a.2.2.2.2.1 a.2.2.2.2.2=some (m,s,g)∧m≤l.length∧adF l a=if s < -999999999∨999999999<s then .inr 230 else .inl (adrA a s g,l.drop m):=by
  unfold adF
  cases h:adds (l.length+1) l a.2.2.2.2.1 a.2.2.2.2.2 with
  | none=>exact .inl ⟨rfl,rfl⟩
  | some p=>
    obtain ⟨m,s,g⟩:=p
    exact .inr ⟨m,s,g,rfl,adds_le _ _ _ _ _ _ _ h,rfl⟩
theorem tail_eq {l r:LI} (hr:r <:+ l) (a:Adr) :
    Sum.elim (fun q:Int×Int×Adr=>(q.2.2,q.1,q.2.1)) (fun q:Int×Adr×Adr=>bif decide (q.2.2.2.2.2.2.1<(-999999999:Int)) then ((adr0,0,230):Adr×Int×Int) else bif decide ((999999999:Int)<q.2.2.2.2.2.2.1) then (adr0,0,230) else (q.2.2,q.1,0)) (addsAt l ((l.length:Int) - r.length) adr0 a)=adR l (adF r a):=by
  rw [addsAt_adF hr]
  have hl:=suf_len hr
  rcases adF_cases r a with ⟨h1,h2⟩ | ⟨m,s,g,h1,hm,h2⟩
  · rw [h1,h2]; rfl
  · rw [h1,h2]
    show (bif decide (s<(-999999999:Int)) then ((adr0,0,230):Adr×Int×Int) else bif decide ((999999999:Int)<s) then (adr0,0,230) else (adrA a s g,(l.length:Int) - r.length+m,0))=_
    by_cases c1:s < -999999999
    · rw [if_pos (.inl c1),decide_eq_true c1]; rfl
    · rw [decide_eq_false c1]
      by_cases c2:999999999<s
      · rw [if_pos (.inr c2),decide_eq_true c2]; rfl
      · rw [if_neg (by omega),decide_eq_false c2]
        unfold adR
        dsimp only
        rw [List.length_drop,show ((l.length:Int) - ((r.length - m:Nat):Int))=(l.length:Int) - r.length+m by omega]; rfl
theorem address_eq (l:LI) (hl:l.length≤lim):q56_P l∧q56_F l=adR l (adM l):=by
  obtain ⟨hp,hf⟩:=base_eq l hl
  unfold q56_P q56_F
  rw [hf]
  unfold adM
  cases hb:bsM l with
  | inr e=>
    have:=bsM_err _ hb
    subst this
    exact ⟨⟨hp,trivial⟩,rfl⟩
  | inl p=>
    obtain ⟨a,r⟩:=p
    have hs:=bsM_suf l hb
    have hsl:=suf_len hs
    refine ⟨⟨hp,show 0≤(l.length:Int) - r.length∧(l.length:Int) - r.length≤l.length∧_ from ⟨by omega,by omega,hl⟩⟩,?_⟩
    exact tail_eq hs a

theorem sou_clo {c:Int} (hc:c≠92):∀ r,sou r c=clo r c
  | []=>rfl
  | [b]=>by
    rw [sou_cons,clo_cons]
    by_cases h1:b=c
    · rw [if_pos h1,if_neg (by rw [h1]; exact hc),if_pos h1]
    · rw [if_neg h1]
      by_cases h2:b=92
      · rw [if_pos h2,if_pos h2]
      · rw [if_neg h2,if_neg h2,if_neg h1]; rfl
  | b::d::r=>by
    rw [sou_cons,clo_cons]
    dsimp only
    rw [sou_clo hc r,sou_clo hc (d::r)]
    by_cases h1:b=c
    · rw [if_pos h1,if_neg (by rw [h1]; exact hc),if_pos h1]
    · rw [if_neg h1]
      by_cases h2:b=92
      · rw [if_pos h2,if_pos h2]
      · rw [if_neg h2,if_neg h2,if_neg h1]
theorem who_take {c:Int} (hc:c≠92):∀ r,who (r.take (clo r c)) c=!(decide (clo r c=r.length) && alo r)
  | []=>rfl
  | [b]=>by
    rw [clo_cons]
    by_cases h2:b=92
    · subst h2
      rw [if_pos rfl]
      simp [who,alo]
    · rw [if_neg h2]
      by_cases h1:b=c
      · rw [if_pos h1]; simp [who]
      · rw [if_neg h1]; simp [who,alo,h1,h2,clo]
  | b::d::r=>by
    have ih1:=who_take hc r
    have ih2:=who_take hc (d::r)
    have hle:=clo_le r c
    by_cases h2:b=92
    · subst h2
      rw [show clo (92::d::r) c=clo r c+2 by rw [clo_cons,if_pos rfl],show alo (92::d::r)=alo r by rw [alo_cons]; dsimp only; rw [if_pos rfl]]
      rw [show List.take (clo r c+2) (92::d::r)=92::d::r.take (clo r c) from rfl,who_cons,if_neg (Ne.symm hc),if_pos rfl]
      dsimp only
      rw [ih1,decide_eq_decide.2 (show clo r c+2=(92::d::r).length↔clo r c=r.length by simp only [List.length_cons]; omega)]
    · by_cases h1:b=c
      · rw [show clo (b::d::r) c=0 by rw [clo_cons,if_neg h2,if_pos h1]]
        simp [who]
      · rw [show clo (b::d::r) c=clo (d::r) c+1 by rw [clo_cons,if_neg h2,if_neg h1],alo_ne h2]
        rw [List.take_succ_cons,who_cons,if_neg h1,if_neg h2,ih2]
        rw [decide_eq_decide.2 (show clo (d::r) c+1=(b::d::r).length↔clo (d::r) c=(d::r).length by simp only [List.length_cons]; omega)]
theorem whole_eq (s:LI) (c:Int):q35_F s c=who s c:=by
  unfold q35_F q35_L0_F
  cases who s c <;> rfl
theorem sought_eq (s:LI) (c:Int) (hs:s.length≤lim):q31_P s c∧q31_F s c=(s.take (sou s c),(s.length:Int) - ((s.drop (sou s c+1)).length:Int)):=by
  have hl:=sou_le s c
  have hlim:lim=1099511627776:=rfl
  refine ⟨⟨⟨rfl,hs⟩,⟨show (0:Int)≤(sou s c:Int) by omega,show (sou s c:Int)≤(s.length:Int) by omega⟩,?_⟩,?_⟩
  · show ([]:LI).length+(s.take (Int.toNat (sou s c:Int))).length≤lim
    rw [List.length_take]; simp only [List.length_nil]; omega
  · show (bif decide ((sou s c:Int)<(s.length:Int)) then (([]++s.take (Int.toNat (sou s c:Int))),IntKind.wrap .i64 ((sou s c:Int)+1)) else (([]++s.take (Int.toNat (sou s c:Int))),(sou s c:Int)))=_
    rw [Int.toNat_natCast,List.nil_append,List.length_drop,wrap_i64 (by omega) (by omega)]
    by_cases h:sou s c<s.length
    · rw [decide_eq_true (by omega)]
      show (_,_)=(_,_)
      rw [show ((sou s c:Int)+1)=((s.length:Int) - ((s.length - (sou s c+1):Nat):Int)) by omega]
    · rw [decide_eq_false (by omega)]
      show (_,_)=(_,_)
      rw [show ((sou s c:Int))=((s.length:Int) - ((s.length - (sou s c+1):Nat):Int)) by omega]
end Go.VE
namespace Go.VE
set_option maxRecDepth 20000
open Go Go.Proofs
def q57_G:List (Nat×App):=[(67,q71_S),(139,q44_S)]
theorem q57_Gok:GOk Tryz.prog (getG q57_G):=GOk.cons q71_ok (GOk.cons q44_ok (GOk.nil))
theorem q57_st:storesC (bodyOf Tryz.f90)=true:=by kernel_rfl
def q57_d0:List LS:=[.b 1 8 [],.v 34 .bool,.c 8 tyA]
def q57_d0r:List LS:=[.v 2 .bool]
def q57_d0n:List LS:=[]
def q57_dx0:DX:=⟨some q57_d0n,some q57_d0r,[]⟩
def q57_y0r (k:Ex→St→Prop) (x2:Bool):Prop:=wfD q57_d0r (x2,())→k .ret (mkD 52 q57_d0r (x2,()))
def q57_y0n (k:Ex→St→Prop):Prop:=wfD q57_d0n ()→k .nrm (mkD 52 q57_d0n ())
def q57_J0 (kr:Bool→Prop) (kn:Prop) (x34:Bool) (a1b:tAd):Prop:=
 bif x34 then
 (
 q71_P a1b.2.2.2.1∧(
 ∀ (r1:LI),r1=q71_F a1b.2.2.2.1→(
 wfR (.one (.fr 5 yU r1))→(
 bif decide (List.length r1+List.length ([a1b.1]:LI)≤lim) then
 q44_P (r1++([a1b.1]:LI)) a1b.1∧(
 ∀ (r2:Int),r2=q44_F (r1++([a1b.1]:LI)) a1b.1→(
 wI r2→(
 kr (decide (r2=(List.length a1b.2.2.2.1:Int))))))
 else False))))∧(
 q71_P a1b.2.2.2.1∧(
 ∀ (r3:LI),r3=q71_F a1b.2.2.2.1→(
 wfR (.one (.fr 5 yU r3))→(
 bif decide (List.length r3+List.length ([a1b.1]:LI)≤lim) then
 q44_P (r3++([a1b.1]:LI)) a1b.1∧(
 ∀ (r4:Int),r4=q44_F (r3++([a1b.1]:LI)) a1b.1→(
 wI r4→(
 kr (decide (r4=(List.length a1b.2.2.2.1:Int))))))
 else False))))∧True
 else
 kn
def q57_g0 (k:Ex→St→Prop) (v:vals q57_d0):Prop:=q57_J0 (q57_y0r k) (q57_y0n k) v.1 v.2.1
theorem q57_v0 (k:Ex→St→Prop):∀ v:vals q57_d0,ex tb (getG q57_G) [] (at' (bodyOf Tryz.f90) [1,1,1,1,1,0,1,0,1,1]) [1,1,1,1,1,0,1,0,1,1] (mkD 52 q57_d0 v) (wk 52 q57_dx0 k)=q57_g0 k v
  | (x34,a1b,())=>by kernel_rfl
def q57_X0:Pce:=fun st k=>ckD 52 q57_d0 st fun v=>wfD q57_d0 v→q57_g0 k v
theorem q57_x0:SemOk Tryz.prog (at' (bodyOf Tryz.f90) [1,1,1,1,1,0,1,0,1,1]) q57_X0:=
  (SemOk.wk (N:=52) (ds:=q57_d0) (dx:=q57_dx0) (ex_sound tb_M tb_ok q57_Gok (LabsOk.nil) (at' (bodyOf Tryz.f90) [1,1,1,1,1,0,1,0,1,1]) [1,1,1,1,1,0,1,0,1,1] rfl (storesC_at q57_st [1,1,1,1,1,0,1,0,1,1]))).mono fun st k h=>ckD_mono h fun v hv hw=>Eq.mpr (q57_v0 k v) (hv hw)
def q57_B0:Labs:=([1,1,1,1,1,0,1,0,1,1],q57_X0)::[]
theorem q57_b0:LabsOk Tryz.prog (bodyOf Tryz.f90) q57_B0:=LabsOk.cons q57_x0 (LabsOk.nil)
def q57_d1:List LS:=[.b 1 8 [],.v 18 yU,.v 19 .bool,.c 8 tyA]
def q57_d1r:List LS:=[.v 2 .bool]
def q57_d1n:List LS:=[]
def q57_dx1:DX:=⟨some q57_d1n,some q57_d1r,[]⟩
def q57_y1r (k:Ex→St→Prop) (x2:Bool):Prop:=wfD q57_d1r (x2,())→k .ret (mkD 52 q57_d1r (x2,()))
def q57_y1n (k:Ex→St→Prop):Prop:=wfD q57_d1n ()→k .nrm (mkD 52 q57_d1n ())
def q57_J1 (kr:Bool→Prop) (kn:Prop) (x18:Int) (x19:Bool) (a1b:tAd):Prop:=
 bif x19 then
 kr true
 else
 bif (decide (x18=(110:Int))) then
 bif (decide ((0:Int)≤a1b.2.1)) then
 kr (decide (a1b.2.1≤(999999999:Int)))
 else
 kr false
 else
 bif (decide (x18=(47:Int))) then
 (wfD q57_d0 ((decide (x18=(47:Int))),a1b,())→q57_J0 (fun (x2:Bool)=>wfD q57_d0r (x2,())→(
 kr x2)) (wfD q57_d0n ()→(
 kn)) (decide (x18=(47:Int))) a1b)
 else
 (wfD q57_d0 ((decide (x18=(63:Int))),a1b,())→q57_J0 (fun (x2:Bool)=>wfD q57_d0r (x2,())→(
 kr x2)) (wfD q57_d0n ()→(
 kn)) (decide (x18=(63:Int))) a1b)
def q57_g1 (k:Ex→St→Prop) (v:vals q57_d1):Prop:=q57_J1 (q57_y1r k) (q57_y1n k) v.1 v.2.1 v.2.2.1
theorem q57_v1 (k:Ex→St→Prop):∀ v:vals q57_d1,ex tb (getG q57_G) q57_B0 (at' (bodyOf Tryz.f90) [1,0,1,0,1,1]) [1,0,1,0,1,1] (mkD 52 q57_d1 v) (wk 52 q57_dx1 k)=q57_g1 k v
  | (x18,x19,a1b,())=>by kernel_rfl
def q57_X1:Pce:=fun st k=>ckD 52 q57_d1 st fun v=>wfD q57_d1 v→q57_g1 k v
theorem q57_x1:SemOk Tryz.prog (at' (bodyOf Tryz.f90) [1,0,1,0,1,1]) q57_X1:=
  (SemOk.wk (N:=52) (ds:=q57_d1) (dx:=q57_dx1) (ex_sound tb_M tb_ok q57_Gok (q57_b0) (at' (bodyOf Tryz.f90) [1,0,1,0,1,1]) [1,0,1,0,1,1] rfl (storesC_at q57_st [1,0,1,0,1,1]))).mono fun st k h=>ckD_mono h fun v hv hw=>Eq.mpr (q57_v1 k v) (hv hw)
def q57_B1:Labs:=([1,0,1,0,1,1],q57_X1)::q57_B0
theorem q57_b1:LabsOk Tryz.prog (bodyOf Tryz.f90) q57_B1:=LabsOk.cons q57_x1 (q57_b0)
def q57_d2:List LS:=[]
def q57_d2r:List LS:=[.v 2 .bool]
def q57_dx2:DX:=⟨none,some q57_d2r,[]⟩
def q57_y2r (k:Ex→St→Prop) (x2:Bool):Prop:=wfD q57_d2r (x2,())→k .ret (mkD 52 q57_d2r (x2,()))
def q57_J2 (kr:Bool→Prop):Prop:=
 kr false
def q57_g2 (k:Ex→St→Prop) (v:vals q57_d2):Prop:=q57_J2 (q57_y2r k) 
theorem q57_v2 (k:Ex→St→Prop):∀ v:vals q57_d2,ex tb (getG q57_G) q57_B1 (at' (bodyOf Tryz.f90) [1,1,1]) [1,1,1] (mkD 52 q57_d2 v) (wk 52 q57_dx2 k)=q57_g2 k v
  | ()=>by kernel_rfl
def q57_X2:Pce:=fun st k=>ckD 52 q57_d2 st fun v=>wfD q57_d2 v→q57_g2 k v
theorem q57_x2:SemOk Tryz.prog (at' (bodyOf Tryz.f90) [1,1,1]) q57_X2:=
  (SemOk.wk (N:=52) (ds:=q57_d2) (dx:=q57_dx2) (ex_sound tb_M tb_ok q57_Gok (q57_b1) (at' (bodyOf Tryz.f90) [1,1,1]) [1,1,1] rfl (storesC_at q57_st [1,1,1]))).mono fun st k h=>ckD_mono h fun v hv hw=>Eq.mpr (q57_v2 k v) (hv hw)
def q57_B2:Labs:=([1,1,1],q57_X2)::q57_B1
theorem q57_b2:LabsOk Tryz.prog (bodyOf Tryz.f90) q57_B2:=LabsOk.cons q57_x2 (q57_b1)
def q57_raw (a0:tAd) (K:Res→List Cell→Prop):Prop:=
 bif (!a0.2.2.2.2.2) then
 K (.one (.v .bool false)) []
 else
 bif (decide (a0.2.2.2.2.1<(-999999999:Int))) then
 K (.one (.v .bool false)) []
 else
 bif (decide ((999999999:Int)<a0.2.2.2.2.1)) then
 K (.one (.v .bool false)) []
 else
 bif (decide (a0.1=(0:Int))) then
 (wfD q57_d1 (a0.1,(decide (a0.1=(0:Int))),a0,())→q57_J1 (fun (x2:Bool)=>wfD q57_d1r (x2,())→(
 K (.one (.v .bool x2)) [])) (wfD q57_d1n ()→(
 (wfD q57_d2 ()→q57_J2 (fun (x2:Bool)=>wfD q57_d2r (x2,())→(
 K (.one (.v .bool x2)) [])) ))) a0.1 (decide (a0.1=(0:Int))) a0)
 else
 bif (decide (a0.1=(46:Int))) then
 (wfD q57_d1 (a0.1,(decide (a0.1=(46:Int))),a0,())→q57_J1 (fun (x2:Bool)=>wfD q57_d1r (x2,())→(
 K (.one (.v .bool x2)) [])) (wfD q57_d1n ()→(
 (wfD q57_d2 ()→q57_J2 (fun (x2:Bool)=>wfD q57_d2r (x2,())→(
 K (.one (.v .bool x2)) [])) ))) a0.1 (decide (a0.1=(46:Int))) a0)
 else
 bif (decide (a0.1=(36:Int))) then
 (wfD q57_d1 (a0.1,(decide (a0.1=(36:Int))),a0,())→q57_J1 (fun (x2:Bool)=>wfD q57_d1r (x2,())→(
 K (.one (.v .bool x2)) [])) (wfD q57_d1n ()→(
 (wfD q57_d2 ()→q57_J2 (fun (x2:Bool)=>wfD q57_d2r (x2,())→(
 K (.one (.v .bool x2)) [])) ))) a0.1 (decide (a0.1=(36:Int))) a0)
 else
 (wfD q57_d1 (a0.1,(decide (a0.1=(39:Int))),a0,())→q57_J1 (fun (x2:Bool)=>wfD q57_d1r (x2,())→(
 K (.one (.v .bool x2)) [])) (wfD q57_d1n ()→(
 (wfD q57_d2 ()→q57_J2 (fun (x2:Bool)=>wfD q57_d2r (x2,())→(
 K (.one (.v .bool x2)) [])) ))) a0.1 (decide (a0.1=(39:Int))) a0)
def q57_A:List AS:=[.v tyA]

def q57_J0_P (x34:Bool) (a1b:tAd):Prop:=
 bif x34 then
 q71_P a1b.2.2.2.1∧(
 let r1:LI:=q71_F a1b.2.2.2.1
 (List.length r1+List.length ([a1b.1]:LI)≤lim)∧(
 q44_P (r1++([a1b.1]:LI)) a1b.1))
 else
 True
def q57_J0_F (x34:Bool) (a1b:tAd):(Bool)⊕(Unit):=
 bif x34 then
 let r1:LI:=q71_F a1b.2.2.2.1
 let r2:Int:=q44_F (r1++([a1b.1]:LI)) a1b.1
 .inl ((decide (r2=(List.length a1b.2.2.2.1:Int))))
 else
 .inr ()
theorem q57_J0_sp (kr:Bool→Prop) (kn:Prop) (x34:Bool) (a1b:tAd) (hp:q57_J0_P x34 a1b) (hr:∀ q:Bool,q57_J0_F x34 a1b=.inl q→kr q) (hn:∀ q:Unit,q57_J0_F x34 a1b=.inr q→kn):q57_J0 kr kn x34 a1b:=
 have h:=hc2 hr hn; br1 hp h (fun _ hp h=>⟨an1 hp fun hp=>al (as1 hp fun hp=>⟨hp,al (h _ rfl)⟩),
 an1 hp fun hp=>al (as1 hp fun hp=>⟨hp,al (h _ rfl)⟩),trivial⟩)
 fun _ hp h=>h _ rfl
def q57_J1_P (x18:Int) (x19:Bool) (a1b:tAd):Prop:=
 bif x19 then
 True
 else
 bif (decide (x18=(110:Int))) then
 True
 else
 bif (decide (x18=(47:Int))) then
 q57_J0_P (decide (x18=(47:Int))) a1b
 else
 q57_J0_P (decide (x18=(63:Int))) a1b
def q57_J1_F (x18:Int) (x19:Bool) (a1b:tAd):(Bool)⊕(Unit):=
 bif x19 then
 .inl (true)
 else
 bif (decide (x18=(110:Int))) then
 bif (decide ((0:Int)≤a1b.2.1)) then
 .inl ((decide (a1b.2.1≤(999999999:Int))))
 else
 .inl (false)
 else
 bif (decide (x18=(47:Int))) then
 Sum.elim (fun q0r=>
 let x2:Bool:=q0r
 .inl (x2)) (fun q0n=>
 .inr ()) (q57_J0_F (decide (x18=(47:Int))) a1b)
 else
 Sum.elim (fun q0r=>
 let x2:Bool:=q0r
 .inl (x2)) (fun q0n=>
 .inr ()) (q57_J0_F (decide (x18=(63:Int))) a1b)
theorem q57_J1_sp (kr:Bool→Prop) (kn:Prop) (x18:Int) (x19:Bool) (a1b:tAd) (hp:q57_J1_P x18 x19 a1b) (hr:∀ q:Bool,q57_J1_F x18 x19 a1b=.inl q→kr q) (hn:∀ q:Unit,q57_J1_F x18 x19 a1b=.inr q→kn):q57_J1 kr kn x18 x19 a1b:=
 have h:=hc2 hr hn; br1 hp h (fun _ hp h=>h _ rfl)
 fun _ hp h=>br1 hp h (fun _ hp h=>br0 h (fun _ h=>h _ rfl)
 fun _ h=>h _ rfl)
 fun _ hp h=>br1 hp h (fun _ hp h=>fun _=>q57_J0_sp _ _ _ _ hp
 (fun _ e _=>have h:=sl e h; h _ rfl)
 (fun _ e _=>have h:=sr e h; h _ rfl))
 fun _ hp h=>fun _=>q57_J0_sp _ _ _ _ hp
 (fun _ e _=>have h:=sl e h; h _ rfl)
 (fun _ e _=>have h:=sr e h; h _ rfl)
def q57_J2_F:Bool:=
 (false)
theorem q57_J2_sp (kr:Bool→Prop)  (hr:∀ q:Bool,q=q57_J2_F→kr q):q57_J2 kr:=
 have h:=hr; h _ rfl
def q57_P (a0:tAd):Prop:=
 bif (!a0.2.2.2.2.2) then
 True
 else
 bif (decide (a0.2.2.2.2.1<(-999999999:Int))) then
 True
 else
 bif (decide ((999999999:Int)<a0.2.2.2.2.1)) then
 True
 else
 bif (decide (a0.1=(0:Int))) then
 q57_J1_P a0.1 (decide (a0.1=(0:Int))) a0
 else
 bif (decide (a0.1=(46:Int))) then
 q57_J1_P a0.1 (decide (a0.1=(46:Int))) a0
 else
 bif (decide (a0.1=(36:Int))) then
 q57_J1_P a0.1 (decide (a0.1=(36:Int))) a0
 else
 q57_J1_P a0.1 (decide (a0.1=(39:Int))) a0
def q57_F (a0:tAd):Bool:=
 bif (!a0.2.2.2.2.2) then
 false
 else
 bif (decide (a0.2.2.2.2.1<(-999999999:Int))) then
 false
 else
 bif (decide ((999999999:Int)<a0.2.2.2.2.1)) then
 false
 else
 bif (decide (a0.1=(0:Int))) then
 Sum.elim (fun q1r=>
 let x2:Bool:=q1r
 x2) (fun q1n=>
 let q2r:Bool:=q57_J2_F 
 let x2:Bool:=q2r
 x2) (q57_J1_F a0.1 (decide (a0.1=(0:Int))) a0)
 else
 bif (decide (a0.1=(46:Int))) then
 Sum.elim (fun q1r=>
 let x2:Bool:=q1r
 x2) (fun q1n=>
 let q2r:Bool:=q57_J2_F 
 let x2:Bool:=q2r
 x2) (q57_J1_F a0.1 (decide (a0.1=(46:Int))) a0)
 else
 bif (decide (a0.1=(36:Int))) then
 Sum.elim (fun q1r=>
 let x2:Bool:=q1r
 x2) (fun q1n=>
 let q2r:Bool:=q57_J2_F 
 let x2:Bool:=q2r
 x2) (q57_J1_F a0.1 (decide (a0.1=(36:Int))) a0)
 else
 Sum.elim (fun q1r=>
 let x2:Bool:=q1r
 x2) (fun q1n=>
 let q2r:Bool:=q57_J2_F 
 let x2:Bool:=q2r
 x2) (q57_J1_F a0.1 (decide (a0.1=(39:Int))) a0)
theorem q57_sp (a0:tAd) (K:Res→List Cell→Prop) (_:wfA q57_A (a0,())) (hp:q57_P a0) (h:∀ r:Bool,r=q57_F a0→K (.one (.v .bool r)) []):q57_raw a0 K:=
 br1 hp h (fun _ hp h=>h _ rfl)
 fun _ hp h=>br1 hp h (fun _ hp h=>h _ rfl)
 fun _ hp h=>br1 hp h (fun _ hp h=>h _ rfl)
 fun _ hp h=>br1 hp h (fun _ hp h=>fun _=>q57_J1_sp _ _ _ _ _ hp
 (fun _ e _=>have h:=sl e h; h _ rfl)
 (fun _ e _=>have h:=sr e h; fun _=>q57_J2_sp _  (al (h _ rfl))))
 fun _ hp h=>br1 hp h (fun _ hp h=>fun _=>q57_J1_sp _ _ _ _ _ hp
 (fun _ e _=>have h:=sl e h; h _ rfl)
 (fun _ e _=>have h:=sr e h; fun _=>q57_J2_sp _  (al (h _ rfl))))
 fun _ hp h=>br1 hp h (fun _ hp h=>fun _=>q57_J1_sp _ _ _ _ _ hp
 (fun _ e _=>have h:=sl e h; h _ rfl)
 (fun _ e _=>have h:=sr e h; fun _=>q57_J2_sp _  (al (h _ rfl))))
 fun _ hp h=>fun _=>q57_J1_sp _ _ _ _ _ hp
 (fun _ e _=>have h:=sl e h; h _ rfl)
 (fun _ e _=>have h:=sr e h; fun _=>q57_J2_sp _  (al (h _ rfl)))
def q57_C (v:valsA q57_A) (K:Res→List Cell→Prop):Prop:=q57_P v.1∧∀ r:Bool,r=q57_F v.1→K (.one (.v .bool r)) []
def q57_S:App:=specW q57_A q57_C
theorem q57_wv (K:Res→List Cell→Prop):∀ v:valsA q57_A,runF tb (getG q57_G) q57_B2 Tryz.f90 [true] (mkA q57_A v) K=q57_raw v.1 K
  | (a0,())=>by kernel_rfl
theorem q57_ok:AppOk Tryz.prog 90 q57_S:=
  AppOk.specW (spec_ok ((runF_ok tb_M tb_ok q57_Gok (q57_b2) (f:=90) (fn:=Tryz.f90) (by kernel_rfl) (by kernel_rfl) q57_st [true])) fun v K hw h=>(q57_wv K v).mpr (q57_sp v.1 K hw h.1 h.2))

def q9_G:List (Nat×App):=[]
theorem q9_Gok:GOk Tryz.prog (getG q9_G):=GOk.nil
def q9_raw (i0:Int) (K:Res→List Cell→Prop):Prop:=
 bif (decide (i0<(10:Int))) then
 bif decide (0≤i0∧i0≤(IntKind.wrap .i64 (i0+(1:Int)))∧(IntKind.wrap .i64 (i0+(1:Int)))≤(List.length ([48,49,50,51,52,53,54,55,56,57,97,98,99,100,101,102,103,104,105,106,107,108,109,110,111,112,113,114,115,116,117,118,119,120,121,122]:LI):Int)) then
 K (.one (.v .str (slc ([48,49,50,51,52,53,54,55,56,57,97,98,99,100,101,102,103,104,105,106,107,108,109,110,111,112,113,114,115,116,117,118,119,120,121,122]:LI) i0 (IntKind.wrap .i64 (i0+(1:Int)))))) []
 else False
 else
 bif decide (0≤(IntKind.wrap .i64 (i0 * (2:Int)))∧(IntKind.wrap .i64 (i0 * (2:Int)))≤(IntKind.wrap .i64 ((IntKind.wrap .i64 (i0 * (2:Int)))+(2:Int)))∧(IntKind.wrap .i64 ((IntKind.wrap .i64 (i0 * (2:Int)))+(2:Int)))≤(List.length ([48,48,48,49,48,50,48,51,48,52,48,53,48,54,48,55,48,56,48,57,49,48,49,49,49,50,49,51,49,52,49,53,49,54,49,55,49,56,49,57,50,48,50,49,50,50,50,51,50,52,50,53,50,54,50,55,50,56,50,57,51,48,51,49,51,50,51,51,51,52,51,53,51,54,51,55,51,56,51,57,52,48,52,49,52,50,52,51,52,52,52,53,52,54,52,55,52,56,52,57,53,48,53,49,53,50,53,51,53,52,53,53,53,54,53,55,53,56,53,57,54,48,54,49,54,50,54,51,54,52,54,53,54,54,54,55,54,56,54,57,55,48,55,49,55,50,55,51,55,52,55,53,55,54,55,55,55,56,55,57,56,48,56,49,56,50,56,51,56,52,56,53,56,54,56,55,56,56,56,57,57,48,57,49,57,50,57,51,57,52,57,53,57,54,57,55,57,56,57,57]:LI):Int)) then
 K (.one (.v .str (slc ([48,48,48,49,48,50,48,51,48,52,48,53,48,54,48,55,48,56,48,57,49,48,49,49,49,50,49,51,49,52,49,53,49,54,49,55,49,56,49,57,50,48,50,49,50,50,50,51,50,52,50,53,50,54,50,55,50,56,50,57,51,48,51,49,51,50,51,51,51,52,51,53,51,54,51,55,51,56,51,57,52,48,52,49,52,50,52,51,52,52,52,53,52,54,52,55,52,56,52,57,53,48,53,49,53,50,53,51,53,52,53,53,53,54,53,55,53,56,53,57,54,48,54,49,54,50,54,51,54,52,54,53,54,54,54,55,54,56,54,57,55,48,55,49,55,50,55,51,55,52,55,53,55,54,55,55,55,56,55,57,56,48,56,49,56,50,56,51,56,52,56,53,56,54,56,55,56,56,56,57,57,48,57,49,57,50,57,51,57,52,57,53,57,54,57,55,57,56,57,57]:LI) (IntKind.wrap .i64 (i0 * (2:Int))) (IntKind.wrap .i64 ((IntKind.wrap .i64 (i0 * (2:Int)))+(2:Int)))))) []
 else False
def q9_A:List AS:=[.v yI]

def q9_P (i0:Int):Prop:=
 bif (decide (i0<(10:Int))) then
 (0≤i0∧i0≤(IntKind.wrap .i64 (i0+(1:Int)))∧(IntKind.wrap .i64 (i0+(1:Int)))≤(List.length ([48,49,50,51,52,53,54,55,56,57,97,98,99,100,101,102,103,104,105,106,107,108,109,110,111,112,113,114,115,116,117,118,119,120,121,122]:LI):Int))
 else
 (0≤(IntKind.wrap .i64 (i0 * (2:Int)))∧(IntKind.wrap .i64 (i0 * (2:Int)))≤(IntKind.wrap .i64 ((IntKind.wrap .i64 (i0 * (2:Int)))+(2:Int)))∧(IntKind.wrap .i64 ((IntKind.wrap .i64 (i0 * (2:Int)))+(2:Int)))≤(List.length ([48,48,48,49,48,50,48,51,48,52,48,53,48,54,48,55,48,56,48,57,49,48,49,49,49,50,49,51,49,52,49,53,49,54,49,55,49,56,49,57,50,48,50,49,50,50,50,51,50,52,50,53,50,54,50,55,50,56,50,57,51,48,51,49,51,50,51,51,51,52,51,53,51,54,51,55,51,56,51,57,52,48,52,49,52,50,52,51,52,52,52,53,52,54,52,55,52,56,52,57,53,48,53,49,53,50,53,51,53,52,53,53,53,54,53,55,53,56,53,57,54,48,54,49,54,50,54,51,54,52,54,53,54,54,54,55,54,56,54,57,55,48,55,49,55,50,55,51,55,52,55,53,55,54,55,55,55,56,55,57,56,48,56,49,56,50,56,51,56,52,56,53,56,54,56,55,56,56,56,57,57,48,57,49,57,50,57,51,57,52,57,53,57,54,57,55,57,56,57,57]:LI):Int))
def q9_F (i0:Int):LI:=
 bif (decide (i0<(10:Int))) then
 (slc ([48,49,50,51,52,53,54,55,56,57,97,98,99,100,101,102,103,104,105,106,107,108,109,110,111,112,113,114,115,116,117,118,119,120,121,122]:LI) i0 (IntKind.wrap .i64 (i0+(1:Int))))
 else
 (slc ([48,48,48,49,48,50,48,51,48,52,48,53,48,54,48,55,48,56,48,57,49,48,49,49,49,50,49,51,49,52,49,53,49,54,49,55,49,56,49,57,50,48,50,49,50,50,50,51,50,52,50,53,50,54,50,55,50,56,50,57,51,48,51,49,51,50,51,51,51,52,51,53,51,54,51,55,51,56,51,57,52,48,52,49,52,50,52,51,52,52,52,53,52,54,52,55,52,56,52,57,53,48,53,49,53,50,53,51,53,52,53,53,53,54,53,55,53,56,53,57,54,48,54,49,54,50,54,51,54,52,54,53,54,54,54,55,54,56,54,57,55,48,55,49,55,50,55,51,55,52,55,53,55,54,55,55,55,56,55,57,56,48,56,49,56,50,56,51,56,52,56,53,56,54,56,55,56,56,56,57,57,48,57,49,57,50,57,51,57,52,57,53,57,54,57,55,57,56,57,57]:LI) (IntKind.wrap .i64 (i0 * (2:Int))) (IntKind.wrap .i64 ((IntKind.wrap .i64 (i0 * (2:Int)))+(2:Int))))
theorem q9_sp (i0:Int) (K:Res→List Cell→Prop) (_:wfA q9_A (i0,())) (hp:q9_P i0) (h:∀ r:LI,r=q9_F i0→K (.one (.v .str r)) []):q9_raw i0 K:=
 br1 hp h (fun _ hp h=>as0 hp (h _ rfl))
 fun _ hp h=>as0 hp (h _ rfl)
def q9_C (v:valsA q9_A) (K:Res→List Cell→Prop):Prop:=q9_P v.1∧∀ r:LI,r=q9_F v.1→K (.one (.v .str r)) []
def q9_S:App:=specW q9_A q9_C
theorem q9_wv (K:Res→List Cell→Prop):∀ v:valsA q9_A,runF tb (getG q9_G) [] Tryz.f226 [true] (mkA q9_A v) K=q9_raw v.1 K
  | (i0,())=>by kernel_rfl
theorem q9_ok:AppOk Tryz.prog 226 q9_S:=
  AppOk.specW (spec_ok ((runF_ok tb_M tb_ok q9_Gok (LabsOk.nil) (f:=226) (fn:=Tryz.f226) (by kernel_rfl) (by kernel_rfl) (by kernel_rfl) [true])) fun v K hw h=>(q9_wv K v).mpr (q9_sp v.1 K hw h.1 h.2))

end Go.VE
namespace Go.VE
open Go Go.Proofs
def q4_A:List AS:=[]
def q4_S:App:=specW q4_A fun _ _=>False
theorem q4_ok:AppOk Tryz.prog 227 q4_S:=AppOk.never
def q1_A:List AS:=[]
def q1_S:App:=specW q1_A fun _ _=>False
theorem q1_ok:AppOk Tryz.prog 229 q1_S:=AppOk.never
end Go.VE
namespace Go.VE
set_option maxRecDepth 20000
open Go Go.Proofs
def q0_G:List (Nat×App):=[(226,q9_S),(227,q4_S),(229,q1_S)]
theorem q0_Gok:GOk Tryz.prog (getG q0_G):=GOk.cons q9_ok (GOk.cons q4_ok (GOk.cons q1_ok (GOk.nil)))
def q0_raw (dst0:LI) (i1:Int) (base2:Int) (K:Res→List Cell→Prop):Prop:=
 bif (decide (base2=(10:Int))) then
 bif (decide (i1<(100:Int))) then
 q9_P (IntKind.wrap .i64 i1)∧(
 ∀ (r1:LI),r1=q9_F (IntKind.wrap .i64 i1)→(
 wfR (.one (.v .str r1))→(
 bif decide (List.length dst0+List.length r1≤lim) then
 K (.one (.fr 5 yU (dst0++r1))) []
 else False)))
 else
 False
 else
 False
def q0_A:List AS:=[.o 5 yU,.v (.int .u64),.v yI]

def q0_P (dst0:LI) (i1:Int) (base2:Int):Prop:=
 bif (decide (base2=(10:Int))) then
 bif (decide (i1<(100:Int))) then
 q9_P (IntKind.wrap .i64 i1)∧(
 let r1:LI:=q9_F (IntKind.wrap .i64 i1)
 (List.length dst0+List.length r1≤lim))
 else
 False
 else
 False
def q0_F (dst0:LI) (i1:Int) (base2:Int):LI:=
 bif (decide (base2=(10:Int))) then
 bif (decide (i1<(100:Int))) then
 let r1:LI:=q9_F (IntKind.wrap .i64 i1)
 (dst0++r1)
 else
 default
 else
 default
theorem q0_sp (dst0:LI) (i1:Int) (base2:Int) (K:Res→List Cell→Prop) (_:wfA q0_A (dst0,i1,base2,())) (hp:q0_P dst0 i1 base2) (h:∀ r:LI,r=q0_F dst0 i1 base2→K (.one (.fr 5 yU r)) []):q0_raw dst0 i1 base2 K:=
 br1 hp h (fun _ hp h=>br1 hp h (fun _ hp h=>an1 hp fun hp=>al (as0 hp (h _ rfl)))
 fun _ hp h=>hp.elim)
 fun _ hp h=>hp.elim
def q0_C (v:valsA q0_A) (K:Res→List Cell→Prop):Prop:=q0_P v.1 v.2.1 v.2.2.1∧∀ r:LI,r=q0_F v.1 v.2.1 v.2.2.1→K (.one (.fr 5 yU r)) []
def q0_S:App:=specW q0_A q0_C
theorem q0_wv (K:Res→List Cell→Prop):∀ v:valsA q0_A,runF tb (getG q0_G) [] Tryz.f195 [true] (mkA q0_A v) K=q0_raw v.1 v.2.1 v.2.2.1 K
  | (dst0,i1,base2,())=>by kernel_rfl
theorem q0_ok:AppOk Tryz.prog 195 q0_S:=
  AppOk.specW (spec_ok ((runF_ok tb_M tb_ok q0_Gok (LabsOk.nil) (f:=195) (fn:=Tryz.f195) (by kernel_rfl) (by kernel_rfl) (by kernel_rfl) [true])) fun v K hw h=>(q0_wv K v).mpr (q0_sp v.1 v.2.1 v.2.2.1 K hw h.1 h.2))
end Go.VE
