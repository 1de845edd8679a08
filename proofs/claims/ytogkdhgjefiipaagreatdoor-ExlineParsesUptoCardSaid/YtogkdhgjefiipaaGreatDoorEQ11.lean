import Derived.Test.YtogkdhgjefiipaaGreatDoorEQ10
import Derived.Test.YtogkdhgjefiipaaGreatDoorProg
import Derived.Lib.LaidTab
import Derived.Lib.ItoaNum
set_option linter.unusedVariables false
set_option linter.unusedSectionVars false
set_option linter.unusedSimpArgs false
namespace Go.VE
abbrev LI:=List Int
abbrev tJb:Type:=List Int×Int×(Int×Int×Bool×Bool)×Int×Int×Int
abbrev tEf:Type:=List ((Int×List Int×List Int))×Int×(Bool×Bool×List Int)×Int×Bool
abbrev tyJ:Ty:=.st (.pair (.sl (.int .u8)) (.pair (.int .i64) (.pair (.st (.pair (.int .i64) (.pair (.int .i64) (.pair (.bool) (.bool))))) (.pair (.int .i64) (.pair (.int .i64) (.int .i64))))))
abbrev tyE:Ty:=.st (.pair (.sl (.st (.pair (.int .i64) (.pair (.sl (.int .u8)) (.sl (.int .u8)))))) (.pair (.int .i64) (.pair (.st (.pair (.bool) (.pair (.bool) (.sl (.int .u8))))) (.pair (.int .i64) (.bool)))))
abbrev tyA:Ty:=.st (.pair (.int .u8) (.pair (.int .i64) (.pair (.int .u8) (.pair (.sl (.int .u8)) (.pair (.int .i64) (.bool))))))
abbrev tAd:Type:=Int×Int×Int×List Int×Int×Bool
abbrev tyX:Ty:=.st (.pair (.st (.pair (.int .u8) (.pair (.int .i64) (.pair (.int .u8) (.pair (.sl (.int .u8)) (.pair (.int .i64) (.bool))))))) (.pair (.st (.pair (.int .u8) (.pair (.int .i64) (.pair (.int .u8) (.pair (.sl (.int .u8)) (.pair (.int .i64) (.bool))))))) (.pair (.bool) (.pair (.str) (.pair (.st (.pair (.int .u8) (.pair (.int .i64) (.pair (.int .u8) (.pair (.sl (.int .u8)) (.pair (.int .i64) (.bool))))))) (.pair (.int .u8) (.pair (.int .i64) (.pair (.sl (.int .u8)) (.pair (.sl (.int .u8)) (.bool))))))))))
abbrev tEx:Type:=(Int×Int×Int×List Int×Int×Bool)×(Int×Int×Int×List Int×Int×Bool)×Bool×List Int×(Int×Int×Int×List Int×Int×Bool)×Int×Int×List Int×List Int×Bool
abbrev tBk:Type:=(Bool×Bool×List Int)×(Bool×Bool×List Int)×Unit×Unit
abbrev tyB:Ty:=.st (.pair (.st (.pair (.bool) (.pair (.bool) (.sl (.int .u8))))) (.pair (.st (.pair (.bool) (.pair (.bool) (.sl (.int .u8))))) (.pair (.arr 9 (.st (.pair (.bool) (.pair (.bool) (.sl (.int .u8)))))) (.arr 26 (.st (.pair (.bool) (.pair (.bool) (.sl (.int .u8)))))))))
abbrev tyW:Ty:=.st (.pair (.sl (.int .u8)) (.pair (.int .i64) (.pair (.int .i64) (.pair (.int .i64) (.pair (.st (.pair (.arr 26 (.int .i64)) (.int .i64))) (.pair (.st (.pair (.st (.pair (.bool) (.pair (.bool) (.sl (.int .u8))))) (.pair (.st (.pair (.bool) (.pair (.bool) (.sl (.int .u8))))) (.pair (.arr 9 (.st (.pair (.bool) (.pair (.bool) (.sl (.int .u8)))))) (.arr 26 (.st (.pair (.bool) (.pair (.bool) (.sl (.int .u8)))))))))) (.pair (.sl (.int .u8)) (.pair (.st (.pair (.st (.pair (.int .u8) (.pair (.int .i64) (.pair (.int .u8) (.pair (.sl (.int .u8)) (.pair (.int .i64) (.bool))))))) (.pair (.st (.pair (.int .u8) (.pair (.int .i64) (.pair (.int .u8) (.pair (.sl (.int .u8)) (.pair (.int .i64) (.bool))))))) (.pair (.bool) (.pair (.str) (.pair (.st (.pair (.int .u8) (.pair (.int .i64) (.pair (.int .u8) (.pair (.sl (.int .u8)) (.pair (.int .i64) (.bool))))))) (.pair (.int .u8) (.pair (.int .i64) (.pair (.sl (.int .u8)) (.pair (.sl (.int .u8)) (.bool))))))))))) (.pair (.int .i64) (.int .i64))))))))))
abbrev tWk:Type:=List Int×Int×Int×Int×(Unit×Int)×((Bool×Bool×List Int)×(Bool×Bool×List Int)×Unit×Unit)×List Int×((Int×Int×Int×List Int×Int×Bool)×(Int×Int×Int×List Int×Int×Bool)×Bool×List Int×(Int×Int×Int×List Int×Int×Bool)×Int×Int×List Int×List Int×Bool)×Int×Int
abbrev zA:tAd:=(0,0,0,[],0,false)
abbrev zX:tEx:=(zA,zA,false,[],zA,0,0,[],[],false)
abbrev yB:Ty:=.sl (.int .u8)
abbrev yI:Ty:=.int .i64
abbrev yU:Ty:=.int .u8
abbrev wI (n:Int):Prop:=wfR (.one (.v yI n))
abbrev wB (b:Bool):Prop:=wfR (.one (.v .bool b))
open Go Go.Proofs
instance:Glob where
  ok I w := ∃ g ob, Tryz.prog.globalNamed "internal/strconv.uint64pow10" = some g ∧ I g ∧ w.heap[g]? = some ob ∧ ∀ w' : World, w'.heap[g]? = some ob → Lib.TabIs Tryz.prog w' "internal/strconv.uint64pow10" .u64 Lib.pow10Tab
  keep:=fun hk ⟨g,ob,h0,h1,h2,h3⟩=>⟨g,ob,h0,hk.sub g h1,(hk.heap g h1).trans h2,h3⟩
  pan n:=.iface 85 (.agg #[.int .i64 n])
  trk:=fun e=>e == 27 || e == 30
theorem glob_pow10 {I : Nat → Prop} {w : World} (h : Glob.ok I w) : ∃ g ob, Tryz.prog.globalNamed "internal/strconv.uint64pow10" = some g ∧ I g ∧ w.heap[g]? = some ob ∧ ∀ w' : World, w'.heap[g]? = some ob → Lib.TabIs Tryz.prog w' "internal/strconv.uint64pow10" .u64 Lib.pow10Tab := h
def tb:Tab:=[(2,⟨.int .i64,0,[],8⟩),(3,⟨.int .i64,0,[],8⟩),(4,⟨.bool,0,[],1⟩),(5,⟨.int .u8,0,[],1⟩),(9,⟨.str,0,[],16⟩),(21,⟨.int .i32,0,[],4⟩),(22,⟨.sl (.int .u8),5,[],24⟩),(25,⟨.st (.pair (.int .u8) (.pair (.int .i64) (.pair (.int .u8) (.pair (.sl (.int .u8)) (.pair (.int .i64) (.bool)))))),0,[],64⟩),(27,⟨.st (.pair (.st (.pair (.int .u8) (.pair (.int .i64) (.pair (.int .u8) (.pair (.sl (.int .u8)) (.pair (.int .i64) (.bool))))))) (.pair (.st (.pair (.int .u8) (.pair (.int .i64) (.pair (.int .u8) (.pair (.sl (.int .u8)) (.pair (.int .i64) (.bool))))))) (.pair (.bool) (.pair (.str) (.pair (.st (.pair (.int .u8) (.pair (.int .i64) (.pair (.int .u8) (.pair (.sl (.int .u8)) (.pair (.int .i64) (.bool))))))) (.pair (.int .u8) (.pair (.int .i64) (.pair (.sl (.int .u8)) (.pair (.sl (.int .u8)) (.bool)))))))))),0,[],288⟩),(30,⟨.int .i64,0,[],8⟩),(37,⟨.arr 26 (.int .i64),0,[],208⟩),(39,⟨.st (.pair (.arr 26 (.int .i64)) (.int .i64)),0,[],216⟩),(41,⟨.st (.pair (.bool) (.pair (.bool) (.sl (.int .u8)))),0,[],32⟩),(42,⟨.arr 9 (.st (.pair (.bool) (.pair (.bool) (.sl (.int .u8))))),0,[],288⟩),(43,⟨.arr 26 (.st (.pair (.bool) (.pair (.bool) (.sl (.int .u8))))),0,[],832⟩),(45,⟨.st (.pair (.st (.pair (.bool) (.pair (.bool) (.sl (.int .u8))))) (.pair (.st (.pair (.bool) (.pair (.bool) (.sl (.int .u8))))) (.pair (.arr 9 (.st (.pair (.bool) (.pair (.bool) (.sl (.int .u8)))))) (.arr 26 (.st (.pair (.bool) (.pair (.bool) (.sl (.int .u8))))))))),0,[],1184⟩),(48,⟨.sl (.st (.pair (.int .i64) (.pair (.sl (.int .u8)) (.sl (.int .u8))))),75,[],24⟩),(50,⟨.st (.pair (.sl (.st (.pair (.int .i64) (.pair (.sl (.int .u8)) (.sl (.int .u8)))))) (.pair (.int .i64) (.pair (.st (.pair (.bool) (.pair (.bool) (.sl (.int .u8))))) (.pair (.int .i64) (.bool))))),0,[],80⟩),(61,⟨.sl (.sl (.int .u8)),22,[],24⟩),(69,⟨.sl (.str),9,[],24⟩),(75,⟨.st (.pair (.int .i64) (.pair (.sl (.int .u8)) (.sl (.int .u8)))),0,[],56⟩),(85,⟨.st (.int .i64),1,[],8⟩),(89,⟨.st (.pair (.sl (.int .u8)) (.int .i64)),0,[],32⟩),(108,⟨.st (.pair (.sl (.int .u8)) (.pair (.int .i64) (.pair (.int .i64) (.pair (.int .i64) (.pair (.st (.pair (.arr 26 (.int .i64)) (.int .i64))) (.pair (.st (.pair (.st (.pair (.bool) (.pair (.bool) (.sl (.int .u8))))) (.pair (.st (.pair (.bool) (.pair (.bool) (.sl (.int .u8))))) (.pair (.arr 9 (.st (.pair (.bool) (.pair (.bool) (.sl (.int .u8)))))) (.arr 26 (.st (.pair (.bool) (.pair (.bool) (.sl (.int .u8)))))))))) (.pair (.sl (.int .u8)) (.pair (.st (.pair (.st (.pair (.int .u8) (.pair (.int .i64) (.pair (.int .u8) (.pair (.sl (.int .u8)) (.pair (.int .i64) (.bool))))))) (.pair (.st (.pair (.int .u8) (.pair (.int .i64) (.pair (.int .u8) (.pair (.sl (.int .u8)) (.pair (.int .i64) (.bool))))))) (.pair (.bool) (.pair (.str) (.pair (.st (.pair (.int .u8) (.pair (.int .i64) (.pair (.int .u8) (.pair (.sl (.int .u8)) (.pair (.int .i64) (.bool))))))) (.pair (.int .u8) (.pair (.int .i64) (.pair (.sl (.int .u8)) (.pair (.sl (.int .u8)) (.bool))))))))))) (.pair (.int .i64) (.int .i64)))))))))),0,[],1776⟩),(136,⟨.int .u64,0,[],8⟩),(145,⟨.st (.pair (.int .i64) (.pair (.int .i64) (.pair (.bool) (.bool)))),1,[],24⟩),(172,⟨.int .u32,0,[],4⟩),(175,⟨.int .u64,0,[],8⟩),(237,⟨.st (.pair (.sl (.int .u8)) (.pair (.int .i64) (.pair (.st (.pair (.int .i64) (.pair (.int .i64) (.pair (.bool) (.bool))))) (.pair (.int .i64) (.pair (.int .i64) (.int .i64)))))),0,[],80⟩),(254,⟨.arr 24 (.int .u8),0,[],24⟩),(259,⟨.sl (.int .i64),3,[],24⟩),(278,⟨.arr 20 (.int .u64),0,[],160⟩),(279,⟨.arr 65 (.int .u8),0,[],65⟩),(291,⟨.arr 256 (.int .u8),0,[],256⟩),(293,⟨.st (.pair (.int .u8) (.int .u8)),1,[],2⟩),(294,⟨.arr 16 (.st (.pair (.int .u8) (.int .u8))),0,[],32⟩),(299,⟨.arr 32 (.int .u8),0,[],32⟩),(300,⟨.arr 64 (.int .u8),0,[],64⟩)]
theorem tb_M:Tryz.prog.follows .mixedOrders=true:=by kernel_rfl
theorem ty_2:TySem Tryz.prog tb 2 ⟨.int .i64,0,[],8⟩:=TySem.ofInt (by kernel_rfl) (by kernel_rfl) rfl
theorem ty_3:TySem Tryz.prog tb 3 ⟨.int .i64,0,[],8⟩:=TySem.ofInt (by kernel_rfl) (by kernel_rfl) rfl
theorem ty_4:TySem Tryz.prog tb 4 ⟨.bool,0,[],1⟩:=TySem.ofBool (by kernel_rfl) (by kernel_rfl) rfl
theorem ty_5:TySem Tryz.prog tb 5 ⟨.int .u8,0,[],1⟩:=TySem.ofInt (by kernel_rfl) (by kernel_rfl) rfl
theorem ty_9:TySem Tryz.prog tb 9 ⟨.str,0,[],16⟩:=TySem.ofStr (by kernel_rfl) (by kernel_rfl) rfl
theorem ty_21:TySem Tryz.prog tb 21 ⟨.int .i32,0,[],4⟩:=TySem.ofInt (by kernel_rfl) (by kernel_rfl) rfl
theorem ty_22:TySem Tryz.prog tb 22 ⟨.sl (.int .u8),5,[],24⟩:=TySem.ofSl (by kernel_rfl) (by kernel_rfl) rfl (by kernel_rfl)
theorem ty_25:TySem Tryz.prog tb 25 ⟨.st (.pair (.int .u8) (.pair (.int .i64) (.pair (.int .u8) (.pair (.sl (.int .u8)) (.pair (.int .i64) (.bool)))))),0,[],64⟩:=TySem.ofSt (c:=6) (by kernel_rfl) (by kernel_rfl) (by kernel_rfl) rfl (by kernel_rfl)
theorem ty_27:TySem Tryz.prog tb 27 ⟨.st (.pair (.st (.pair (.int .u8) (.pair (.int .i64) (.pair (.int .u8) (.pair (.sl (.int .u8)) (.pair (.int .i64) (.bool))))))) (.pair (.st (.pair (.int .u8) (.pair (.int .i64) (.pair (.int .u8) (.pair (.sl (.int .u8)) (.pair (.int .i64) (.bool))))))) (.pair (.bool) (.pair (.str) (.pair (.st (.pair (.int .u8) (.pair (.int .i64) (.pair (.int .u8) (.pair (.sl (.int .u8)) (.pair (.int .i64) (.bool))))))) (.pair (.int .u8) (.pair (.int .i64) (.pair (.sl (.int .u8)) (.pair (.sl (.int .u8)) (.bool)))))))))),0,[],288⟩:=TySem.ofSt (c:=25) (by kernel_rfl) (by kernel_rfl) (by kernel_rfl) rfl (by kernel_rfl)
theorem ty_30:TySem Tryz.prog tb 30 ⟨.int .i64,0,[],8⟩:=TySem.ofInt (by kernel_rfl) (by kernel_rfl) rfl
theorem ty_37:TySem Tryz.prog tb 37 ⟨.arr 26 (.int .i64),0,[],208⟩:=TySem.ofArr (by kernel_rfl) rfl (by kernel_rfl) rfl
theorem ty_39:TySem Tryz.prog tb 39 ⟨.st (.pair (.arr 26 (.int .i64)) (.int .i64)),0,[],216⟩:=TySem.ofSt (c:=27) (by kernel_rfl) (by kernel_rfl) (by kernel_rfl) rfl (by kernel_rfl)
theorem ty_41:TySem Tryz.prog tb 41 ⟨.st (.pair (.bool) (.pair (.bool) (.sl (.int .u8)))),0,[],32⟩:=TySem.ofSt (c:=3) (by kernel_rfl) (by kernel_rfl) (by kernel_rfl) rfl (by kernel_rfl)
theorem ty_42:TySem Tryz.prog tb 42 ⟨.arr 9 (.st (.pair (.bool) (.pair (.bool) (.sl (.int .u8))))),0,[],288⟩:=TySem.ofArr (by kernel_rfl) rfl (by kernel_rfl) rfl
theorem ty_43:TySem Tryz.prog tb 43 ⟨.arr 26 (.st (.pair (.bool) (.pair (.bool) (.sl (.int .u8))))),0,[],832⟩:=TySem.ofArr (by kernel_rfl) rfl (by kernel_rfl) rfl
theorem ty_45:TySem Tryz.prog tb 45 ⟨.st (.pair (.st (.pair (.bool) (.pair (.bool) (.sl (.int .u8))))) (.pair (.st (.pair (.bool) (.pair (.bool) (.sl (.int .u8))))) (.pair (.arr 9 (.st (.pair (.bool) (.pair (.bool) (.sl (.int .u8)))))) (.arr 26 (.st (.pair (.bool) (.pair (.bool) (.sl (.int .u8))))))))),0,[],1184⟩:=TySem.ofSt (c:=111) (by kernel_rfl) (by kernel_rfl) (by kernel_rfl) rfl (by kernel_rfl)
theorem ty_48:TySem Tryz.prog tb 48 ⟨.sl (.st (.pair (.int .i64) (.pair (.sl (.int .u8)) (.sl (.int .u8))))),75,[],24⟩:=TySem.ofSl (by kernel_rfl) (by kernel_rfl) rfl (by kernel_rfl)
theorem ty_50:TySem Tryz.prog tb 50 ⟨.st (.pair (.sl (.st (.pair (.int .i64) (.pair (.sl (.int .u8)) (.sl (.int .u8)))))) (.pair (.int .i64) (.pair (.st (.pair (.bool) (.pair (.bool) (.sl (.int .u8))))) (.pair (.int .i64) (.bool))))),0,[],80⟩:=TySem.ofSt (c:=7) (by kernel_rfl) (by kernel_rfl) (by kernel_rfl) rfl (by kernel_rfl)
theorem ty_61:TySem Tryz.prog tb 61 ⟨.sl (.sl (.int .u8)),22,[],24⟩:=TySem.ofSl (by kernel_rfl) (by kernel_rfl) rfl (by kernel_rfl)
theorem ty_69:TySem Tryz.prog tb 69 ⟨.sl (.str),9,[],24⟩:=TySem.ofSl (by kernel_rfl) (by kernel_rfl) rfl (by kernel_rfl)
theorem ty_75:TySem Tryz.prog tb 75 ⟨.st (.pair (.int .i64) (.pair (.sl (.int .u8)) (.sl (.int .u8)))),0,[],56⟩:=TySem.ofSt (c:=3) (by kernel_rfl) (by kernel_rfl) (by kernel_rfl) rfl (by kernel_rfl)
theorem ty_85:TySem Tryz.prog tb 85 ⟨.st (.int .i64),1,[],8⟩:=TySem.ofStE (c:=1) (by kernel_rfl) (by kernel_rfl) (by kernel_rfl) rfl (by kernel_rfl) (by kernel_rfl)
theorem ty_89:TySem Tryz.prog tb 89 ⟨.st (.pair (.sl (.int .u8)) (.int .i64)),0,[],32⟩:=TySem.ofSt (c:=2) (by kernel_rfl) (by kernel_rfl) (by kernel_rfl) rfl (by kernel_rfl)
theorem ty_108:TySem Tryz.prog tb 108 ⟨.st (.pair (.sl (.int .u8)) (.pair (.int .i64) (.pair (.int .i64) (.pair (.int .i64) (.pair (.st (.pair (.arr 26 (.int .i64)) (.int .i64))) (.pair (.st (.pair (.st (.pair (.bool) (.pair (.bool) (.sl (.int .u8))))) (.pair (.st (.pair (.bool) (.pair (.bool) (.sl (.int .u8))))) (.pair (.arr 9 (.st (.pair (.bool) (.pair (.bool) (.sl (.int .u8)))))) (.arr 26 (.st (.pair (.bool) (.pair (.bool) (.sl (.int .u8)))))))))) (.pair (.sl (.int .u8)) (.pair (.st (.pair (.st (.pair (.int .u8) (.pair (.int .i64) (.pair (.int .u8) (.pair (.sl (.int .u8)) (.pair (.int .i64) (.bool))))))) (.pair (.st (.pair (.int .u8) (.pair (.int .i64) (.pair (.int .u8) (.pair (.sl (.int .u8)) (.pair (.int .i64) (.bool))))))) (.pair (.bool) (.pair (.str) (.pair (.st (.pair (.int .u8) (.pair (.int .i64) (.pair (.int .u8) (.pair (.sl (.int .u8)) (.pair (.int .i64) (.bool))))))) (.pair (.int .u8) (.pair (.int .i64) (.pair (.sl (.int .u8)) (.pair (.sl (.int .u8)) (.bool))))))))))) (.pair (.int .i64) (.int .i64)))))))))),0,[],1776⟩:=TySem.ofSt (c:=170) (by kernel_rfl) (by kernel_rfl) (by kernel_rfl) rfl (by kernel_rfl)
theorem ty_136:TySem Tryz.prog tb 136 ⟨.int .u64,0,[],8⟩:=TySem.ofInt (by kernel_rfl) (by kernel_rfl) rfl
theorem ty_145:TySem Tryz.prog tb 145 ⟨.st (.pair (.int .i64) (.pair (.int .i64) (.pair (.bool) (.bool)))),1,[],24⟩:=TySem.ofStE (c:=4) (by kernel_rfl) (by kernel_rfl) (by kernel_rfl) rfl (by kernel_rfl) (by kernel_rfl)
theorem ty_172:TySem Tryz.prog tb 172 ⟨.int .u32,0,[],4⟩:=TySem.ofInt (by kernel_rfl) (by kernel_rfl) rfl
theorem ty_175:TySem Tryz.prog tb 175 ⟨.int .u64,0,[],8⟩:=TySem.ofInt (by kernel_rfl) (by kernel_rfl) rfl
theorem ty_237:TySem Tryz.prog tb 237 ⟨.st (.pair (.sl (.int .u8)) (.pair (.int .i64) (.pair (.st (.pair (.int .i64) (.pair (.int .i64) (.pair (.bool) (.bool))))) (.pair (.int .i64) (.pair (.int .i64) (.int .i64)))))),0,[],80⟩:=TySem.ofSt (c:=9) (by kernel_rfl) (by kernel_rfl) (by kernel_rfl) rfl (by kernel_rfl)
theorem ty_254:TySem Tryz.prog tb 254 ⟨.arr 24 (.int .u8),0,[],24⟩:=TySem.ofArr (by kernel_rfl) rfl (by kernel_rfl) rfl
theorem ty_259:TySem Tryz.prog tb 259 ⟨.sl (.int .i64),3,[],24⟩:=TySem.ofSl (by kernel_rfl) (by kernel_rfl) rfl (by kernel_rfl)
theorem ty_278:TySem Tryz.prog tb 278 ⟨.arr 20 (.int .u64),0,[],160⟩:=TySem.ofArr (by kernel_rfl) rfl (by kernel_rfl) rfl
theorem ty_279:TySem Tryz.prog tb 279 ⟨.arr 65 (.int .u8),0,[],65⟩:=TySem.ofArr (by kernel_rfl) rfl (by kernel_rfl) rfl
theorem ty_291:TySem Tryz.prog tb 291 ⟨.arr 256 (.int .u8),0,[],256⟩:=TySem.ofArr (by kernel_rfl) rfl (by kernel_rfl) rfl
theorem ty_293:TySem Tryz.prog tb 293 ⟨.st (.pair (.int .u8) (.int .u8)),1,[],2⟩:=TySem.ofStE (c:=2) (by kernel_rfl) (by kernel_rfl) (by kernel_rfl) rfl (by kernel_rfl) (by kernel_rfl)
theorem ty_294:TySem Tryz.prog tb 294 ⟨.arr 16 (.st (.pair (.int .u8) (.int .u8))),0,[],32⟩:=TySem.ofArr (by kernel_rfl) rfl (by kernel_rfl) rfl
theorem ty_299:TySem Tryz.prog tb 299 ⟨.arr 32 (.int .u8),0,[],32⟩:=TySem.ofArr (by kernel_rfl) rfl (by kernel_rfl) rfl
theorem ty_300:TySem Tryz.prog tb 300 ⟨.arr 64 (.int .u8),0,[],64⟩:=TySem.ofArr (by kernel_rfl) rfl (by kernel_rfl) rfl
theorem tb_ok:TabOk Tryz.prog tb:=TabOk.of (all_cons ty_2 (all_cons ty_3 (all_cons ty_4 (all_cons ty_5 (all_cons ty_9 (all_cons ty_21 (all_cons ty_22 (all_cons ty_25 (all_cons ty_27 (all_cons ty_30 (all_cons ty_37 (all_cons ty_39 (all_cons ty_41 (all_cons ty_42 (all_cons ty_43 (all_cons ty_45 (all_cons ty_48 (all_cons ty_50 (all_cons ty_61 (all_cons ty_69 (all_cons ty_75 (all_cons ty_85 (all_cons ty_89 (all_cons ty_108 (all_cons ty_136 (all_cons ty_145 (all_cons ty_172 (all_cons ty_175 (all_cons ty_237 (all_cons ty_254 (all_cons ty_259 (all_cons ty_278 (all_cons ty_279 (all_cons ty_291 (all_cons ty_293 (all_cons ty_294 (all_cons ty_299 (all_cons ty_300 (all_nil)))))))))))))))))))))))))))))))))))))))
end Go.VE
namespace Go.VE
set_option maxRecDepth 20000
open Go Go.Proofs
def q54_G:List (Nat×App):=[]
theorem q54_Gok:GOk Tryz.prog (getG q54_G):=GOk.nil
def q54_raw (b0:Int) (K:Res→List Cell→Prop):Prop:=
 bif (decide ((48:Int)≤b0)) then
 K (.one (.v .bool (decide (b0≤(57:Int))))) []
 else
 K (.one (.v .bool false)) []
def q54_A:List AS:=[.v yU]

def q54_F (b0:Int):Bool:=
 bif (decide ((48:Int)≤b0)) then
 (decide (b0≤(57:Int)))
 else
 false
theorem q54_sp (b0:Int) (K:Res→List Cell→Prop) (_:wfA q54_A (b0,())) (h:∀ r:Bool,r=q54_F b0→K (.one (.v .bool r)) []):q54_raw b0 K:=
 br0 h (fun _ h=>h _ rfl)
 fun _ h=>h _ rfl
def q54_C (v:valsA q54_A) (K:Res→List Cell→Prop):Prop:=∀ r:Bool,r=q54_F v.1→K (.one (.v .bool r)) []
def q54_S:App:=specW q54_A q54_C
theorem q54_wv (K:Res→List Cell→Prop):∀ v:valsA q54_A,runF tb (getG q54_G) [] Tryz.f224 [true] (mkA q54_A v) K=q54_raw v.1 K
  | (b0,())=>by kernel_rfl
theorem q54_ok:AppOk Tryz.prog 224 q54_S:=
  AppOk.specW (spec_ok ((runF_ok tb_M tb_ok q54_Gok (LabsOk.nil) (f:=224) (fn:=Tryz.f224) (by kernel_rfl) (by kernel_rfl) (by kernel_rfl) [true])) fun v K hw h=>(q54_wv K v).mpr (q54_sp v.1 K hw h))

end Go.VE
namespace Go.VE

def bls:List Int→Nat
  | []=>0
  | b::r=>if b=32∨b=9 then bls r+1 else 0
theorem bls_le:∀ s,bls s≤s.length
  | []=>Nat.le_refl _
  | b::r=>by have:=bls_le r; unfold bls; split <;> simp <;> omega

def isDg (b:Int):Bool:=decide (48≤b∧b≤57)
def dgs:List Int→Nat
  | []=>0
  | b::r=>if isDg b then dgs r+1 else 0
theorem dgs_le:∀ s,dgs s≤s.length
  | []=>Nat.le_refl _
  | b::r=>by have:=dgs_le r; unfold dgs; split <;> simp <;> omega
def dval:Int→List Int→Int
  | a,[]=>a
  | a,b::r=>dval (a * 10+(b - 48)) r
def dv (s:List Int):Int:=dval 0 (s.take (min (dgs s) 9))

def clo:List Int→Int→Nat
  | [],_=>0
  | [b],s=>if b=92 then 1 else if b=s then 0 else 1
  | b::c::r,s=>if b=92 then clo r s+2 else if b=s then 0 else clo (c::r) s+1
theorem clo_le:∀ s c,clo s c≤s.length
  | [],_=>Nat.le_refl _
  | [b],s=>by unfold clo; split <;> (try split) <;> simp
  | b::c::r,s=>by
    have h1:=clo_le r s; have h2:=clo_le (c::r) s
    unfold clo
    simp only [List.length_cons] at h2 ⊢
    split <;> (try split) <;> omega
def alo:List Int→Bool
  | []=>false
  | [b]=>decide (b=92)
  | b::c::r=>if b=92 then alo r else alo (c::r)
def who:List Int→Int→Bool
  | [],_=>true
  | [b],s=>!(decide (b=s) || decide (b=92))
  | b::c::r,s=>if b=s then false else if b=92 then who r s else who (c::r) s
def sou:List Int→Int→Nat
  | [],_=>0
  | [b],s=>if b=s then 0 else 1
  | b::c::r,s=>if b=s then 0 else if b=92 then sou r s+2 else sou (c::r) s+1
theorem sou_le:∀ s c,sou s c≤s.length
  | [],_=>Nat.le_refl _
  | [b],s=>by unfold sou; split <;> simp
  | b::c::r,s=>by
    have h1:=sou_le r s; have h2:=sou_le (c::r) s
    unfold sou
    simp only [List.length_cons] at h2 ⊢
    split <;> (try split) <;> omega

theorem bls_cons (b:Int) (r:List Int):bls (b::r)=if b=32∨b=9 then bls r+1 else 0:=rfl
theorem dgs_cons (b:Int) (r:List Int):dgs (b::r)=if isDg b then dgs r+1 else 0:=rfl
theorem dval_snoc:∀ (l:List Int) (a b:Int),dval a (l++[b])=dval a l * 10+(b - 48)
  | [],a,b=>rfl
  | c::l,a,b=>dval_snoc l _ b
theorem clo_cons (b:Int) (r:List Int) (s:Int):clo (b::r) s=if b=92 then (match r with | []=>1 | _::r=>clo r s+2) else if b=s then 0 else clo r s+1:=by
  cases r with
  | nil=>unfold clo; rfl
  | cons c r=>conv=>lhs; unfold clo
theorem alo_cons (b:Int) (r:List Int):alo (b::r)=(match r with | []=>decide (b=92) | _::r'=>if b=92 then alo r' else alo r):=by
  cases r with
  | nil=>rfl
  | cons c r=>conv=>lhs; unfold alo
theorem alo_ne {b:Int} {r:List Int} (h:¬ b=92):alo (b::r)=alo r:=by
  rw [alo_cons]
  cases r with
  | nil=>simp [h,alo]
  | cons c r=>dsimp only; rw [if_neg h]
theorem who_cons (b:Int) (r:List Int) (s:Int):who (b::r) s=if b=s then false else if b=92 then (match r with | []=>false | _::r=>who r s) else who r s:=by
  cases r with
  | nil=>unfold who; by_cases h1:b=s <;> by_cases h2:b=92 <;> simp [h1,h2]; all_goals (try unfold who); all_goals (try rfl)
  | cons c r=>conv=>lhs; unfold who
theorem sou_cons (b:Int) (r:List Int) (s:Int):sou (b::r) s=if b=s then 0 else if b=92 then (match r with | []=>1 | _::r=>sou r s+2) else sou r s+1:=by
  cases r with
  | nil=>unfold sou; by_cases h1:b=s <;> by_cases h2:b=92 <;> simp [h1,h2]; all_goals (try unfold sou); all_goals (try rfl)
  | cons c r=>conv=>lhs; unfold sou

theorem rd_drop {xs:List Int} {i:Nat} (h:i<xs.length):rd (0:Int) xs (i:Int)=xs[i]:=by show xs.getD (i:Int).toNat 0=_; rw [Int.toNat_natCast]; simp [h]
theorem dropc {xs:List Int} {i:Nat} (h:i<xs.length):xs.drop i=xs[i]::xs.drop (i+1):=List.drop_eq_getElem_cons h

theorem isDg_of {b:Int} (h:isDg b=true):48≤b∧b≤57:=of_decide_eq_true h
theorem dgs_get:∀ (s:List Int) (i:Nat) (h:i<s.length),i<dgs s→isDg s[i]=true
  | b::r,0,_,h=>by
    rw [dgs_cons] at h
    split at h
    · assumption
    · exact absurd h (Nat.not_lt_zero _)
  | b::r,i+1,h1,h=>by
    rw [dgs_cons] at h
    split at h
    · exact dgs_get r i (by simpa using h1) (by omega)
    · exact absurd h (Nat.not_lt_zero _)
theorem dval_take (s:List Int):∀ (i:Nat),i≤dgs s→0≤dval 0 (s.take i)∧dval 0 (s.take i)<10 ^ i
  | 0,_=>by simp [dval]
  | i+1,h=>by
    have hl:=dgs_le s
    have hi:i<s.length:=by omega
    obtain ⟨h1,h2⟩:=dval_take s i (by omega)
    obtain ⟨h3,h4⟩:=isDg_of (dgs_get s i hi (by omega))
    rw [List.take_succ_eq_append_getElem hi,dval_snoc,Int.pow_succ]
    omega
theorem dgs_drop:∀ (s:List Int) (i:Nat),i≤dgs s→dgs s=i+dgs (s.drop i)
  | s,0,_=>by simp
  | [],i+1,h=>absurd h (Nat.not_succ_le_zero _)
  | b::r,i+1,h=>by
    rw [dgs_cons] at h ⊢
    split at h
    · rename_i hb
      rw [if_pos hb,List.drop_succ_cons,dgs_drop r i (by omega)]
      have:=dgs_drop r i (by omega); omega
    · exact absurd h (Nat.not_succ_le_zero _)
theorem pow9 {i:Nat} (h:i≤9):(10:Int) ^ i≤1000000000:=by
  have:i=0∨i=1∨i=2∨i=3∨i=4∨i=5∨i=6∨i=7∨i=8∨i=9:=by omega
  rcases this with h | h | h | h | h | h | h | h | h | h <;> subst h <;> decide

def adds:Nat→List Int→Int→Bool→Option (Nat×Int×Bool)
  | 0,_,_,_=>none
  | _+1,[],a,g=>some (0,a,g)
  | f+1,b::r,a,g=>if b=43∨b=45 then
      (if dgs r≤9 then
        (match adds f (r.drop (dgs r)) (IntKind.wrap .i64 (a+(if b=45 then -(if dgs r=0 then 1 else dv r) else (if dgs r=0 then 1 else dv r)))) true with
          | some (m,a',g')=>some (1+dgs r+m,a',g')
          | none=>none)
      else none)
    else some (0,a,g)
theorem adds_fuel:∀ (f f':Nat) (s:List Int) (a:Int) (g:Bool),s.length<f→s.length<f'→adds f s a g=adds f' s a g
  | 0,_,_,_,_,h,_=>absurd h (Nat.not_lt_zero _)
  | _+1,0,_,_,_,_,h=>absurd h (Nat.not_lt_zero _)
  | f+1,f'+1,[],a,g,_,_=>rfl
  | f+1,f'+1,b::r,a,g,h,h'=>by
    unfold adds
    rw [adds_fuel f f' (r.drop (dgs r)) _ true (by simp only [List.length_drop,List.length_cons] at h ⊢; omega) (by simp only [List.length_drop,List.length_cons] at h' ⊢; omega)]
theorem adds_le:∀ (f:Nat) (s:List Int) (a:Int) (g:Bool) (m:Nat) (a':Int) (g':Bool),adds f s a g=some (m,a',g')→m≤s.length
  | 0,_,_,_,_,_,_,h=>by cases h
  | f+1,[],a,g,m,a',g',h=>by
    simp only [adds,Option.some.injEq,Prod.mk.injEq] at h
    rw [← h.1]; exact Nat.le_refl _
  | f+1,b::r,a,g,m,a',g',h=>by
    unfold adds at h
    split at h
    · split at h
      · split at h
        · rename_i m2 a2 g2 h2
          simp only [Option.some.injEq,Prod.mk.injEq] at h
          have:=adds_le f _ _ _ _ _ _ h2
          have:=dgs_le r
          simp only [List.length_drop,List.length_cons] at *
          omega
        · cases h
      · cases h
    · simp only [Option.some.injEq,Prod.mk.injEq] at h
      rw [← h.1]; exact Nat.zero_le _
abbrev Adr:=Int×Int×Int×List Int×Int×Bool
def adr0:Adr:=(0,0,0,[],0,false)
def adrA (x:Adr) (a:Int) (g:Bool):Adr:=(x.1,x.2.1,x.2.2.1,x.2.2.2.1,a,g)
def addsAt (s:List Int) (at':Int) (x:Adr) (y:Adr):(Int×Int×Adr)⊕(Int×Adr×Adr):=
  match adds (s.length+1) (s.drop at'.toNat) y.2.2.2.2.1 y.2.2.2.2.2 with
  | none=>.inl (0,230,adr0)
  | some (m,a,g)=>.inr (at'+m,x,adrA y a g)

def decL:Nat→Nat→List Int
  | 0,_=>[]
  | k+1,n=>if n<10 then [48+(n:Int)] else decL k (n / 10)++[48+((n % 10:Nat):Int)]
theorem decL_len:∀ (k n:Nat),(decL k n).length≤k
  | 0,_=>Nat.le_refl 0
  | k+1,n=>by
    unfold decL
    split
    · simp
    · have:=decL_len k (n / 10); rw [List.length_append]; simp only [List.length_cons,List.length_nil]; omega
theorem decL_more:∀ (k n:Nat),n<10 ^ k→0<k→decL (k+1) n=decL k n
  | 0,n,h,h0=>absurd h0 (Nat.lt_irrefl 0)
  | 1,n,h,_=>by
    unfold decL
    rw [if_pos (by omega),if_pos (by omega)]
  | k+2,n,h,_=>by
    rw [show decL (k+2+1) n=if n<10 then [48+(n:Int)] else decL (k+2) (n / 10)++[48+((n % 10:Nat):Int)] from rfl,
      show decL (k+2) n=if n<10 then [48+(n:Int)] else decL (k+1) (n / 10)++[48+((n % 10:Nat):Int)] from rfl]
    split
    · rfl
    · rw [decL_more (k+1) (n / 10) (by rw [Nat.pow_succ] at h; omega) (by omega)]
def dec (n:Nat):List Int:=decL 10 n
theorem dec_small {n:Nat} (h:n<10):dec n=[48+(n:Int)]:=by unfold dec decL; rw [if_pos h]
theorem dec_great {n:Nat} (h:10≤n) (h2:n<10000000000):dec n=dec (n / 10)++[48+((n % 10:Nat):Int)]:=by
  unfold dec
  rw [show decL 10 n=if n<10 then [48+(n:Int)] else decL 9 (n / 10)++[48+((n % 10:Nat):Int)] from rfl,if_neg (by omega),decL_more 9 (n / 10) (by omega) (by omega)]
def cnt:Int→List Int→Int
  | a,[]=>a
  | a,b::r=>if isDg b then cnt (if 9999<a * 10+(b - 48) then 9999 else a * 10+(b - 48)) r else a
theorem cnt_cons (a b:Int) (r:List Int):cnt a (b::r)=if isDg b then cnt (if 9999<a * 10+(b - 48) then 9999 else a * 10+(b - 48)) r else a:=rfl
theorem cnt_range:∀ (s:List Int) (a:Int),0≤a→a≤9999→0≤cnt a s∧cnt a s≤9999
  | [],a,h1,h2=>⟨h1,h2⟩
  | b::r,a,h1,h2=>by
    rw [cnt_cons]
    split
    · rename_i hb
      have:=isDg_of hb
      refine cnt_range r _ ?_ ?_ <;> split <;> omega
    · exact ⟨h1,h2⟩
def reps (b:Int):List Int→Nat
  | []=>0
  | c::r=>if c=b then reps b r+1 else 0
theorem reps_cons (b c:Int) (r:List Int):reps b (c::r)=if c=b then reps b r+1 else 0:=rfl
theorem reps_le (b:Int):∀ s,reps b s≤s.length
  | []=>Nat.le_refl _
  | c::r=>by have:=reps_le b r; rw [reps_cons]; split <;> simp <;> omega

abbrev ExD:=Adr×Adr×Bool×List Int×Adr×Int×Int×List Int×List Int×Bool
def exN (x:ExD) (n:Int):ExD:=(x.1,x.2.1,x.2.2.1,x.2.2.2.1,x.2.2.2.2.1,x.2.2.2.2.2.1,n,x.2.2.2.2.2.2.2.1,x.2.2.2.2.2.2.2.2.1,x.2.2.2.2.2.2.2.2.2)
end Go.VE
namespace Go.VE
set_option maxRecDepth 20000
open Go Go.Proofs
def q62_G:List (Nat×App):=[(224,q54_S)]
theorem q62_Gok:GOk Tryz.prog (getG q62_G):=GOk.cons q54_ok (GOk.nil)
theorem q62_st:storesC (bodyOf Tryz.f194)=true:=by kernel_rfl
def q62_d0:List LS:=[.v 0 yB,.v 5 yI,.v 6 yI]
def q62_d0r:List LS:=[.v 2 yI,.v 3 yI,.v 4 .bool]
def q62_d0x0:List LS:=[.v 5 yI,.v 6 yI]
def q62_dx0:DX:=⟨none,some q62_d0r,[(0,q62_d0x0)]⟩
def q62_y0r (k:Ex→St→Prop) (x2:Int) (x3:Int) (x4:Bool):Prop:=wfD q62_d0r (x2,x3,x4,())→k .ret (mkD 33 q62_d0r (x2,x3,x4,()))
def q62_y0x0 (k:Ex→St→Prop) (n5:Int) (i6:Int):Prop:=wfD q62_d0x0 (n5,i6,())→k (.exit 0) (mkD 33 q62_d0x0 (n5,i6,()))
def q62_T0 (Y:LI→Int→Int→Prop) (kr:Int→Int→Bool→Prop) (kx0:Int→Int→Prop) (line0:LI) (n5:Int) (i6:Int):Prop:=
 bif (decide (i6<(List.length line0:Int))) then
 bif decide (0≤i6∧i6<(List.length line0:Int)) then
 ∀ (r1:Bool),r1=q54_F (rd (0:Int) line0 i6)→(
 wB r1→(
 bif r1 then
 bif (decide (i6=(9:Int))) then
 kr (0:Int) (0:Int) false
 else
 bif decide (0≤i6∧i6<(List.length line0:Int)) then
 Y line0 (IntKind.wrap .i64 ((IntKind.wrap .i64 (n5 * (10:Int)))+(IntKind.wrap .i64 (IntKind.wrap .u8 ((rd (0:Int) line0 i6) - (48:Int)))))) (IntKind.wrap .i64 (i6+(1:Int)))
 else False
 else
 kx0 n5 i6))
 else False
 else
 kx0 n5 i6
def q62_L0 (kr:Int→Int→Bool→Prop) (kx0:Int→Int→Prop):Nat→LI→Int→Int→Prop
  | 0,_,_,_=>False
  | n+1,line0,n5,i6=>wfD q62_d0 (line0,n5,i6,())→q62_T0 (q62_L0 kr kx0 n) kr kx0 line0 n5 i6
def q62_c0:Pce:=ex tb (getG q62_G) [] (at' (bodyOf Tryz.f194) [0,0,0,1,1]) [0,0,0,1,1]
def q62_g0 (k:Ex→St→Prop) (n:Nat) (v:vals q62_d0):Prop:=q62_L0 (q62_y0r k) (q62_y0x0 k) n v.1 v.2.1 v.2.2.1
theorem q62_s0 (k:Ex→St→Prop) (Y:vals q62_d0→Prop):∀ v:vals q62_d0,q62_c0 (mkD 33 q62_d0 v) (lpK 33 q62_d0 q62_dx0 k Y)=q62_T0 (fun line0 n5 i6=>Y (line0,n5,i6,())) (q62_y0r k) (q62_y0x0 k) v.1 v.2.1 v.2.2.1
  | (line0,n5,i6,())=>by kernel_rfl
theorem q62_v0 (k:Ex→St→Prop):∀ (n:Nat) (v:vals q62_d0),lpD 33 q62_d0 q62_dx0 q62_c0 k n v=q62_g0 k n v
  | 0,(line0,n5,i6,())=>rfl
  | n+1,(line0,n5,i6,())=>congrArg (fun Z:Prop=>wfD q62_d0 (line0,n5,i6,())→Z) ((q62_s0 k _ (line0,n5,i6,())).trans (congrArg (fun Y=>q62_T0 Y (q62_y0r k) (q62_y0x0 k) line0 n5 i6) (funext fun line0=>funext fun n5=>funext fun i6=>q62_v0 k n (line0,n5,i6,()))))
def q62_X0:Pce:=fun st k=>ckD 33 q62_d0 st fun v=>wfD q62_d0 v→∃ n,q62_g0 k n v
theorem q62_x0:SemOk Tryz.prog (at' (bodyOf Tryz.f194) [0,0,1,1]) q62_X0:=
  (SemOk.loop (ex_sound tb_M tb_ok q62_Gok (LabsOk.nil) (at' (bodyOf Tryz.f194) [0,0,0,1,1]) [0,0,0,1,1] rfl (storesC_at q62_st [0,0,0,1,1])) 33 q62_d0 q62_dx0).mono fun st k h=>ckD_mono h fun v hv hw=>(hv hw).elim fun n hn=>⟨n,Eq.mpr (q62_v0 k n v) hn⟩
def q62_B0:Labs:=([0,0,1,1],q62_X0)::[]
theorem q62_b0:LabsOk Tryz.prog (bodyOf Tryz.f194) q62_B0:=LabsOk.cons q62_x0 (LabsOk.nil)
def q62_raw (line0:LI) (K:Res→List Cell→Prop):Prop:=
 (wfD q62_d0 (line0,(0:Int),(0:Int),())→∃ n,q62_L0 (fun (x2:Int) (x3:Int) (x4:Bool)=>wfD q62_d0r (x2,x3,x4,())→(
 K (.tup [.v yI x2,.v yI x3,.v .bool x4]) [])) (fun (n5:Int) (i6:Int)=>wfD q62_d0x0 (n5,i6,())→(
 K (.tup [.v yI n5,.v yI i6,.v .bool true]) [])) n line0 (0:Int) (0:Int))
def q62_A:List AS:=[.v yB]
def q62_L0_P (s:LI) (n i:Int):Prop:=n=0∧i=0∧s.length≤lim
def q62_L0_F (s:LI) (_ _:Int):(Int×Int×Bool)⊕(Int×Int):=if dgs s≤9 then .inr (dv s,(dgs s:Int)) else .inl (0,0,false)
theorem q54_eq (b:Int):q54_F b=isDg b:=by
  unfold q54_F isDg
  by_cases h1:48≤b <;> by_cases h2:b≤57 <;> simp [h1,h2]
theorem q62_l0 (kr:Int→Int→Bool→Prop) (kx0:Int→Int→Prop) (s:LI) (hs:s.length≤lim) (hr:9<dgs s→kr 0 0 false) (hx:dgs s≤9→kx0 (dv s) (dgs s)) :
    ∀ (n i:Nat),s.length<n+i→i≤9→i≤dgs s→q62_L0 kr kx0 n s (dval 0 (s.take i)) (i:Int)
  | 0,i,hn,_,hi=>absurd hn (by have:=dgs_le s; omega)
  | n+1,i,hn,h9,hi=>by
    intro _
    unfold q62_T0
    have hlim:lim=1099511627776:=rfl
    have hd:=dgs_drop s i hi
    have hl:=dgs_le s
    have fin:dgs s=i→kx0 (dval 0 (s.take i)) (i:Int):=fun e=>by
      have:=hx (by omega)
      unfold dv at this
      rw [e,show min i 9=i by omega] at this
      exact this
    refine brn (fun hlt=>asrt (by omega) ?_) (fun hge=>fin (by omega))
    have hi':i<s.length:=by omega
    intro r hr2 _
    rw [rd_drop hi',q54_eq] at hr2
    subst hr2
    rw [dropc hi',dgs_cons] at hd
    refine brb (fun hb=>?_) (fun hb=>?_)
    · rw [if_pos hb] at hd
      obtain ⟨b1,b2⟩:=isDg_of hb
      refine brn (fun e9=>hr (by omega)) (fun e9=>asrt (by omega) ?_)
      obtain ⟨v1,v2⟩:=dval_take s i hi
      have v3:=pow9 h9
      rw [rd_drop hi',wrap_u8 (by omega) (by omega),wrap_i64 (n:=s[i] - 48) (by omega) (by omega),wrap_i64 (n:=dval 0 (s.take i) * 10) (by omega) (by omega),wrap_i64 (n:=dval 0 (s.take i) * 10+(s[i] - 48)) (by omega) (by omega),wrap_i64 (by omega) (by omega),show (i:Int)+1=((i+1:Nat):Int) by omega,← dval_snoc,← List.take_succ_eq_append_getElem hi']
      exact q62_l0 kr kx0 s hs hr hx n (i+1) (by omega) (by omega) (by omega)
    · rw [if_neg (by rw [hb]; simp)] at hd
      exact fin (by omega)
theorem q62_L0_sp (kr:Int→Int→Bool→Prop) (kx0:Int→Int→Prop) (s:LI) (n i:Int) (hp:q62_L0_P s n i)
    (hr:∀ q:Int×Int×Bool,q62_L0_F s n i=.inl q→kr q.1 q.2.1 q.2.2) (hx:∀ q:Int×Int,q62_L0_F s n i=.inr q→kx0 q.1 q.2):∃ m,q62_L0 kr kx0 m s n i:=by
  obtain ⟨rfl,rfl,hs⟩:=hp
  refine ⟨s.length+1,q62_l0 kr kx0 s hs (fun h=>hr (0,0,false) ?_) (fun h=>hx (dv s,(dgs s:Int)) ?_) _ 0 (by omega) (by omega) (by omega)⟩
  · unfold q62_L0_F; rw [if_neg (by omega)]
  · unfold q62_L0_F; rw [if_pos h]

def q62_P (line0:LI):Prop:=
 q62_L0_P line0 (0:Int) (0:Int)
def q62_F (line0:LI):Int×Int×Bool:=
 Sum.elim (fun q0r=>
 let x2:Int:=q0r.1
 let x3:Int:=q0r.2.1
 let x4:Bool:=q0r.2.2
 (x2,x3,x4)) (fun q0x0=>
 let n5:Int:=q0x0.1
 let i6:Int:=q0x0.2
 (n5,i6,true)) (q62_L0_F line0 (0:Int) (0:Int))
theorem q62_sp (line0:LI) (K:Res→List Cell→Prop) (_:wfA q62_A (line0,())) (hp:q62_P line0) (h:∀ r:Int×Int×Bool,r=q62_F line0→K (.tup [.v yI r.1,.v yI r.2.1,.v .bool r.2.2]) []):q62_raw line0 K:=
 fun _=>q62_L0_sp _ _ _ _ _ hp
 (fun _ e _=>have h:=sl e h; h _ rfl)
 (fun _ e _=>have h:=sr e h; h _ rfl)
def q62_C (v:valsA q62_A) (K:Res→List Cell→Prop):Prop:=q62_P v.1∧∀ r:Int×Int×Bool,r=q62_F v.1→K (.tup [.v yI r.1,.v yI r.2.1,.v .bool r.2.2]) []
def q62_S:App:=specW q62_A q62_C
theorem q62_wv (K:Res→List Cell→Prop):∀ v:valsA q62_A,runF tb (getG q62_G) q62_B0 Tryz.f194 [true,true,true] (mkA q62_A v) K=q62_raw v.1 K
  | (line0,())=>by kernel_rfl
theorem q62_ok:AppOk Tryz.prog 194 q62_S:=
  AppOk.specW (spec_ok ((runF_ok tb_M tb_ok q62_Gok (q62_b0) (f:=194) (fn:=Tryz.f194) (by kernel_rfl) (by kernel_rfl) q62_st [true,true,true])) fun v K hw h=>(q62_wv K v).mpr (q62_sp v.1 K hw h.1 h.2))

def q55_G:List (Nat×App):=[]
theorem q55_Gok:GOk Tryz.prog (getG q55_G):=GOk.nil
theorem q55_st:storesC (bodyOf Tryz.f139)=true:=by kernel_rfl
def q55_d0:List LS:=[.v 0 yB,.v 1 yU,.v 5 yI]
def q55_d0r:List LS:=[.v 4 yI]
def q55_d0x0:List LS:=[.v 0 yB]
def q55_dx0:DX:=⟨none,some q55_d0r,[(0,q55_d0x0)]⟩
def q55_y0r (k:Ex→St→Prop) (x4:Int):Prop:=wfD q55_d0r (x4,())→k .ret (mkD 26 q55_d0r (x4,()))
def q55_y0x0 (k:Ex→St→Prop) (line0:LI):Prop:=wfD q55_d0x0 (line0,())→k (.exit 0) (mkD 26 q55_d0x0 (line0,()))
def q55_T0 (Y:LI→Int→Int→Prop) (kr:Int→Prop) (kx0:LI→Prop) (line0:LI) (sign1:Int) (i5:Int):Prop:=
 bif (decide (i5<(List.length line0:Int))) then
 bif decide (0≤i5∧i5<(List.length line0:Int)) then
 bif (decide ((rd (0:Int) line0 i5)=(92:Int))) then
 Y line0 sign1 (IntKind.wrap .i64 ((IntKind.wrap .i64 (i5+(1:Int)))+(1:Int)))
 else
 bif (decide ((rd (0:Int) line0 i5)=sign1)) then
 kr i5
 else
 Y line0 sign1 (IntKind.wrap .i64 (i5+(1:Int)))
 else False
 else
 kx0 line0
def q55_L0 (kr:Int→Prop) (kx0:LI→Prop):Nat→LI→Int→Int→Prop
  | 0,_,_,_=>False
  | n+1,line0,sign1,i5=>wfD q55_d0 (line0,sign1,i5,())→q55_T0 (q55_L0 kr kx0 n) kr kx0 line0 sign1 i5
def q55_c0:Pce:=ex tb (getG q55_G) [] (at' (bodyOf Tryz.f139) [0,0,1,0,1]) [0,0,1,0,1]
def q55_g0 (k:Ex→St→Prop) (n:Nat) (v:vals q55_d0):Prop:=q55_L0 (q55_y0r k) (q55_y0x0 k) n v.1 v.2.1 v.2.2.1
theorem q55_s0 (k:Ex→St→Prop) (Y:vals q55_d0→Prop):∀ v:vals q55_d0,q55_c0 (mkD 26 q55_d0 v) (lpK 26 q55_d0 q55_dx0 k Y)=q55_T0 (fun line0 sign1 i5=>Y (line0,sign1,i5,())) (q55_y0r k) (q55_y0x0 k) v.1 v.2.1 v.2.2.1
  | (line0,sign1,i5,())=>by kernel_rfl
theorem q55_v0 (k:Ex→St→Prop):∀ (n:Nat) (v:vals q55_d0),lpD 26 q55_d0 q55_dx0 q55_c0 k n v=q55_g0 k n v
  | 0,(line0,sign1,i5,())=>rfl
  | n+1,(line0,sign1,i5,())=>congrArg (fun Z:Prop=>wfD q55_d0 (line0,sign1,i5,())→Z) ((q55_s0 k _ (line0,sign1,i5,())).trans (congrArg (fun Y=>q55_T0 Y (q55_y0r k) (q55_y0x0 k) line0 sign1 i5) (funext fun line0=>funext fun sign1=>funext fun i5=>q55_v0 k n (line0,sign1,i5,()))))
def q55_X0:Pce:=fun st k=>ckD 26 q55_d0 st fun v=>wfD q55_d0 v→∃ n,q55_g0 k n v
theorem q55_x0:SemOk Tryz.prog (at' (bodyOf Tryz.f139) [0,1,0,1]) q55_X0:=
  (SemOk.loop (ex_sound tb_M tb_ok q55_Gok (LabsOk.nil) (at' (bodyOf Tryz.f139) [0,0,1,0,1]) [0,0,1,0,1] rfl (storesC_at q55_st [0,0,1,0,1])) 26 q55_d0 q55_dx0).mono fun st k h=>ckD_mono h fun v hv hw=>(hv hw).elim fun n hn=>⟨n,Eq.mpr (q55_v0 k n v) hn⟩
def q55_B0:Labs:=([0,1,0,1],q55_X0)::[]
theorem q55_b0:LabsOk Tryz.prog (bodyOf Tryz.f139) q55_B0:=LabsOk.cons q55_x0 (LabsOk.nil)
def q55_raw (line0:LI) (sign1:Int) (K:Res→List Cell→Prop):Prop:=
 (wfD q55_d0 (line0,sign1,(0:Int),())→∃ n,q55_L0 (fun (x4:Int)=>wfD q55_d0r (x4,())→(
 K (.one (.v yI x4)) [])) (fun (line0:LI)=>wfD q55_d0x0 (line0,())→(
 K (.one (.v yI (List.length line0:Int))) [])) n line0 sign1 (0:Int))
def q55_A:List AS:=[.v yB,.v yU]
def q55_L0_P (s:LI) (_ i:Int):Prop:=i=0∧s.length≤lim
def q55_L0_F (s:LI) (c _:Int):Int⊕LI:=if clo s c<s.length then .inl (clo s c:Int) else .inr s
theorem q55_l0 (kr:Int→Prop) (kx0:LI→Prop) (s:LI) (c:Int) (hs:s.length≤lim) :
    ∀ (n i:Nat),s.length+1<n+i→i≤s.length+1→(i+clo (s.drop i) c<s.length→kr ((i+clo (s.drop i) c:Nat):Int))→(s.length≤i+clo (s.drop i) c→kx0 s)→q55_L0 kr kx0 n s c (i:Int)
  | 0,i,hn,hi,hr,hx=>absurd hn (by omega)
  | n+1,i,hn,hi,hr,hx=>by
    intro _
    unfold q55_T0
    have hlim:lim=1099511627776:=rfl
    refine brn (fun hlt=>asrt (by omega) ?_) (fun hge=>hx (by omega))
    have hi':i<s.length:=by omega
    rw [rd_drop hi',wrap_i64 (n:=(i:Int)+1) (by omega) (by omega),wrap_i64 (by omega) (by omega),show (i:Int)+1+1=((i+2:Nat):Int) by omega,show (i:Int)+1=((i+1:Nat):Int) by omega]
    rw [dropc hi',clo_cons] at hr hx
    refine brn (fun h92=>?_) (fun h92=>brn (fun hc=>?_) (fun hc=>?_))
    · rw [if_pos h92] at hr hx
      refine q55_l0 kr kx0 s c hs n (i+2) (by omega) (by omega) ?_ ?_
      · rcases Nat.lt_or_ge (i+1) s.length with h | h
        · rw [dropc h] at hr
          dsimp only at hr
          intro h2
          rw [show i+2+clo (s.drop (i+2)) c=i+(clo (s.drop (i+1+1)) c+2) by rw [show i+1+1=i+2 from rfl]; omega] at h2 ⊢
          exact hr h2
        · intro h2; omega
      · rcases Nat.lt_or_ge (i+1) s.length with h | h
        · rw [dropc h] at hx
          dsimp only at hx
          intro h2
          exact hx (by rw [show i+1+1=i+2 from rfl]; omega)
        · rw [List.drop_eq_nil_of_le h] at hx
          exact fun _=>hx (by dsimp only; omega)
    · rw [if_neg h92,if_pos hc] at hr
      exact hr (by omega)
    · rw [if_neg h92,if_neg hc] at hr hx
      exact q55_l0 kr kx0 s c hs n (i+1) (by omega) (by omega) (fun h2=>by
        rw [show i+1+clo (s.drop (i+1)) c=i+(clo (s.drop (i+1)) c+1) by omega] at h2 ⊢; exact hr h2) (fun h2=>hx (by omega))
theorem q55_L0_sp (kr:Int→Prop) (kx0:LI→Prop) (s:LI) (c i:Int) (hp:q55_L0_P s c i)
    (hr:∀ q:Int,q55_L0_F s c i=.inl q→kr q) (hx:∀ q:LI,q55_L0_F s c i=.inr q→kx0 q):∃ m,q55_L0 kr kx0 m s c i:=by
  obtain ⟨rfl,hs⟩:=hp
  refine ⟨s.length+2,q55_l0 kr kx0 s c hs _ 0 (by omega) (by omega) (fun h=>?_) (fun h=>?_)⟩
  · simp only [List.drop_zero,Nat.zero_add] at h ⊢
    exact hr _ (by unfold q55_L0_F; rw [if_pos h])
  · simp only [List.drop_zero,Nat.zero_add] at h
    exact hx _ (by unfold q55_L0_F; rw [if_neg (by omega)])

def q55_P (line0:LI) (sign1:Int):Prop:=
 q55_L0_P line0 sign1 (0:Int)
def q55_F (line0:LI) (sign1:Int):Int:=
 Sum.elim (fun q0r=>
 let x4:Int:=q0r
 x4) (fun q0x0=>
 let line0:LI:=q0x0
 (List.length line0:Int)) (q55_L0_F line0 sign1 (0:Int))
theorem q55_sp (line0:LI) (sign1:Int) (K:Res→List Cell→Prop) (_:wfA q55_A (line0,sign1,())) (hp:q55_P line0 sign1) (h:∀ r:Int,r=q55_F line0 sign1→K (.one (.v yI r)) []):q55_raw line0 sign1 K:=
 fun _=>q55_L0_sp _ _ _ _ _ hp
 (fun _ e _=>have h:=sl e h; h _ rfl)
 (fun _ e _=>have h:=sr e h; h _ rfl)
def q55_C (v:valsA q55_A) (K:Res→List Cell→Prop):Prop:=q55_P v.1 v.2.1∧∀ r:Int,r=q55_F v.1 v.2.1→K (.one (.v yI r)) []
def q55_S:App:=specW q55_A q55_C
theorem q55_wv (K:Res→List Cell→Prop):∀ v:valsA q55_A,runF tb (getG q55_G) q55_B0 Tryz.f139 [true] (mkA q55_A v) K=q55_raw v.1 v.2.1 K
  | (line0,sign1,())=>by kernel_rfl
theorem q55_ok:AppOk Tryz.prog 139 q55_S:=
  AppOk.specW (spec_ok ((runF_ok tb_M tb_ok q55_Gok (q55_b0) (f:=139) (fn:=Tryz.f139) (by kernel_rfl) (by kernel_rfl) q55_st [true])) fun v K hw h=>(q55_wv K v).mpr (q55_sp v.1 v.2.1 K hw h.1 h.2))

def q67_G:List (Nat×App):=[]
theorem q67_Gok:GOk Tryz.prog (getG q67_G):=GOk.nil
theorem q67_st:storesC (bodyOf Tryz.f225)=true:=by kernel_rfl
def q67_d0:List LS:=[.v 0 yB,.v 3 yI]
def q67_d0r:List LS:=[.v 2 .bool]
def q67_d0x0:List LS:=[]
def q67_dx0:DX:=⟨none,some q67_d0r,[(0,q67_d0x0)]⟩
def q67_y0r (k:Ex→St→Prop) (x2:Bool):Prop:=wfD q67_d0r (x2,())→k .ret (mkD 22 q67_d0r (x2,()))
def q67_y0x0 (k:Ex→St→Prop):Prop:=wfD q67_d0x0 ()→k (.exit 0) (mkD 22 q67_d0x0 ())
def q67_T0 (Y:LI→Int→Prop) (kr:Bool→Prop) (kx0:Prop) (text0:LI) (i3:Int):Prop:=
 bif (decide (i3<(List.length text0:Int))) then
 bif decide (0≤i3∧i3<(List.length text0:Int)) then
 bif (decide ((rd (0:Int) text0 i3)=(92:Int))) then
 bif (decide (i3=(IntKind.wrap .i64 ((List.length text0:Int) - (1:Int))))) then
 kr true
 else
 Y text0 (IntKind.wrap .i64 ((IntKind.wrap .i64 (i3+(1:Int)))+(1:Int)))
 else
 Y text0 (IntKind.wrap .i64 (i3+(1:Int)))
 else False
 else
 kx0
def q67_L0 (kr:Bool→Prop) (kx0:Prop):Nat→LI→Int→Prop
  | 0,_,_=>False
  | n+1,text0,i3=>wfD q67_d0 (text0,i3,())→q67_T0 (q67_L0 kr kx0 n) kr kx0 text0 i3
def q67_c0:Pce:=ex tb (getG q67_G) [] (at' (bodyOf Tryz.f225) [0,0,1,0,1]) [0,0,1,0,1]
def q67_g0 (k:Ex→St→Prop) (n:Nat) (v:vals q67_d0):Prop:=q67_L0 (q67_y0r k) (q67_y0x0 k) n v.1 v.2.1
theorem q67_s0 (k:Ex→St→Prop) (Y:vals q67_d0→Prop):∀ v:vals q67_d0,q67_c0 (mkD 22 q67_d0 v) (lpK 22 q67_d0 q67_dx0 k Y)=q67_T0 (fun text0 i3=>Y (text0,i3,())) (q67_y0r k) (q67_y0x0 k) v.1 v.2.1
  | (text0,i3,())=>by kernel_rfl
theorem q67_v0 (k:Ex→St→Prop):∀ (n:Nat) (v:vals q67_d0),lpD 22 q67_d0 q67_dx0 q67_c0 k n v=q67_g0 k n v
  | 0,(text0,i3,())=>rfl
  | n+1,(text0,i3,())=>congrArg (fun Z:Prop=>wfD q67_d0 (text0,i3,())→Z) ((q67_s0 k _ (text0,i3,())).trans (congrArg (fun Y=>q67_T0 Y (q67_y0r k) (q67_y0x0 k) text0 i3) (funext fun text0=>funext fun i3=>q67_v0 k n (text0,i3,()))))
def q67_X0:Pce:=fun st k=>ckD 22 q67_d0 st fun v=>wfD q67_d0 v→∃ n,q67_g0 k n v
theorem q67_x0:SemOk Tryz.prog (at' (bodyOf Tryz.f225) [0,1,0,1]) q67_X0:=
  (SemOk.loop (ex_sound tb_M tb_ok q67_Gok (LabsOk.nil) (at' (bodyOf Tryz.f225) [0,0,1,0,1]) [0,0,1,0,1] rfl (storesC_at q67_st [0,0,1,0,1])) 22 q67_d0 q67_dx0).mono fun st k h=>ckD_mono h fun v hv hw=>(hv hw).elim fun n hn=>⟨n,Eq.mpr (q67_v0 k n v) hn⟩
def q67_B0:Labs:=([0,1,0,1],q67_X0)::[]
theorem q67_b0:LabsOk Tryz.prog (bodyOf Tryz.f225) q67_B0:=LabsOk.cons q67_x0 (LabsOk.nil)
def q67_raw (text0:LI) (K:Res→List Cell→Prop):Prop:=
 (wfD q67_d0 (text0,(0:Int),())→∃ n,q67_L0 (fun (x2:Bool)=>wfD q67_d0r (x2,())→(
 K (.one (.v .bool x2)) [])) (wfD q67_d0x0 ()→(
 K (.one (.v .bool false)) [])) n text0 (0:Int))
def q67_A:List AS:=[.v yB]
def q67_L0_P (s:LI) (i:Int):Prop:=i=0∧s.length≤lim
def q67_L0_F (s:LI) (_:Int):Bool⊕Unit:=if alo s then .inl true else .inr ()
theorem q67_l0 (kr:Bool→Prop) (kx0:Prop) (s:LI) (hs:s.length≤lim) :
    ∀ (n i:Nat),s.length+1<n+i→i≤s.length+1→(alo (s.drop i)=true→kr true)→(alo (s.drop i)=false→kx0)→q67_L0 kr kx0 n s (i:Int)
  | 0,i,hn,hi,hr,hx=>absurd hn (by omega)
  | n+1,i,hn,hi,hr,hx=>by
    intro _
    unfold q67_T0
    have hlim:lim=1099511627776:=rfl
    refine brn (fun hlt=>asrt (by omega) ?_) (fun hge=>hx (by rw [List.drop_eq_nil_of_le (by omega)]; rfl))
    have hi':i<s.length:=by omega
    rw [rd_drop hi',wrap_i64 (n:=(i:Int)+1) (by omega) (by omega),wrap_i64 (n:=(s.length:Int) - 1) (by omega) (by omega),wrap_i64 (by omega) (by omega),show (i:Int)+1+1=((i+2:Nat):Int) by omega,show (i:Int)+1=((i+1:Nat):Int) by omega]
    rw [dropc hi',alo_cons] at hr hx
    refine brn (fun h92=>?_) (fun h92=>?_)
    · refine brn (fun he=>?_) (fun he=>?_)
      · rw [List.drop_eq_nil_of_le (show s.length≤i+1 by omega)] at hr
        exact hr (by simp [h92])
      · have h:i+1<s.length:=by omega
        rw [dropc h] at hr hx
        dsimp only at hr hx
        rw [if_pos h92] at hr hx
        exact q67_l0 kr kx0 s hs n (i+2) (by omega) (by omega) hr hx
    · refine q67_l0 kr kx0 s hs n (i+1) (by omega) (by omega) ?_ ?_
      · rcases Nat.lt_or_ge (i+1) s.length with h | h
        · rw [dropc h] at hr ⊢
          dsimp only at hr
          rw [if_neg h92] at hr; exact hr
        · rw [List.drop_eq_nil_of_le h]; intro h2; cases h2
      · rcases Nat.lt_or_ge (i+1) s.length with h | h
        · rw [dropc h] at hx ⊢
          dsimp only at hx
          rw [if_neg h92] at hx; exact hx
        · rw [List.drop_eq_nil_of_le h] at hx
          exact fun _=>hx (by simp [h92])
theorem q67_L0_sp (kr:Bool→Prop) (kx0:Prop) (s:LI) (i:Int) (hp:q67_L0_P s i)
    (hr:∀ q:Bool,q67_L0_F s i=.inl q→kr q) (hx:∀ q:Unit,q67_L0_F s i=.inr q→kx0):∃ m,q67_L0 kr kx0 m s i:=by
  obtain ⟨rfl,hs⟩:=hp
  refine ⟨s.length+2,q67_l0 kr kx0 s hs _ 0 (by omega) (by omega) (fun h=>?_) (fun h=>?_)⟩
  · rw [List.drop_zero] at h
    exact hr _ (by unfold q67_L0_F; rw [if_pos h])
  · rw [List.drop_zero] at h
    exact hx () (by unfold q67_L0_F; rw [if_neg (by rw [h]; simp)])

def q67_P (text0:LI):Prop:=
 q67_L0_P text0 (0:Int)
def q67_F (text0:LI):Bool:=
 Sum.elim (fun q0r=>
 let x2:Bool:=q0r
 x2) (fun q0x0=>
 false) (q67_L0_F text0 (0:Int))
theorem q67_sp (text0:LI) (K:Res→List Cell→Prop) (_:wfA q67_A (text0,())) (hp:q67_P text0) (h:∀ r:Bool,r=q67_F text0→K (.one (.v .bool r)) []):q67_raw text0 K:=
 fun _=>q67_L0_sp _ _ _ _ hp
 (fun _ e _=>have h:=sl e h; h _ rfl)
 (fun _ e _=>have h:=sr e h; h _ rfl)
def q67_C (v:valsA q67_A) (K:Res→List Cell→Prop):Prop:=q67_P v.1∧∀ r:Bool,r=q67_F v.1→K (.one (.v .bool r)) []
def q67_S:App:=specW q67_A q67_C
theorem q67_wv (K:Res→List Cell→Prop):∀ v:valsA q67_A,runF tb (getG q67_G) q67_B0 Tryz.f225 [true] (mkA q67_A v) K=q67_raw v.1 K
  | (text0,())=>by kernel_rfl
theorem q67_ok:AppOk Tryz.prog 225 q67_S:=
  AppOk.specW (spec_ok ((runF_ok tb_M tb_ok q67_Gok (q67_b0) (f:=225) (fn:=Tryz.f225) (by kernel_rfl) (by kernel_rfl) q67_st [true])) fun v K hw h=>(q67_wv K v).mpr (q67_sp v.1 K hw h.1 h.2))

end Go.VE
namespace Go.VE
open Go Go.Proofs
def q83_G:List (Nat×App):=[]
theorem q83_Gok:GOk Tryz.prog (getG q83_G):=GOk.nil
def q83_raw (b0:LI) (K:Res→List Cell→Prop):Prop:=
 (
 bif decide (List.length ([]:LI)+List.length b0≤lim) then
 K (.one (.fr 5 yU (([]:LI)++b0))) []
 else False)∧(bif decide (List.length b0=0) then
 K (.one (.fr 5 yU ([]:LI))) []
 else True)
def q83_A:List AS:=[.v yB]
def q83_P (b:LI):Prop:=b.length≤lim
def q83_F (b:LI):LI:=b
theorem q83_sp (b:LI) (K:Res→List Cell→Prop) (_:wfA q83_A (b,())) (hp:q83_P b) (h:∀ r:LI,r=q83_F b→K (.one (.fr 5 yU r)) []):q83_raw b K:=by
  unfold q83_raw
  unfold q83_P at hp
  refine ⟨asrt (by simpa using hp) (h _ rfl),?_⟩
  by_cases hz:b.length=0
  · rw [decide_eq_true hz]
    exact h _ (List.eq_nil_of_length_eq_zero hz).symm
  · rw [decide_eq_false hz]; trivial

def q83_C (v:valsA q83_A) (K:Res→List Cell→Prop):Prop:=q83_P v.1∧∀ r:LI,r=q83_F v.1→K (.one (.fr 5 yU r)) []
def q83_S:App:=specW q83_A q83_C
theorem q83_wv (K:Res→List Cell→Prop):∀ v:valsA q83_A,runF tb (getG q83_G) [] Tryz.f67 [true] (mkA q83_A v) K=q83_raw v.1 K
  | (b0,())=>by kernel_rfl
set_option maxRecDepth 20000 in
theorem q83_ok:AppOk Tryz.prog 67 q83_S:=
  AppOk.specW (spec_ok ((runF_ok tb_M tb_ok q83_Gok (LabsOk.nil) (f:=67) (fn:=Tryz.f67) (by kernel_rfl) (by kernel_rfl) (by kernel_rfl) [true])) fun v K hw h=>(q83_wv K v).mpr (q83_sp v.1 K hw h.1 h.2))

end Go.VE
namespace Go.VE
set_option maxRecDepth 20000
open Go Go.Proofs
def q73_G:List (Nat×App):=[(224,q54_S),(194,q62_S),(139,q55_S),(225,q67_S),(67,q83_S)]
theorem q73_Gok:GOk Tryz.prog (getG q73_G):=GOk.cons q54_ok (GOk.cons q62_ok (GOk.cons q55_ok (GOk.cons q67_ok (GOk.cons q83_ok (GOk.nil)))))
def q73_raw (line0:LI) (K:Res→List Cell→Prop):Prop:=
 bif (decide ((List.length line0:Int)=(0:Int))) then
 K (.tup [.v tyA zA,.v yI (0:Int),.v yI (0:Int)]) []
 else
 bif decide (0≤(0:Int)∧(0:Int)<(List.length line0:Int)) then
 ∀ (r1:Bool),r1=q54_F (rd (0:Int) line0 (0:Int))→(
 wB r1→(
 bif r1 then
 q62_P line0∧(
 ∀ (r2:Int×Int×Bool),r2=q62_F line0→(
 wfR (.tup [.v yI r2.1,.v yI r2.2.1,.v .bool r2.2.2])→(
 bif (!r2.2.2) then
 K (.tup [.v tyA zA,.v yI (0:Int),.v yI (230:Int)]) []
 else
 K (.tup [.v tyA ((110:Int),r2.1,(0:Int),([]:LI),(0:Int),true),.v yI r2.2.1,.v yI (0:Int)]) [])))
 else
 bif (decide ((rd (0:Int) line0 (0:Int))=(46:Int))) then
 K (.tup [.v tyA ((rd (0:Int) line0 (0:Int)),(0:Int),(0:Int),([]:LI),(0:Int),true),.v yI (1:Int),.v yI (0:Int)]) []
 else
 bif (decide ((rd (0:Int) line0 (0:Int))=(36:Int))) then
 K (.tup [.v tyA ((rd (0:Int) line0 (0:Int)),(0:Int),(0:Int),([]:LI),(0:Int),true),.v yI (1:Int),.v yI (0:Int)]) []
 else
 bif (decide ((rd (0:Int) line0 (0:Int))=(39:Int))) then
 bif (decide ((List.length line0:Int)=(1:Int))) then
 K (.tup [.v tyA zA,.v yI (0:Int),.v yI (230:Int)]) []
 else
 bif decide (0≤(1:Int)∧(1:Int)<(List.length line0:Int)) then
 K (.tup [.v tyA ((rd (0:Int) line0 (0:Int)),(0:Int),(rd (0:Int) line0 (1:Int)),([]:LI),(0:Int),true),.v yI (2:Int),.v yI (0:Int)]) []
 else False
 else
 bif (decide ((rd (0:Int) line0 (0:Int))=(47:Int))) then
 bif decide (0≤(1:Int)∧(1:Int)≤(List.length line0:Int)) then
 q55_P (List.drop (Int.toNat (1:Int)) line0) (rd (0:Int) line0 (0:Int))∧(
 ∀ (r3:Int),r3=q55_F (List.drop (Int.toNat (1:Int)) line0) (rd (0:Int) line0 (0:Int))→(
 wI r3→(
 bif (decide (r3=(IntKind.wrap .i64 ((List.length line0:Int) - (1:Int))))) then
 bif decide (0≤(1:Int)∧(1:Int)≤(List.length line0:Int)) then
 q67_P (List.drop (Int.toNat (1:Int)) line0)∧(
 ∀ (r4:Bool),r4=q67_F (List.drop (Int.toNat (1:Int)) line0)→(
 wB r4→(
 bif r4 then
 K (.tup [.v tyA zA,.v yI (0:Int),.v yI (230:Int)]) []
 else
 bif decide (0≤(1:Int)∧(1:Int)≤(IntKind.wrap .i64 ((1:Int)+r3))∧(IntKind.wrap .i64 ((1:Int)+r3))≤(List.length line0:Int)) then
 q83_P (slc line0 (1:Int) (IntKind.wrap .i64 ((1:Int)+r3)))∧(
 ∀ (r5:LI),r5=q83_F (slc line0 (1:Int) (IntKind.wrap .i64 ((1:Int)+r3)))→(
 wfR (.one (.fr 5 yU r5))→(
 K (.tup [.v tyA ((rd (0:Int) line0 (0:Int)),(0:Int),(0:Int),r5,(0:Int),true),.v yI (mn (IntKind.wrap .i64 (r3+(2:Int))) (List.length line0:Int)),.v yI (0:Int)]) [])))
 else False)))
 else False
 else
 bif decide (0≤(1:Int)∧(1:Int)≤(IntKind.wrap .i64 ((1:Int)+r3))∧(IntKind.wrap .i64 ((1:Int)+r3))≤(List.length line0:Int)) then
 q83_P (slc line0 (1:Int) (IntKind.wrap .i64 ((1:Int)+r3)))∧(
 ∀ (r6:LI),r6=q83_F (slc line0 (1:Int) (IntKind.wrap .i64 ((1:Int)+r3)))→(
 wfR (.one (.fr 5 yU r6))→(
 K (.tup [.v tyA ((rd (0:Int) line0 (0:Int)),(0:Int),(0:Int),r6,(0:Int),true),.v yI (mn (IntKind.wrap .i64 (r3+(2:Int))) (List.length line0:Int)),.v yI (0:Int)]) [])))
 else False)))
 else False
 else
 bif (decide ((rd (0:Int) line0 (0:Int))=(63:Int))) then
 bif decide (0≤(1:Int)∧(1:Int)≤(List.length line0:Int)) then
 q55_P (List.drop (Int.toNat (1:Int)) line0) (rd (0:Int) line0 (0:Int))∧(
 ∀ (r7:Int),r7=q55_F (List.drop (Int.toNat (1:Int)) line0) (rd (0:Int) line0 (0:Int))→(
 wI r7→(
 bif (decide (r7=(IntKind.wrap .i64 ((List.length line0:Int) - (1:Int))))) then
 bif decide (0≤(1:Int)∧(1:Int)≤(List.length line0:Int)) then
 q67_P (List.drop (Int.toNat (1:Int)) line0)∧(
 ∀ (r8:Bool),r8=q67_F (List.drop (Int.toNat (1:Int)) line0)→(
 wB r8→(
 bif r8 then
 K (.tup [.v tyA zA,.v yI (0:Int),.v yI (230:Int)]) []
 else
 bif decide (0≤(1:Int)∧(1:Int)≤(IntKind.wrap .i64 ((1:Int)+r7))∧(IntKind.wrap .i64 ((1:Int)+r7))≤(List.length line0:Int)) then
 q83_P (slc line0 (1:Int) (IntKind.wrap .i64 ((1:Int)+r7)))∧(
 ∀ (r9:LI),r9=q83_F (slc line0 (1:Int) (IntKind.wrap .i64 ((1:Int)+r7)))→(
 wfR (.one (.fr 5 yU r9))→(
 K (.tup [.v tyA ((rd (0:Int) line0 (0:Int)),(0:Int),(0:Int),r9,(0:Int),true),.v yI (mn (IntKind.wrap .i64 (r7+(2:Int))) (List.length line0:Int)),.v yI (0:Int)]) [])))
 else False)))
 else False
 else
 bif decide (0≤(1:Int)∧(1:Int)≤(IntKind.wrap .i64 ((1:Int)+r7))∧(IntKind.wrap .i64 ((1:Int)+r7))≤(List.length line0:Int)) then
 q83_P (slc line0 (1:Int) (IntKind.wrap .i64 ((1:Int)+r7)))∧(
 ∀ (r10:LI),r10=q83_F (slc line0 (1:Int) (IntKind.wrap .i64 ((1:Int)+r7)))→(
 wfR (.one (.fr 5 yU r10))→(
 K (.tup [.v tyA ((rd (0:Int) line0 (0:Int)),(0:Int),(0:Int),r10,(0:Int),true),.v yI (mn (IntKind.wrap .i64 (r7+(2:Int))) (List.length line0:Int)),.v yI (0:Int)]) [])))
 else False)))
 else False
 else
 K (.tup [.v tyA zA,.v yI (0:Int),.v yI (0:Int)]) []))
 else False
def q73_A:List AS:=[.v yB]

def q73_P (line0:LI):Prop:=
 bif (decide ((List.length line0:Int)=(0:Int))) then
 True
 else
 (0≤(0:Int)∧(0:Int)<(List.length line0:Int))∧(
 let r1:Bool:=q54_F (rd (0:Int) line0 (0:Int))
 bif r1 then
 q62_P line0
 else
 bif (decide ((rd (0:Int) line0 (0:Int))=(46:Int))) then
 True
 else
 bif (decide ((rd (0:Int) line0 (0:Int))=(36:Int))) then
 True
 else
 bif (decide ((rd (0:Int) line0 (0:Int))=(39:Int))) then
 bif (decide ((List.length line0:Int)=(1:Int))) then
 True
 else
 (0≤(1:Int)∧(1:Int)<(List.length line0:Int))
 else
 bif (decide ((rd (0:Int) line0 (0:Int))=(47:Int))) then
 (0≤(1:Int)∧(1:Int)≤(List.length line0:Int))∧(
 q55_P (List.drop (Int.toNat (1:Int)) line0) (rd (0:Int) line0 (0:Int))∧(
 let r3:Int:=q55_F (List.drop (Int.toNat (1:Int)) line0) (rd (0:Int) line0 (0:Int))
 bif (decide (r3=(IntKind.wrap .i64 ((List.length line0:Int) - (1:Int))))) then
 (0≤(1:Int)∧(1:Int)≤(List.length line0:Int))∧(
 q67_P (List.drop (Int.toNat (1:Int)) line0)∧(
 let r4:Bool:=q67_F (List.drop (Int.toNat (1:Int)) line0)
 bif r4 then
 True
 else
 (0≤(1:Int)∧(1:Int)≤(IntKind.wrap .i64 ((1:Int)+r3))∧(IntKind.wrap .i64 ((1:Int)+r3))≤(List.length line0:Int))∧(
 q83_P (slc line0 (1:Int) (IntKind.wrap .i64 ((1:Int)+r3))))))
 else
 (0≤(1:Int)∧(1:Int)≤(IntKind.wrap .i64 ((1:Int)+r3))∧(IntKind.wrap .i64 ((1:Int)+r3))≤(List.length line0:Int))∧(
 q83_P (slc line0 (1:Int) (IntKind.wrap .i64 ((1:Int)+r3))))))
 else
 bif (decide ((rd (0:Int) line0 (0:Int))=(63:Int))) then
 (0≤(1:Int)∧(1:Int)≤(List.length line0:Int))∧(
 q55_P (List.drop (Int.toNat (1:Int)) line0) (rd (0:Int) line0 (0:Int))∧(
 let r7:Int:=q55_F (List.drop (Int.toNat (1:Int)) line0) (rd (0:Int) line0 (0:Int))
 bif (decide (r7=(IntKind.wrap .i64 ((List.length line0:Int) - (1:Int))))) then
 (0≤(1:Int)∧(1:Int)≤(List.length line0:Int))∧(
 q67_P (List.drop (Int.toNat (1:Int)) line0)∧(
 let r8:Bool:=q67_F (List.drop (Int.toNat (1:Int)) line0)
 bif r8 then
 True
 else
 (0≤(1:Int)∧(1:Int)≤(IntKind.wrap .i64 ((1:Int)+r7))∧(IntKind.wrap .i64 ((1:Int)+r7))≤(List.length line0:Int))∧(
 q83_P (slc line0 (1:Int) (IntKind.wrap .i64 ((1:Int)+r7))))))
 else
 (0≤(1:Int)∧(1:Int)≤(IntKind.wrap .i64 ((1:Int)+r7))∧(IntKind.wrap .i64 ((1:Int)+r7))≤(List.length line0:Int))∧(
 q83_P (slc line0 (1:Int) (IntKind.wrap .i64 ((1:Int)+r7))))))
 else
 True)
def q73_F (line0:LI):tAd×Int×Int:=
 bif (decide ((List.length line0:Int)=(0:Int))) then
 (zA,(0:Int),(0:Int))
 else
 let r1:Bool:=q54_F (rd (0:Int) line0 (0:Int))
 bif r1 then
 let r2:Int×Int×Bool:=q62_F line0
 bif (!r2.2.2) then
 (zA,(0:Int),(230:Int))
 else
 (((110:Int),r2.1,(0:Int),([]:LI),(0:Int),true),r2.2.1,(0:Int))
 else
 bif (decide ((rd (0:Int) line0 (0:Int))=(46:Int))) then
 (((rd (0:Int) line0 (0:Int)),(0:Int),(0:Int),([]:LI),(0:Int),true),(1:Int),(0:Int))
 else
 bif (decide ((rd (0:Int) line0 (0:Int))=(36:Int))) then
 (((rd (0:Int) line0 (0:Int)),(0:Int),(0:Int),([]:LI),(0:Int),true),(1:Int),(0:Int))
 else
 bif (decide ((rd (0:Int) line0 (0:Int))=(39:Int))) then
 bif (decide ((List.length line0:Int)=(1:Int))) then
 (zA,(0:Int),(230:Int))
 else
 (((rd (0:Int) line0 (0:Int)),(0:Int),(rd (0:Int) line0 (1:Int)),([]:LI),(0:Int),true),(2:Int),(0:Int))
 else
 bif (decide ((rd (0:Int) line0 (0:Int))=(47:Int))) then
 let r3:Int:=q55_F (List.drop (Int.toNat (1:Int)) line0) (rd (0:Int) line0 (0:Int))
 bif (decide (r3=(IntKind.wrap .i64 ((List.length line0:Int) - (1:Int))))) then
 let r4:Bool:=q67_F (List.drop (Int.toNat (1:Int)) line0)
 bif r4 then
 (zA,(0:Int),(230:Int))
 else
 let r5:LI:=q83_F (slc line0 (1:Int) (IntKind.wrap .i64 ((1:Int)+r3)))
 (((rd (0:Int) line0 (0:Int)),(0:Int),(0:Int),r5,(0:Int),true),(mn (IntKind.wrap .i64 (r3+(2:Int))) (List.length line0:Int)),(0:Int))
 else
 let r6:LI:=q83_F (slc line0 (1:Int) (IntKind.wrap .i64 ((1:Int)+r3)))
 (((rd (0:Int) line0 (0:Int)),(0:Int),(0:Int),r6,(0:Int),true),(mn (IntKind.wrap .i64 (r3+(2:Int))) (List.length line0:Int)),(0:Int))
 else
 bif (decide ((rd (0:Int) line0 (0:Int))=(63:Int))) then
 let r7:Int:=q55_F (List.drop (Int.toNat (1:Int)) line0) (rd (0:Int) line0 (0:Int))
 bif (decide (r7=(IntKind.wrap .i64 ((List.length line0:Int) - (1:Int))))) then
 let r8:Bool:=q67_F (List.drop (Int.toNat (1:Int)) line0)
 bif r8 then
 (zA,(0:Int),(230:Int))
 else
 let r9:LI:=q83_F (slc line0 (1:Int) (IntKind.wrap .i64 ((1:Int)+r7)))
 (((rd (0:Int) line0 (0:Int)),(0:Int),(0:Int),r9,(0:Int),true),(mn (IntKind.wrap .i64 (r7+(2:Int))) (List.length line0:Int)),(0:Int))
 else
 let r10:LI:=q83_F (slc line0 (1:Int) (IntKind.wrap .i64 ((1:Int)+r7)))
 (((rd (0:Int) line0 (0:Int)),(0:Int),(0:Int),r10,(0:Int),true),(mn (IntKind.wrap .i64 (r7+(2:Int))) (List.length line0:Int)),(0:Int))
 else
 (zA,(0:Int),(0:Int))
theorem q73_sp (line0:LI) (K:Res→List Cell→Prop) (_:wfA q73_A (line0,())) (hp:q73_P line0) (h:∀ r:tAd×Int×Int,r=q73_F line0→K (.tup [.v tyA r.1,.v yI r.2.1,.v yI r.2.2]) []):q73_raw line0 K:=
 br1 hp h (fun _ hp h=>h _ rfl)
 fun _ hp h=>as1 hp fun hp=>al (br1 hp h (fun _ hp h=>⟨hp,al (br0 h (fun _ h=>h _ rfl)
 fun _ h=>h _ rfl)⟩)
 fun _ hp h=>br1 hp h (fun _ hp h=>h _ rfl)
 fun _ hp h=>br1 hp h (fun _ hp h=>h _ rfl)
 fun _ hp h=>br1 hp h (fun _ hp h=>br1 hp h (fun _ hp h=>h _ rfl)
 fun _ hp h=>as0 hp (h _ rfl))
 fun _ hp h=>br1 hp h (fun _ hp h=>as1 hp fun hp=>an1 hp fun hp=>al (br1 hp h (fun _ hp h=>as1 hp fun hp=>an1 hp fun hp=>al (br1 hp h (fun _ hp h=>h _ rfl)
 fun _ hp h=>as1 hp fun hp=>⟨hp,al (h _ rfl)⟩))
 fun _ hp h=>as1 hp fun hp=>⟨hp,al (h _ rfl)⟩))
 fun _ hp h=>br1 hp h (fun _ hp h=>as1 hp fun hp=>an1 hp fun hp=>al (br1 hp h (fun _ hp h=>as1 hp fun hp=>an1 hp fun hp=>al (br1 hp h (fun _ hp h=>h _ rfl)
 fun _ hp h=>as1 hp fun hp=>⟨hp,al (h _ rfl)⟩))
 fun _ hp h=>as1 hp fun hp=>⟨hp,al (h _ rfl)⟩))
 fun _ hp h=>h _ rfl)
def q73_C (v:valsA q73_A) (K:Res→List Cell→Prop):Prop:=q73_P v.1∧∀ r:tAd×Int×Int,r=q73_F v.1→K (.tup [.v tyA r.1,.v yI r.2.1,.v yI r.2.2]) []
def q73_S:App:=specW q73_A q73_C
theorem q73_wv (K:Res→List Cell→Prop):∀ v:valsA q73_A,runF tb (getG q73_G) [] Tryz.f193 [true,true,true] (mkA q73_A v) K=q73_raw v.1 K
  | (line0,())=>by kernel_rfl
theorem q73_ok:AppOk Tryz.prog 193 q73_S:=
  AppOk.specW (spec_ok ((runF_ok tb_M tb_ok q73_Gok (LabsOk.nil) (f:=193) (fn:=Tryz.f193) (by kernel_rfl) (by kernel_rfl) (by kernel_rfl) [true,true,true])) fun v K hw h=>(q73_wv K v).mpr (q73_sp v.1 K hw h.1 h.2))

def q68_G:List (Nat×App):=[(193,q73_S),(194,q62_S)]
theorem q68_Gok:GOk Tryz.prog (getG q68_G):=GOk.cons q73_ok (GOk.cons q62_ok (GOk.nil))
theorem q68_st:storesC (bodyOf Tryz.f135)=true:=by kernel_rfl
def q68_d0:List LS:=[.v 0 yB,.b 2 16 [],.b 5 40 [],.v 6 yI,.v 8 yI,.v 9 yI,.c 16 tyA,.c 40 tyA]
def q68_d0n:List LS:=[.v 0 yB,.b 2 16 [],.b 5 40 [],.v 6 yI,.c 16 tyA,.c 40 tyA]
def q68_dx0:DX:=⟨some q68_d0n,none,[]⟩
def q68_y0n (k:Ex→St→Prop) (line0:LI) (at6:Int) (x2b:tAd) (a5b:tAd):Prop:=wfD q68_d0n (line0,at6,x2b,a5b,())→k .nrm (mkD 81 q68_d0n (line0,at6,x2b,a5b,()))
def q68_J0 (kn:LI→Int→tAd→tAd→Prop) (line0:LI) (at6:Int) (n8:Int) (k9:Int) (x2b:tAd) (a5b:tAd):Prop:=
 kn line0 (IntKind.wrap .i64 (at6+(IntKind.wrap .i64 ((1:Int)+k9)))) x2b (a5b.1,a5b.2.1,a5b.2.2.1,a5b.2.2.2.1,(IntKind.wrap .i64 (a5b.2.2.2.2.1+n8)),true)
def q68_g0 (k:Ex→St→Prop) (v:vals q68_d0):Prop:=q68_J0 (q68_y0n k) v.1 v.2.1 v.2.2.1 v.2.2.2.1 v.2.2.2.2.1 v.2.2.2.2.2.1
theorem q68_v0 (k:Ex→St→Prop):∀ v:vals q68_d0,ex tb (getG q68_G) [] (at' (bodyOf Tryz.f135) [1,1,1,1,0,1,0,0,0,1,1,1]) [1,1,1,1,0,1,0,0,0,1,1,1] (mkD 81 q68_d0 v) (wk 81 q68_dx0 k)=q68_g0 k v
  | (line0,at6,n8,k9,x2b,a5b,())=>by kernel_rfl
def q68_X0:Pce:=fun st k=>ckD 81 q68_d0 st fun v=>wfD q68_d0 v→q68_g0 k v
theorem q68_x0:SemOk Tryz.prog (at' (bodyOf Tryz.f135) [1,1,1,1,0,1,0,0,0,1,1,1]) q68_X0:=
  (SemOk.wk (N:=81) (ds:=q68_d0) (dx:=q68_dx0) (ex_sound tb_M tb_ok q68_Gok (LabsOk.nil) (at' (bodyOf Tryz.f135) [1,1,1,1,0,1,0,0,0,1,1,1]) [1,1,1,1,0,1,0,0,0,1,1,1] rfl (storesC_at q68_st [1,1,1,1,0,1,0,0,0,1,1,1]))).mono fun st k h=>ckD_mono h fun v hv hw=>Eq.mpr (q68_v0 k v) (hv hw)
def q68_B0:Labs:=([1,1,1,1,0,1,0,0,0,1,1,1],q68_X0)::[]
theorem q68_b0:LabsOk Tryz.prog (bodyOf Tryz.f135) q68_B0:=LabsOk.cons q68_x0 (LabsOk.nil)
def q68_d1:List LS:=[.v 0 yB,.b 2 16 [],.b 5 40 [],.v 6 yI,.v 8 yI,.v 9 yI,.c 16 tyA,.c 40 tyA]
def q68_d1n:List LS:=[.v 0 yB,.b 2 16 [],.b 5 40 [],.v 6 yI,.c 16 tyA,.c 40 tyA]
def q68_dx1:DX:=⟨some q68_d1n,none,[]⟩
def q68_y1n (k:Ex→St→Prop) (line0:LI) (at6:Int) (x2b:tAd) (a5b:tAd):Prop:=wfD q68_d1n (line0,at6,x2b,a5b,())→k .nrm (mkD 81 q68_d1n (line0,at6,x2b,a5b,()))
def q68_J1 (kn:LI→Int→tAd→tAd→Prop) (line0:LI) (at6:Int) (n8:Int) (k9:Int) (x2b:tAd) (a5b:tAd):Prop:=
 bif decide (0≤at6∧at6<(List.length line0:Int)) then
 bif (decide ((rd (0:Int) line0 at6)=(45:Int))) then
 (wfD q68_d0 (line0,at6,(IntKind.wrap .i64 (0 - n8)),k9,x2b,a5b,())→q68_J0 (fun (line0:LI) (at6:Int) (x2b:tAd) (a5b:tAd)=>wfD q68_d0n (line0,at6,x2b,a5b,())→(
 kn line0 at6 x2b a5b)) line0 at6 (IntKind.wrap .i64 (0 - n8)) k9 x2b a5b)
 else
 (wfD q68_d0 (line0,at6,n8,k9,x2b,a5b,())→q68_J0 (fun (line0:LI) (at6:Int) (x2b:tAd) (a5b:tAd)=>wfD q68_d0n (line0,at6,x2b,a5b,())→(
 kn line0 at6 x2b a5b)) line0 at6 n8 k9 x2b a5b)
 else False
def q68_g1 (k:Ex→St→Prop) (v:vals q68_d1):Prop:=q68_J1 (q68_y1n k) v.1 v.2.1 v.2.2.1 v.2.2.2.1 v.2.2.2.2.1 v.2.2.2.2.2.1
theorem q68_v1 (k:Ex→St→Prop):∀ v:vals q68_d1,ex tb (getG q68_G) q68_B0 (at' (bodyOf Tryz.f135) [1,1,1,0,1,0,0,0,1,1,1]) [1,1,1,0,1,0,0,0,1,1,1] (mkD 81 q68_d1 v) (wk 81 q68_dx1 k)=q68_g1 k v
  | (line0,at6,n8,k9,x2b,a5b,())=>by kernel_rfl
def q68_X1:Pce:=fun st k=>ckD 81 q68_d1 st fun v=>wfD q68_d1 v→q68_g1 k v
theorem q68_x1:SemOk Tryz.prog (at' (bodyOf Tryz.f135) [1,1,1,0,1,0,0,0,1,1,1]) q68_X1:=
  (SemOk.wk (N:=81) (ds:=q68_d1) (dx:=q68_dx1) (ex_sound tb_M tb_ok q68_Gok (q68_b0) (at' (bodyOf Tryz.f135) [1,1,1,0,1,0,0,0,1,1,1]) [1,1,1,0,1,0,0,0,1,1,1] rfl (storesC_at q68_st [1,1,1,0,1,0,0,0,1,1,1]))).mono fun st k h=>ckD_mono h fun v hv hw=>Eq.mpr (q68_v1 k v) (hv hw)
def q68_B1:Labs:=([1,1,1,0,1,0,0,0,1,1,1],q68_X1)::q68_B0
theorem q68_b1:LabsOk Tryz.prog (bodyOf Tryz.f135) q68_B1:=LabsOk.cons q68_x1 (q68_b0)
def q68_d2:List LS:=[.v 0 yB,.b 2 16 [],.b 5 40 [],.v 6 yI,.c 16 tyA,.c 40 tyA]
def q68_d2r:List LS:=[.b 2 16 [],.v 3 yI,.v 4 yI,.c 16 tyA]
def q68_d2x0:List LS:=[.b 2 16 [],.b 5 40 [],.v 6 yI,.c 16 tyA,.c 40 tyA]
def q68_dx2:DX:=⟨none,some q68_d2r,[(0,q68_d2x0)]⟩
def q68_y2r (k:Ex→St→Prop) (x3:Int) (x4:Int) (x2b:tAd):Prop:=wfD q68_d2r (x3,x4,x2b,())→k .ret (mkD 81 q68_d2r (x3,x4,x2b,()))
def q68_y2x0 (k:Ex→St→Prop) (at6:Int) (x2b:tAd) (a5b:tAd):Prop:=wfD q68_d2x0 (at6,x2b,a5b,())→k (.exit 0) (mkD 81 q68_d2x0 (at6,x2b,a5b,()))
def q68_T2 (Y:LI→Int→tAd→tAd→Prop) (kr:Int→Int→tAd→Prop) (kx0:Int→tAd→tAd→Prop) (line0:LI) (at6:Int) (x2b:tAd) (a5b:tAd):Prop:=
 bif (decide (at6<(List.length line0:Int))) then
 bif decide (0≤at6∧at6<(List.length line0:Int)) then
 bif (decide ((rd (0:Int) line0 at6)=(43:Int))) then
 bif decide (0≤(IntKind.wrap .i64 (at6+(1:Int)))∧(IntKind.wrap .i64 (at6+(1:Int)))≤(List.length line0:Int)) then
 q62_P (List.drop (Int.toNat (IntKind.wrap .i64 (at6+(1:Int)))) line0)∧(
 ∀ (r2:Int×Int×Bool),r2=q62_F (List.drop (Int.toNat (IntKind.wrap .i64 (at6+(1:Int)))) line0)→(
 wfR (.tup [.v yI r2.1,.v yI r2.2.1,.v .bool r2.2.2])→(
 bif (!r2.2.2) then
 kr (0:Int) (230:Int) zA
 else
 bif (decide (r2.2.1=(0:Int))) then
 (wfD q68_d1 (line0,at6,(1:Int),r2.2.1,x2b,a5b,())→q68_J1 (fun (line0:LI) (at6:Int) (x2b:tAd) (a5b:tAd)=>wfD q68_d1n (line0,at6,x2b,a5b,())→(
 Y line0 at6 x2b a5b)) line0 at6 (1:Int) r2.2.1 x2b a5b)
 else
 (wfD q68_d1 (line0,at6,r2.1,r2.2.1,x2b,a5b,())→q68_J1 (fun (line0:LI) (at6:Int) (x2b:tAd) (a5b:tAd)=>wfD q68_d1n (line0,at6,x2b,a5b,())→(
 Y line0 at6 x2b a5b)) line0 at6 r2.1 r2.2.1 x2b a5b))))
 else False
 else
 bif decide (0≤at6∧at6<(List.length line0:Int)) then
 bif (decide ((rd (0:Int) line0 at6)=(45:Int))) then
 bif decide (0≤(IntKind.wrap .i64 (at6+(1:Int)))∧(IntKind.wrap .i64 (at6+(1:Int)))≤(List.length line0:Int)) then
 q62_P (List.drop (Int.toNat (IntKind.wrap .i64 (at6+(1:Int)))) line0)∧(
 ∀ (r3:Int×Int×Bool),r3=q62_F (List.drop (Int.toNat (IntKind.wrap .i64 (at6+(1:Int)))) line0)→(
 wfR (.tup [.v yI r3.1,.v yI r3.2.1,.v .bool r3.2.2])→(
 bif (!r3.2.2) then
 kr (0:Int) (230:Int) zA
 else
 bif (decide (r3.2.1=(0:Int))) then
 (wfD q68_d1 (line0,at6,(1:Int),r3.2.1,x2b,a5b,())→q68_J1 (fun (line0:LI) (at6:Int) (x2b:tAd) (a5b:tAd)=>wfD q68_d1n (line0,at6,x2b,a5b,())→(
 Y line0 at6 x2b a5b)) line0 at6 (1:Int) r3.2.1 x2b a5b)
 else
 (wfD q68_d1 (line0,at6,r3.1,r3.2.1,x2b,a5b,())→q68_J1 (fun (line0:LI) (at6:Int) (x2b:tAd) (a5b:tAd)=>wfD q68_d1n (line0,at6,x2b,a5b,())→(
 Y line0 at6 x2b a5b)) line0 at6 r3.1 r3.2.1 x2b a5b))))
 else False
 else
 kx0 at6 x2b a5b
 else False
 else False
 else
 kx0 at6 x2b a5b
def q68_L2 (kr:Int→Int→tAd→Prop) (kx0:Int→tAd→tAd→Prop):Nat→LI→Int→tAd→tAd→Prop
  | 0,_,_,_,_=>False
  | n+1,line0,at6,x2b,a5b=>wfD q68_d2 (line0,at6,x2b,a5b,())→q68_T2 (q68_L2 kr kx0 n) kr kx0 line0 at6 x2b a5b
def q68_c2:Pce:=ex tb (getG q68_G) q68_B1 (at' (bodyOf Tryz.f135) [0,0,0,1,1,1]) [0,0,0,1,1,1]
def q68_g2 (k:Ex→St→Prop) (n:Nat) (v:vals q68_d2):Prop:=q68_L2 (q68_y2r k) (q68_y2x0 k) n v.1 v.2.1 v.2.2.1 v.2.2.2.1
theorem q68_s2 (k:Ex→St→Prop) (Y:vals q68_d2→Prop):∀ v:vals q68_d2,q68_c2 (mkD 81 q68_d2 v) (lpK 81 q68_d2 q68_dx2 k Y)=q68_T2 (fun line0 at6 x2b a5b=>Y (line0,at6,x2b,a5b,())) (q68_y2r k) (q68_y2x0 k) v.1 v.2.1 v.2.2.1 v.2.2.2.1
  | (line0,at6,x2b,a5b,())=>by kernel_rfl
theorem q68_v2 (k:Ex→St→Prop):∀ (n:Nat) (v:vals q68_d2),lpD 81 q68_d2 q68_dx2 q68_c2 k n v=q68_g2 k n v
  | 0,(line0,at6,x2b,a5b,())=>rfl
  | n+1,(line0,at6,x2b,a5b,())=>congrArg (fun Z:Prop=>wfD q68_d2 (line0,at6,x2b,a5b,())→Z) ((q68_s2 k _ (line0,at6,x2b,a5b,())).trans (congrArg (fun Y=>q68_T2 Y (q68_y2r k) (q68_y2x0 k) line0 at6 x2b a5b) (funext fun line0=>funext fun at6=>funext fun x2b=>funext fun a5b=>q68_v2 k n (line0,at6,x2b,a5b,()))))
def q68_X2:Pce:=fun st k=>ckD 81 q68_d2 st fun v=>wfD q68_d2 v→∃ n,q68_g2 k n v
theorem q68_x2:SemOk Tryz.prog (at' (bodyOf Tryz.f135) [0,0,1,1,1]) q68_X2:=
  (SemOk.loop (ex_sound tb_M tb_ok q68_Gok (q68_b1) (at' (bodyOf Tryz.f135) [0,0,0,1,1,1]) [0,0,0,1,1,1] rfl (storesC_at q68_st [0,0,0,1,1,1])) 81 q68_d2 q68_dx2).mono fun st k h=>ckD_mono h fun v hv hw=>(hv hw).elim fun n hn=>⟨n,Eq.mpr (q68_v2 k n v) hn⟩
def q68_B2:Labs:=([0,0,1,1,1],q68_X2)::q68_B1
theorem q68_b2:LabsOk Tryz.prog (bodyOf Tryz.f135) q68_B2:=LabsOk.cons q68_x2 (q68_b1)
def q68_raw (line0:LI) (K:Res→List Cell→Prop):Prop:=
 q73_P line0∧(
 ∀ (r1:tAd×Int×Int),r1=q73_F line0→(
 wfR (.tup [.v tyA r1.1,.v yI r1.2.1,.v yI r1.2.2])→(
 bif (!decide (r1.2.2=(0:Int))) then
 K (.tup [.v tyA zA,.v yI (0:Int),.v yI r1.2.2]) []
 else
 (wfD q68_d2 (line0,r1.2.1,zA,r1.1,())→∃ n,q68_L2 (fun (x3:Int) (x4:Int) (x2b:tAd)=>wfD q68_d2r (x3,x4,x2b,())→(
 K (.tup [.v tyA x2b,.v yI x3,.v yI x4]) [])) (fun (at6:Int) (x2b:tAd) (a5b:tAd)=>wfD q68_d2x0 (at6,x2b,a5b,())→(
 bif (decide (a5b.2.2.2.2.1<(-999999999:Int))) then
 K (.tup [.v tyA zA,.v yI (0:Int),.v yI (230:Int)]) []
 else
 bif (decide ((999999999:Int)<a5b.2.2.2.2.1)) then
 K (.tup [.v tyA zA,.v yI (0:Int),.v yI (230:Int)]) []
 else
 K (.tup [.v tyA a5b,.v yI at6,.v yI (0:Int)]) [])) n line0 r1.2.1 zA r1.1))))
def q68_A:List AS:=[.v yB]
theorem q62_eq (s:LI):q62_F s=if dgs s≤9 then (dv s,(dgs s:Int),true) else (0,0,false):=by
  unfold q62_F
  unfold q62_L0_F
  by_cases h:dgs s≤9 <;> simp [h]
def q68_L2_P (s:LI) (at':Int) (_ _:Adr):Prop:=0≤at'∧at'≤s.length∧s.length≤lim
def q68_L2_F (s:LI) (at':Int) (x y:Adr):(Int×Int×Adr)⊕(Int×Adr×Adr):=addsAt s at' x y
theorem q68_l2 (kr:Int→Int→Adr→Prop) (kx0:Int→Adr→Adr→Prop) (s:LI) (x:Adr) (hs:s.length≤lim) :
    ∀ (n i:Nat) (y:Adr),s.length<n+i→i≤s.length→(adds n (s.drop i) y.2.2.2.2.1 y.2.2.2.2.2=none→kr 0 230 adr0)→
      (∀ m a g,adds n (s.drop i) y.2.2.2.2.1 y.2.2.2.2.2=some (m,a,g)→kx0 ((i+m:Nat):Int) x (adrA y a g))→q68_L2 kr kx0 n s (i:Int) x y
  | 0,i,y,hn,hi,hr,hx=>absurd hn (by omega)
  | n+1,i,y,hn,hi,hr,hx=>by
    intro _
    unfold q68_T2
    have hlim:lim=1099511627776:=rfl
    refine brn (fun hlt=>asrt (by omega) ?_) (fun hge=>by
      rw [List.drop_eq_nil_of_le (by omega)] at hx
      exact hx 0 _ _ rfl)
    have hi':i<s.length:=by omega
    have hw1:IntKind.wrap .i64 ((i:Int)+1)=((i+1:Nat):Int):=by rw [wrap_i64 (by omega) (by omega)]; omega
    rw [rd_drop hi',hw1,Int.toNat_natCast]
    rw [dropc hi'] at hr hx
    unfold adds at hr hx
    have hdl:dgs (s.drop (i+1))+(i+1)≤s.length:=by have:=dgs_le (s.drop (i+1)); rw [List.length_drop] at this; omega
    -- what is added,whichever the sign
    have step:∀ (v:Int),(s[i]=43∨s[i]=45)→dgs (s.drop (i+1))≤9→(if s[i]=45 then -(if dgs (s.drop (i+1))=0 then 1 else dv (s.drop (i+1))) else (if dgs (s.drop (i+1))=0 then 1 else dv (s.drop (i+1))))=(if s[i]=45 then -v else v)→0≤v→v≤1000000000→
        (wfD q68_d1 (s,(i:Int),v,((dgs (s.drop (i+1)):Nat):Int),x,y,())→q68_J1 (fun line0 at6 x2b a5b=>wfD q68_d1n (line0,at6,x2b,a5b,())→q68_L2 kr kx0 n line0 at6 x2b a5b) s (i:Int) v ((dgs (s.drop (i+1)):Nat):Int) x y):=by
      intro v hs9 h9 hv hv0 hv1 _
      unfold q68_J1
      rw [rd_drop hi']
      have hw2:∀ v:Int,(wfD q68_d0 (s,(i:Int),v,((dgs (s.drop (i+1)):Nat):Int),x,y,())→(if s[i]=45 then -(if dgs (s.drop (i+1))=0 then 1 else dv (s.drop (i+1))) else (if dgs (s.drop (i+1))=0 then 1 else dv (s.drop (i+1))))=v→
          q68_J0 (fun line0 at6 x2b a5b=>wfD q68_d0n (line0,at6,x2b,a5b,())→wfD q68_d1n (line0,at6,x2b,a5b,())→q68_L2 kr kx0 n line0 at6 x2b a5b) s (i:Int) v ((dgs (s.drop (i+1)):Nat):Int) x y):=by
        intro v _ hv
        unfold q68_J0
        rw [wrap_i64 (n:=(1:Int)+_) (by omega) (by omega),wrap_i64 (n:=(i:Int)+_) (by omega) (by omega),show (i:Int)+(1+((dgs (s.drop (i+1)):Nat):Int))=((i+1+dgs (s.drop (i+1)):Nat):Int) by omega]
        intro _ _
        rw [if_pos hs9,if_pos h9] at hr hx
        rw [hv,List.drop_drop] at hr hx
        refine q68_l2 kr kx0 s x hs n (i+1+dgs (s.drop (i+1))) _ (by omega) (by omega) (fun h=>hr ?_) (fun m a g h=>?_)
        · dsimp only at h ⊢
          rw [h]
        · have:=hx (1+dgs (s.drop (i+1))+m) a g (by dsimp only at h ⊢; rw [h])
          rw [show i+1+dgs (s.drop (i+1))+m=i+(1+dgs (s.drop (i+1))+m) by omega]
          exact this
      refine asrt (by omega) (brn (fun h45=>?_) (fun h45=>?_))
      · rw [if_pos h45,if_pos h45] at hv
        rw [wrap_i64 (n:=0 - v) (by omega) (by omega),Int.zero_sub]
        rw [if_pos h45] at hw2
        exact fun hwf=>hw2 (-v) hwf hv
      · rw [if_neg h45,if_neg h45] at hv
        rw [if_neg h45] at hw2
        exact fun hwf=>hw2 v hwf hv
    have sign:(s[i]=43∨s[i]=45)→(bif decide (0≤((i+1:Nat):Int)∧((i+1:Nat):Int)≤(List.length s:Int)) then
        q62_P (s.drop (i+1))∧(∀ (r2:Int×Int×Bool),r2=q62_F (s.drop (i+1))→(
          wfR (.tup [.v yI r2.1,.v yI r2.2.1,.v .bool r2.2.2])→(
          bif (!r2.2.2) then kr (0:Int) (230:Int) adr0
          else bif (decide (r2.2.1=(0:Int))) then
            (wfD q68_d1 (s,(i:Int),(1:Int),r2.2.1,x,y,())→q68_J1 (fun line0 at6 x2b a5b=>wfD q68_d1n (line0,at6,x2b,a5b,())→q68_L2 kr kx0 n line0 at6 x2b a5b) s (i:Int) (1:Int) r2.2.1 x y)
          else (wfD q68_d1 (s,(i:Int),r2.1,r2.2.1,x,y,())→q68_J1 (fun line0 at6 x2b a5b=>wfD q68_d1n (line0,at6,x2b,a5b,())→q68_L2 kr kx0 n line0 at6 x2b a5b) s (i:Int) r2.1 r2.2.1 x y))))
        else False):=by
      intro hsg
      refine asrt (by omega) ⟨⟨rfl,rfl,by rw [List.length_drop]; omega⟩,fun r hr2 _=>?_⟩
      rw [q62_eq] at hr2
      by_cases h9:dgs (s.drop (i+1))≤9
      · have e:r.2.2=true∧r.2.1=((dgs (s.drop (i+1)):Nat):Int)∧r.1=dv (s.drop (i+1)):=by subst hr2; rw [if_pos h9]; exact ⟨rfl,rfl,rfl⟩
        rw [e.1,e.2.1,e.2.2]
        have hv:=dval_take (s.drop (i+1)) (min (dgs (s.drop (i+1))) 9) (by omega)
        have hp9:=pow9 (i:=min (dgs (s.drop (i+1))) 9) (by omega)
        refine brn (fun h0=>?_) (fun h0=>?_)
        · exact step 1 hsg h9 (by rw [if_pos (show dgs (s.drop (i+1))=0 by omega)]) (by omega) (by omega)
        · exact step (dv (s.drop (i+1))) hsg h9 (by rw [if_neg (show ¬ dgs (s.drop (i+1))=0 by omega)]) hv.1 (by have:=hv.2; unfold dv; omega)
      · have e:r.2.2=false:=by subst hr2; rw [if_neg h9]
        rw [e]
        exact hr (by rw [if_pos hsg,if_neg h9])
    refine brn (fun h43=>sign (.inl h43)) (fun h43=>asrt (by omega) (brn (fun h45=>sign (.inr h45)) (fun h45=>?_)))
    rw [if_neg (fun h=>h.elim h43 h45)] at hx
    have:=hx 0 _ _ rfl
    exact this
theorem q68_L2_sp (kr:Int→Int→Adr→Prop) (kx0:Int→Adr→Adr→Prop) (s:LI) (i:Int) (x y:Adr) (hp:q68_L2_P s i x y)
    (hr:∀ q:Int×Int×Adr,q68_L2_F s i x y=.inl q→kr q.1 q.2.1 q.2.2) (hx:∀ q:Int×Adr×Adr,q68_L2_F s i x y=.inr q→kx0 q.1 q.2.1 q.2.2):∃ m,q68_L2 kr kx0 m s i x y:=by
  obtain ⟨h0,h1,hs⟩:=hp
  obtain ⟨j,rfl⟩:=Int.eq_ofNat_of_zero_le h0
  have h1:j≤s.length:=Int.ofNat_le.1 h1
  refine ⟨s.length+1,q68_l2 kr kx0 s x hs _ j y (by omega) h1 (fun h=>?_) (fun m a g h=>?_)⟩
  · refine hr (0,230,adr0) ?_
    unfold q68_L2_F addsAt
    rw [Int.toNat_natCast,h]
  · have:=hx (((j+m:Nat):Int),x,adrA y a g) (by
      unfold q68_L2_F addsAt
      rw [Int.toNat_natCast,h]
      rfl)
    exact this

def q68_J0_F (line0:LI) (at6:Int) (n8:Int) (k9:Int) (x2b:tAd) (a5b:tAd):LI×Int×tAd×tAd:=
 (line0,(IntKind.wrap .i64 (at6+(IntKind.wrap .i64 ((1:Int)+k9)))),x2b,(a5b.1,a5b.2.1,a5b.2.2.1,a5b.2.2.2.1,(IntKind.wrap .i64 (a5b.2.2.2.2.1+n8)),true))
theorem q68_J0_sp (kn:LI→Int→tAd→tAd→Prop) (line0:LI) (at6:Int) (n8:Int) (k9:Int) (x2b:tAd) (a5b:tAd) (hn:∀ q:LI×Int×tAd×tAd,q=q68_J0_F line0 at6 n8 k9 x2b a5b→kn q.1 q.2.1 q.2.2.1 q.2.2.2):q68_J0 kn line0 at6 n8 k9 x2b a5b:=
 have h:=hn; h _ rfl
def q68_J1_P (line0:LI) (at6:Int) (n8:Int) (k9:Int) (x2b:tAd) (a5b:tAd):Prop:=
 (0≤at6∧at6<(List.length line0:Int))
def q68_J1_F (line0:LI) (at6:Int) (n8:Int) (k9:Int) (x2b:tAd) (a5b:tAd):LI×Int×tAd×tAd:=
 bif (decide ((rd (0:Int) line0 at6)=(45:Int))) then
 let q0n:LI×Int×tAd×tAd:=q68_J0_F line0 at6 (IntKind.wrap .i64 (0 - n8)) k9 x2b a5b
 let line0:LI:=q0n.1
 let at6:Int:=q0n.2.1
 let x2b:tAd:=q0n.2.2.1
 let a5b:tAd:=q0n.2.2.2
 (line0,at6,x2b,a5b)
 else
 let q0n:LI×Int×tAd×tAd:=q68_J0_F line0 at6 n8 k9 x2b a5b
 let line0:LI:=q0n.1
 let at6:Int:=q0n.2.1
 let x2b:tAd:=q0n.2.2.1
 let a5b:tAd:=q0n.2.2.2
 (line0,at6,x2b,a5b)
theorem q68_J1_sp (kn:LI→Int→tAd→tAd→Prop) (line0:LI) (at6:Int) (n8:Int) (k9:Int) (x2b:tAd) (a5b:tAd) (hp:q68_J1_P line0 at6 n8 k9 x2b a5b) (hn:∀ q:LI×Int×tAd×tAd,q=q68_J1_F line0 at6 n8 k9 x2b a5b→kn q.1 q.2.1 q.2.2.1 q.2.2.2):q68_J1 kn line0 at6 n8 k9 x2b a5b:=
 have h:=hn; as0 hp (br0 h (fun _ h=>fun _=>q68_J0_sp _ _ _ _ _ _ _ (al (h _ rfl)))
 fun _ h=>fun _=>q68_J0_sp _ _ _ _ _ _ _ (al (h _ rfl)))
def q68_P (line0:LI):Prop:=
 q73_P line0∧(
 let r1:tAd×Int×Int:=q73_F line0
 bif (!decide (r1.2.2=(0:Int))) then
 True
 else
 q68_L2_P line0 r1.2.1 zA r1.1)
def q68_F (line0:LI):tAd×Int×Int:=
 let r1:tAd×Int×Int:=q73_F line0
 bif (!decide (r1.2.2=(0:Int))) then
 (zA,(0:Int),r1.2.2)
 else
 Sum.elim (fun q2r=>
 let x3:Int:=q2r.1
 let x4:Int:=q2r.2.1
 let x2b:tAd:=q2r.2.2
 (x2b,x3,x4)) (fun q2x0=>
 let at6:Int:=q2x0.1
 let x2b:tAd:=q2x0.2.1
 let a5b:tAd:=q2x0.2.2
 bif (decide (a5b.2.2.2.2.1<(-999999999:Int))) then
 (zA,(0:Int),(230:Int))
 else
 bif (decide ((999999999:Int)<a5b.2.2.2.2.1)) then
 (zA,(0:Int),(230:Int))
 else
 (a5b,at6,(0:Int))) (q68_L2_F line0 r1.2.1 zA r1.1)
theorem q68_sp (line0:LI) (K:Res→List Cell→Prop) (_:wfA q68_A (line0,())) (hp:q68_P line0) (h:∀ r:tAd×Int×Int,r=q68_F line0→K (.tup [.v tyA r.1,.v yI r.2.1,.v yI r.2.2]) []):q68_raw line0 K:=
 an1 hp fun hp=>al (br1 hp h (fun _ hp h=>h _ rfl)
 fun _ hp h=>fun _=>q68_L2_sp _ _ _ _ _ _ hp
 (fun _ e _=>have h:=sl e h; h _ rfl)
 (fun _ e _=>have h:=sr e h; br0 h (fun _ h=>h _ rfl)
 fun _ h=>br0 h (fun _ h=>h _ rfl)
 fun _ h=>h _ rfl))
def q68_C (v:valsA q68_A) (K:Res→List Cell→Prop):Prop:=q68_P v.1∧∀ r:tAd×Int×Int,r=q68_F v.1→K (.tup [.v tyA r.1,.v yI r.2.1,.v yI r.2.2]) []
def q68_S:App:=specW q68_A q68_C
theorem q68_wv (K:Res→List Cell→Prop):∀ v:valsA q68_A,runF tb (getG q68_G) q68_B2 Tryz.f135 [true,true,true] (mkA q68_A v) K=q68_raw v.1 K
  | (line0,())=>by kernel_rfl
theorem q68_ok:AppOk Tryz.prog 135 q68_S:=
  AppOk.specW (spec_ok ((runF_ok tb_M tb_ok q68_Gok (q68_b2) (f:=135) (fn:=Tryz.f135) (by kernel_rfl) (by kernel_rfl) q68_st [true,true,true])) fun v K hw h=>(q68_wv K v).mpr (q68_sp v.1 K hw h.1 h.2))

def q34_G:List (Nat×App):=[]
theorem q34_Gok:GOk Tryz.prog (getG q34_G):=GOk.nil
theorem q34_st:storesC (bodyOf Tryz.f76)=true:=by kernel_rfl
def q34_d0:List LS:=[.v 0 yB,.v 5 yI,.v 6 yI]
def q34_d0x0:List LS:=[.v 5 yI,.v 6 yI]
def q34_dx0:DX:=⟨none,none,[(0,q34_d0x0)]⟩
def q34_y0x0 (k:Ex→St→Prop) (v5:Int) (n6:Int):Prop:=wfD q34_d0x0 (v5,n6,())→k (.exit 0) (mkD 42 q34_d0x0 (v5,n6,()))
def q34_T0 (Y:LI→Int→Int→Prop) (kx0:Int→Int→Prop) (p0:LI) (v5:Int) (n6:Int):Prop:=
 bif (decide (n6<(List.length p0:Int))) then
 bif decide (0≤n6∧n6<(List.length p0:Int)) then
 bif (decide ((48:Int)≤(rd (0:Int) p0 n6))) then
 bif decide (0≤n6∧n6<(List.length p0:Int)) then
 bif (decide ((rd (0:Int) p0 n6)≤(57:Int))) then
 bif (decide (n6<(9:Int))) then
 bif decide (0≤n6∧n6<(List.length p0:Int)) then
 Y p0 (IntKind.wrap .i64 ((IntKind.wrap .i64 (v5 * (10:Int)))+(IntKind.wrap .i64 (IntKind.wrap .u8 ((rd (0:Int) p0 n6) - (48:Int)))))) (IntKind.wrap .i64 (n6+(1:Int)))
 else False
 else
 Y p0 v5 (IntKind.wrap .i64 (n6+(1:Int)))
 else
 kx0 v5 n6
 else False
 else
 kx0 v5 n6
 else False
 else
 kx0 v5 n6
def q34_L0 (kx0:Int→Int→Prop):Nat→LI→Int→Int→Prop
  | 0,_,_,_=>False
  | n+1,p0,v5,n6=>wfD q34_d0 (p0,v5,n6,())→q34_T0 (q34_L0 kx0 n) kx0 p0 v5 n6
def q34_c0:Pce:=ex tb (getG q34_G) [] (at' (bodyOf Tryz.f76) [0,0,0,1,1]) [0,0,0,1,1]
def q34_g0 (k:Ex→St→Prop) (n:Nat) (v:vals q34_d0):Prop:=q34_L0 (q34_y0x0 k) n v.1 v.2.1 v.2.2.1
theorem q34_s0 (k:Ex→St→Prop) (Y:vals q34_d0→Prop):∀ v:vals q34_d0,q34_c0 (mkD 42 q34_d0 v) (lpK 42 q34_d0 q34_dx0 k Y)=q34_T0 (fun p0 v5 n6=>Y (p0,v5,n6,())) (q34_y0x0 k) v.1 v.2.1 v.2.2.1
  | (p0,v5,n6,())=>by kernel_rfl
theorem q34_v0 (k:Ex→St→Prop):∀ (n:Nat) (v:vals q34_d0),lpD 42 q34_d0 q34_dx0 q34_c0 k n v=q34_g0 k n v
  | 0,(p0,v5,n6,())=>rfl
  | n+1,(p0,v5,n6,())=>congrArg (fun Z:Prop=>wfD q34_d0 (p0,v5,n6,())→Z) ((q34_s0 k _ (p0,v5,n6,())).trans (congrArg (fun Y=>q34_T0 Y (q34_y0x0 k) p0 v5 n6) (funext fun p0=>funext fun v5=>funext fun n6=>q34_v0 k n (p0,v5,n6,()))))
def q34_X0:Pce:=fun st k=>ckD 42 q34_d0 st fun v=>wfD q34_d0 v→∃ n,q34_g0 k n v
theorem q34_x0:SemOk Tryz.prog (at' (bodyOf Tryz.f76) [0,0,1,1]) q34_X0:=
  (SemOk.loop (ex_sound tb_M tb_ok q34_Gok (LabsOk.nil) (at' (bodyOf Tryz.f76) [0,0,0,1,1]) [0,0,0,1,1] rfl (storesC_at q34_st [0,0,0,1,1])) 42 q34_d0 q34_dx0).mono fun st k h=>ckD_mono h fun v hv hw=>(hv hw).elim fun n hn=>⟨n,Eq.mpr (q34_v0 k n v) hn⟩
def q34_B0:Labs:=([0,0,1,1],q34_X0)::[]
theorem q34_b0:LabsOk Tryz.prog (bodyOf Tryz.f76) q34_B0:=LabsOk.cons q34_x0 (LabsOk.nil)
def q34_raw (p0:LI) (K:Res→List Cell→Prop):Prop:=
 (wfD q34_d0 (p0,(0:Int),(0:Int),())→∃ n,q34_L0 (fun (v5:Int) (n6:Int)=>wfD q34_d0x0 (v5,n6,())→(
 K (.tup [.v yI v5,.v yI n6,.v .bool (decide (n6≤(9:Int)))]) [])) n p0 (0:Int) (0:Int))
def q34_A:List AS:=[.v yB]
def q34_L0_P (s:LI) (n i:Int):Prop:=n=0∧i=0∧s.length≤lim
def q34_L0_F (s:LI) (_ _:Int):Int×Int:=(dv s,(dgs s:Int))
theorem q34_l0 (kx0:Int→Int→Prop) (s:LI) (hs:s.length≤lim) (hx:kx0 (dv s) (dgs s)) :
    ∀ (n i:Nat),s.length<n+i→i≤dgs s→q34_L0 kx0 n s (dval 0 (s.take (min i 9))) (i:Int)
  | 0,i,hn,hi=>absurd hn (by have:=dgs_le s; omega)
  | n+1,i,hn,hi=>by
    intro _
    unfold q34_T0
    have hlim:lim=1099511627776:=rfl
    have hd:=dgs_drop s i hi
    have hl:=dgs_le s
    have fin:dgs s=i→kx0 (dval 0 (s.take (min i 9))) (i:Int):=fun e=>by
      unfold dv at hx
      rw [e] at hx
      exact hx
    refine brn (fun hlt=>asrt (by omega) ?_) (fun hge=>fin (by omega))
    have hi':i<s.length:=by omega
    rw [rd_drop hi']
    rw [dropc hi',dgs_cons] at hd
    have no:¬ (48≤s[i]∧s[i]≤57)→kx0 (dval 0 (s.take (min i 9))) (i:Int):=fun h=>by
      rw [if_neg (by simp [isDg,h])] at hd
      exact fin (by omega)
    refine brn (fun b1=>asrt (by omega) (brn (fun b2=>?_) (fun b2=>no (by omega)))) (fun b1=>no (by omega))
    rw [if_pos (by simp [isDg,b1,b2])] at hd
    refine brn (fun e9=>asrt (by omega) ?_) (fun e9=>?_)
    · obtain ⟨v1,v2⟩:=dval_take s i hi
      have v3:=pow9 (i:=i) (by omega)
      have e10:=q34_l0 kx0 s hs hx n (i+1) (by omega) (by omega)
      rw [show min (i+1) 9=i+1 by omega,List.take_succ_eq_append_getElem hi',dval_snoc] at e10
      rw [show min i 9=i by omega,wrap_u8 (by omega) (by omega),wrap_i64 (n:=s[i] - 48) (by omega) (by omega),wrap_i64 (n:=dval 0 (s.take i) * 10) (by omega) (by omega),wrap_i64 (n:=dval 0 (s.take i) * 10+(s[i] - 48)) (by omega) (by omega),wrap_i64 (by omega) (by omega),show (i:Int)+1=((i+1:Nat):Int) by omega]
      exact e10
    · have e10:=q34_l0 kx0 s hs hx n (i+1) (by omega) (by omega)
      rw [show min (i+1) 9=min i 9 by omega] at e10
      rw [wrap_i64 (by omega) (by omega),show (i:Int)+1=((i+1:Nat):Int) by omega]
      exact e10
theorem q34_L0_sp (kx0:Int→Int→Prop) (s:LI) (n i:Int) (hp:q34_L0_P s n i) (hx:∀ q:Int×Int,q=q34_L0_F s n i→kx0 q.1 q.2):∃ m,q34_L0 kx0 m s n i:=by
  obtain ⟨rfl,rfl,hs⟩:=hp
  exact ⟨s.length+1,q34_l0 kx0 s hs (hx _ rfl) _ 0 (by omega) (by omega)⟩

def q34_P (p0:LI):Prop:=
 q34_L0_P p0 (0:Int) (0:Int)
def q34_F (p0:LI):Int×Int×Bool:=
 let q0x0:Int×Int:=q34_L0_F p0 (0:Int) (0:Int)
 let v5:Int:=q0x0.1
 let n6:Int:=q0x0.2
 (v5,n6,(decide (n6≤(9:Int))))
theorem q34_sp (p0:LI) (K:Res→List Cell→Prop) (_:wfA q34_A (p0,())) (hp:q34_P p0) (h:∀ r:Int×Int×Bool,r=q34_F p0→K (.tup [.v yI r.1,.v yI r.2.1,.v .bool r.2.2]) []):q34_raw p0 K:=
 fun _=>q34_L0_sp _ _ _ _ hp (al (h _ rfl))
def q34_C (v:valsA q34_A) (K:Res→List Cell→Prop):Prop:=q34_P v.1∧∀ r:Int×Int×Bool,r=q34_F v.1→K (.tup [.v yI r.1,.v yI r.2.1,.v .bool r.2.2]) []
def q34_S:App:=specW q34_A q34_C
theorem q34_wv (K:Res→List Cell→Prop):∀ v:valsA q34_A,runF tb (getG q34_G) q34_B0 Tryz.f76 [true,true,true] (mkA q34_A v) K=q34_raw v.1 K
  | (p0,())=>by kernel_rfl
theorem q34_ok:AppOk Tryz.prog 76 q34_S:=
  AppOk.specW (spec_ok ((runF_ok tb_M tb_ok q34_Gok (q34_b0) (f:=76) (fn:=Tryz.f76) (by kernel_rfl) (by kernel_rfl) q34_st [true,true,true])) fun v K hw h=>(q34_wv K v).mpr (q34_sp v.1 K hw h.1 h.2))

def q35_G:List (Nat×App):=[]
theorem q35_Gok:GOk Tryz.prog (getG q35_G):=GOk.nil
theorem q35_st:storesC (bodyOf Tryz.f77)=true:=by kernel_rfl
def q35_d0:List LS:=[.v 0 yB,.v 1 yU,.v 6 yI]
def q35_d0x0:List LS:=[.v 0 yB,.v 6 yI]
def q35_dx0:DX:=⟨none,none,[(0,q35_d0x0)]⟩
def q35_y0x0 (k:Ex→St→Prop) (p0:LI) (n6:Int):Prop:=wfD q35_d0x0 (p0,n6,())→k (.exit 0) (mkD 50 q35_d0x0 (p0,n6,()))
def q35_T0 (Y:LI→Int→Int→Prop) (kx0:LI→Int→Prop) (p0:LI) (sign1:Int) (n6:Int):Prop:=
 bif (decide (n6<(List.length p0:Int))) then
 bif decide (0≤n6∧n6<(List.length p0:Int)) then
 bif (!decide ((rd (0:Int) p0 n6)=sign1)) then
 bif decide (0≤n6∧n6<(List.length p0:Int)) then
 bif (decide ((rd (0:Int) p0 n6)=(92:Int))) then
 bif (decide ((IntKind.wrap .i64 (n6+(1:Int)))<(List.length p0:Int))) then
 Y p0 sign1 (IntKind.wrap .i64 ((IntKind.wrap .i64 (n6+(1:Int)))+(1:Int)))
 else
 Y p0 sign1 (IntKind.wrap .i64 (n6+(1:Int)))
 else
 Y p0 sign1 (IntKind.wrap .i64 (n6+(1:Int)))
 else False
 else
 kx0 p0 n6
 else False
 else
 kx0 p0 n6
def q35_L0 (kx0:LI→Int→Prop):Nat→LI→Int→Int→Prop
  | 0,_,_,_=>False
  | n+1,p0,sign1,n6=>wfD q35_d0 (p0,sign1,n6,())→q35_T0 (q35_L0 kx0 n) kx0 p0 sign1 n6
def q35_c0:Pce:=ex tb (getG q35_G) [] (at' (bodyOf Tryz.f77) [0,0,0,1,1]) [0,0,0,1,1]
def q35_g0 (k:Ex→St→Prop) (n:Nat) (v:vals q35_d0):Prop:=q35_L0 (q35_y0x0 k) n v.1 v.2.1 v.2.2.1
theorem q35_s0 (k:Ex→St→Prop) (Y:vals q35_d0→Prop):∀ v:vals q35_d0,q35_c0 (mkD 50 q35_d0 v) (lpK 50 q35_d0 q35_dx0 k Y)=q35_T0 (fun p0 sign1 n6=>Y (p0,sign1,n6,())) (q35_y0x0 k) v.1 v.2.1 v.2.2.1
  | (p0,sign1,n6,())=>by kernel_rfl
theorem q35_v0 (k:Ex→St→Prop):∀ (n:Nat) (v:vals q35_d0),lpD 50 q35_d0 q35_dx0 q35_c0 k n v=q35_g0 k n v
  | 0,(p0,sign1,n6,())=>rfl
  | n+1,(p0,sign1,n6,())=>congrArg (fun Z:Prop=>wfD q35_d0 (p0,sign1,n6,())→Z) ((q35_s0 k _ (p0,sign1,n6,())).trans (congrArg (fun Y=>q35_T0 Y (q35_y0x0 k) p0 sign1 n6) (funext fun p0=>funext fun sign1=>funext fun n6=>q35_v0 k n (p0,sign1,n6,()))))
def q35_X0:Pce:=fun st k=>ckD 50 q35_d0 st fun v=>wfD q35_d0 v→∃ n,q35_g0 k n v
theorem q35_x0:SemOk Tryz.prog (at' (bodyOf Tryz.f77) [0,0,1,1]) q35_X0:=
  (SemOk.loop (ex_sound tb_M tb_ok q35_Gok (LabsOk.nil) (at' (bodyOf Tryz.f77) [0,0,0,1,1]) [0,0,0,1,1] rfl (storesC_at q35_st [0,0,0,1,1])) 50 q35_d0 q35_dx0).mono fun st k h=>ckD_mono h fun v hv hw=>(hv hw).elim fun n hn=>⟨n,Eq.mpr (q35_v0 k n v) hn⟩
def q35_B0:Labs:=([0,0,1,1],q35_X0)::[]
theorem q35_b0:LabsOk Tryz.prog (bodyOf Tryz.f77) q35_B0:=LabsOk.cons q35_x0 (LabsOk.nil)
def q35_raw (p0:LI) (sign1:Int) (K:Res→List Cell→Prop):Prop:=
 (wfD q35_d0 (p0,sign1,(0:Int),())→∃ n,q35_L0 (fun (p0:LI) (n6:Int)=>wfD q35_d0x0 (p0,n6,())→(
 bif decide (0≤n6∧n6≤(List.length p0:Int)) then
 bif decide (List.length ([]:LI)+List.length (List.take (Int.toNat n6) p0)≤lim) then
 bif (decide (n6<(List.length p0:Int))) then
 K (.tup [.fr 5 yU (([]:LI)++(List.take (Int.toNat n6) p0)),.v yI (IntKind.wrap .i64 (n6+(1:Int)))]) []
 else
 K (.tup [.fr 5 yU (([]:LI)++(List.take (Int.toNat n6) p0)),.v yI n6]) []
 else False
 else False)) n p0 sign1 (0:Int))
def q35_A:List AS:=[.v yB,.v yU]
def q35_L0_P (s:LI) (_ i:Int):Prop:=i=0∧s.length≤lim
def q35_L0_F (s:LI) (c _:Int):LI×Int:=(s,(sou s c:Int))
theorem q35_l0 (kx0:LI→Int→Prop) (s:LI) (c:Int) (hs:s.length≤lim) :
    ∀ (n i:Nat),s.length<n+i→i≤s.length→kx0 s ((i+sou (s.drop i) c:Nat):Int)→q35_L0 kx0 n s c (i:Int)
  | 0,i,hn,hi,hx=>absurd hn (by omega)
  | n+1,i,hn,hi,hx=>by
    intro _
    unfold q35_T0
    have hlim:lim=1099511627776:=rfl
    refine brn (fun hlt=>asrt (by omega) ?_) (fun hge=>by rw [List.drop_eq_nil_of_le (by omega)] at hx; exact hx)
    have hi':i<s.length:=by omega
    rw [rd_drop hi',wrap_i64 (n:=(i:Int)+1) (by omega) (by omega),wrap_i64 (by omega) (by omega),show (i:Int)+1+1=((i+2:Nat):Int) by omega,show (i:Int)+1=((i+1:Nat):Int) by omega]
    rw [dropc hi',sou_cons] at hx
    refine brx (fun hc=>asrt (by omega) (brn (fun h92=>?_) (fun h92=>?_))) (fun hc=>?_)
    · rw [if_neg hc,if_pos h92] at hx
      refine brn (fun he=>?_) (fun he=>?_)
      · have h:i+1<s.length:=by omega
        rw [dropc h] at hx
        exact q35_l0 kx0 s c hs n (i+2) (by omega) (by omega) (by rw [show i+2+sou (s.drop (i+2)) c=i+(sou (s.drop (i+1+1)) c+2) by rw [show i+1+1=i+2 from rfl]; omega]; exact hx)
      · rw [List.drop_eq_nil_of_le (show s.length≤i+1 by omega)] at hx
        exact q35_l0 kx0 s c hs n (i+1) (by omega) (by omega) (by rw [List.drop_eq_nil_of_le (show s.length≤i+1 by omega)]; exact hx)
    · rw [if_neg hc,if_neg h92] at hx
      exact q35_l0 kx0 s c hs n (i+1) (by omega) (by omega) (by rw [show i+1+sou (s.drop (i+1)) c=i+(sou (s.drop (i+1)) c+1) by omega]; exact hx)
    · rw [if_pos hc] at hx; exact hx
theorem q35_L0_sp (kx0:LI→Int→Prop) (s:LI) (c i:Int) (hp:q35_L0_P s c i)
    (hx:∀ q:LI×Int,q=q35_L0_F s c i→kx0 q.1 q.2):∃ m,q35_L0 kx0 m s c i:=by
  obtain ⟨rfl,hs⟩:=hp
  exact ⟨s.length+1,q35_l0 kx0 s c hs _ 0 (by omega) (by omega) (by simp only [List.drop_zero,Nat.zero_add]; exact hx _ rfl)⟩

def q35_P (p0:LI) (sign1:Int):Prop:=
 q35_L0_P p0 sign1 (0:Int)∧(
 let q0x0:LI×Int:=q35_L0_F p0 sign1 (0:Int)
 let p0:LI:=q0x0.1
 let n6:Int:=q0x0.2
 (0≤n6∧n6≤(List.length p0:Int))∧(
 (List.length ([]:LI)+List.length (List.take (Int.toNat n6) p0)≤lim)))
def q35_F (p0:LI) (sign1:Int):LI×Int:=
 let q0x0:LI×Int:=q35_L0_F p0 sign1 (0:Int)
 let p0:LI:=q0x0.1
 let n6:Int:=q0x0.2
 bif (decide (n6<(List.length p0:Int))) then
 ((([]:LI)++(List.take (Int.toNat n6) p0)),(IntKind.wrap .i64 (n6+(1:Int))))
 else
 ((([]:LI)++(List.take (Int.toNat n6) p0)),n6)
theorem q35_sp (p0:LI) (sign1:Int) (K:Res→List Cell→Prop) (_:wfA q35_A (p0,sign1,())) (hp:q35_P p0 sign1) (h:∀ r:LI×Int,r=q35_F p0 sign1→K (.tup [.fr 5 yU r.1,.v yI r.2]) []):q35_raw p0 sign1 K:=
 fun _=>q35_L0_sp _ _ _ _ hp.1 (have hp:=hp.2; al (as1 hp fun hp=>as0 hp (br0 h (fun _ h=>h _ rfl)
 fun _ h=>h _ rfl)))
def q35_C (v:valsA q35_A) (K:Res→List Cell→Prop):Prop:=q35_P v.1 v.2.1∧∀ r:LI×Int,r=q35_F v.1 v.2.1→K (.tup [.fr 5 yU r.1,.v yI r.2]) []
def q35_S:App:=specW q35_A q35_C
theorem q35_wv (K:Res→List Cell→Prop):∀ v:valsA q35_A,runF tb (getG q35_G) q35_B0 Tryz.f77 [true,true] (mkA q35_A v) K=q35_raw v.1 v.2.1 K
  | (p0,sign1,())=>by kernel_rfl
theorem q35_ok:AppOk Tryz.prog 77 q35_S:=
  AppOk.specW (spec_ok ((runF_ok tb_M tb_ok q35_Gok (q35_b0) (f:=77) (fn:=Tryz.f77) (by kernel_rfl) (by kernel_rfl) q35_st [true,true])) fun v K hw h=>(q35_wv K v).mpr (q35_sp v.1 v.2.1 K hw h.1 h.2))

def q41_G:List (Nat×App):=[]
theorem q41_Gok:GOk Tryz.prog (getG q41_G):=GOk.nil
theorem q41_st:storesC (bodyOf Tryz.f78)=true:=by kernel_rfl
def q41_d0:List LS:=[.v 0 yB,.v 1 yU,.v 5 yI]
def q41_d0r:List LS:=[.v 4 .bool]
def q41_d0x0:List LS:=[]
def q41_dx0:DX:=⟨none,some q41_d0r,[(0,q41_d0x0)]⟩
def q41_y0r (k:Ex→St→Prop) (x4:Bool):Prop:=wfD q41_d0r (x4,())→k .ret (mkD 39 q41_d0r (x4,()))
def q41_y0x0 (k:Ex→St→Prop):Prop:=wfD q41_d0x0 ()→k (.exit 0) (mkD 39 q41_d0x0 ())
def q41_T0 (Y:LI→Int→Int→Prop) (kr:Bool→Prop) (kx0:Prop) (text0:LI) (sign1:Int) (i5:Int):Prop:=
 bif (decide (i5<(List.length text0:Int))) then
 bif decide (0≤i5∧i5<(List.length text0:Int)) then
 bif (decide ((rd (0:Int) text0 i5)=sign1)) then
 kr false
 else
 bif decide (0≤i5∧i5<(List.length text0:Int)) then
 bif (decide ((rd (0:Int) text0 i5)=(92:Int))) then
 bif (decide ((IntKind.wrap .i64 (i5+(1:Int)))=(List.length text0:Int))) then
 kr false
 else
 bif decide (0≤i5∧i5<(List.length text0:Int)) then
 bif (decide ((rd (0:Int) text0 i5)=(92:Int))) then
 Y text0 sign1 (IntKind.wrap .i64 ((IntKind.wrap .i64 (i5+(1:Int)))+(1:Int)))
 else
 Y text0 sign1 (IntKind.wrap .i64 (i5+(1:Int)))
 else False
 else
 bif decide (0≤i5∧i5<(List.length text0:Int)) then
 bif (decide ((rd (0:Int) text0 i5)=(92:Int))) then
 Y text0 sign1 (IntKind.wrap .i64 ((IntKind.wrap .i64 (i5+(1:Int)))+(1:Int)))
 else
 Y text0 sign1 (IntKind.wrap .i64 (i5+(1:Int)))
 else False
 else False
 else False
 else
 kx0
def q41_L0 (kr:Bool→Prop) (kx0:Prop):Nat→LI→Int→Int→Prop
  | 0,_,_,_=>False
  | n+1,text0,sign1,i5=>wfD q41_d0 (text0,sign1,i5,())→q41_T0 (q41_L0 kr kx0 n) kr kx0 text0 sign1 i5
def q41_c0:Pce:=ex tb (getG q41_G) [] (at' (bodyOf Tryz.f78) [0,0,0,1,1]) [0,0,0,1,1]
def q41_g0 (k:Ex→St→Prop) (n:Nat) (v:vals q41_d0):Prop:=q41_L0 (q41_y0r k) (q41_y0x0 k) n v.1 v.2.1 v.2.2.1
theorem q41_s0 (k:Ex→St→Prop) (Y:vals q41_d0→Prop):∀ v:vals q41_d0,q41_c0 (mkD 39 q41_d0 v) (lpK 39 q41_d0 q41_dx0 k Y)=q41_T0 (fun text0 sign1 i5=>Y (text0,sign1,i5,())) (q41_y0r k) (q41_y0x0 k) v.1 v.2.1 v.2.2.1
  | (text0,sign1,i5,())=>by kernel_rfl
theorem q41_v0 (k:Ex→St→Prop):∀ (n:Nat) (v:vals q41_d0),lpD 39 q41_d0 q41_dx0 q41_c0 k n v=q41_g0 k n v
  | 0,(text0,sign1,i5,())=>rfl
  | n+1,(text0,sign1,i5,())=>congrArg (fun Z:Prop=>wfD q41_d0 (text0,sign1,i5,())→Z) ((q41_s0 k _ (text0,sign1,i5,())).trans (congrArg (fun Y=>q41_T0 Y (q41_y0r k) (q41_y0x0 k) text0 sign1 i5) (funext fun text0=>funext fun sign1=>funext fun i5=>q41_v0 k n (text0,sign1,i5,()))))
def q41_X0:Pce:=fun st k=>ckD 39 q41_d0 st fun v=>wfD q41_d0 v→∃ n,q41_g0 k n v
theorem q41_x0:SemOk Tryz.prog (at' (bodyOf Tryz.f78) [0,0,1,1]) q41_X0:=
  (SemOk.loop (ex_sound tb_M tb_ok q41_Gok (LabsOk.nil) (at' (bodyOf Tryz.f78) [0,0,0,1,1]) [0,0,0,1,1] rfl (storesC_at q41_st [0,0,0,1,1])) 39 q41_d0 q41_dx0).mono fun st k h=>ckD_mono h fun v hv hw=>(hv hw).elim fun n hn=>⟨n,Eq.mpr (q41_v0 k n v) hn⟩
def q41_B0:Labs:=([0,0,1,1],q41_X0)::[]
theorem q41_b0:LabsOk Tryz.prog (bodyOf Tryz.f78) q41_B0:=LabsOk.cons q41_x0 (LabsOk.nil)
def q41_raw (text0:LI) (sign1:Int) (K:Res→List Cell→Prop):Prop:=
 (wfD q41_d0 (text0,sign1,(0:Int),())→∃ n,q41_L0 (fun (x4:Bool)=>wfD q41_d0r (x4,())→(
 K (.one (.v .bool x4)) [])) (wfD q41_d0x0 ()→(
 K (.one (.v .bool true)) [])) n text0 sign1 (0:Int))
def q41_A:List AS:=[.v yB,.v yU]
def q41_L0_P (s:LI) (_ i:Int):Prop:=i=0∧s.length≤lim
def q41_L0_F (s:LI) (c _:Int):Bool⊕Unit:=if who s c then .inr () else .inl false
theorem q41_l0 (kr:Bool→Prop) (kx0:Prop) (s:LI) (c:Int) (hs:s.length≤lim) :
    ∀ (n i:Nat),s.length+1<n+i→i≤s.length+1→(who (s.drop i) c=false→kr false)→(who (s.drop i) c=true→kx0)→q41_L0 kr kx0 n s c (i:Int)
  | 0,i,hn,hi,hr,hx=>absurd hn (by omega)
  | n+1,i,hn,hi,hr,hx=>by
    intro _
    unfold q41_T0
    have hlim:lim=1099511627776:=rfl
    refine brn (fun hlt=>asrt (by omega) ?_) (fun hge=>hx (by rw [List.drop_eq_nil_of_le (by omega)]; rfl))
    have hi':i<s.length:=by omega
    rw [rd_drop hi',wrap_i64 (n:=(i:Int)+1) (by omega) (by omega),wrap_i64 (by omega) (by omega),show (i:Int)+1+1=((i+2:Nat):Int) by omega,show (i:Int)+1=((i+1:Nat):Int) by omega]
    rw [dropc hi',who_cons] at hr hx
    refine brn (fun hc=>?_) (fun hc=>asrt (by omega) (brn (fun h92=>?_) (fun h92=>?_)))
    · rw [if_pos hc] at hr; exact hr rfl
    · rw [if_neg hc,if_pos h92] at hr hx
      refine brn (fun he=>?_) (fun he=>asrt (by omega) (brn (fun _=>?_) (fun h=>absurd h92 h)))
      · rw [List.drop_eq_nil_of_le (show s.length≤i+1 by omega)] at hr
        exact hr rfl
      · have h:i+1<s.length:=by omega
        rw [dropc h] at hr hx
        exact q41_l0 kr kx0 s c hs n (i+2) (by omega) (by omega) hr hx
    · rw [if_neg hc,if_neg h92] at hr hx
      exact asrt (by omega) (brn (fun h=>absurd h h92) (fun _=>q41_l0 kr kx0 s c hs n (i+1) (by omega) (by omega) hr hx))
theorem q41_L0_sp (kr:Bool→Prop) (kx0:Prop) (s:LI) (c i:Int) (hp:q41_L0_P s c i)
    (hr:∀ q:Bool,q41_L0_F s c i=.inl q→kr q) (hx:∀ q:Unit,q41_L0_F s c i=.inr q→kx0):∃ m,q41_L0 kr kx0 m s c i:=by
  obtain ⟨rfl,hs⟩:=hp
  refine ⟨s.length+2,q41_l0 kr kx0 s c hs _ 0 (by omega) (by omega) (fun h=>?_) (fun h=>?_)⟩
  · rw [List.drop_zero] at h
    exact hr _ (by unfold q41_L0_F; rw [if_neg (by rw [h]; simp)])
  · rw [List.drop_zero] at h
    exact hx () (by unfold q41_L0_F; rw [if_pos h])

def q41_P (text0:LI) (sign1:Int):Prop:=
 q41_L0_P text0 sign1 (0:Int)
def q41_F (text0:LI) (sign1:Int):Bool:=
 Sum.elim (fun q0r=>
 let x4:Bool:=q0r
 x4) (fun q0x0=>
 true) (q41_L0_F text0 sign1 (0:Int))
theorem q41_sp (text0:LI) (sign1:Int) (K:Res→List Cell→Prop) (_:wfA q41_A (text0,sign1,())) (hp:q41_P text0 sign1) (h:∀ r:Bool,r=q41_F text0 sign1→K (.one (.v .bool r)) []):q41_raw text0 sign1 K:=
 fun _=>q41_L0_sp _ _ _ _ _ hp
 (fun _ e _=>have h:=sl e h; h _ rfl)
 (fun _ e _=>have h:=sr e h; h _ rfl)
def q41_C (v:valsA q41_A) (K:Res→List Cell→Prop):Prop:=q41_P v.1 v.2.1∧∀ r:Bool,r=q41_F v.1 v.2.1→K (.one (.v .bool r)) []
def q41_S:App:=specW q41_A q41_C
theorem q41_wv (K:Res→List Cell→Prop):∀ v:valsA q41_A,runF tb (getG q41_G) q41_B0 Tryz.f78 [true] (mkA q41_A v) K=q41_raw v.1 v.2.1 K
  | (text0,sign1,())=>by kernel_rfl
theorem q41_ok:AppOk Tryz.prog 78 q41_S:=
  AppOk.specW (spec_ok ((runF_ok tb_M tb_ok q41_Gok (q41_b0) (f:=78) (fn:=Tryz.f78) (by kernel_rfl) (by kernel_rfl) q41_st [true])) fun v K hw h=>(q41_wv K v).mpr (q41_sp v.1 v.2.1 K hw h.1 h.2))

def q42_G:List (Nat×App):=[(76,q34_S),(77,q35_S),(78,q41_S)]
theorem q42_Gok:GOk Tryz.prog (getG q42_G):=GOk.cons q34_ok (GOk.cons q35_ok (GOk.cons q41_ok (GOk.nil)))
theorem q42_st:storesC (bodyOf Tryz.f36)=true:=by kernel_rfl
def q42_d0:List LS:=[.v 0 yB,.b 2 16 [],.b 5 40 [],.v 6 yI,.v 13 yI,.v 14 yI,.c 16 tyA,.c 40 tyA]
def q42_d0n:List LS:=[.v 0 yB,.b 2 16 [],.b 5 40 [],.v 6 yI,.c 16 tyA,.c 40 tyA]
def q42_dx0:DX:=⟨some q42_d0n,none,[]⟩
def q42_y0n (k:Ex→St→Prop) (line0:LI) (at6:Int) (x2b:tAd) (a5b:tAd):Prop:=wfD q42_d0n (line0,at6,x2b,a5b,())→k .nrm (mkD 146 q42_d0n (line0,at6,x2b,a5b,()))
def q42_J0 (kn:LI→Int→tAd→tAd→Prop) (line0:LI) (at6:Int) (v13:Int) (n14:Int) (x2b:tAd) (a5b:tAd):Prop:=
 kn line0 (IntKind.wrap .i64 (at6+(IntKind.wrap .i64 ((1:Int)+n14)))) x2b (a5b.1,a5b.2.1,a5b.2.2.1,a5b.2.2.2.1,(IntKind.wrap .i64 (a5b.2.2.2.2.1+v13)),true)
def q42_g0 (k:Ex→St→Prop) (v:vals q42_d0):Prop:=q42_J0 (q42_y0n k) v.1 v.2.1 v.2.2.1 v.2.2.2.1 v.2.2.2.2.1 v.2.2.2.2.2.1
theorem q42_v0 (k:Ex→St→Prop):∀ v:vals q42_d0,ex tb (getG q42_G) [] (at' (bodyOf Tryz.f36) [1,1,1,1,0,1,0,0,0,1,1,1,1]) [1,1,1,1,0,1,0,0,0,1,1,1,1] (mkD 146 q42_d0 v) (wk 146 q42_dx0 k)=q42_g0 k v
  | (line0,at6,v13,n14,x2b,a5b,())=>by kernel_rfl
def q42_X0:Pce:=fun st k=>ckD 146 q42_d0 st fun v=>wfD q42_d0 v→q42_g0 k v
theorem q42_x0:SemOk Tryz.prog (at' (bodyOf Tryz.f36) [1,1,1,1,0,1,0,0,0,1,1,1,1]) q42_X0:=
  (SemOk.wk (N:=146) (ds:=q42_d0) (dx:=q42_dx0) (ex_sound tb_M tb_ok q42_Gok (LabsOk.nil) (at' (bodyOf Tryz.f36) [1,1,1,1,0,1,0,0,0,1,1,1,1]) [1,1,1,1,0,1,0,0,0,1,1,1,1] rfl (storesC_at q42_st [1,1,1,1,0,1,0,0,0,1,1,1,1]))).mono fun st k h=>ckD_mono h fun v hv hw=>Eq.mpr (q42_v0 k v) (hv hw)
def q42_B0:Labs:=([1,1,1,1,0,1,0,0,0,1,1,1,1],q42_X0)::[]
theorem q42_b0:LabsOk Tryz.prog (bodyOf Tryz.f36) q42_B0:=LabsOk.cons q42_x0 (LabsOk.nil)
def q42_d1:List LS:=[.v 0 yB,.b 2 16 [],.b 5 40 [],.v 6 yI,.v 13 yI,.v 14 yI,.c 16 tyA,.c 40 tyA]
def q42_d1n:List LS:=[.v 0 yB,.b 2 16 [],.b 5 40 [],.v 6 yI,.c 16 tyA,.c 40 tyA]
def q42_dx1:DX:=⟨some q42_d1n,none,[]⟩
def q42_y1n (k:Ex→St→Prop) (line0:LI) (at6:Int) (x2b:tAd) (a5b:tAd):Prop:=wfD q42_d1n (line0,at6,x2b,a5b,())→k .nrm (mkD 146 q42_d1n (line0,at6,x2b,a5b,()))
def q42_J1 (kn:LI→Int→tAd→tAd→Prop) (line0:LI) (at6:Int) (v13:Int) (n14:Int) (x2b:tAd) (a5b:tAd):Prop:=
 bif decide (0≤at6∧at6<(List.length line0:Int)) then
 bif (decide ((rd (0:Int) line0 at6)=(45:Int))) then
 (wfD q42_d0 (line0,at6,(IntKind.wrap .i64 (0 - v13)),n14,x2b,a5b,())→q42_J0 (fun (line0:LI) (at6:Int) (x2b:tAd) (a5b:tAd)=>wfD q42_d0n (line0,at6,x2b,a5b,())→(
 kn line0 at6 x2b a5b)) line0 at6 (IntKind.wrap .i64 (0 - v13)) n14 x2b a5b)
 else
 (wfD q42_d0 (line0,at6,v13,n14,x2b,a5b,())→q42_J0 (fun (line0:LI) (at6:Int) (x2b:tAd) (a5b:tAd)=>wfD q42_d0n (line0,at6,x2b,a5b,())→(
 kn line0 at6 x2b a5b)) line0 at6 v13 n14 x2b a5b)
 else False
def q42_g1 (k:Ex→St→Prop) (v:vals q42_d1):Prop:=q42_J1 (q42_y1n k) v.1 v.2.1 v.2.2.1 v.2.2.2.1 v.2.2.2.2.1 v.2.2.2.2.2.1
theorem q42_v1 (k:Ex→St→Prop):∀ v:vals q42_d1,ex tb (getG q42_G) q42_B0 (at' (bodyOf Tryz.f36) [1,1,1,0,1,0,0,0,1,1,1,1]) [1,1,1,0,1,0,0,0,1,1,1,1] (mkD 146 q42_d1 v) (wk 146 q42_dx1 k)=q42_g1 k v
  | (line0,at6,v13,n14,x2b,a5b,())=>by kernel_rfl
def q42_X1:Pce:=fun st k=>ckD 146 q42_d1 st fun v=>wfD q42_d1 v→q42_g1 k v
theorem q42_x1:SemOk Tryz.prog (at' (bodyOf Tryz.f36) [1,1,1,0,1,0,0,0,1,1,1,1]) q42_X1:=
  (SemOk.wk (N:=146) (ds:=q42_d1) (dx:=q42_dx1) (ex_sound tb_M tb_ok q42_Gok (q42_b0) (at' (bodyOf Tryz.f36) [1,1,1,0,1,0,0,0,1,1,1,1]) [1,1,1,0,1,0,0,0,1,1,1,1] rfl (storesC_at q42_st [1,1,1,0,1,0,0,0,1,1,1,1]))).mono fun st k h=>ckD_mono h fun v hv hw=>Eq.mpr (q42_v1 k v) (hv hw)
def q42_B1:Labs:=([1,1,1,0,1,0,0,0,1,1,1,1],q42_X1)::q42_B0
theorem q42_b1:LabsOk Tryz.prog (bodyOf Tryz.f36) q42_B1:=LabsOk.cons q42_x1 (q42_b0)
def q42_d2:List LS:=[.v 0 yB,.b 2 16 [],.b 5 40 [],.v 6 yI,.c 16 tyA,.c 40 tyA]
def q42_d2r:List LS:=[.b 2 16 [],.v 3 yI,.v 4 yI,.c 16 tyA]
def q42_d2x1:List LS:=[.b 2 16 [],.b 5 40 [],.v 6 yI,.c 16 tyA,.c 40 tyA]
def q42_dx2:DX:=⟨none,some q42_d2r,[(1,q42_d2x1)]⟩
def q42_y2r (k:Ex→St→Prop) (x3:Int) (x4:Int) (x2b:tAd):Prop:=wfD q42_d2r (x3,x4,x2b,())→k .ret (mkD 146 q42_d2r (x3,x4,x2b,()))
def q42_y2x1 (k:Ex→St→Prop) (at6:Int) (x2b:tAd) (a5b:tAd):Prop:=wfD q42_d2x1 (at6,x2b,a5b,())→k (.exit 1) (mkD 146 q42_d2x1 (at6,x2b,a5b,()))
def q42_T2 (Y:LI→Int→tAd→tAd→Prop) (kr:Int→Int→tAd→Prop) (kx1:Int→tAd→tAd→Prop) (line0:LI) (at6:Int) (x2b:tAd) (a5b:tAd):Prop:=
 bif (decide (at6<(List.length line0:Int))) then
 bif decide (0≤at6∧at6<(List.length line0:Int)) then
 bif (decide ((rd (0:Int) line0 at6)=(43:Int))) then
 bif decide (0≤(IntKind.wrap .i64 (at6+(1:Int)))∧(IntKind.wrap .i64 (at6+(1:Int)))≤(List.length line0:Int)) then
 q34_P (List.drop (Int.toNat (IntKind.wrap .i64 (at6+(1:Int)))) line0)∧(
 ∀ (r2:Int×Int×Bool),r2=q34_F (List.drop (Int.toNat (IntKind.wrap .i64 (at6+(1:Int)))) line0)→(
 wfR (.tup [.v yI r2.1,.v yI r2.2.1,.v .bool r2.2.2])→(
 bif (!r2.2.2) then
 kr (0:Int) (230:Int) zA
 else
 bif (decide (r2.2.1=(0:Int))) then
 (wfD q42_d1 (line0,at6,(1:Int),r2.2.1,x2b,a5b,())→q42_J1 (fun (line0:LI) (at6:Int) (x2b:tAd) (a5b:tAd)=>wfD q42_d1n (line0,at6,x2b,a5b,())→(
 Y line0 at6 x2b a5b)) line0 at6 (1:Int) r2.2.1 x2b a5b)
 else
 (wfD q42_d1 (line0,at6,r2.1,r2.2.1,x2b,a5b,())→q42_J1 (fun (line0:LI) (at6:Int) (x2b:tAd) (a5b:tAd)=>wfD q42_d1n (line0,at6,x2b,a5b,())→(
 Y line0 at6 x2b a5b)) line0 at6 r2.1 r2.2.1 x2b a5b))))
 else False
 else
 bif decide (0≤at6∧at6<(List.length line0:Int)) then
 bif (decide ((rd (0:Int) line0 at6)=(45:Int))) then
 bif decide (0≤(IntKind.wrap .i64 (at6+(1:Int)))∧(IntKind.wrap .i64 (at6+(1:Int)))≤(List.length line0:Int)) then
 q34_P (List.drop (Int.toNat (IntKind.wrap .i64 (at6+(1:Int)))) line0)∧(
 ∀ (r3:Int×Int×Bool),r3=q34_F (List.drop (Int.toNat (IntKind.wrap .i64 (at6+(1:Int)))) line0)→(
 wfR (.tup [.v yI r3.1,.v yI r3.2.1,.v .bool r3.2.2])→(
 bif (!r3.2.2) then
 kr (0:Int) (230:Int) zA
 else
 bif (decide (r3.2.1=(0:Int))) then
 (wfD q42_d1 (line0,at6,(1:Int),r3.2.1,x2b,a5b,())→q42_J1 (fun (line0:LI) (at6:Int) (x2b:tAd) (a5b:tAd)=>wfD q42_d1n (line0,at6,x2b,a5b,())→(
 Y line0 at6 x2b a5b)) line0 at6 (1:Int) r3.2.1 x2b a5b)
 else
 (wfD q42_d1 (line0,at6,r3.1,r3.2.1,x2b,a5b,())→q42_J1 (fun (line0:LI) (at6:Int) (x2b:tAd) (a5b:tAd)=>wfD q42_d1n (line0,at6,x2b,a5b,())→(
 Y line0 at6 x2b a5b)) line0 at6 r3.1 r3.2.1 x2b a5b))))
 else False
 else
 kx1 at6 x2b a5b
 else False
 else False
 else
 kx1 at6 x2b a5b
def q42_L2 (kr:Int→Int→tAd→Prop) (kx1:Int→tAd→tAd→Prop):Nat→LI→Int→tAd→tAd→Prop
  | 0,_,_,_,_=>False
  | n+1,line0,at6,x2b,a5b=>wfD q42_d2 (line0,at6,x2b,a5b,())→q42_T2 (q42_L2 kr kx1 n) kr kx1 line0 at6 x2b a5b
def q42_c2:Pce:=ex tb (getG q42_G) q42_B1 (at' (bodyOf Tryz.f36) [0,0,0,1,1,1,1]) [0,0,0,1,1,1,1]
def q42_g2 (k:Ex→St→Prop) (n:Nat) (v:vals q42_d2):Prop:=q42_L2 (q42_y2r k) (q42_y2x1 k) n v.1 v.2.1 v.2.2.1 v.2.2.2.1
theorem q42_s2 (k:Ex→St→Prop) (Y:vals q42_d2→Prop):∀ v:vals q42_d2,q42_c2 (mkD 146 q42_d2 v) (lpK 146 q42_d2 q42_dx2 k Y)=q42_T2 (fun line0 at6 x2b a5b=>Y (line0,at6,x2b,a5b,())) (q42_y2r k) (q42_y2x1 k) v.1 v.2.1 v.2.2.1 v.2.2.2.1
  | (line0,at6,x2b,a5b,())=>by kernel_rfl
theorem q42_v2 (k:Ex→St→Prop):∀ (n:Nat) (v:vals q42_d2),lpD 146 q42_d2 q42_dx2 q42_c2 k n v=q42_g2 k n v
  | 0,(line0,at6,x2b,a5b,())=>rfl
  | n+1,(line0,at6,x2b,a5b,())=>congrArg (fun Z:Prop=>wfD q42_d2 (line0,at6,x2b,a5b,())→Z) ((q42_s2 k _ (line0,at6,x2b,a5b,())).trans (congrArg (fun Y=>q42_T2 Y (q42_y2r k) (q42_y2x1 k) line0 at6 x2b a5b) (funext fun line0=>funext fun at6=>funext fun x2b=>funext fun a5b=>q42_v2 k n (line0,at6,x2b,a5b,()))))
def q42_X2:Pce:=fun st k=>ckD 146 q42_d2 st fun v=>wfD q42_d2 v→∃ n,q42_g2 k n v
theorem q42_x2:SemOk Tryz.prog (at' (bodyOf Tryz.f36) [0,0,1,1,1,1]) q42_X2:=
  (SemOk.loop (ex_sound tb_M tb_ok q42_Gok (q42_b1) (at' (bodyOf Tryz.f36) [0,0,0,1,1,1,1]) [0,0,0,1,1,1,1] rfl (storesC_at q42_st [0,0,0,1,1,1,1])) 146 q42_d2 q42_dx2).mono fun st k h=>ckD_mono h fun v hv hw=>(hv hw).elim fun n hn=>⟨n,Eq.mpr (q42_v2 k n v) hn⟩
def q42_B2:Labs:=([0,0,1,1,1,1],q42_X2)::q42_B1
theorem q42_b2:LabsOk Tryz.prog (bodyOf Tryz.f36) q42_B2:=LabsOk.cons q42_x2 (q42_b1)
def q42_d3:List LS:=[.v 0 yB,.b 2 16 [],.b 5 40 [],.v 6 yI,.c 16 tyA,.c 40 tyA]
def q42_d3r:List LS:=[.b 2 16 [],.v 3 yI,.v 4 yI,.c 16 tyA]
def q42_dx3:DX:=⟨none,some q42_d3r,[]⟩
def q42_y3r (k:Ex→St→Prop) (x3:Int) (x4:Int) (x2b:tAd):Prop:=wfD q42_d3r (x3,x4,x2b,())→k .ret (mkD 146 q42_d3r (x3,x4,x2b,()))
def q42_J3 (kr:Int→Int→tAd→Prop) (line0:LI) (at6:Int) (x2b:tAd) (a5b:tAd):Prop:=
 (wfD q42_d2 (line0,at6,x2b,a5b,())→∃ n,q42_L2 (fun (x3:Int) (x4:Int) (x2b:tAd)=>wfD q42_d2r (x3,x4,x2b,())→(
 kr x3 x4 x2b)) (fun (at6:Int) (x2b:tAd) (a5b:tAd)=>wfD q42_d2x1 (at6,x2b,a5b,())→(
 bif (decide (a5b.2.2.2.2.1<(-999999999:Int))) then
 kr (0:Int) (230:Int) zA
 else
 bif (decide ((999999999:Int)<a5b.2.2.2.2.1)) then
 kr (0:Int) (230:Int) zA
 else
 kr at6 (0:Int) a5b)) n line0 at6 x2b a5b)
def q42_g3 (k:Ex→St→Prop) (v:vals q42_d3):Prop:=q42_J3 (q42_y3r k) v.1 v.2.1 v.2.2.1 v.2.2.2.1
theorem q42_v3 (k:Ex→St→Prop):∀ v:vals q42_d3,ex tb (getG q42_G) q42_B2 (at' (bodyOf Tryz.f36) [1,1,1,1]) [1,1,1,1] (mkD 146 q42_d3 v) (wk 146 q42_dx3 k)=q42_g3 k v
  | (line0,at6,x2b,a5b,())=>by kernel_rfl
def q42_X3:Pce:=fun st k=>ckD 146 q42_d3 st fun v=>wfD q42_d3 v→q42_g3 k v
theorem q42_x3:SemOk Tryz.prog (at' (bodyOf Tryz.f36) [1,1,1,1]) q42_X3:=
  (SemOk.wk (N:=146) (ds:=q42_d3) (dx:=q42_dx3) (ex_sound tb_M tb_ok q42_Gok (q42_b2) (at' (bodyOf Tryz.f36) [1,1,1,1]) [1,1,1,1] rfl (storesC_at q42_st [1,1,1,1]))).mono fun st k h=>ckD_mono h fun v hv hw=>Eq.mpr (q42_v3 k v) (hv hw)
def q42_B3:Labs:=([1,1,1,1],q42_X3)::q42_B2
theorem q42_b3:LabsOk Tryz.prog (bodyOf Tryz.f36) q42_B3:=LabsOk.cons q42_x3 (q42_b2)
def q42_raw (line0:LI) (K:Res→List Cell→Prop):Prop:=
 bif (decide ((0:Int)<(List.length line0:Int))) then
 bif decide (0≤(0:Int)∧(0:Int)<(List.length line0:Int)) then
 bif (decide ((48:Int)≤(rd (0:Int) line0 (0:Int)))) then
 bif (decide ((rd (0:Int) line0 (0:Int))≤(57:Int))) then
 q34_P line0∧(
 ∀ (r1:Int×Int×Bool),r1=q34_F line0→(
 wfR (.tup [.v yI r1.1,.v yI r1.2.1,.v .bool r1.2.2])→(
 bif (!r1.2.2) then
 K (.tup [.v tyA zA,.v yI (0:Int),.v yI (230:Int)]) []
 else
 (wfD q42_d3 (line0,r1.2.1,zA,((110:Int),r1.1,(0:Int),([]:LI),(0:Int),true),())→q42_J3 (fun (x3:Int) (x4:Int) (x2b:tAd)=>wfD q42_d3r (x3,x4,x2b,())→(
 K (.tup [.v tyA x2b,.v yI x3,.v yI x4]) [])) line0 r1.2.1 zA ((110:Int),r1.1,(0:Int),([]:LI),(0:Int),true)))))
 else
 bif (decide ((rd (0:Int) line0 (0:Int))=(46:Int))) then
 (wfD q42_d3 (line0,(1:Int),zA,((rd (0:Int) line0 (0:Int)),(0:Int),(0:Int),([]:LI),(0:Int),true),())→q42_J3 (fun (x3:Int) (x4:Int) (x2b:tAd)=>wfD q42_d3r (x3,x4,x2b,())→(
 K (.tup [.v tyA x2b,.v yI x3,.v yI x4]) [])) line0 (1:Int) zA ((rd (0:Int) line0 (0:Int)),(0:Int),(0:Int),([]:LI),(0:Int),true))
 else
 bif (decide ((rd (0:Int) line0 (0:Int))=(36:Int))) then
 (wfD q42_d3 (line0,(1:Int),zA,((rd (0:Int) line0 (0:Int)),(0:Int),(0:Int),([]:LI),(0:Int),true),())→q42_J3 (fun (x3:Int) (x4:Int) (x2b:tAd)=>wfD q42_d3r (x3,x4,x2b,())→(
 K (.tup [.v tyA x2b,.v yI x3,.v yI x4]) [])) line0 (1:Int) zA ((rd (0:Int) line0 (0:Int)),(0:Int),(0:Int),([]:LI),(0:Int),true))
 else
 bif (decide ((rd (0:Int) line0 (0:Int))=(39:Int))) then
 bif (decide ((List.length line0:Int)=(1:Int))) then
 K (.tup [.v tyA zA,.v yI (0:Int),.v yI (230:Int)]) []
 else
 bif decide (0≤(1:Int)∧(1:Int)<(List.length line0:Int)) then
 (wfD q42_d3 (line0,(2:Int),zA,((rd (0:Int) line0 (0:Int)),(0:Int),(rd (0:Int) line0 (1:Int)),([]:LI),(0:Int),true),())→q42_J3 (fun (x3:Int) (x4:Int) (x2b:tAd)=>wfD q42_d3r (x3,x4,x2b,())→(
 K (.tup [.v tyA x2b,.v yI x3,.v yI x4]) [])) line0 (2:Int) zA ((rd (0:Int) line0 (0:Int)),(0:Int),(rd (0:Int) line0 (1:Int)),([]:LI),(0:Int),true))
 else False
 else
 bif (decide ((rd (0:Int) line0 (0:Int))=(47:Int))) then
 bif decide (0≤(1:Int)∧(1:Int)≤(List.length line0:Int)) then
 q35_P (List.drop (Int.toNat (1:Int)) line0) (rd (0:Int) line0 (0:Int))∧(
 ∀ (r4:LI×Int),r4=q35_F (List.drop (Int.toNat (1:Int)) line0) (rd (0:Int) line0 (0:Int))→(
 wfR (.tup [.fr 5 yU r4.1,.v yI r4.2])→(
 q41_P r4.1 (rd (0:Int) line0 (0:Int))∧(
 ∀ (r5:Bool),r5=q41_F r4.1 (rd (0:Int) line0 (0:Int))→(
 wB r5→(
 bif (!r5) then
 K (.tup [.v tyA zA,.v yI (0:Int),.v yI (230:Int)]) []
 else
 (wfD q42_d3 (line0,(IntKind.wrap .i64 ((1:Int)+r4.2)),zA,((rd (0:Int) line0 (0:Int)),(0:Int),(0:Int),r4.1,(0:Int),true),())→q42_J3 (fun (x3:Int) (x4:Int) (x2b:tAd)=>wfD q42_d3r (x3,x4,x2b,())→(
 K (.tup [.v tyA x2b,.v yI x3,.v yI x4]) [])) line0 (IntKind.wrap .i64 ((1:Int)+r4.2)) zA ((rd (0:Int) line0 (0:Int)),(0:Int),(0:Int),r4.1,(0:Int),true))))))))
 else False
 else
 bif (decide ((rd (0:Int) line0 (0:Int))=(63:Int))) then
 bif decide (0≤(1:Int)∧(1:Int)≤(List.length line0:Int)) then
 q35_P (List.drop (Int.toNat (1:Int)) line0) (rd (0:Int) line0 (0:Int))∧(
 ∀ (r6:LI×Int),r6=q35_F (List.drop (Int.toNat (1:Int)) line0) (rd (0:Int) line0 (0:Int))→(
 wfR (.tup [.fr 5 yU r6.1,.v yI r6.2])→(
 q41_P r6.1 (rd (0:Int) line0 (0:Int))∧(
 ∀ (r7:Bool),r7=q41_F r6.1 (rd (0:Int) line0 (0:Int))→(
 wB r7→(
 bif (!r7) then
 K (.tup [.v tyA zA,.v yI (0:Int),.v yI (230:Int)]) []
 else
 (wfD q42_d3 (line0,(IntKind.wrap .i64 ((1:Int)+r6.2)),zA,((rd (0:Int) line0 (0:Int)),(0:Int),(0:Int),r6.1,(0:Int),true),())→q42_J3 (fun (x3:Int) (x4:Int) (x2b:tAd)=>wfD q42_d3r (x3,x4,x2b,())→(
 K (.tup [.v tyA x2b,.v yI x3,.v yI x4]) [])) line0 (IntKind.wrap .i64 ((1:Int)+r6.2)) zA ((rd (0:Int) line0 (0:Int)),(0:Int),(0:Int),r6.1,(0:Int),true))))))))
 else False
 else
 (wfD q42_d3 (line0,(0:Int),zA,zA,())→q42_J3 (fun (x3:Int) (x4:Int) (x2b:tAd)=>wfD q42_d3r (x3,x4,x2b,())→(
 K (.tup [.v tyA x2b,.v yI x3,.v yI x4]) [])) line0 (0:Int) zA zA)
 else
 bif (decide ((rd (0:Int) line0 (0:Int))=(46:Int))) then
 (wfD q42_d3 (line0,(1:Int),zA,((rd (0:Int) line0 (0:Int)),(0:Int),(0:Int),([]:LI),(0:Int),true),())→q42_J3 (fun (x3:Int) (x4:Int) (x2b:tAd)=>wfD q42_d3r (x3,x4,x2b,())→(
 K (.tup [.v tyA x2b,.v yI x3,.v yI x4]) [])) line0 (1:Int) zA ((rd (0:Int) line0 (0:Int)),(0:Int),(0:Int),([]:LI),(0:Int),true))
 else
 bif (decide ((rd (0:Int) line0 (0:Int))=(36:Int))) then
 (wfD q42_d3 (line0,(1:Int),zA,((rd (0:Int) line0 (0:Int)),(0:Int),(0:Int),([]:LI),(0:Int),true),())→q42_J3 (fun (x3:Int) (x4:Int) (x2b:tAd)=>wfD q42_d3r (x3,x4,x2b,())→(
 K (.tup [.v tyA x2b,.v yI x3,.v yI x4]) [])) line0 (1:Int) zA ((rd (0:Int) line0 (0:Int)),(0:Int),(0:Int),([]:LI),(0:Int),true))
 else
 bif (decide ((rd (0:Int) line0 (0:Int))=(39:Int))) then
 bif (decide ((List.length line0:Int)=(1:Int))) then
 K (.tup [.v tyA zA,.v yI (0:Int),.v yI (230:Int)]) []
 else
 bif decide (0≤(1:Int)∧(1:Int)<(List.length line0:Int)) then
 (wfD q42_d3 (line0,(2:Int),zA,((rd (0:Int) line0 (0:Int)),(0:Int),(rd (0:Int) line0 (1:Int)),([]:LI),(0:Int),true),())→q42_J3 (fun (x3:Int) (x4:Int) (x2b:tAd)=>wfD q42_d3r (x3,x4,x2b,())→(
 K (.tup [.v tyA x2b,.v yI x3,.v yI x4]) [])) line0 (2:Int) zA ((rd (0:Int) line0 (0:Int)),(0:Int),(rd (0:Int) line0 (1:Int)),([]:LI),(0:Int),true))
 else False
 else
 bif (decide ((rd (0:Int) line0 (0:Int))=(47:Int))) then
 bif decide (0≤(1:Int)∧(1:Int)≤(List.length line0:Int)) then
 q35_P (List.drop (Int.toNat (1:Int)) line0) (rd (0:Int) line0 (0:Int))∧(
 ∀ (r8:LI×Int),r8=q35_F (List.drop (Int.toNat (1:Int)) line0) (rd (0:Int) line0 (0:Int))→(
 wfR (.tup [.fr 5 yU r8.1,.v yI r8.2])→(
 q41_P r8.1 (rd (0:Int) line0 (0:Int))∧(
 ∀ (r9:Bool),r9=q41_F r8.1 (rd (0:Int) line0 (0:Int))→(
 wB r9→(
 bif (!r9) then
 K (.tup [.v tyA zA,.v yI (0:Int),.v yI (230:Int)]) []
 else
 (wfD q42_d3 (line0,(IntKind.wrap .i64 ((1:Int)+r8.2)),zA,((rd (0:Int) line0 (0:Int)),(0:Int),(0:Int),r8.1,(0:Int),true),())→q42_J3 (fun (x3:Int) (x4:Int) (x2b:tAd)=>wfD q42_d3r (x3,x4,x2b,())→(
 K (.tup [.v tyA x2b,.v yI x3,.v yI x4]) [])) line0 (IntKind.wrap .i64 ((1:Int)+r8.2)) zA ((rd (0:Int) line0 (0:Int)),(0:Int),(0:Int),r8.1,(0:Int),true))))))))
 else False
 else
 bif (decide ((rd (0:Int) line0 (0:Int))=(63:Int))) then
 bif decide (0≤(1:Int)∧(1:Int)≤(List.length line0:Int)) then
 q35_P (List.drop (Int.toNat (1:Int)) line0) (rd (0:Int) line0 (0:Int))∧(
 ∀ (r10:LI×Int),r10=q35_F (List.drop (Int.toNat (1:Int)) line0) (rd (0:Int) line0 (0:Int))→(
 wfR (.tup [.fr 5 yU r10.1,.v yI r10.2])→(
 q41_P r10.1 (rd (0:Int) line0 (0:Int))∧(
 ∀ (r11:Bool),r11=q41_F r10.1 (rd (0:Int) line0 (0:Int))→(
 wB r11→(
 bif (!r11) then
 K (.tup [.v tyA zA,.v yI (0:Int),.v yI (230:Int)]) []
 else
 (wfD q42_d3 (line0,(IntKind.wrap .i64 ((1:Int)+r10.2)),zA,((rd (0:Int) line0 (0:Int)),(0:Int),(0:Int),r10.1,(0:Int),true),())→q42_J3 (fun (x3:Int) (x4:Int) (x2b:tAd)=>wfD q42_d3r (x3,x4,x2b,())→(
 K (.tup [.v tyA x2b,.v yI x3,.v yI x4]) [])) line0 (IntKind.wrap .i64 ((1:Int)+r10.2)) zA ((rd (0:Int) line0 (0:Int)),(0:Int),(0:Int),r10.1,(0:Int),true))))))))
 else False
 else
 (wfD q42_d3 (line0,(0:Int),zA,zA,())→q42_J3 (fun (x3:Int) (x4:Int) (x2b:tAd)=>wfD q42_d3r (x3,x4,x2b,())→(
 K (.tup [.v tyA x2b,.v yI x3,.v yI x4]) [])) line0 (0:Int) zA zA)
 else False
 else
 (wfD q42_d3 (line0,(0:Int),zA,zA,())→q42_J3 (fun (x3:Int) (x4:Int) (x2b:tAd)=>wfD q42_d3r (x3,x4,x2b,())→(
 K (.tup [.v tyA x2b,.v yI x3,.v yI x4]) [])) line0 (0:Int) zA zA)
def q42_A:List AS:=[.v yB]
theorem q34_eq (s:LI):q34_F s=(dv s,(dgs s:Int),decide (dgs s≤9)):=by
  unfold q34_F
  show (dv s,(dgs s:Int),decide ((dgs s:Int)≤9))=_
  rw [decide_eq_decide.2 (show (dgs s:Int)≤9↔dgs s≤9 by omega)]
def q42_L2_P (s:LI) (at':Int) (_ _:Adr):Prop:=0≤at'∧at'≤s.length∧s.length≤lim
def q42_L2_F (s:LI) (at':Int) (x y:Adr):(Int×Int×Adr)⊕(Int×Adr×Adr):=addsAt s at' x y
theorem q42_l2 (kr:Int→Int→Adr→Prop) (kx1:Int→Adr→Adr→Prop) (s:LI) (x:Adr) (hs:s.length≤lim) :
    ∀ (n i:Nat) (y:Adr),s.length<n+i→i≤s.length→(adds n (s.drop i) y.2.2.2.2.1 y.2.2.2.2.2=none→kr 0 230 adr0)→
      (∀ m a g,adds n (s.drop i) y.2.2.2.2.1 y.2.2.2.2.2=some (m,a,g)→kx1 ((i+m:Nat):Int) x (adrA y a g))→q42_L2 kr kx1 n s (i:Int) x y
  | 0,i,y,hn,hi,hr,hx=>absurd hn (by omega)
  | n+1,i,y,hn,hi,hr,hx=>by
    intro _
    unfold q42_T2
    have hlim:lim=1099511627776:=rfl
    refine brn (fun hlt=>asrt (by omega) ?_) (fun hge=>by
      rw [List.drop_eq_nil_of_le (by omega)] at hx
      exact hx 0 _ _ rfl)
    have hi':i<s.length:=by omega
    have hw1:IntKind.wrap .i64 ((i:Int)+1)=((i+1:Nat):Int):=by rw [wrap_i64 (by omega) (by omega)]; omega
    rw [rd_drop hi',hw1,Int.toNat_natCast]
    rw [dropc hi'] at hr hx
    unfold adds at hr hx
    have hdl:dgs (s.drop (i+1))+(i+1)≤s.length:=by have:=dgs_le (s.drop (i+1)); rw [List.length_drop] at this; omega
    -- what is added,whichever the sign
    have step:∀ (v:Int),(s[i]=43∨s[i]=45)→dgs (s.drop (i+1))≤9→(if s[i]=45 then -(if dgs (s.drop (i+1))=0 then 1 else dv (s.drop (i+1))) else (if dgs (s.drop (i+1))=0 then 1 else dv (s.drop (i+1))))=(if s[i]=45 then -v else v)→0≤v→v≤1000000000→
        (wfD q42_d1 (s,(i:Int),v,((dgs (s.drop (i+1)):Nat):Int),x,y,())→q42_J1 (fun line0 at6 x2b a5b=>wfD q42_d1n (line0,at6,x2b,a5b,())→q42_L2 kr kx1 n line0 at6 x2b a5b) s (i:Int) v ((dgs (s.drop (i+1)):Nat):Int) x y):=by
      intro v hs9 h9 hv hv0 hv1 _
      unfold q42_J1
      rw [rd_drop hi']
      have hw2:∀ v:Int,(wfD q42_d0 (s,(i:Int),v,((dgs (s.drop (i+1)):Nat):Int),x,y,())→(if s[i]=45 then -(if dgs (s.drop (i+1))=0 then 1 else dv (s.drop (i+1))) else (if dgs (s.drop (i+1))=0 then 1 else dv (s.drop (i+1))))=v→
          q42_J0 (fun line0 at6 x2b a5b=>wfD q42_d0n (line0,at6,x2b,a5b,())→wfD q42_d1n (line0,at6,x2b,a5b,())→q42_L2 kr kx1 n line0 at6 x2b a5b) s (i:Int) v ((dgs (s.drop (i+1)):Nat):Int) x y):=by
        intro v _ hv
        unfold q42_J0
        rw [wrap_i64 (n:=(1:Int)+_) (by omega) (by omega),wrap_i64 (n:=(i:Int)+_) (by omega) (by omega),show (i:Int)+(1+((dgs (s.drop (i+1)):Nat):Int))=((i+1+dgs (s.drop (i+1)):Nat):Int) by omega]
        intro _ _
        rw [if_pos hs9,if_pos h9] at hr hx
        rw [hv,List.drop_drop] at hr hx
        refine q42_l2 kr kx1 s x hs n (i+1+dgs (s.drop (i+1))) _ (by omega) (by omega) (fun h=>hr ?_) (fun m a g h=>?_)
        · dsimp only at h ⊢
          rw [h]
        · have:=hx (1+dgs (s.drop (i+1))+m) a g (by dsimp only at h ⊢; rw [h])
          rw [show i+1+dgs (s.drop (i+1))+m=i+(1+dgs (s.drop (i+1))+m) by omega]
          exact this
      refine asrt (by omega) (brn (fun h45=>?_) (fun h45=>?_))
      · rw [if_pos h45,if_pos h45] at hv
        rw [wrap_i64 (n:=0 - v) (by omega) (by omega),Int.zero_sub]
        rw [if_pos h45] at hw2
        exact fun hwf=>hw2 (-v) hwf hv
      · rw [if_neg h45,if_neg h45] at hv
        rw [if_neg h45] at hw2
        exact fun hwf=>hw2 v hwf hv
    have sign:(s[i]=43∨s[i]=45)→(bif decide (0≤((i+1:Nat):Int)∧((i+1:Nat):Int)≤(List.length s:Int)) then
        q34_P (s.drop (i+1))∧(∀ (r2:Int×Int×Bool),r2=q34_F (s.drop (i+1))→(
          wfR (.tup [.v yI r2.1,.v yI r2.2.1,.v .bool r2.2.2])→(
          bif (!r2.2.2) then kr (0:Int) (230:Int) adr0
          else bif (decide (r2.2.1=(0:Int))) then
            (wfD q42_d1 (s,(i:Int),(1:Int),r2.2.1,x,y,())→q42_J1 (fun line0 at6 x2b a5b=>wfD q42_d1n (line0,at6,x2b,a5b,())→q42_L2 kr kx1 n line0 at6 x2b a5b) s (i:Int) (1:Int) r2.2.1 x y)
          else (wfD q42_d1 (s,(i:Int),r2.1,r2.2.1,x,y,())→q42_J1 (fun line0 at6 x2b a5b=>wfD q42_d1n (line0,at6,x2b,a5b,())→q42_L2 kr kx1 n line0 at6 x2b a5b) s (i:Int) r2.1 r2.2.1 x y))))
        else False):=by
      intro hsg
      refine asrt (by omega) ⟨⟨rfl,rfl,by rw [List.length_drop]; omega⟩,fun r hr2 _=>?_⟩
      rw [q34_eq] at hr2
      by_cases h9:dgs (s.drop (i+1))≤9
      · have e:r.2.2=true∧r.2.1=((dgs (s.drop (i+1)):Nat):Int)∧r.1=dv (s.drop (i+1)):=by subst hr2; exact ⟨by simp [h9],rfl,rfl⟩
        rw [e.1,e.2.1,e.2.2]
        have hv:=dval_take (s.drop (i+1)) (min (dgs (s.drop (i+1))) 9) (by omega)
        have hp9:=pow9 (i:=min (dgs (s.drop (i+1))) 9) (by omega)
        refine brn (fun h0=>?_) (fun h0=>?_)
        · exact step 1 hsg h9 (by rw [if_pos (show dgs (s.drop (i+1))=0 by omega)]) (by omega) (by omega)
        · exact step (dv (s.drop (i+1))) hsg h9 (by rw [if_neg (show ¬ dgs (s.drop (i+1))=0 by omega)]) hv.1 (by have:=hv.2; unfold dv; omega)
      · have e:r.2.2=false:=by subst hr2; simp [h9]
        rw [e]
        exact hr (by rw [if_pos hsg,if_neg h9])
    refine brn (fun h43=>sign (.inl h43)) (fun h43=>asrt (by omega) (brn (fun h45=>sign (.inr h45)) (fun h45=>?_)))
    rw [if_neg (fun h=>h.elim h43 h45)] at hx
    have:=hx 0 _ _ rfl
    exact this
theorem q42_L2_sp (kr:Int→Int→Adr→Prop) (kx1:Int→Adr→Adr→Prop) (s:LI) (i:Int) (x y:Adr) (hp:q42_L2_P s i x y)
    (hr:∀ q:Int×Int×Adr,q42_L2_F s i x y=.inl q→kr q.1 q.2.1 q.2.2) (hx:∀ q:Int×Adr×Adr,q42_L2_F s i x y=.inr q→kx1 q.1 q.2.1 q.2.2):∃ m,q42_L2 kr kx1 m s i x y:=by
  obtain ⟨h0,h1,hs⟩:=hp
  obtain ⟨j,rfl⟩:=Int.eq_ofNat_of_zero_le h0
  have h1:j≤s.length:=Int.ofNat_le.1 h1
  refine ⟨s.length+1,q42_l2 kr kx1 s x hs _ j y (by omega) h1 (fun h=>?_) (fun m a g h=>?_)⟩
  · refine hr (0,230,adr0) ?_
    unfold q42_L2_F addsAt
    rw [Int.toNat_natCast,h]
  · have:=hx (((j+m:Nat):Int),x,adrA y a g) (by
      unfold q42_L2_F addsAt
      rw [Int.toNat_natCast,h]
      rfl)
    exact this

def q42_J0_F (line0:LI) (at6:Int) (v13:Int) (n14:Int) (x2b:tAd) (a5b:tAd):LI×Int×tAd×tAd:=
 (line0,(IntKind.wrap .i64 (at6+(IntKind.wrap .i64 ((1:Int)+n14)))),x2b,(a5b.1,a5b.2.1,a5b.2.2.1,a5b.2.2.2.1,(IntKind.wrap .i64 (a5b.2.2.2.2.1+v13)),true))
theorem q42_J0_sp (kn:LI→Int→tAd→tAd→Prop) (line0:LI) (at6:Int) (v13:Int) (n14:Int) (x2b:tAd) (a5b:tAd) (hn:∀ q:LI×Int×tAd×tAd,q=q42_J0_F line0 at6 v13 n14 x2b a5b→kn q.1 q.2.1 q.2.2.1 q.2.2.2):q42_J0 kn line0 at6 v13 n14 x2b a5b:=
 have h:=hn; h _ rfl
def q42_J1_P (line0:LI) (at6:Int) (v13:Int) (n14:Int) (x2b:tAd) (a5b:tAd):Prop:=
 (0≤at6∧at6<(List.length line0:Int))
def q42_J1_F (line0:LI) (at6:Int) (v13:Int) (n14:Int) (x2b:tAd) (a5b:tAd):LI×Int×tAd×tAd:=
 bif (decide ((rd (0:Int) line0 at6)=(45:Int))) then
 let q0n:LI×Int×tAd×tAd:=q42_J0_F line0 at6 (IntKind.wrap .i64 (0 - v13)) n14 x2b a5b
 let line0:LI:=q0n.1
 let at6:Int:=q0n.2.1
 let x2b:tAd:=q0n.2.2.1
 let a5b:tAd:=q0n.2.2.2
 (line0,at6,x2b,a5b)
 else
 let q0n:LI×Int×tAd×tAd:=q42_J0_F line0 at6 v13 n14 x2b a5b
 let line0:LI:=q0n.1
 let at6:Int:=q0n.2.1
 let x2b:tAd:=q0n.2.2.1
 let a5b:tAd:=q0n.2.2.2
 (line0,at6,x2b,a5b)
theorem q42_J1_sp (kn:LI→Int→tAd→tAd→Prop) (line0:LI) (at6:Int) (v13:Int) (n14:Int) (x2b:tAd) (a5b:tAd) (hp:q42_J1_P line0 at6 v13 n14 x2b a5b) (hn:∀ q:LI×Int×tAd×tAd,q=q42_J1_F line0 at6 v13 n14 x2b a5b→kn q.1 q.2.1 q.2.2.1 q.2.2.2):q42_J1 kn line0 at6 v13 n14 x2b a5b:=
 have h:=hn; as0 hp (br0 h (fun _ h=>fun _=>q42_J0_sp _ _ _ _ _ _ _ (al (h _ rfl)))
 fun _ h=>fun _=>q42_J0_sp _ _ _ _ _ _ _ (al (h _ rfl)))
def q42_J3_P (line0:LI) (at6:Int) (x2b:tAd) (a5b:tAd):Prop:=
 q42_L2_P line0 at6 x2b a5b
def q42_J3_F (line0:LI) (at6:Int) (x2b:tAd) (a5b:tAd):Int×Int×tAd:=
 Sum.elim (fun q2r=>
 let x3:Int:=q2r.1
 let x4:Int:=q2r.2.1
 let x2b:tAd:=q2r.2.2
 (x3,x4,x2b)) (fun q2x1=>
 let at6:Int:=q2x1.1
 let x2b:tAd:=q2x1.2.1
 let a5b:tAd:=q2x1.2.2
 bif (decide (a5b.2.2.2.2.1<(-999999999:Int))) then
 ((0:Int),(230:Int),zA)
 else
 bif (decide ((999999999:Int)<a5b.2.2.2.2.1)) then
 ((0:Int),(230:Int),zA)
 else
 (at6,(0:Int),a5b)) (q42_L2_F line0 at6 x2b a5b)
theorem q42_J3_sp (kr:Int→Int→tAd→Prop) (line0:LI) (at6:Int) (x2b:tAd) (a5b:tAd) (hp:q42_J3_P line0 at6 x2b a5b) (hr:∀ q:Int×Int×tAd,q=q42_J3_F line0 at6 x2b a5b→kr q.1 q.2.1 q.2.2):q42_J3 kr line0 at6 x2b a5b:=
 have h:=hr; fun _=>q42_L2_sp _ _ _ _ _ _ hp
 (fun _ e _=>have h:=sl e h; h _ rfl)
 (fun _ e _=>have h:=sr e h; br0 h (fun _ h=>h _ rfl)
 fun _ h=>br0 h (fun _ h=>h _ rfl)
 fun _ h=>h _ rfl)
def q42_P (line0:LI):Prop:=
 bif (decide ((0:Int)<(List.length line0:Int))) then
 (0≤(0:Int)∧(0:Int)<(List.length line0:Int))∧(
 bif (decide ((48:Int)≤(rd (0:Int) line0 (0:Int)))) then
 bif (decide ((rd (0:Int) line0 (0:Int))≤(57:Int))) then
 q34_P line0∧(
 let r1:Int×Int×Bool:=q34_F line0
 bif (!r1.2.2) then
 True
 else
 q42_J3_P line0 r1.2.1 zA ((110:Int),r1.1,(0:Int),([]:LI),(0:Int),true))
 else
 bif (decide ((rd (0:Int) line0 (0:Int))=(46:Int))) then
 q42_J3_P line0 (1:Int) zA ((rd (0:Int) line0 (0:Int)),(0:Int),(0:Int),([]:LI),(0:Int),true)
 else
 bif (decide ((rd (0:Int) line0 (0:Int))=(36:Int))) then
 q42_J3_P line0 (1:Int) zA ((rd (0:Int) line0 (0:Int)),(0:Int),(0:Int),([]:LI),(0:Int),true)
 else
 bif (decide ((rd (0:Int) line0 (0:Int))=(39:Int))) then
 bif (decide ((List.length line0:Int)=(1:Int))) then
 True
 else
 (0≤(1:Int)∧(1:Int)<(List.length line0:Int))∧(
 q42_J3_P line0 (2:Int) zA ((rd (0:Int) line0 (0:Int)),(0:Int),(rd (0:Int) line0 (1:Int)),([]:LI),(0:Int),true))
 else
 bif (decide ((rd (0:Int) line0 (0:Int))=(47:Int))) then
 (0≤(1:Int)∧(1:Int)≤(List.length line0:Int))∧(
 q35_P (List.drop (Int.toNat (1:Int)) line0) (rd (0:Int) line0 (0:Int))∧(
 let r4:LI×Int:=q35_F (List.drop (Int.toNat (1:Int)) line0) (rd (0:Int) line0 (0:Int))
 q41_P r4.1 (rd (0:Int) line0 (0:Int))∧(
 let r5:Bool:=q41_F r4.1 (rd (0:Int) line0 (0:Int))
 bif (!r5) then
 True
 else
 q42_J3_P line0 (IntKind.wrap .i64 ((1:Int)+r4.2)) zA ((rd (0:Int) line0 (0:Int)),(0:Int),(0:Int),r4.1,(0:Int),true))))
 else
 bif (decide ((rd (0:Int) line0 (0:Int))=(63:Int))) then
 (0≤(1:Int)∧(1:Int)≤(List.length line0:Int))∧(
 q35_P (List.drop (Int.toNat (1:Int)) line0) (rd (0:Int) line0 (0:Int))∧(
 let r6:LI×Int:=q35_F (List.drop (Int.toNat (1:Int)) line0) (rd (0:Int) line0 (0:Int))
 q41_P r6.1 (rd (0:Int) line0 (0:Int))∧(
 let r7:Bool:=q41_F r6.1 (rd (0:Int) line0 (0:Int))
 bif (!r7) then
 True
 else
 q42_J3_P line0 (IntKind.wrap .i64 ((1:Int)+r6.2)) zA ((rd (0:Int) line0 (0:Int)),(0:Int),(0:Int),r6.1,(0:Int),true))))
 else
 q42_J3_P line0 (0:Int) zA zA
 else
 bif (decide ((rd (0:Int) line0 (0:Int))=(46:Int))) then
 q42_J3_P line0 (1:Int) zA ((rd (0:Int) line0 (0:Int)),(0:Int),(0:Int),([]:LI),(0:Int),true)
 else
 bif (decide ((rd (0:Int) line0 (0:Int))=(36:Int))) then
 q42_J3_P line0 (1:Int) zA ((rd (0:Int) line0 (0:Int)),(0:Int),(0:Int),([]:LI),(0:Int),true)
 else
 bif (decide ((rd (0:Int) line0 (0:Int))=(39:Int))) then
 bif (decide ((List.length line0:Int)=(1:Int))) then
 True
 else
 (0≤(1:Int)∧(1:Int)<(List.length line0:Int))∧(
 q42_J3_P line0 (2:Int) zA ((rd (0:Int) line0 (0:Int)),(0:Int),(rd (0:Int) line0 (1:Int)),([]:LI),(0:Int),true))
 else
 bif (decide ((rd (0:Int) line0 (0:Int))=(47:Int))) then
 (0≤(1:Int)∧(1:Int)≤(List.length line0:Int))∧(
 q35_P (List.drop (Int.toNat (1:Int)) line0) (rd (0:Int) line0 (0:Int))∧(
 let r8:LI×Int:=q35_F (List.drop (Int.toNat (1:Int)) line0) (rd (0:Int) line0 (0:Int))
 q41_P r8.1 (rd (0:Int) line0 (0:Int))∧(
 let r9:Bool:=q41_F r8.1 (rd (0:Int) line0 (0:Int))
 bif (!r9) then
 True
 else
 q42_J3_P line0 (IntKind.wrap .i64 ((1:Int)+r8.2)) zA ((rd (0:Int) line0 (0:Int)),(0:Int),(0:Int),r8.1,(0:Int),true))))
 else
 bif (decide ((rd (0:Int) line0 (0:Int))=(63:Int))) then
 (0≤(1:Int)∧(1:Int)≤(List.length line0:Int))∧(
 q35_P (List.drop (Int.toNat (1:Int)) line0) (rd (0:Int) line0 (0:Int))∧(
 let r10:LI×Int:=q35_F (List.drop (Int.toNat (1:Int)) line0) (rd (0:Int) line0 (0:Int))
 q41_P r10.1 (rd (0:Int) line0 (0:Int))∧(
 let r11:Bool:=q41_F r10.1 (rd (0:Int) line0 (0:Int))
 bif (!r11) then
 True
 else
 q42_J3_P line0 (IntKind.wrap .i64 ((1:Int)+r10.2)) zA ((rd (0:Int) line0 (0:Int)),(0:Int),(0:Int),r10.1,(0:Int),true))))
 else
 q42_J3_P line0 (0:Int) zA zA)
 else
 q42_J3_P line0 (0:Int) zA zA
def q42_F (line0:LI):tAd×Int×Int:=
 bif (decide ((0:Int)<(List.length line0:Int))) then
 bif (decide ((48:Int)≤(rd (0:Int) line0 (0:Int)))) then
 bif (decide ((rd (0:Int) line0 (0:Int))≤(57:Int))) then
 let r1:Int×Int×Bool:=q34_F line0
 bif (!r1.2.2) then
 (zA,(0:Int),(230:Int))
 else
 let q3r:Int×Int×tAd:=q42_J3_F line0 r1.2.1 zA ((110:Int),r1.1,(0:Int),([]:LI),(0:Int),true)
 let x3:Int:=q3r.1
 let x4:Int:=q3r.2.1
 let x2b:tAd:=q3r.2.2
 (x2b,x3,x4)
 else
 bif (decide ((rd (0:Int) line0 (0:Int))=(46:Int))) then
 let q3r:Int×Int×tAd:=q42_J3_F line0 (1:Int) zA ((rd (0:Int) line0 (0:Int)),(0:Int),(0:Int),([]:LI),(0:Int),true)
 let x3:Int:=q3r.1
 let x4:Int:=q3r.2.1
 let x2b:tAd:=q3r.2.2
 (x2b,x3,x4)
 else
 bif (decide ((rd (0:Int) line0 (0:Int))=(36:Int))) then
 let q3r:Int×Int×tAd:=q42_J3_F line0 (1:Int) zA ((rd (0:Int) line0 (0:Int)),(0:Int),(0:Int),([]:LI),(0:Int),true)
 let x3:Int:=q3r.1
 let x4:Int:=q3r.2.1
 let x2b:tAd:=q3r.2.2
 (x2b,x3,x4)
 else
 bif (decide ((rd (0:Int) line0 (0:Int))=(39:Int))) then
 bif (decide ((List.length line0:Int)=(1:Int))) then
 (zA,(0:Int),(230:Int))
 else
 let q3r:Int×Int×tAd:=q42_J3_F line0 (2:Int) zA ((rd (0:Int) line0 (0:Int)),(0:Int),(rd (0:Int) line0 (1:Int)),([]:LI),(0:Int),true)
 let x3:Int:=q3r.1
 let x4:Int:=q3r.2.1
 let x2b:tAd:=q3r.2.2
 (x2b,x3,x4)
 else
 bif (decide ((rd (0:Int) line0 (0:Int))=(47:Int))) then
 let r4:LI×Int:=q35_F (List.drop (Int.toNat (1:Int)) line0) (rd (0:Int) line0 (0:Int))
 let r5:Bool:=q41_F r4.1 (rd (0:Int) line0 (0:Int))
 bif (!r5) then
 (zA,(0:Int),(230:Int))
 else
 let q3r:Int×Int×tAd:=q42_J3_F line0 (IntKind.wrap .i64 ((1:Int)+r4.2)) zA ((rd (0:Int) line0 (0:Int)),(0:Int),(0:Int),r4.1,(0:Int),true)
 let x3:Int:=q3r.1
 let x4:Int:=q3r.2.1
 let x2b:tAd:=q3r.2.2
 (x2b,x3,x4)
 else
 bif (decide ((rd (0:Int) line0 (0:Int))=(63:Int))) then
 let r6:LI×Int:=q35_F (List.drop (Int.toNat (1:Int)) line0) (rd (0:Int) line0 (0:Int))
 let r7:Bool:=q41_F r6.1 (rd (0:Int) line0 (0:Int))
 bif (!r7) then
 (zA,(0:Int),(230:Int))
 else
 let q3r:Int×Int×tAd:=q42_J3_F line0 (IntKind.wrap .i64 ((1:Int)+r6.2)) zA ((rd (0:Int) line0 (0:Int)),(0:Int),(0:Int),r6.1,(0:Int),true)
 let x3:Int:=q3r.1
 let x4:Int:=q3r.2.1
 let x2b:tAd:=q3r.2.2
 (x2b,x3,x4)
 else
 let q3r:Int×Int×tAd:=q42_J3_F line0 (0:Int) zA zA
 let x3:Int:=q3r.1
 let x4:Int:=q3r.2.1
 let x2b:tAd:=q3r.2.2
 (x2b,x3,x4)
 else
 bif (decide ((rd (0:Int) line0 (0:Int))=(46:Int))) then
 let q3r:Int×Int×tAd:=q42_J3_F line0 (1:Int) zA ((rd (0:Int) line0 (0:Int)),(0:Int),(0:Int),([]:LI),(0:Int),true)
 let x3:Int:=q3r.1
 let x4:Int:=q3r.2.1
 let x2b:tAd:=q3r.2.2
 (x2b,x3,x4)
 else
 bif (decide ((rd (0:Int) line0 (0:Int))=(36:Int))) then
 let q3r:Int×Int×tAd:=q42_J3_F line0 (1:Int) zA ((rd (0:Int) line0 (0:Int)),(0:Int),(0:Int),([]:LI),(0:Int),true)
 let x3:Int:=q3r.1
 let x4:Int:=q3r.2.1
 let x2b:tAd:=q3r.2.2
 (x2b,x3,x4)
 else
 bif (decide ((rd (0:Int) line0 (0:Int))=(39:Int))) then
 bif (decide ((List.length line0:Int)=(1:Int))) then
 (zA,(0:Int),(230:Int))
 else
 let q3r:Int×Int×tAd:=q42_J3_F line0 (2:Int) zA ((rd (0:Int) line0 (0:Int)),(0:Int),(rd (0:Int) line0 (1:Int)),([]:LI),(0:Int),true)
 let x3:Int:=q3r.1
 let x4:Int:=q3r.2.1
 let x2b:tAd:=q3r.2.2
 (x2b,x3,x4)
 else
 bif (decide ((rd (0:Int) line0 (0:Int))=(47:Int))) then
 let r8:LI×Int:=q35_F (List.drop (Int.toNat (1:Int)) line0) (rd (0:Int) line0 (0:Int))
 let r9:Bool:=q41_F r8.1 (rd (0:Int) line0 (0:Int))
 bif (!r9) then
 (zA,(0:Int),(230:Int))
 else
 let q3r:Int×Int×tAd:=q42_J3_F line0 (IntKind.wrap .i64 ((1:Int)+r8.2)) zA ((rd (0:Int) line0 (0:Int)),(0:Int),(0:Int),r8.1,(0:Int),true)
 let x3:Int:=q3r.1
 let x4:Int:=q3r.2.1
 let x2b:tAd:=q3r.2.2
 (x2b,x3,x4)
 else
 bif (decide ((rd (0:Int) line0 (0:Int))=(63:Int))) then
 let r10:LI×Int:=q35_F (List.drop (Int.toNat (1:Int)) line0) (rd (0:Int) line0 (0:Int))
 let r11:Bool:=q41_F r10.1 (rd (0:Int) line0 (0:Int))
 bif (!r11) then
 (zA,(0:Int),(230:Int))
 else
 let q3r:Int×Int×tAd:=q42_J3_F line0 (IntKind.wrap .i64 ((1:Int)+r10.2)) zA ((rd (0:Int) line0 (0:Int)),(0:Int),(0:Int),r10.1,(0:Int),true)
 let x3:Int:=q3r.1
 let x4:Int:=q3r.2.1
 let x2b:tAd:=q3r.2.2
 (x2b,x3,x4)
 else
 let q3r:Int×Int×tAd:=q42_J3_F line0 (0:Int) zA zA
 let x3:Int:=q3r.1
 let x4:Int:=q3r.2.1
 let x2b:tAd:=q3r.2.2
 (x2b,x3,x4)
 else
 let q3r:Int×Int×tAd:=q42_J3_F line0 (0:Int) zA zA
 let x3:Int:=q3r.1
 let x4:Int:=q3r.2.1
 let x2b:tAd:=q3r.2.2
 (x2b,x3,x4)
theorem q42_sp (line0:LI) (K:Res→List Cell→Prop) (_:wfA q42_A (line0,())) (hp:q42_P line0) (h:∀ r:tAd×Int×Int,r=q42_F line0→K (.tup [.v tyA r.1,.v yI r.2.1,.v yI r.2.2]) []):q42_raw line0 K:=
 br1 hp h (fun _ hp h=>as1 hp fun hp=>br1 hp h (fun _ hp h=>br1 hp h (fun _ hp h=>an1 hp fun hp=>al (br1 hp h (fun _ hp h=>h _ rfl)
 fun _ hp h=>fun _=>q42_J3_sp _ _ _ _ _ hp (al (h _ rfl))))
 fun _ hp h=>br1 hp h (fun _ hp h=>fun _=>q42_J3_sp _ _ _ _ _ hp (al (h _ rfl)))
 fun _ hp h=>br1 hp h (fun _ hp h=>fun _=>q42_J3_sp _ _ _ _ _ hp (al (h _ rfl)))
 fun _ hp h=>br1 hp h (fun _ hp h=>br1 hp h (fun _ hp h=>h _ rfl)
 fun _ hp h=>as1 hp fun hp=>fun _=>q42_J3_sp _ _ _ _ _ hp (al (h _ rfl)))
 fun _ hp h=>br1 hp h (fun _ hp h=>as1 hp fun hp=>an1 hp fun hp=>al (an1 hp fun hp=>al (br1 hp h (fun _ hp h=>h _ rfl)
 fun _ hp h=>fun _=>q42_J3_sp _ _ _ _ _ hp (al (h _ rfl)))))
 fun _ hp h=>br1 hp h (fun _ hp h=>as1 hp fun hp=>an1 hp fun hp=>al (an1 hp fun hp=>al (br1 hp h (fun _ hp h=>h _ rfl)
 fun _ hp h=>fun _=>q42_J3_sp _ _ _ _ _ hp (al (h _ rfl)))))
 fun _ hp h=>fun _=>q42_J3_sp _ _ _ _ _ hp (al (h _ rfl)))
 fun _ hp h=>br1 hp h (fun _ hp h=>fun _=>q42_J3_sp _ _ _ _ _ hp (al (h _ rfl)))
 fun _ hp h=>br1 hp h (fun _ hp h=>fun _=>q42_J3_sp _ _ _ _ _ hp (al (h _ rfl)))
 fun _ hp h=>br1 hp h (fun _ hp h=>br1 hp h (fun _ hp h=>h _ rfl)
 fun _ hp h=>as1 hp fun hp=>fun _=>q42_J3_sp _ _ _ _ _ hp (al (h _ rfl)))
 fun _ hp h=>br1 hp h (fun _ hp h=>as1 hp fun hp=>an1 hp fun hp=>al (an1 hp fun hp=>al (br1 hp h (fun _ hp h=>h _ rfl)
 fun _ hp h=>fun _=>q42_J3_sp _ _ _ _ _ hp (al (h _ rfl)))))
 fun _ hp h=>br1 hp h (fun _ hp h=>as1 hp fun hp=>an1 hp fun hp=>al (an1 hp fun hp=>al (br1 hp h (fun _ hp h=>h _ rfl)
 fun _ hp h=>fun _=>q42_J3_sp _ _ _ _ _ hp (al (h _ rfl)))))
 fun _ hp h=>fun _=>q42_J3_sp _ _ _ _ _ hp (al (h _ rfl)))
 fun _ hp h=>fun _=>q42_J3_sp _ _ _ _ _ hp (al (h _ rfl))
def q42_C (v:valsA q42_A) (K:Res→List Cell→Prop):Prop:=q42_P v.1∧∀ r:tAd×Int×Int,r=q42_F v.1→K (.tup [.v tyA r.1,.v yI r.2.1,.v yI r.2.2]) []
def q42_S:App:=specW q42_A q42_C
theorem q42_wv (K:Res→List Cell→Prop):∀ v:valsA q42_A,runF tb (getG q42_G) q42_B3 Tryz.f36 [true,true,true] (mkA q42_A v) K=q42_raw v.1 K
  | (line0,())=>by kernel_rfl
theorem q42_ok:AppOk Tryz.prog 36 q42_S:=
  AppOk.specW (spec_ok ((runF_ok tb_M tb_ok q42_Gok (q42_b3) (f:=36) (fn:=Tryz.f36) (by kernel_rfl) (by kernel_rfl) q42_st [true,true,true])) fun v K hw h=>(q42_wv K v).mpr (q42_sp v.1 K hw h.1 h.2))

end Go.VE
namespace Go.VE
abbrev Rd (α:Type):=(α×LI)⊕Int
def bsM:LI→Rd Adr
  | []=>.inl (adr0,[])
  | c::r=>if isDg c=true then (if dgs (c::r)≤9 then .inl ((110,dv (c::r),0,[],0,true),(c::r).drop (dgs (c::r))) else .inr 230)
    else if c=46∨c=36 then .inl ((c,0,0,[],0,true),r)
    else if c=39 then (match r with | []=>.inr 230 | n::r2=>.inl ((39,0,n,[],0,true),r2))
    else if c=47∨c=63 then (if clo r c=r.length∧alo r=true then .inr 230 else .inl ((c,0,0,r.take (clo r c),0,true),r.drop (clo r c+1)))
    else .inl (adr0,c::r)
theorem bsM_cons (c:Int) (r:LI):bsM (c::r)=if isDg c=true then (if dgs (c::r)≤9 then .inl ((110,dv (c::r),0,[],0,true),(c::r).drop (dgs (c::r))) else .inr 230)
    else if c=46∨c=36 then .inl ((c,0,0,[],0,true),r)
    else if c=39 then (match r with | []=>.inr 230 | n::r2=>.inl ((39,0,n,[],0,true),r2))
    else if c=47∨c=63 then (if clo r c=r.length∧alo r=true then .inr 230 else .inl ((c,0,0,r.take (clo r c),0,true),r.drop (clo r c+1)))
    else .inl (adr0,c::r):=rfl
def adF (l:LI) (a:Adr):Rd Adr:=match adds (l.length+1) l a.2.2.2.2.1 a.2.2.2.2.2 with
  | none=>.inr 230
  | some (m,s,g)=>if s < -999999999∨999999999<s then .inr 230 else .inl (adrA a s g,l.drop m)
def adM (l:LI):Rd Adr:=match bsM l with
  | .inr e=>.inr e
  | .inl (a,r)=>adF r a
def adR (l:LI):Rd Adr→Adr×Int×Int
  | .inl (a,r)=>(a,(l.length:Int) - r.length,0)
  | .inr e=>(adr0,0,e)

theorem bsM_suf (l:LI) {a:Adr} {r:LI} (h:bsM l=.inl (a,r)):r <:+ l:=by
  cases l with
  | nil=>cases h; exact List.suffix_refl _
  | cons c t=>
    rw [bsM_cons] at h
    split at h
    · split at h
      · cases h; exact List.drop_suffix _ _
      · cases h
    · split at h
      · cases h; exact List.suffix_cons _ _
      · split at h
        · cases t with
          | nil=>cases h
          | cons n t=>cases h; exact (List.suffix_cons _ _).trans (List.suffix_cons _ _)
        · split at h
          · split at h
            · cases h
            · cases h; exact (List.drop_suffix _ _).trans (List.suffix_cons _ _)
          · cases h; exact List.suffix_refl _
theorem adF_suf (l:LI) (b:Adr) {a:Adr} {r:LI} (h:adF l b=.inl (a,r)):r <:+ l:=by
  unfold adF at h
  split at h
  · cases h
  · split at h
    · cases h
    · cases h; exact List.drop_suffix _ _
theorem adM_suf (l:LI) {a:Adr} {r:LI} (h:adM l=.inl (a,r)):r <:+ l:=by
  unfold adM at h
  split at h
  · cases h
  · rename_i b t hb
    exact (adF_suf _ _ h).trans (bsM_suf _ hb)
theorem bsM_err (l:LI) {e:Int} (h:bsM l=.inr e):e=230:=by
  cases l with
  | nil=>cases h
  | cons c t=>
    rw [bsM_cons] at h
    repeat' split at h
    all_goals first | (cases h; rfl) | cases h
theorem adM_err (l:LI) {e:Int} (h:adM l=.inr e):e=230:=by
  unfold adM at h
  split at h
  · rename_i e' hb
    cases h; exact bsM_err _ hb
  · unfold adF at h
    repeat' split at h
    all_goals first | (cases h; rfl) | cases h

theorem suf_len {r l:LI} (h:r <:+ l):r.length≤l.length:=h.length_le
theorem drop_suf {r l:LI} (h:r <:+ l):l.drop (l.length - r.length)=r:=by
  obtain ⟨t,rfl⟩:=h
  rw [List.length_append,Nat.add_sub_cancel]
  simp

theorem addsAt_adF {s r:LI} (h:r <:+ s) (x a:Adr):addsAt s ((s.length:Int) - r.length) x a=(match adds (r.length+1) r a.2.2.2.2.1 a.2.2.2.2.2 with
    | none=>.inl (0,230,adr0)
    | some (m,t,g)=>.inr ((s.length:Int) - r.length+m,x,adrA a t g)):=by
  have hl:=suf_len h
  unfold addsAt
  rw [show ((s.length:Int) - r.length).toNat=s.length - r.length by omega,drop_suf h,adds_fuel (s.length+1) (r.length+1) r _ _ (by omega) (by omega)]
  all_goals (rcases adds (r.length+1) r a.2.2.2.2.1 a.2.2.2.2.2 with _ | ⟨m,t,g⟩ <;> rfl)
theorem closing_eq (r:LI) (c:Int):q55_F r c=(clo r c:Int):=by
  unfold q55_F q55_L0_F
  have:=clo_le r c
  split
  · rfl
  · show (r.length:Int)=_
    omega
theorem alone_eq (r:LI):q67_F r=alo r:=by
  unfold q67_F q67_L0_F
  cases alo r <;> rfl
theorem isDigitA (b:Int):q54_F b=isDg b:=by
  unfold q54_F isDg
  by_cases h1:48≤b <;> by_cases h2:b≤57 <;> simp [h1,h2]
theorem slc_take (c:Int) (r:LI) (k:Nat):slc (c::r) 1 ((1+k:Nat):Int)=r.take k:=by
  unfold slc
  rw [Int.toNat_natCast,Nat.add_comm]
  rfl
theorem mn_le {a b:Int}:mn a b=if a≤b then a else b:=by
  unfold mn
  by_cases h:b<a
  · rw [decide_eq_true h,if_neg (by omega)]; rfl
  · rw [decide_eq_false h,if_pos (by omega)]; rfl
theorem base_eq (l:LI) (hl:l.length≤lim):q73_P l∧q73_F l=adR l (bsM l):=by
  have hlim:lim=1099511627776:=rfl
  cases l with
  | nil=>exact ⟨trivial,rfl⟩
  | cons c r=>
    have e0:rd (0:Int) (c::r) 0=c:=rfl
    have hn:decide (((c::r).length:Int)=0)=false:=decide_eq_false (by simp only [List.length_cons]; omega)
    have hd:List.drop (Int.toNat (1:Int)) (c::r)=r:=rfl
    have hl2:r.length+1≤lim:=hl
    have hc:=clo_le r c
    have hdl:=dgs_le (c::r)
    have hw:IntKind.wrap .i64 (((c::r).length:Int) - 1)=r.length:=by rw [wrap_i64 (by simp only [List.length_cons]; omega) (by simp only [List.length_cons]; omega)]; simp only [List.length_cons]; omega
    have hw1:IntKind.wrap .i64 (1+(clo r c:Int))=((1+clo r c:Nat):Int):=by rw [wrap_i64 (by omega) (by omega)]; omega
    have hw2:IntKind.wrap .i64 ((clo r c:Int)+2)=((clo r c+2:Nat):Int):=by rw [wrap_i64 (by omega) (by omega)]; omega
    have hm:mn ((clo r c+2:Nat):Int) ((c::r).length:Int)=((c::r).length:Int) - ((r.drop (clo r c+1)).length:Int):=by
      rw [mn_le,List.length_drop]; simp only [List.length_cons]; split <;> omega
    have hr0:(0:Int)≤0∧(0:Int)<((c::r).length:Int):=by simp only [List.length_cons]; omega
    have hr1:(0:Int)≤1∧(1:Int)≤((c::r).length:Int):=by simp only [List.length_cons]; omega
    have hr2:(0:Int)≤1∧(1:Int)≤((1+clo r c:Nat):Int)∧((1+clo r c:Nat):Int)≤((c::r).length:Int):=by simp only [List.length_cons]; omega
    have hcl:q55_P r c:=⟨rfl,by omega⟩
    have hal:q67_P r:=⟨rfl,by omega⟩
    have hcn:q83_P (r.take (clo r c)):=by unfold q83_P; rw [List.length_take]; omega
    have hnp:q62_P (c::r):=⟨rfl,rfl,hl⟩
    have hdr:(((c::r).length:Int) - (((c::r).drop (dgs (c::r))).length:Int))=(dgs (c::r):Int):=by rw [List.length_drop]; omega
    have fin:(c=47∨c=63)→(bif decide ((clo r c:Int)=r.length) then (bif alo r then ((adr0,0,230):Adr×Int×Int) else ((c,0,0,r.take (clo r c),0,true),mn ((clo r c+2:Nat):Int) ((c::r).length:Int),0)) else ((c,0,0,r.take (clo r c),0,true),mn ((clo r c+2:Nat):Int) ((c::r).length:Int),0)) =
        adR (c::r) (if clo r c=r.length∧alo r=true then .inr 230 else .inl ((c,0,0,r.take (clo r c),0,true),r.drop (clo r c+1))):=fun _=>by
      rw [hm]
      by_cases h1:clo r c=r.length
      · rw [decide_eq_true (by omega)]
        cases h2:alo r
        · rw [if_neg (by simp)]; rfl
        · rw [if_pos ⟨h1,rfl⟩]; rfl
      · rw [decide_eq_false (by omega),if_neg (fun h=>h1 h.1)]; rfl
    have finP:(bif decide ((clo r c:Int)=r.length) then ((0:Int)≤1∧(1:Int)≤((c::r).length:Int))∧(q67_P r∧(bif alo r then True else ((0:Int)≤1∧(1:Int)≤((1+clo r c:Nat):Int)∧((1+clo r c:Nat):Int)≤((c::r).length:Int))∧q83_P (r.take (clo r c)))) else
        ((0:Int)≤1∧(1:Int)≤((1+clo r c:Nat):Int)∧((1+clo r c:Nat):Int)≤((c::r).length:Int))∧q83_P (r.take (clo r c))):=by
      refine brn (fun _=>⟨hr1,hal,brb (fun _=>trivial) (fun _=>⟨hr2,hcn⟩)⟩) (fun _=>⟨hr2,hcn⟩)
    unfold q73_P q73_F
    rw [hn,bsM_cons]
    simp only [e0,isDigitA,cond_false,hd,closing_eq,alone_eq,q83_F,hw,hw1,hw2,slc_take,q62_eq]
    by_cases c1:isDg c=true
    · rw [c1]
      refine ⟨⟨hr0,hnp⟩,?_⟩
      rw [if_pos rfl,cond_true]
      by_cases h9:dgs (c::r)≤9
      · rw [if_pos h9,if_pos h9]
        unfold adR
        dsimp only
        rw [hdr]; rfl
      · rw [if_neg h9,if_neg h9]; rfl
    · rw [if_neg c1,show isDg c=false by simpa using c1]
      by_cases c2:c=46
      · subst c2
        refine ⟨⟨hr0,trivial⟩,?_⟩
        unfold adR
        rw [if_pos (show ((46:Int)=46∨(46:Int)=36) from .inl rfl)]
        show _=(_,(((r.length+1:Nat):Int) - (r.length:Int)),_)
        rw [show (((r.length+1:Nat):Int) - (r.length:Int))=1 by omega]; rfl
      by_cases c3:c=36
      · subst c3
        refine ⟨⟨hr0,trivial⟩,?_⟩
        unfold adR
        rw [if_pos (show ((36:Int)=46∨(36:Int)=36) from .inr rfl)]
        show _=(_,(((r.length+1:Nat):Int) - (r.length:Int)),_)
        rw [show (((r.length+1:Nat):Int) - (r.length:Int))=1 by omega]; rfl
      rw [if_neg (show ¬ (c=46∨c=36) by simp [c2,c3]),decide_eq_false c2,decide_eq_false c3]
      by_cases c4:c=39
      · subst c4
        rw [if_pos rfl]
        cases r with
        | nil=>exact ⟨⟨hr0,trivial⟩,rfl⟩
        | cons n r2=>
          have hq:decide ((((39:Int)::n::r2).length:Int)=1)=false:=decide_eq_false (by simp only [List.length_cons]; omega)
          rw [hq]
          refine ⟨⟨hr0,show (0:Int)≤1∧(1:Int)<(((39:Int)::n::r2).length:Int) from by simp only [List.length_cons]; omega⟩,?_⟩
          unfold adR
          simp only [List.length_cons,cond_false,decide_true,cond_true]
          rw [show (((r2.length+1+1:Nat):Int) - (r2.length:Int))=2 by omega]
          rfl
      rw [if_neg c4,decide_eq_false c4]
      by_cases c5:c=47
      · subst c5
        rw [if_pos (show ((47:Int)=47∨(47:Int)=63) from .inl rfl)]
        exact ⟨⟨hr0,hr1,hcl,finP⟩,fin (.inl rfl)⟩
      by_cases c6:c=63
      · subst c6
        rw [if_pos (show ((63:Int)=47∨(63:Int)=63) from .inr rfl)]
        exact ⟨⟨hr0,hr1,hcl,finP⟩,fin (.inr rfl)⟩
      rw [if_neg (show ¬ (c=47∨c=63) by simp [c5,c6]),decide_eq_false c5,decide_eq_false c6]
      refine ⟨⟨hr0,trivial⟩,?_⟩
      unfold adR
      dsimp only
      rw [Int.sub_self]; rfl
theorem adF_cases (l:LI) (a:Adr):(adds (l.length+1) l a.2.2.2.2.1 a.2.2.2.2.2=none∧adF l a=.inr 230)∨
    ∃ m s g,adds (l.length+1) l a.2.2.2.2.1 a.2.2.2.2.2=some (m,s,g)∧m≤l.length∧adF l a=if s < -999999999∨999999999<s then .inr 230 else .inl (adrA a s g,l.drop m):=by
  unfold adF
  cases h:adds (l.length+1) l a.2.2.2.2.1 a.2.2.2.2.2 with
  | none=>exact .inl ⟨rfl,rfl⟩
  | some p=>
    obtain ⟨m,s,g⟩:=p
    exact .inr ⟨m,s,g,rfl,adds_le _ _ _ _ _ _ _ h,rfl⟩
theorem tail_eq {l r:LI} (hr:r <:+ l) (a:Adr) :
    Sum.elim (fun q:Int×Int×Adr=>(q.2.2,q.1,q.2.1)) (fun q:Int×Adr×Adr=>bif decide (q.2.2.2.2.2.2.1<(-999999999:Int)) then ((adr0,0,230):Adr×Int×Int) else bif decide ((999999999:Int)<q.2.2.2.2.2.2.1) then (adr0,0,230) else (q.2.2,q.1,0)) (addsAt l ((l.length:Int) - r.length) adr0 a)=adR l (adF r a):=by
  rw [addsAt_adF hr]
  have hl:=suf_len hr
  rcases adF_cases r a with ⟨h1,h2⟩ | ⟨m,s,g,h1,hm,h2⟩
  · rw [h1,h2]; rfl
  · rw [h1,h2]
    show (bif decide (s<(-999999999:Int)) then ((adr0,0,230):Adr×Int×Int) else bif decide ((999999999:Int)<s) then (adr0,0,230) else (adrA a s g,(l.length:Int) - r.length+m,0))=_
    by_cases c1:s < -999999999
    · rw [if_pos (.inl c1),decide_eq_true c1]; rfl
    · rw [decide_eq_false c1]
      by_cases c2:999999999<s
      · rw [if_pos (.inr c2),decide_eq_true c2]; rfl
      · rw [if_neg (by omega),decide_eq_false c2]
        unfold adR
        dsimp only
        rw [List.length_drop,show ((l.length:Int) - ((r.length - m:Nat):Int))=(l.length:Int) - r.length+m by omega]; rfl
theorem address_eq (l:LI) (hl:l.length≤lim):q68_P l∧q68_F l=adR l (adM l):=by
  obtain ⟨hp,hf⟩:=base_eq l hl
  unfold q68_P q68_F
  rw [hf]
  unfold adM
  cases hb:bsM l with
  | inr e=>
    have:=bsM_err _ hb
    subst this
    exact ⟨⟨hp,trivial⟩,rfl⟩
  | inl p=>
    obtain ⟨a,r⟩:=p
    have hs:=bsM_suf l hb
    have hsl:=suf_len hs
    refine ⟨⟨hp,show 0≤(l.length:Int) - r.length∧(l.length:Int) - r.length≤l.length∧_ from ⟨by omega,by omega,hl⟩⟩,?_⟩
    exact tail_eq hs a

theorem sou_clo {c:Int} (hc:c≠92):∀ r,sou r c=clo r c
  | []=>rfl
  | [b]=>by
    rw [sou_cons,clo_cons]
    by_cases h1:b=c
    · rw [if_pos h1,if_neg (by rw [h1]; exact hc),if_pos h1]
    · rw [if_neg h1]
      by_cases h2:b=92
      · rw [if_pos h2,if_pos h2]
      · rw [if_neg h2,if_neg h2,if_neg h1]; rfl
  | b::d::r=>by
    rw [sou_cons,clo_cons]
    dsimp only
    rw [sou_clo hc r,sou_clo hc (d::r)]
    by_cases h1:b=c
    · rw [if_pos h1,if_neg (by rw [h1]; exact hc),if_pos h1]
    · rw [if_neg h1]
      by_cases h2:b=92
      · rw [if_pos h2,if_pos h2]
      · rw [if_neg h2,if_neg h2,if_neg h1]
theorem who_take {c:Int} (hc:c≠92):∀ r,who (r.take (clo r c)) c=!(decide (clo r c=r.length) && alo r)
  | []=>rfl
  | [b]=>by
    rw [clo_cons]
    by_cases h2:b=92
    · subst h2
      rw [if_pos rfl]
      simp [who,alo]
    · rw [if_neg h2]
      by_cases h1:b=c
      · rw [if_pos h1]; simp [who]
      · rw [if_neg h1]; simp [who,alo,h1,h2,clo]
  | b::d::r=>by
    have ih1:=who_take hc r
    have ih2:=who_take hc (d::r)
    have hle:=clo_le r c
    by_cases h2:b=92
    · subst h2
      rw [show clo (92::d::r) c=clo r c+2 by rw [clo_cons,if_pos rfl],show alo (92::d::r)=alo r by rw [alo_cons]; dsimp only; rw [if_pos rfl]]
      rw [show List.take (clo r c+2) (92::d::r)=92::d::r.take (clo r c) from rfl,who_cons,if_neg (Ne.symm hc),if_pos rfl]
      dsimp only
      rw [ih1,decide_eq_decide.2 (show clo r c+2=(92::d::r).length↔clo r c=r.length by simp only [List.length_cons]; omega)]
    · by_cases h1:b=c
      · rw [show clo (b::d::r) c=0 by rw [clo_cons,if_neg h2,if_pos h1]]
        simp [who]
      · rw [show clo (b::d::r) c=clo (d::r) c+1 by rw [clo_cons,if_neg h2,if_neg h1],alo_ne h2]
        rw [List.take_succ_cons,who_cons,if_neg h1,if_neg h2,ih2]
        rw [decide_eq_decide.2 (show clo (d::r) c+1=(b::d::r).length↔clo (d::r) c=(d::r).length by simp only [List.length_cons]; omega)]
theorem whole_eq (s:LI) (c:Int):q41_F s c=who s c:=by
  unfold q41_F q41_L0_F
  cases who s c <;> rfl
theorem sought_eq (s:LI) (c:Int) (hs:s.length≤lim):q35_P s c∧q35_F s c=(s.take (sou s c),(s.length:Int) - ((s.drop (sou s c+1)).length:Int)):=by
  have hl:=sou_le s c
  have hlim:lim=1099511627776:=rfl
  refine ⟨⟨⟨rfl,hs⟩,⟨show (0:Int)≤(sou s c:Int) by omega,show (sou s c:Int)≤(s.length:Int) by omega⟩,?_⟩,?_⟩
  · show ([]:LI).length+(s.take (Int.toNat (sou s c:Int))).length≤lim
    rw [List.length_take]; simp only [List.length_nil]; omega
  · show (bif decide ((sou s c:Int)<(s.length:Int)) then (([]++s.take (Int.toNat (sou s c:Int))),IntKind.wrap .i64 ((sou s c:Int)+1)) else (([]++s.take (Int.toNat (sou s c:Int))),(sou s c:Int)))=_
    rw [Int.toNat_natCast,List.nil_append,List.length_drop,wrap_i64 (by omega) (by omega)]
    by_cases h:sou s c<s.length
    · rw [decide_eq_true (by omega)]
      show (_,_)=(_,_)
      rw [show ((sou s c:Int)+1)=((s.length:Int) - ((s.length - (sou s c+1):Nat):Int)) by omega]
    · rw [decide_eq_false (by omega)]
      show (_,_)=(_,_)
      rw [show ((sou s c:Int))=((s.length:Int) - ((s.length - (sou s c+1):Nat):Int)) by omega]
theorem j3_eq {l r:LI} (hr:r <:+ l) (a:Adr):q42_J3_F l ((l.length:Int) - r.length) adr0 a=((adR l (adF r a)).2.1,(adR l (adF r a)).2.2,(adR l (adF r a)).1):=by
  rw [← tail_eq hr a]
  unfold q42_J3_F q42_L2_F
  rcases addsAt l ((l.length:Int) - r.length) adr0 a with q | q
  · rfl
  · show (bif decide (q.2.2.2.2.2.2.1<(-999999999:Int)) then ((0,230,adr0):Int×Int×Adr) else bif decide ((999999999:Int)<q.2.2.2.2.2.2.1) then (0,230,adr0) else (q.1,0,q.2.2)) =
      ((bif decide (q.2.2.2.2.2.2.1<(-999999999:Int)) then ((adr0,0,230):Adr×Int×Int) else bif decide ((999999999:Int)<q.2.2.2.2.2.2.1) then (adr0,0,230) else (q.2.2,q.1,0)).2.1,(bif decide (q.2.2.2.2.2.2.1<(-999999999:Int)) then ((adr0,0,230):Adr×Int×Int) else bif decide ((999999999:Int)<q.2.2.2.2.2.2.1) then (adr0,0,230) else (q.2.2,q.1,0)).2.2,(bif decide (q.2.2.2.2.2.2.1<(-999999999:Int)) then ((adr0,0,230):Adr×Int×Int) else bif decide ((999999999:Int)<q.2.2.2.2.2.2.1) then (adr0,0,230) else (q.2.2,q.1,0)).1)
    cases decide (q.2.2.2.2.2.2.1<(-999999999:Int)) <;> cases decide ((999999999:Int)<q.2.2.2.2.2.2.1) <;> rfl
theorem ndg {α:Sort _} {c:Int} (h:isDg c=false) (X Y:α):(bif decide ((48:Int)≤c) then (bif decide (c≤(57:Int)) then X else Y) else Y)=Y:=by
  unfold isDg at h
  have h:=of_decide_eq_false h
  by_cases h1:48≤c
  · rw [decide_eq_true h1,decide_eq_false (by omega)]; rfl
  · rw [decide_eq_false h1]; rfl
theorem ref23_eq (l:LI) (hl:l.length≤lim):q42_P l∧q42_F l=adR l (adM l):=by
  have hlim:lim=1099511627776:=rfl
  -- behind a base
  have go:∀ (r:LI) (a:Adr) (n:Int),r <:+ l→n=(l.length:Int) - r.length→q42_J3_P l n adr0 a∧((q42_J3_F l n adr0 a).2.2,(q42_J3_F l n adr0 a).1,(q42_J3_F l n adr0 a).2.1)=adR l (adF r a):=by
    intro r a n hr hn
    subst hn
    have:=suf_len hr
    exact ⟨show 0≤(l.length:Int) - r.length∧(l.length:Int) - r.length≤l.length∧_ from ⟨by omega,by omega,hl⟩,by rw [j3_eq hr a]⟩
  cases l with
  | nil=>
    have:=go [] adr0 0 (List.suffix_refl _) rfl
    exact ⟨this.1,this.2⟩
  | cons c r=>
    have e0:rd (0:Int) (c::r) 0=c:=rfl
    have hn:decide (0<((c::r).length:Int))=true:=decide_eq_true (by simp only [List.length_cons]; omega)
    have hd:List.drop (Int.toNat (1:Int)) (c::r)=r:=rfl
    have hl2:r.length+1≤lim:=hl
    have hr0:(0:Int)≤0∧(0:Int)<((c::r).length:Int):=by simp only [List.length_cons]; omega
    have hr1:(0:Int)≤1∧(1:Int)≤((c::r).length:Int):=by simp only [List.length_cons]; omega
    have hdl:=dgs_le (c::r)
    have hnp:q34_P (c::r):=⟨rfl,rfl,hl⟩
    have g1:=go r (c,0,0,[],0,true) 1 (List.suffix_cons _ _) (by simp only [List.length_cons]; omega)
    have g0:=go (c::r) adr0 0 (List.suffix_refl _) (by omega)
    unfold q42_P q42_F
    rw [hn]
    simp only [e0,cond_true,hd,q34_eq,whole_eq,adM,bsM_cons]
    by_cases cd:isDg c=true
    · have hd1:=isDg_of cd
      rw [decide_eq_true hd1.1,decide_eq_true hd1.2,if_pos cd]
      simp only [cond_true]
      have g:=go ((c::r).drop (dgs (c::r))) (110,dv (c::r),0,[],0,true) (dgs (c::r):Int) (List.drop_suffix _ _) (by rw [List.length_drop]; omega)
      by_cases h9:dgs (c::r)≤9
      · rw [if_pos h9,decide_eq_true h9]
        exact ⟨⟨hr0,hnp,g.1⟩,g.2⟩
      · rw [if_neg h9,decide_eq_false h9]
        exact ⟨⟨hr0,hnp,trivial⟩,rfl⟩
    · have cd:isDg c=false:=by simpa using cd
      rw [ndg cd,ndg cd,if_neg (by rw [cd]; simp)]
      by_cases c2:c=46
      · subst c2
        exact ⟨⟨hr0,g1.1⟩,g1.2⟩
      by_cases c3:c=36
      · subst c3
        exact ⟨⟨hr0,g1.1⟩,g1.2⟩
      rw [if_neg (show ¬ (c=46∨c=36) by simp [c2,c3]),decide_eq_false c2,decide_eq_false c3]
      by_cases c4:c=39
      · subst c4
        rw [if_pos rfl]
        cases r with
        | nil=>exact ⟨⟨hr0,trivial⟩,rfl⟩
        | cons n r2=>
          have hq:decide ((((39:Int)::n::r2).length:Int)=1)=false:=decide_eq_false (by simp only [List.length_cons]; omega)
          have g:=go r2 (39,0,n,[],0,true) 2 ((List.suffix_cons _ _).trans (List.suffix_cons _ _)) (by simp only [List.length_cons]; omega)
          rw [hq]
          exact ⟨⟨hr0,show (0:Int)≤1∧(1:Int)<(((39:Int)::n::r2).length:Int) from by simp only [List.length_cons]; omega,g.1⟩,g.2⟩
      rw [if_neg c4,decide_eq_false c4]
      -- what is sought
      have so:c≠92→(((0:Int)≤1∧(1:Int)≤((c::r).length:Int))∧(q35_P r c∧(q41_P (q35_F r c).1 c∧(bif !(who (q35_F r c).1 c) then True else q42_J3_P (c::r) (IntKind.wrap .i64 (1+(q35_F r c).2)) adr0 (c,0,0,(q35_F r c).1,0,true)))))∧
          (bif !(who (q35_F r c).1 c) then ((adr0,0,230):Adr×Int×Int) else ((q42_J3_F (c::r) (IntKind.wrap .i64 (1+(q35_F r c).2)) adr0 (c,0,0,(q35_F r c).1,0,true)).2.2,(q42_J3_F (c::r) (IntKind.wrap .i64 (1+(q35_F r c).2)) adr0 (c,0,0,(q35_F r c).1,0,true)).1,(q42_J3_F (c::r) (IntKind.wrap .i64 (1+(q35_F r c).2)) adr0 (c,0,0,(q35_F r c).1,0,true)).2.1)) =
          adR (c::r) (match (if clo r c=r.length∧alo r=true then .inr 230 else .inl ((c,0,0,r.take (clo r c),0,true),r.drop (clo r c+1)):Rd Adr) with | .inr e=>.inr e | .inl (a,r)=>adF r a):=by
        intro hc
        obtain ⟨sp,sf⟩:=sought_eq r c (by omega)
        rw [sou_clo hc] at sf
        have hw:=who_take hc r
        have hcl:=clo_le r c
        have g:=go (r.drop (clo r c+1)) (c,0,0,r.take (clo r c),0,true) (1+((r.length:Int) - ((r.drop (clo r c+1)).length:Int))) ((List.drop_suffix _ _).trans (List.suffix_cons _ _)) (by simp only [List.length_cons]; omega)
        rw [sf]
        dsimp only
        rw [hw]
        have hwp:q41_P (r.take (clo r c)) c:=⟨rfl,by rw [List.length_take]; omega⟩
        rw [wrap_i64 (by rw [List.length_drop]; omega) (by rw [List.length_drop]; omega)]
        by_cases h1:clo r c=r.length∧alo r=true
        · rw [if_pos h1,decide_eq_true h1.1,h1.2]
          exact ⟨⟨hr1,sp,hwp,trivial⟩,rfl⟩
        · rw [if_neg h1]
          have:(decide (clo r c=r.length) && alo r)=false:=by
            cases h2:alo r
            · simp
            · simp only [Bool.and_true]; exact decide_eq_false (fun h=>h1 ⟨h,h2⟩)
          rw [this]
          exact ⟨⟨hr1,sp,hwp,g.1⟩,g.2⟩
      by_cases c5:c=47
      · subst c5
        rw [if_pos (show ((47:Int)=47∨(47:Int)=63) from .inl rfl)]
        have:=so (by decide)
        exact ⟨⟨hr0,this.1⟩,this.2⟩
      by_cases c6:c=63
      · subst c6
        rw [if_pos (show ((63:Int)=47∨(63:Int)=63) from .inr rfl)]
        have:=so (by decide)
        exact ⟨⟨hr0,this.1⟩,this.2⟩
      rw [if_neg (show ¬ (c=47∨c=63) by simp [c5,c6]),decide_eq_false c5,decide_eq_false c6]
      exact ⟨⟨hr0,g0.1⟩,g0.2⟩
end Go.VE
namespace Go.VE
set_option maxRecDepth 20000
open Go Go.Proofs
def q22_G:List (Nat×App):=[]
theorem q22_Gok:GOk Tryz.prog (getG q22_G):=GOk.nil
def q22_raw (rv0:(LI×Int)) (K:Res→List Cell→Prop):Prop:=
 K (.one (.v .bool (decide ((List.length rv0.1:Int)≤rv0.2)))) [⟨.st (.pair yB yI),rv0⟩]
def q22_A:List AS:=[.r none (.st (.pair yB yI))]

def q22_F (rv0:(LI×Int)):Bool:=
 (decide ((List.length rv0.1:Int)≤rv0.2))
theorem q22_sp (rv0:(LI×Int)) (K:Res→List Cell→Prop) (_:wfA q22_A (rv0,())) (h:∀ r:Bool,r=q22_F rv0→K (.one (.v .bool r)) [⟨.st (.pair yB yI),rv0⟩]):q22_raw rv0 K:=
 h _ rfl
def q22_C (v:valsA q22_A) (K:Res→List Cell→Prop):Prop:=∀ r:Bool,r=q22_F v.1→K (.one (.v .bool r)) [⟨.st (.pair yB yI),v.1⟩]
def q22_S:App:=specW q22_A q22_C
theorem q22_wv (K:Res→List Cell→Prop):∀ v:valsA q22_A,runF tb (getG q22_G) [] Tryz.f41 [true] (mkA q22_A v) K=q22_raw v.1 K
  | (rv0,())=>by kernel_rfl
theorem q22_ok:AppOk Tryz.prog 41 q22_S:=
  AppOk.specW (spec_ok ((runF_ok tb_M tb_ok q22_Gok (LabsOk.nil) (f:=41) (fn:=Tryz.f41) (by kernel_rfl) (by kernel_rfl) (by kernel_rfl) [true])) fun v K hw h=>(q22_wv K v).mpr (q22_sp v.1 K hw h))

def q19_G:List (Nat×App):=[(41,q22_S)]
theorem q19_Gok:GOk Tryz.prog (getG q19_G):=GOk.cons q22_ok (GOk.nil)
theorem q19_st:storesC (bodyOf Tryz.f39)=true:=by kernel_rfl
def q19_d0:List LS:=[.b 0 7 [],.c 7 (.st (.pair yB yI))]
def q19_d0x0:List LS:=[.c 7 (.st (.pair yB yI))]
def q19_dx0:DX:=⟨none,none,[(0,q19_d0x0)]⟩
def q19_y0x0 (k:Ex→St→Prop) (rv0b:(LI×Int)):Prop:=wfD q19_d0x0 (rv0b,())→k (.exit 0) (mkD 38 q19_d0x0 (rv0b,()))
def q19_T0 (Y:(LI×Int)→Prop) (kx0:(LI×Int)→Prop) (rv0b:(LI×Int)):Prop:=
 ∀ (r1:Bool),r1=q22_F rv0b→(
 wB r1→(
 bif (!r1) then
 (
 bif decide (0≤rv0b.2∧rv0b.2<(List.length rv0b.1:Int)) then
 bif (decide ((rd (0:Int) rv0b.1 rv0b.2)=(32:Int))) then
 Y (rv0b.1,(IntKind.wrap .i64 (rv0b.2+(1:Int))))
 else
 (
 bif decide (0≤rv0b.2∧rv0b.2<(List.length rv0b.1:Int)) then
 bif (decide ((rd (0:Int) rv0b.1 rv0b.2)=(9:Int))) then
 Y (rv0b.1,(IntKind.wrap .i64 (rv0b.2+(1:Int))))
 else
 kx0 rv0b
 else False)∧(
 bif decide (0≤rv0b.2∧rv0b.2<(List.length rv0b.1:Int)) then
 bif (decide ((rd (0:Int) rv0b.1 rv0b.2)=(9:Int))) then
 Y (rv0b.1,(IntKind.wrap .i64 (rv0b.2+(1:Int))))
 else
 kx0 rv0b
 else False)∧True
 else False)∧(
 bif decide (0≤rv0b.2∧rv0b.2<(List.length rv0b.1:Int)) then
 bif (decide ((rd (0:Int) rv0b.1 rv0b.2)=(32:Int))) then
 Y (rv0b.1,(IntKind.wrap .i64 (rv0b.2+(1:Int))))
 else
 (
 bif decide (0≤rv0b.2∧rv0b.2<(List.length rv0b.1:Int)) then
 bif (decide ((rd (0:Int) rv0b.1 rv0b.2)=(9:Int))) then
 Y (rv0b.1,(IntKind.wrap .i64 (rv0b.2+(1:Int))))
 else
 kx0 rv0b
 else False)∧(
 bif decide (0≤rv0b.2∧rv0b.2<(List.length rv0b.1:Int)) then
 bif (decide ((rd (0:Int) rv0b.1 rv0b.2)=(9:Int))) then
 Y (rv0b.1,(IntKind.wrap .i64 (rv0b.2+(1:Int))))
 else
 kx0 rv0b
 else False)∧True
 else False)∧True
 else
 kx0 rv0b))
def q19_L0 (kx0:(LI×Int)→Prop):Nat→(LI×Int)→Prop
  | 0,_=>False
  | n+1,rv0b=>wfD q19_d0 (rv0b,())→q19_T0 (q19_L0 kx0 n) kx0 rv0b
def q19_c0:Pce:=ex tb (getG q19_G) [] (at' (bodyOf Tryz.f39) [0,0]) [0,0]
def q19_g0 (k:Ex→St→Prop) (n:Nat) (v:vals q19_d0):Prop:=q19_L0 (q19_y0x0 k) n v.1
theorem q19_s0 (k:Ex→St→Prop) (Y:vals q19_d0→Prop):∀ v:vals q19_d0,q19_c0 (mkD 38 q19_d0 v) (lpK 38 q19_d0 q19_dx0 k Y)=q19_T0 (fun rv0b=>Y (rv0b,())) (q19_y0x0 k) v.1
  | (rv0b,())=>by kernel_rfl
theorem q19_v0 (k:Ex→St→Prop):∀ (n:Nat) (v:vals q19_d0),lpD 38 q19_d0 q19_dx0 q19_c0 k n v=q19_g0 k n v
  | 0,(rv0b,())=>rfl
  | n+1,(rv0b,())=>congrArg (fun Z:Prop=>wfD q19_d0 (rv0b,())→Z) ((q19_s0 k _ (rv0b,())).trans (congrArg (fun Y=>q19_T0 Y (q19_y0x0 k) rv0b) (funext fun rv0b=>q19_v0 k n (rv0b,()))))
def q19_X0:Pce:=fun st k=>ckD 38 q19_d0 st fun v=>wfD q19_d0 v→∃ n,q19_g0 k n v
theorem q19_x0:SemOk Tryz.prog (at' (bodyOf Tryz.f39) [0]) q19_X0:=
  (SemOk.loop (ex_sound tb_M tb_ok q19_Gok (LabsOk.nil) (at' (bodyOf Tryz.f39) [0,0]) [0,0] rfl (storesC_at q19_st [0,0])) 38 q19_d0 q19_dx0).mono fun st k h=>ckD_mono h fun v hv hw=>(hv hw).elim fun n hn=>⟨n,Eq.mpr (q19_v0 k n v) hn⟩
def q19_B0:Labs:=([0],q19_X0)::[]
theorem q19_b0:LabsOk Tryz.prog (bodyOf Tryz.f39) q19_B0:=LabsOk.cons q19_x0 (LabsOk.nil)
def q19_raw (rv0:(LI×Int)) (K:Res→List Cell→Prop):Prop:=
 (wfD q19_d0 (rv0,())→∃ n,q19_L0 (fun (rv0b:(LI×Int))=>wfD q19_d0x0 (rv0b,())→(
 K (.tup []) [⟨.st (.pair yB yI),rv0b⟩])) n rv0)
def q19_A:List AS:=[.r none (.st (.pair yB yI))]
def q19_P (rv:LI×Int):Prop:=0≤rv.2∧rv.2≤rv.1.length
def q19_F (rv:LI×Int):LI×Int:=(rv.1,rv.2+(bls (rv.1.drop rv.2.toNat):Int))
theorem q19_l0 (kx0:LI×Int→Prop) (s:LI) (hs:s.length≤9223372036854775807):∀ (n i:Nat),s.length<n+i→i≤s.length→kx0 (s,((i+bls (s.drop i):Nat):Int))→q19_L0 kx0 n (s,(i:Int))
  | 0,i,hn,hi,h=>absurd hn (by omega)
  | n+1,i,hn,hi,h=>by
    intro _
    unfold q19_T0
    intro r hr _
    subst r
    unfold q22_F
    refine brb (fun he=>?_) (fun he=>?_)
    · have hlt:i<s.length:=by simpa using he
      have hi':i<s.length:=by omega
      have hw:IntKind.wrap .i64 ((i:Int)+1)=((i+1:Nat):Int):=by rw [wrap_i64 (by omega) (by omega)]; omega
      dsimp only
      rw [rd_drop hi',hw]
      rw [dropc hi',bls_cons] at h
      have go:(s[i]=32∨s[i]=9)→q19_L0 kx0 n (s,((i+1:Nat):Int)):=fun hb=>by
        rw [if_pos hb] at h
        exact q19_l0 kx0 s hs n (i+1) (by omega) (by omega) (by rw [show i+1+bls (s.drop (i+1))=i+(bls (s.drop (i+1))+1) by omega]; exact h)
      have one:∀ {A:Prop},A→((bif decide (s[i]=9) then q19_L0 kx0 n (s,((i+1:Nat):Int)) else kx0 (s,(i:Int)))→A)→A:=fun a _=>a
      have in2:¬ s[i]=32→(bif decide (0≤(i:Int)∧(i:Int)<(s.length:Int)) then (bif decide (s[i]=9) then q19_L0 kx0 n (s,((i+1:Nat):Int)) else kx0 (s,(i:Int))) else False):=fun h32=>
        asrt (by omega) (brn (fun h9=>go (.inr h9)) (fun h9=>by rw [if_neg (fun hb=>hb.elim h32 h9)] at h; exact h))
      have in1:(bif decide (0≤(i:Int)∧(i:Int)<(s.length:Int)) then (bif decide (s[i]=32) then q19_L0 kx0 n (s,((i+1:Nat):Int)) else
          ((bif decide (0≤(i:Int)∧(i:Int)<(s.length:Int)) then (bif decide (s[i]=9) then q19_L0 kx0 n (s,((i+1:Nat):Int)) else kx0 (s,(i:Int))) else False)∧(bif decide (0≤(i:Int)∧(i:Int)<(s.length:Int)) then (bif decide (s[i]=9) then q19_L0 kx0 n (s,((i+1:Nat):Int)) else kx0 (s,(i:Int))) else False)∧True)) else False):=
        asrt (by omega) (brn (fun h32=>go (.inl h32)) (fun h32=>⟨in2 h32,in2 h32,trivial⟩))
      exact ⟨in1,in1,trivial⟩
    · have hge:s.length≤i:=by simpa using he
      rw [List.drop_eq_nil_of_le (by omega)] at h; exact h
theorem q19_sp (rv0:LI×Int) (K:Res→List Cell→Prop) (hw:wfA q19_A (rv0,())) (hp:q19_P rv0) (h:∀ r:LI×Int,r=q19_F rv0→K (.tup []) [⟨.st (.pair yB yI),r⟩]):q19_raw rv0 K:=by
  obtain ⟨s,a⟩:=rv0
  have hs:s.length≤9223372036854775807:=hw.1.1.1
  obtain ⟨h1,h2⟩:=hp
  obtain ⟨i,rfl⟩:=Int.eq_ofNat_of_zero_le (show 0≤a from h1)
  intro _
  exact ⟨s.length+1,q19_l0 _ s hs _ i (by omega) (by have:(i:Int)≤s.length:=h2; omega) (fun _=>h _ (by unfold q19_F; dsimp only; rw [Int.toNat_natCast]; congr 1))⟩

def q19_C (v:valsA q19_A) (K:Res→List Cell→Prop):Prop:=q19_P v.1∧∀ r:(LI×Int),r=q19_F v.1→K (.tup []) [⟨.st (.pair yB yI),r⟩]
def q19_S:App:=specW q19_A q19_C
theorem q19_wv (K:Res→List Cell→Prop):∀ v:valsA q19_A,runF tb (getG q19_G) q19_B0 Tryz.f39 [] (mkA q19_A v) K=q19_raw v.1 K
  | (rv0,())=>by kernel_rfl
theorem q19_ok:AppOk Tryz.prog 39 q19_S:=
  AppOk.specW (spec_ok ((runF_ok tb_M tb_ok q19_Gok (q19_b0) (f:=39) (fn:=Tryz.f39) (by kernel_rfl) (by kernel_rfl) q19_st [])) fun v K hw h=>(q19_wv K v).mpr (q19_sp v.1 K hw h.1 h.2))

def q23_G:List (Nat×App):=[(41,q22_S)]
theorem q23_Gok:GOk Tryz.prog (getG q23_G):=GOk.cons q22_ok (GOk.nil)
def q23_raw (rv0:(LI×Int)) (b1:Int) (K:Res→List Cell→Prop):Prop:=
 ∀ (r1:Bool),r1=q22_F rv0→(
 wB r1→(
 bif r1 then
 K (.one (.v .bool false)) [⟨.st (.pair yB yI),rv0⟩]
 else
 (
 bif decide (0≤rv0.2∧rv0.2<(List.length rv0.1:Int)) then
 bif (!decide ((rd (0:Int) rv0.1 rv0.2)=b1)) then
 K (.one (.v .bool false)) [⟨.st (.pair yB yI),rv0⟩]
 else
 K (.one (.v .bool true)) [⟨.st (.pair yB yI),(rv0.1,(IntKind.wrap .i64 (rv0.2+(1:Int))))⟩]
 else False)∧(
 bif decide (0≤rv0.2∧rv0.2<(List.length rv0.1:Int)) then
 bif (!decide ((rd (0:Int) rv0.1 rv0.2)=b1)) then
 K (.one (.v .bool false)) [⟨.st (.pair yB yI),rv0⟩]
 else
 K (.one (.v .bool true)) [⟨.st (.pair yB yI),(rv0.1,(IntKind.wrap .i64 (rv0.2+(1:Int))))⟩]
 else False)∧True))
def q23_A:List AS:=[.r none (.st (.pair yB yI)),.v yU]

def q23_P (rv0:(LI×Int)) (b1:Int):Prop:=
 let r1:Bool:=q22_F rv0
 bif r1 then
 True
 else
 (0≤rv0.2∧rv0.2<(List.length rv0.1:Int))
def q23_F (rv0:(LI×Int)) (b1:Int):Bool×(LI×Int):=
 let r1:Bool:=q22_F rv0
 bif r1 then
 (false,rv0)
 else
 bif (!decide ((rd (0:Int) rv0.1 rv0.2)=b1)) then
 (false,rv0)
 else
 (true,(rv0.1,(IntKind.wrap .i64 (rv0.2+(1:Int)))))
theorem q23_sp (rv0:(LI×Int)) (b1:Int) (K:Res→List Cell→Prop) (_:wfA q23_A (rv0,b1,())) (hp:q23_P rv0 b1) (h:∀ r:Bool×(LI×Int),r=q23_F rv0 b1→K (.one (.v .bool r.1)) [⟨.st (.pair yB yI),r.2⟩]):q23_raw rv0 b1 K:=
 al (br1 hp h (fun _ hp h=>h _ rfl)
 fun _ hp h=>⟨as0 hp (br0 h (fun _ h=>h _ rfl)
 fun _ h=>h _ rfl),
 as0 hp (br0 h (fun _ h=>h _ rfl)
 fun _ h=>h _ rfl),trivial⟩)
def q23_C (v:valsA q23_A) (K:Res→List Cell→Prop):Prop:=q23_P v.1 v.2.1∧∀ r:Bool×(LI×Int),r=q23_F v.1 v.2.1→K (.one (.v .bool r.1)) [⟨.st (.pair yB yI),r.2⟩]
def q23_S:App:=specW q23_A q23_C
theorem q23_wv (K:Res→List Cell→Prop):∀ v:valsA q23_A,runF tb (getG q23_G) [] Tryz.f81 [true] (mkA q23_A v) K=q23_raw v.1 v.2.1 K
  | (rv0,b1,())=>by kernel_rfl
theorem q23_ok:AppOk Tryz.prog 81 q23_S:=
  AppOk.specW (spec_ok ((runF_ok tb_M tb_ok q23_Gok (LabsOk.nil) (f:=81) (fn:=Tryz.f81) (by kernel_rfl) (by kernel_rfl) (by kernel_rfl) [true])) fun v K hw h=>(q23_wv K v).mpr (q23_sp v.1 v.2.1 K hw h.1 h.2))
theorem exTakes (s:LI) (i:Nat) (b:Int) (h:i≤s.length) (hs:s.length≤lim):q23_P (s,(i:Int)) b∧
    q23_F (s,(i:Int)) b=(match s.drop i with | []=>(false,(s,(i:Int))) | c::_=>if c=b then (true,(s,((i+1:Nat):Int))) else (false,(s,(i:Int)))):=by
  unfold q23_P q23_F q22_F
  dsimp only
  rcases Nat.lt_or_ge i s.length with hi | hi
  · have e:decide ((s.length:Int)≤(i:Int))=false:=by simpa using hi
    rw [e]
    refine ⟨⟨by omega,by omega⟩,?_⟩
    rw [cond_false,rd_nat _ _ _ hi,List.drop_eq_getElem_cons hi,wrap_i64 (by omega) (by unfold lim at hs; omega),show (i:Int)+1=((i+1:Nat):Int) by omega]
    by_cases hb:s[i]=b <;> simp [hb]
  · have e:decide ((s.length:Int)≤(i:Int))=true:=by simpa using hi
    rw [e,List.drop_eq_nil_of_le hi]
    exact ⟨trivial,rfl⟩

end Go.VE
