import Derived.Test.YtogkdhgjefiipaaGreatDoorEB12
import Derived.WalkSmall
set_option linter.unusedVariables false
set_option linter.unusedSectionVars false
set_option linter.unusedSimpArgs false
namespace Go.VE
open Go Go.Proofs
def q72_A:List AS:=[.v yI]
def q72_F (n:Int):Unit⊕Int:=.inr n
def q72_C (v:valsA q72_A) (K:Res→List Cell→Prop):Prop:=(∀ r:Unit,q72_F v.1=.inl r→K (.tup []) [])∧∀ n:Int,q72_F v.1=.inr n→K (.pan n) []
def q72_S:App:=specW q72_A q72_C
set_option maxRecDepth 100000 in
theorem q72_run (n:Int) (w:World):Calls Tryz.prog 43 #[.int .i64 n] w fun e w'=>e=.panicked [{ v:=Glob.pan n,recovered:=false }]∧w'=w:=by
  have hb:∀ w,(Instr.build 85 #[(0,Value.int IntKind.i64 n)]).run Tryz.prog w=.ok (.agg #[.int .i64 n]) w:=fun w=>by kernel_rfl
  have hi:∀ w,(Instr.makeInterface 85 (.agg #[.int .i64 n])).run Tryz.prog w=.ok (.iface 85 (.agg #[.int .i64 n])) w:=fun w=>by kernel_rfl
  refine calls_of_wp (c:=(Tryz.f43.body.getD .skip)) Tryz.func43 rfl ?_
  show (Code.region 0 _ false).wp _ _ _ _
  refine wp_region ?_
  have e:List.range.loop 4 []=[0,1,2,3]:=rfl
  simp [wpOps,List.range,e,Oper.wp,Region.wanted,execOp,go_sem,hb,hi,run_panic_iface,Oper.upon,Act.eval,Act.put,bodyPost,Tryz.ntmps43,Glob.pan]
theorem q72_spec (n:Int) {Ok:Res→List Cell→Prop} (hK:Ok (.pan n) []):CallSpec Tryz.prog 43 (mkA q72_A (n,())) Ok:=by
  intro I w vs bs hI hg ha
  have hlen:=ha.length
  obtain ⟨nv,rfl⟩:∃ a,vs=[a]:=by
    match vs,hlen with
    | [a],_=>exact ⟨a,rfl⟩
  obtain ⟨h1,h2⟩:=ha
  obtain ⟨_,rfl⟩:=RepV.int_eq h1
  refine Calls.mono (q72_run n w) ?_
  rintro e w' ⟨rfl,rfl⟩
  exact .inr ⟨n,rfl,hK,Since.refl _ _⟩
theorem q72_ok:AppOk Tryz.prog 43 q72_S:=by
  refine AppOk.specW fun ags K hs=>?_
  obtain ⟨v,rfl,_,hK⟩:=rdA_of _ ags _ hs
  obtain ⟨n,⟨⟩⟩:=v
  exact .inl ⟨enters_of Tryz.func43 (by kernel_rfl),q72_spec n (hK n rfl)⟩

end Go.VE
namespace Go.VE
set_option maxRecDepth 20000
open Go Go.Proofs
def q15_G:List (Nat×App):=[(135,q56_S),(43,q72_S)]
theorem q15_Gok:GOk Tryz.prog (getG q15_G):=GOk.cons q56_ok (GOk.cons q72_ok (GOk.nil))
def q15_raw (rv0:(LI×Int)) (K:Res→List Cell→Prop):Prop:=
 bif decide (0≤rv0.2∧rv0.2≤(List.length rv0.1:Int)) then
 (
 q56_P (List.drop (Int.toNat rv0.2) rv0.1)∧(
 ∀ (r1:tAd×Int×Int),r1=q56_F (List.drop (Int.toNat rv0.2) rv0.1)→(
 wfR (.tup [.v tyA r1.1,.v yI r1.2.1,.v yI r1.2.2])→(
 bif (!decide (r1.2.2=(0:Int))) then
 (∀ (r2:Unit),q72_F r1.2.2=.inl r2→(
 wfR (.tup [])→(
 K (.one (.v tyA r1.1)) [⟨.st (.pair yB yI),(rv0.1,(IntKind.wrap .i64 (rv0.2+r1.2.1)))⟩])))∧(∀ (np3:Int),q72_F r1.2.2=.inr np3→(wfR (.pan np3)→(
 K (.pan np3) [])))
 else
 K (.one (.v tyA r1.1)) [⟨.st (.pair yB yI),(rv0.1,(IntKind.wrap .i64 (rv0.2+r1.2.1)))⟩]))))∧(
 q56_P (List.drop (Int.toNat rv0.2) rv0.1)∧(
 ∀ (r4:tAd×Int×Int),r4=q56_F (List.drop (Int.toNat rv0.2) rv0.1)→(
 wfR (.tup [.v tyA r4.1,.v yI r4.2.1,.v yI r4.2.2])→(
 bif (!decide (r4.2.2=(0:Int))) then
 (∀ (r5:Unit),q72_F r4.2.2=.inl r5→(
 wfR (.tup [])→(
 K (.one (.v tyA r4.1)) [⟨.st (.pair yB yI),(rv0.1,(IntKind.wrap .i64 (rv0.2+r4.2.1)))⟩])))∧(∀ (np6:Int),q72_F r4.2.2=.inr np6→(wfR (.pan np6)→(
 K (.pan np6) [])))
 else
 K (.one (.v tyA r4.1)) [⟨.st (.pair yB yI),(rv0.1,(IntKind.wrap .i64 (rv0.2+r4.2.1)))⟩]))))∧True
 else False
def q15_A:List AS:=[.r none (.st (.pair yB yI))]

def q15_P (rv0:(LI×Int)):Prop:=
 (0≤rv0.2∧rv0.2≤(List.length rv0.1:Int))∧(
 q56_P (List.drop (Int.toNat rv0.2) rv0.1))
def q15_F (rv0:(LI×Int)):(tAd×(LI×Int))⊕Int:=
 let r1:tAd×Int×Int:=q56_F (List.drop (Int.toNat rv0.2) rv0.1)
 bif (!decide (r1.2.2=(0:Int))) then
 Sum.elim (fun r2=>
 .inl ((r1.1,(rv0.1,(IntKind.wrap .i64 (rv0.2+r1.2.1)))))) (fun np3=>
 .inr np3) (q72_F r1.2.2)
 else
 .inl ((r1.1,(rv0.1,(IntKind.wrap .i64 (rv0.2+r1.2.1)))))
theorem q15_sp (rv0:(LI×Int)) (K:Res→List Cell→Prop) (_:wfA q15_A (rv0,())) (hp:q15_P rv0) (h:∀ r:tAd×(LI×Int),q15_F rv0=.inl r→K (.one (.v tyA r.1)) [⟨.st (.pair yB yI),r.2⟩]) (hqp:∀ n:Int,q15_F rv0=.inr n→K (.pan n) []):q15_raw rv0 K:=
 have h:=hc2 h hqp; as1 hp fun hp=>⟨⟨hp,al (br0 h (fun _ h=>ae0 h (fun _ h=>h _ rfl)
 fun _ h=>h _ rfl)
 fun _ h=>h _ rfl)⟩,
 ⟨hp,al (br0 h (fun _ h=>ae0 h (fun _ h=>h _ rfl)
 fun _ h=>h _ rfl)
 fun _ h=>h _ rfl)⟩,trivial⟩
def q15_C (v:valsA q15_A) (K:Res→List Cell→Prop):Prop:=q15_P v.1∧(∀ r:tAd×(LI×Int),q15_F v.1=.inl r→K (.one (.v tyA r.1)) [⟨.st (.pair yB yI),r.2⟩])∧∀ n:Int,q15_F v.1=.inr n→K (.pan n) []
def q15_S:App:=specW q15_A q15_C
theorem q15_wv (K:Res→List Cell→Prop):∀ v:valsA q15_A,runF tb (getG q15_G) [] Tryz.f82 [true] (mkA q15_A v) K=q15_raw v.1 K
  | (rv0,())=>by kernel_rfl
theorem q15_ok:AppOk Tryz.prog 82 q15_S:=
  AppOk.specW (spec_ok ((runF_ok tb_M tb_ok q15_Gok (LabsOk.nil) (f:=82) (fn:=Tryz.f82) (by kernel_rfl) (by kernel_rfl) (by kernel_rfl) [true])) fun v K hw h=>(q15_wv K v).mpr (q15_sp v.1 K hw h.1 h.2.1 h.2.2))

def q73_G:List (Nat×App):=[]
theorem q73_Gok:GOk Tryz.prog (getG q73_G):=GOk.nil
def q73_raw (a0:tAd) (K:Res→List Cell→Prop):Prop:=
 bif a0.2.2.2.2.2 then
 K (.one (.v tyA a0)) []
 else
 K (.one (.v tyA ((46:Int),(0:Int),(0:Int),([]:LI),(0:Int),true))) []
def q73_A:List AS:=[.v tyA]

def q73_F (a0:tAd):tAd:=
 bif a0.2.2.2.2.2 then
 a0
 else
 ((46:Int),(0:Int),(0:Int),([]:LI),(0:Int),true)
theorem q73_sp (a0:tAd) (K:Res→List Cell→Prop) (_:wfA q73_A (a0,())) (h:∀ r:tAd,r=q73_F a0→K (.one (.v tyA r)) []):q73_raw a0 K:=
 br0 h (fun _ h=>h _ rfl)
 fun _ h=>h _ rfl
def q73_C (v:valsA q73_A) (K:Res→List Cell→Prop):Prop:=∀ r:tAd,r=q73_F v.1→K (.one (.v tyA r)) []
def q73_S:App:=specW q73_A q73_C
theorem q73_wv (K:Res→List Cell→Prop):∀ v:valsA q73_A,runF tb (getG q73_G) [] Tryz.f83 [true] (mkA q73_A v) K=q73_raw v.1 K
  | (a0,())=>by kernel_rfl
theorem q73_ok:AppOk Tryz.prog 83 q73_S:=
  AppOk.specW (spec_ok ((runF_ok tb_M tb_ok q73_Gok (LabsOk.nil) (f:=83) (fn:=Tryz.f83) (by kernel_rfl) (by kernel_rfl) (by kernel_rfl) [true])) fun v K hw h=>(q73_wv K v).mpr (q73_sp v.1 K hw h))

def q24_G:List (Nat×App):=[(81,q21_S),(82,q15_S),(39,q18_S),(83,q73_S)]
theorem q24_Gok:GOk Tryz.prog (getG q24_G):=GOk.cons q21_ok (GOk.cons q15_ok (GOk.cons q18_ok (GOk.cons q73_ok (GOk.nil))))
def q24_raw (rv0:(LI×Int)) (x1:tEx) (K:Res→List Cell→Prop):Prop:=
 q21_P rv0 (37:Int)∧(
 ∀ (r1:Bool×(LI×Int)),r1=q21_F rv0 (37:Int)→(
 wB r1.1→(
 bif r1.1 then
 K (.one (.v .bool true)) [⟨.st (.pair yB yI),r1.2⟩,⟨.st (.pair tyA (.pair tyA (.pair .bool (.pair .str (.pair tyA (.pair yU (.pair yI (.pair yB (.pair yB .bool))))))))),(x1.1,x1.2.1,true,x1.2.2.2.1,x1.2.2.2.2.1,x1.2.2.2.2.2.1,x1.2.2.2.2.2.2.1,x1.2.2.2.2.2.2.2.1,x1.2.2.2.2.2.2.2.2.1,x1.2.2.2.2.2.2.2.2.2)⟩]
 else
 q15_P r1.2∧(
 (∀ (r2:tAd×(LI×Int)),q15_F r1.2=.inl r2→(
 wfR (.one (.v tyA r2.1))→(
 q18_P r2.2∧(
 ∀ (r3:(LI×Int)),r3=q18_F r2.2→(
 wfR (.tup [])→(
 q21_P r3 (44:Int)∧(
 ∀ (r4:Bool×(LI×Int)),r4=q21_F r3 (44:Int)→(
 wB r4.1→(
 bif r4.1 then
 q18_P r4.2∧(
 ∀ (r5:(LI×Int)),r5=q18_F r4.2→(
 wfR (.tup [])→(
 ∀ (r6:tAd),r6=q73_F r2.1→(
 wfR (.one (.v tyA r6))→(
 q15_P r5∧(
 (∀ (r7:tAd×(LI×Int)),q15_F r5=.inl r7→(
 wfR (.one (.v tyA r7.1))→(
 ∀ (r8:tAd),r8=q73_F r7.1→(
 wfR (.one (.v tyA r8))→(
 K (.one (.v .bool true)) [⟨.st (.pair yB yI),r7.2⟩,⟨.st (.pair tyA (.pair tyA (.pair .bool (.pair .str (.pair tyA (.pair yU (.pair yI (.pair yB (.pair yB .bool))))))))),(r6,r8,x1.2.2.1,x1.2.2.2.1,x1.2.2.2.2.1,x1.2.2.2.2.2.1,x1.2.2.2.2.2.2.1,x1.2.2.2.2.2.2.2.1,x1.2.2.2.2.2.2.2.2.1,x1.2.2.2.2.2.2.2.2.2)⟩])))))∧(∀ (np9:Int),q15_F r5=.inr np9→(wfR (.pan np9)→(
 K (.pan np9) [])))))))))
 else
 K (.one (.v .bool r2.1.2.2.2.2.2)) [⟨.st (.pair yB yI),(r4.2.1,r2.2.2)⟩,⟨.st (.pair tyA (.pair tyA (.pair .bool (.pair .str (.pair tyA (.pair yU (.pair yI (.pair yB (.pair yB .bool))))))))),(r2.1,x1.2.1,x1.2.2.1,x1.2.2.2.1,x1.2.2.2.2.1,x1.2.2.2.2.2.1,x1.2.2.2.2.2.2.1,x1.2.2.2.2.2.2.2.1,x1.2.2.2.2.2.2.2.2.1,x1.2.2.2.2.2.2.2.2.2)⟩])))))))))∧(∀ (np10:Int),q15_F r1.2=.inr np10→(wfR (.pan np10)→(
 K (.pan np10) [])))))))
def q24_A:List AS:=[.r none (.st (.pair yB yI)),.r none tyX]

def q24_P (rv0:(LI×Int)) (x1:tEx):Prop:=
 q21_P rv0 (37:Int)∧(
 let r1:Bool×(LI×Int):=q21_F rv0 (37:Int)
 bif r1.1 then
 True
 else
 q15_P r1.2∧(
 Sum.elim (fun r2=>
 q18_P r2.2∧(
 let r3:(LI×Int):=q18_F r2.2
 q21_P r3 (44:Int)∧(
 let r4:Bool×(LI×Int):=q21_F r3 (44:Int)
 bif r4.1 then
 q18_P r4.2∧(
 let r5:(LI×Int):=q18_F r4.2
 let r6:tAd:=q73_F r2.1
 q15_P r5)
 else
 True))) (fun _=>True) (q15_F r1.2)))
def q24_F (rv0:(LI×Int)) (x1:tEx):(Bool×(LI×Int)×tEx)⊕Int:=
 let r1:Bool×(LI×Int):=q21_F rv0 (37:Int)
 bif r1.1 then
 .inl ((true,r1.2,(x1.1,x1.2.1,true,x1.2.2.2.1,x1.2.2.2.2.1,x1.2.2.2.2.2.1,x1.2.2.2.2.2.2.1,x1.2.2.2.2.2.2.2.1,x1.2.2.2.2.2.2.2.2.1,x1.2.2.2.2.2.2.2.2.2)))
 else
 Sum.elim (fun r2=>
 let r3:(LI×Int):=q18_F r2.2
 let r4:Bool×(LI×Int):=q21_F r3 (44:Int)
 bif r4.1 then
 let r5:(LI×Int):=q18_F r4.2
 let r6:tAd:=q73_F r2.1
 Sum.elim (fun r7=>
 let r8:tAd:=q73_F r7.1
 .inl ((true,r7.2,(r6,r8,x1.2.2.1,x1.2.2.2.1,x1.2.2.2.2.1,x1.2.2.2.2.2.1,x1.2.2.2.2.2.2.1,x1.2.2.2.2.2.2.2.1,x1.2.2.2.2.2.2.2.2.1,x1.2.2.2.2.2.2.2.2.2)))) (fun np9=>
 .inr np9) (q15_F r5)
 else
 .inl ((r2.1.2.2.2.2.2,(r4.2.1,r2.2.2),(r2.1,x1.2.1,x1.2.2.1,x1.2.2.2.1,x1.2.2.2.2.1,x1.2.2.2.2.2.1,x1.2.2.2.2.2.2.1,x1.2.2.2.2.2.2.2.1,x1.2.2.2.2.2.2.2.2.1,x1.2.2.2.2.2.2.2.2.2)))) (fun np10=>
 .inr np10) (q15_F r1.2)
theorem q24_sp (rv0:(LI×Int)) (x1:tEx) (K:Res→List Cell→Prop) (_:wfA q24_A (rv0,x1,())) (hp:q24_P rv0 x1) (h:∀ r:Bool×(LI×Int)×tEx,q24_F rv0 x1=.inl r→K (.one (.v .bool r.1)) [⟨.st (.pair yB yI),r.2.1⟩,⟨.st (.pair tyA (.pair tyA (.pair .bool (.pair .str (.pair tyA (.pair yU (.pair yI (.pair yB (.pair yB .bool))))))))),r.2.2⟩]) (hqp:∀ n:Int,q24_F rv0 x1=.inr n→K (.pan n) []):q24_raw rv0 x1 K:=
 have h:=hc2 h hqp; an1 hp fun hp=>al (br1 hp h (fun _ hp h=>h _ rfl)
 fun _ hp h=>an1 hp fun hp=>ae1 hp h (fun _ hp h=>an1 hp fun hp=>al (an1 hp fun hp=>al (br1 hp h (fun _ hp h=>an1 hp fun hp=>al (al (⟨hp,ae0 h (fun _ h=>al (h _ rfl))
 fun _ h=>h _ rfl⟩)))
 fun _ hp h=>h _ rfl)))
 fun _ h=>h _ rfl)
def q24_C (v:valsA q24_A) (K:Res→List Cell→Prop):Prop:=q24_P v.1 v.2.1∧(∀ r:Bool×(LI×Int)×tEx,q24_F v.1 v.2.1=.inl r→K (.one (.v .bool r.1)) [⟨.st (.pair yB yI),r.2.1⟩,⟨.st (.pair tyA (.pair tyA (.pair .bool (.pair .str (.pair tyA (.pair yU (.pair yI (.pair yB (.pair yB .bool))))))))),r.2.2⟩])∧∀ n:Int,q24_F v.1 v.2.1=.inr n→K (.pan n) []
def q24_S:App:=specW q24_A q24_C
theorem q24_wv (K:Res→List Cell→Prop):∀ v:valsA q24_A,runF tb (getG q24_G) [] Tryz.f40 [true] (mkA q24_A v) K=q24_raw v.1 v.2.1 K
  | (rv0,x1,())=>by kernel_rfl
theorem q24_ok:AppOk Tryz.prog 40 q24_S:=
  AppOk.specW (spec_ok ((runF_ok tb_M tb_ok q24_Gok (LabsOk.nil) (f:=40) (fn:=Tryz.f40) (by kernel_rfl) (by kernel_rfl) (by kernel_rfl) [true])) fun v K hw h=>(q24_wv K v).mpr (q24_sp v.1 v.2.1 K hw h.1 h.2.1 h.2.2))

def q25_G:List (Nat×App):=[(41,q20_S)]
theorem q25_Gok:GOk Tryz.prog (getG q25_G):=GOk.cons q20_ok (GOk.nil)
def q25_raw (rv0:(LI×Int)) (K:Res→List Cell→Prop):Prop:=
 ∀ (r1:Bool),r1=q20_F rv0→(
 wB r1→(
 bif r1 then
 K (.one (.v yU (0:Int))) [⟨.st (.pair yB yI),rv0⟩]
 else
 bif decide (0≤rv0.2∧rv0.2<(List.length rv0.1:Int)) then
 K (.one (.v yU (rd (0:Int) rv0.1 rv0.2))) [⟨.st (.pair yB yI),rv0⟩]
 else False))
def q25_A:List AS:=[.r none (.st (.pair yB yI))]

def q25_P (rv0:(LI×Int)):Prop:=
 let r1:Bool:=q20_F rv0
 bif r1 then
 True
 else
 (0≤rv0.2∧rv0.2<(List.length rv0.1:Int))
def q25_F (rv0:(LI×Int)):Int:=
 let r1:Bool:=q20_F rv0
 bif r1 then
 (0:Int)
 else
 (rd (0:Int) rv0.1 rv0.2)
theorem q25_sp (rv0:(LI×Int)) (K:Res→List Cell→Prop) (_:wfA q25_A (rv0,())) (hp:q25_P rv0) (h:∀ r:Int,r=q25_F rv0→K (.one (.v yU r)) [⟨.st (.pair yB yI),rv0⟩]):q25_raw rv0 K:=
 al (br1 hp h (fun _ hp h=>h _ rfl)
 fun _ hp h=>as0 hp (h _ rfl))
def q25_C (v:valsA q25_A) (K:Res→List Cell→Prop):Prop:=q25_P v.1∧∀ r:Int,r=q25_F v.1→K (.one (.v yU r)) [⟨.st (.pair yB yI),v.1⟩]
def q25_S:App:=specW q25_A q25_C
theorem q25_wv (K:Res→List Cell→Prop):∀ v:valsA q25_A,runF tb (getG q25_G) [] Tryz.f84 [true] (mkA q25_A v) K=q25_raw v.1 K
  | (rv0,())=>by kernel_rfl
theorem q25_ok:AppOk Tryz.prog 84 q25_S:=
  AppOk.specW (spec_ok ((runF_ok tb_M tb_ok q25_Gok (LabsOk.nil) (f:=84) (fn:=Tryz.f84) (by kernel_rfl) (by kernel_rfl) (by kernel_rfl) [true])) fun v K hw h=>(q25_wv K v).mpr (q25_sp v.1 K hw h.1 h.2))
theorem exNext (s:LI) (i:Nat) (h:i≤s.length):q25_P (s,(i:Int))∧q25_F (s,(i:Int))=(s.drop i).headD 0:=by
  unfold q25_P q25_F q20_F
  dsimp only
  rcases Nat.lt_or_ge i s.length with hi | hi
  · have e:decide ((s.length:Int)≤(i:Int))=false:=by simpa using hi
    rw [e]
    refine ⟨⟨by omega,by omega⟩,?_⟩
    rw [cond_false,rd_nat _ _ _ hi,List.drop_eq_getElem_cons hi]; rfl
  · have e:decide ((s.length:Int)≤(i:Int))=true:=by simpa using hi
    rw [e,List.drop_eq_nil_of_le hi]
    exact ⟨trivial,rfl⟩

def q85_G:List (Nat×App):=[]
theorem q85_Gok:GOk Tryz.prog (getG q85_G):=GOk.nil
def q85_raw (name0:Int) (K:Res→List Cell→Prop):Prop:=
 bif (decide (name0=(0:Int))) then
 K (.tup [.v yI (1:Int),.v yI (0:Int)]) []
 else
 bif (decide (name0=(34:Int))) then
 K (.tup [.v yI (1:Int),.v yI (0:Int)]) []
 else
 bif (decide (name0=(45:Int))) then
 K (.tup [.v yI (2:Int),.v yI (0:Int)]) []
 else
 bif (decide ((49:Int)≤name0)) then
 bif (decide (name0≤(57:Int))) then
 K (.tup [.v yI (3:Int),.v yI (IntKind.wrap .i64 (IntKind.wrap .u8 (name0 - (49:Int))))]) []
 else
 bif (decide ((97:Int)≤name0)) then
 bif (decide (name0≤(122:Int))) then
 K (.tup [.v yI (4:Int),.v yI (IntKind.wrap .i64 (IntKind.wrap .u8 (name0 - (97:Int))))]) []
 else
 bif (decide ((65:Int)≤name0)) then
 bif (decide (name0≤(90:Int))) then
 K (.tup [.v yI (5:Int),.v yI (IntKind.wrap .i64 (IntKind.wrap .u8 (name0 - (65:Int))))]) []
 else
 K (.tup [.v yI (0:Int),.v yI (0:Int)]) []
 else
 K (.tup [.v yI (0:Int),.v yI (0:Int)]) []
 else
 bif (decide ((65:Int)≤name0)) then
 bif (decide (name0≤(90:Int))) then
 K (.tup [.v yI (5:Int),.v yI (IntKind.wrap .i64 (IntKind.wrap .u8 (name0 - (65:Int))))]) []
 else
 K (.tup [.v yI (0:Int),.v yI (0:Int)]) []
 else
 K (.tup [.v yI (0:Int),.v yI (0:Int)]) []
 else
 bif (decide ((97:Int)≤name0)) then
 bif (decide (name0≤(122:Int))) then
 K (.tup [.v yI (4:Int),.v yI (IntKind.wrap .i64 (IntKind.wrap .u8 (name0 - (97:Int))))]) []
 else
 bif (decide ((65:Int)≤name0)) then
 bif (decide (name0≤(90:Int))) then
 K (.tup [.v yI (5:Int),.v yI (IntKind.wrap .i64 (IntKind.wrap .u8 (name0 - (65:Int))))]) []
 else
 K (.tup [.v yI (0:Int),.v yI (0:Int)]) []
 else
 K (.tup [.v yI (0:Int),.v yI (0:Int)]) []
 else
 bif (decide ((65:Int)≤name0)) then
 bif (decide (name0≤(90:Int))) then
 K (.tup [.v yI (5:Int),.v yI (IntKind.wrap .i64 (IntKind.wrap .u8 (name0 - (65:Int))))]) []
 else
 K (.tup [.v yI (0:Int),.v yI (0:Int)]) []
 else
 K (.tup [.v yI (0:Int),.v yI (0:Int)]) []
def q85_A:List AS:=[.v yU]

def q85_F (name0:Int):Int×Int:=
 bif (decide (name0=(0:Int))) then
 ((1:Int),(0:Int))
 else
 bif (decide (name0=(34:Int))) then
 ((1:Int),(0:Int))
 else
 bif (decide (name0=(45:Int))) then
 ((2:Int),(0:Int))
 else
 bif (decide ((49:Int)≤name0)) then
 bif (decide (name0≤(57:Int))) then
 ((3:Int),(IntKind.wrap .i64 (IntKind.wrap .u8 (name0 - (49:Int)))))
 else
 bif (decide ((97:Int)≤name0)) then
 bif (decide (name0≤(122:Int))) then
 ((4:Int),(IntKind.wrap .i64 (IntKind.wrap .u8 (name0 - (97:Int)))))
 else
 bif (decide ((65:Int)≤name0)) then
 bif (decide (name0≤(90:Int))) then
 ((5:Int),(IntKind.wrap .i64 (IntKind.wrap .u8 (name0 - (65:Int)))))
 else
 ((0:Int),(0:Int))
 else
 ((0:Int),(0:Int))
 else
 bif (decide ((65:Int)≤name0)) then
 bif (decide (name0≤(90:Int))) then
 ((5:Int),(IntKind.wrap .i64 (IntKind.wrap .u8 (name0 - (65:Int)))))
 else
 ((0:Int),(0:Int))
 else
 ((0:Int),(0:Int))
 else
 bif (decide ((97:Int)≤name0)) then
 bif (decide (name0≤(122:Int))) then
 ((4:Int),(IntKind.wrap .i64 (IntKind.wrap .u8 (name0 - (97:Int)))))
 else
 bif (decide ((65:Int)≤name0)) then
 bif (decide (name0≤(90:Int))) then
 ((5:Int),(IntKind.wrap .i64 (IntKind.wrap .u8 (name0 - (65:Int)))))
 else
 ((0:Int),(0:Int))
 else
 ((0:Int),(0:Int))
 else
 bif (decide ((65:Int)≤name0)) then
 bif (decide (name0≤(90:Int))) then
 ((5:Int),(IntKind.wrap .i64 (IntKind.wrap .u8 (name0 - (65:Int)))))
 else
 ((0:Int),(0:Int))
 else
 ((0:Int),(0:Int))
theorem q85_sp (name0:Int) (K:Res→List Cell→Prop) (_:wfA q85_A (name0,())) (h:∀ r:Int×Int,r=q85_F name0→K (.tup [.v yI r.1,.v yI r.2]) []):q85_raw name0 K:=
 br0 h (fun _ h=>h _ rfl)
 fun _ h=>br0 h (fun _ h=>h _ rfl)
 fun _ h=>br0 h (fun _ h=>h _ rfl)
 fun _ h=>br0 h (fun _ h=>br0 h (fun _ h=>h _ rfl)
 fun _ h=>br0 h (fun _ h=>br0 h (fun _ h=>h _ rfl)
 fun _ h=>br0 h (fun _ h=>br0 h (fun _ h=>h _ rfl)
 fun _ h=>h _ rfl)
 fun _ h=>h _ rfl)
 fun _ h=>br0 h (fun _ h=>br0 h (fun _ h=>h _ rfl)
 fun _ h=>h _ rfl)
 fun _ h=>h _ rfl)
 fun _ h=>br0 h (fun _ h=>br0 h (fun _ h=>h _ rfl)
 fun _ h=>br0 h (fun _ h=>br0 h (fun _ h=>h _ rfl)
 fun _ h=>h _ rfl)
 fun _ h=>h _ rfl)
 fun _ h=>br0 h (fun _ h=>br0 h (fun _ h=>h _ rfl)
 fun _ h=>h _ rfl)
 fun _ h=>h _ rfl
def q85_C (v:valsA q85_A) (K:Res→List Cell→Prop):Prop:=∀ r:Int×Int,r=q85_F v.1→K (.tup [.v yI r.1,.v yI r.2]) []
def q85_S:App:=specW q85_A q85_C
theorem q85_wv (K:Res→List Cell→Prop):∀ v:valsA q85_A,runF tb (getG q85_G) [] Tryz.f132 [true,true] (mkA q85_A v) K=q85_raw v.1 K
  | (name0,())=>by kernel_rfl
theorem q85_ok:AppOk Tryz.prog 132 q85_S:=
  AppOk.specW (spec_ok ((runF_ok tb_M tb_ok q85_Gok (LabsOk.nil) (f:=132) (fn:=Tryz.f132) (by kernel_rfl) (by kernel_rfl) (by kernel_rfl) [true,true])) fun v K hw h=>(q85_wv K v).mpr (q85_sp v.1 K hw h))

def q83_G:List (Nat×App):=[(132,q85_S)]
theorem q83_Gok:GOk Tryz.prog (getG q83_G):=GOk.cons q85_ok (GOk.nil)
def q83_raw (name0:Int) (K:Res→List Cell→Prop):Prop:=
 ∀ (r1:Int×Int),r1=q85_F name0→(
 wfR (.tup [.v yI r1.1,.v yI r1.2])→(
 K (.one (.v .bool (!decide (r1.1=(0:Int))))) []))
def q83_A:List AS:=[.v yU]

def q83_F (name0:Int):Bool:=
 let r1:Int×Int:=q85_F name0
 (!decide (r1.1=(0:Int)))
theorem q83_sp (name0:Int) (K:Res→List Cell→Prop) (_:wfA q83_A (name0,())) (h:∀ r:Bool,r=q83_F name0→K (.one (.v .bool r)) []):q83_raw name0 K:=
 al (h _ rfl)
def q83_C (v:valsA q83_A) (K:Res→List Cell→Prop):Prop:=∀ r:Bool,r=q83_F v.1→K (.one (.v .bool r)) []
def q83_S:App:=specW q83_A q83_C
theorem q83_wv (K:Res→List Cell→Prop):∀ v:valsA q83_A,runF tb (getG q83_G) [] Tryz.f136 [true] (mkA q83_A v) K=q83_raw v.1 K
  | (name0,())=>by kernel_rfl
theorem q83_ok:AppOk Tryz.prog 136 q83_S:=
  AppOk.specW (spec_ok ((runF_ok tb_M tb_ok q83_Gok (LabsOk.nil) (f:=136) (fn:=Tryz.f136) (by kernel_rfl) (by kernel_rfl) (by kernel_rfl) [true])) fun v K hw h=>(q83_wv K v).mpr (q83_sp v.1 K hw h))

def q62_G:List (Nat×App):=[]
theorem q62_Gok:GOk Tryz.prog (getG q62_G):=GOk.nil
def q62_raw (b0:Int) (K:Res→List Cell→Prop):Prop:=
 bif (decide ((48:Int)≤b0)) then
 K (.one (.v .bool (decide (b0≤(57:Int))))) []
 else
 K (.one (.v .bool false)) []
def q62_A:List AS:=[.v yU]

def q62_F (b0:Int):Bool:=
 bif (decide ((48:Int)≤b0)) then
 (decide (b0≤(57:Int)))
 else
 false
theorem q62_sp (b0:Int) (K:Res→List Cell→Prop) (_:wfA q62_A (b0,())) (h:∀ r:Bool,r=q62_F b0→K (.one (.v .bool r)) []):q62_raw b0 K:=
 br0 h (fun _ h=>h _ rfl)
 fun _ h=>h _ rfl
def q62_C (v:valsA q62_A) (K:Res→List Cell→Prop):Prop:=∀ r:Bool,r=q62_F v.1→K (.one (.v .bool r)) []
def q62_S:App:=specW q62_A q62_C
theorem q62_wv (K:Res→List Cell→Prop):∀ v:valsA q62_A,runF tb (getG q62_G) [] Tryz.f137 [true] (mkA q62_A v) K=q62_raw v.1 K
  | (b0,())=>by kernel_rfl
theorem q62_ok:AppOk Tryz.prog 137 q62_S:=
  AppOk.specW (spec_ok ((runF_ok tb_M tb_ok q62_Gok (LabsOk.nil) (f:=137) (fn:=Tryz.f137) (by kernel_rfl) (by kernel_rfl) (by kernel_rfl) [true])) fun v K hw h=>(q62_wv K v).mpr (q62_sp v.1 K hw h))

def q10_G:List (Nat×App):=[(39,q18_S),(84,q25_S),(136,q83_S),(137,q62_S)]
theorem q10_Gok:GOk Tryz.prog (getG q10_G):=GOk.cons q18_ok (GOk.cons q25_ok (GOk.cons q83_ok (GOk.cons q62_ok (GOk.nil))))
def q10_raw (rv0:(LI×Int)) (digits1:Bool) (K:Res→List Cell→Prop):Prop:=
 q18_P rv0∧(
 ∀ (r1:(LI×Int)),r1=q18_F rv0→(
 wfR (.tup [])→(
 q25_P r1∧(
 ∀ (r2:Int),r2=q25_F r1→(
 wfR (.one (.v yU r2))→(
 bif (decide (r2=(0:Int))) then
 K (.one (.v yU (0:Int))) [⟨.st (.pair yB yI),r1⟩]
 else
 ∀ (r3:Bool),r3=q83_F r2→(
 wB r3→(
 bif (!r3) then
 K (.one (.v yU (0:Int))) [⟨.st (.pair yB yI),r1⟩]
 else
 ∀ (r4:Bool),r4=q62_F r2→(
 wB r4→(
 bif r4 then
 bif (!digits1) then
 K (.one (.v yU (0:Int))) [⟨.st (.pair yB yI),r1⟩]
 else
 K (.one (.v yU r2)) [⟨.st (.pair yB yI),(r1.1,(IntKind.wrap .i64 (r1.2+(1:Int))))⟩]
 else
 K (.one (.v yU r2)) [⟨.st (.pair yB yI),(r1.1,(IntKind.wrap .i64 (r1.2+(1:Int))))⟩]))))))))))
def q10_A:List AS:=[.r none (.st (.pair yB yI)),.v .bool]

def q10_P (rv0:(LI×Int)) (digits1:Bool):Prop:=
 q18_P rv0∧(
 let r1:(LI×Int):=q18_F rv0
 q25_P r1)
def q10_F (rv0:(LI×Int)) (digits1:Bool):Int×(LI×Int):=
 let r1:(LI×Int):=q18_F rv0
 let r2:Int:=q25_F r1
 bif (decide (r2=(0:Int))) then
 ((0:Int),r1)
 else
 let r3:Bool:=q83_F r2
 bif (!r3) then
 ((0:Int),r1)
 else
 let r4:Bool:=q62_F r2
 bif r4 then
 bif (!digits1) then
 ((0:Int),r1)
 else
 (r2,(r1.1,(IntKind.wrap .i64 (r1.2+(1:Int)))))
 else
 (r2,(r1.1,(IntKind.wrap .i64 (r1.2+(1:Int)))))
theorem q10_sp (rv0:(LI×Int)) (digits1:Bool) (K:Res→List Cell→Prop) (_:wfA q10_A (rv0,digits1,())) (hp:q10_P rv0 digits1) (h:∀ r:Int×(LI×Int),r=q10_F rv0 digits1→K (.one (.v yU r.1)) [⟨.st (.pair yB yI),r.2⟩]):q10_raw rv0 digits1 K:=
 an1 hp fun hp=>al (⟨hp,al (br0 h (fun _ h=>h _ rfl)
 fun _ h=>al (br0 h (fun _ h=>h _ rfl)
 fun _ h=>al (br0 h (fun _ h=>br0 h (fun _ h=>h _ rfl)
 fun _ h=>h _ rfl)
 fun _ h=>h _ rfl)))⟩)
def q10_C (v:valsA q10_A) (K:Res→List Cell→Prop):Prop:=q10_P v.1 v.2.1∧∀ r:Int×(LI×Int),r=q10_F v.1 v.2.1→K (.one (.v yU r.1)) [⟨.st (.pair yB yI),r.2⟩]
def q10_S:App:=specW q10_A q10_C
theorem q10_wv (K:Res→List Cell→Prop):∀ v:valsA q10_A,runF tb (getG q10_G) [] Tryz.f85 [true] (mkA q10_A v) K=q10_raw v.1 v.2.1 K
  | (rv0,digits1,())=>by kernel_rfl
theorem q10_ok:AppOk Tryz.prog 85 q10_S:=
  AppOk.specW (spec_ok ((runF_ok tb_M tb_ok q10_Gok (LabsOk.nil) (f:=85) (fn:=Tryz.f85) (by kernel_rfl) (by kernel_rfl) (by kernel_rfl) [true])) fun v K hw h=>(q10_wv K v).mpr (q10_sp v.1 v.2.1 K hw h.1 h.2))

def q22_G:List (Nat×App):=[(39,q18_S),(84,q25_S),(137,q62_S),(43,q72_S)]
theorem q22_Gok:GOk Tryz.prog (getG q22_G):=GOk.cons q18_ok (GOk.cons q25_ok (GOk.cons q62_ok (GOk.cons q72_ok (GOk.nil))))
theorem q22_st:storesC (bodyOf Tryz.f86)=true:=by kernel_rfl
def q22_d0:List LS:=[.b 0 7 [],.v 3 yI,.c 7 (.st (.pair yB yI))]
def q22_d0x0:List LS:=[.v 3 yI,.c 7 (.st (.pair yB yI))]
def q22_dx0:DX:=⟨none,none,[(0,q22_d0x0)]⟩
def q22_y0x0 (k:Ex→St→Prop) (n3:Int) (rv0b:(LI×Int)):Prop:=wfD q22_d0x0 (n3,rv0b,())→k (.exit 0) (mkD 32 q22_d0x0 (n3,rv0b,()))
def q22_T0 (Y:Int→(LI×Int)→Prop) (kx0:Int→(LI×Int)→Prop) (n3:Int) (rv0b:(LI×Int)):Prop:=
 q25_P rv0b∧(
 ∀ (r4:Int),r4=q25_F rv0b→(
 wfR (.one (.v yU r4))→(
 ∀ (r5:Bool),r5=q62_F r4→(
 wB r5→(
 bif r5 then
 q25_P rv0b∧(
 ∀ (r6:Int),r6=q25_F rv0b→(
 wfR (.one (.v yU r6))→(
 Y (mn (IntKind.wrap .i64 ((IntKind.wrap .i64 (n3 * (10:Int)))+(IntKind.wrap .i64 (IntKind.wrap .u8 (r6 - (48:Int)))))) (9999:Int)) (rv0b.1,(IntKind.wrap .i64 (rv0b.2+(1:Int)))))))
 else
 kx0 n3 rv0b)))))
def q22_L0 (kx0:Int→(LI×Int)→Prop):Nat→Int→(LI×Int)→Prop
  | 0,_,_=>False
  | n+1,n3,rv0b=>wfD q22_d0 (n3,rv0b,())→q22_T0 (q22_L0 kx0 n) kx0 n3 rv0b
def q22_c0:Pce:=ex tb (getG q22_G) [] (at' (bodyOf Tryz.f86) [0,0,0,1,1,1,1]) [0,0,0,1,1,1,1]
def q22_g0 (k:Ex→St→Prop) (n:Nat) (v:vals q22_d0):Prop:=q22_L0 (q22_y0x0 k) n v.1 v.2.1
theorem q22_s0 (k:Ex→St→Prop) (Y:vals q22_d0→Prop):∀ v:vals q22_d0,q22_c0 (mkD 32 q22_d0 v) (lpK 32 q22_d0 q22_dx0 k Y)=q22_T0 (fun n3 rv0b=>Y (n3,rv0b,())) (q22_y0x0 k) v.1 v.2.1
  | (n3,rv0b,())=>by kernel_rfl
theorem q22_v0 (k:Ex→St→Prop):∀ (n:Nat) (v:vals q22_d0),lpD 32 q22_d0 q22_dx0 q22_c0 k n v=q22_g0 k n v
  | 0,(n3,rv0b,())=>rfl
  | n+1,(n3,rv0b,())=>congrArg (fun Z:Prop=>wfD q22_d0 (n3,rv0b,())→Z) ((q22_s0 k _ (n3,rv0b,())).trans (congrArg (fun Y=>q22_T0 Y (q22_y0x0 k) n3 rv0b) (funext fun n3=>funext fun rv0b=>q22_v0 k n (n3,rv0b,()))))
def q22_X0:Pce:=fun st k=>ckD 32 q22_d0 st fun v=>wfD q22_d0 v→∃ n,q22_g0 k n v
theorem q22_x0:SemOk Tryz.prog (at' (bodyOf Tryz.f86) [0,0,1,1,1,1]) q22_X0:=
  (SemOk.loop (ex_sound tb_M tb_ok q22_Gok (LabsOk.nil) (at' (bodyOf Tryz.f86) [0,0,0,1,1,1,1]) [0,0,0,1,1,1,1] rfl (storesC_at q22_st [0,0,0,1,1,1,1])) 32 q22_d0 q22_dx0).mono fun st k h=>ckD_mono h fun v hv hw=>(hv hw).elim fun n hn=>⟨n,Eq.mpr (q22_v0 k n v) hn⟩
def q22_B0:Labs:=([0,0,1,1,1,1],q22_X0)::[]
theorem q22_b0:LabsOk Tryz.prog (bodyOf Tryz.f86) q22_B0:=LabsOk.cons q22_x0 (LabsOk.nil)
def q22_raw (rv0:(LI×Int)) (K:Res→List Cell→Prop):Prop:=
 q18_P rv0∧(
 ∀ (r1:(LI×Int)),r1=q18_F rv0→(
 wfR (.tup [])→(
 q25_P r1∧(
 ∀ (r2:Int),r2=q25_F r1→(
 wfR (.one (.v yU r2))→(
 ∀ (r3:Bool),r3=q62_F r2→(
 wB r3→(
 bif (!r3) then
 K (.one (.v yI (0:Int))) [⟨.st (.pair yB yI),r1⟩]
 else
 (wfD q22_d0 ((0:Int),r1,())→∃ n,q22_L0 (fun (n3:Int) (rv0b:(LI×Int))=>wfD q22_d0x0 (n3,rv0b,())→(
 bif (decide (n3=(0:Int))) then
 (∀ (r7:Unit),q72_F (240:Int)=.inl r7→(
 wfR (.tup [])→(
 K (.one (.v yI n3)) [⟨.st (.pair yB yI),rv0b⟩])))∧(∀ (np8:Int),q72_F (240:Int)=.inr np8→(wfR (.pan np8)→(
 K (.pan np8) [])))
 else
 K (.one (.v yI n3)) [⟨.st (.pair yB yI),rv0b⟩])) n (0:Int) r1)))))))))
def q22_A:List AS:=[.r none (.st (.pair yB yI))]
def q22_L0_P (n:Int) (rv:LI×Int):Prop:=0≤n∧n≤9999∧0≤rv.2∧rv.2≤rv.1.length∧rv.1.length≤lim
def q22_L0_F (n:Int) (rv:LI×Int):Int×(LI×Int):=(cnt n (rv.1.drop rv.2.toNat),(rv.1,rv.2+(dgs (rv.1.drop rv.2.toNat):Int)))
theorem exDigit (b:Int):q62_F b=isDg b:=by
  unfold q62_F isDg
  by_cases h1:48≤b <;> by_cases h2:b≤57 <;> simp [h1,h2]
theorem q22_l0 (kx0:Int→LI×Int→Prop) (s:LI) (hs:s.length≤lim) :
    ∀ (n i:Nat) (a:Int),s.length<n+i→i≤s.length→0≤a→a≤9999→kx0 (cnt a (s.drop i)) (s,((i+dgs (s.drop i):Nat):Int))→q22_L0 kx0 n a (s,(i:Int))
  | 0,i,a,hn,hi,_,_,hx=>absurd hn (by omega)
  | n+1,i,a,hn,hi,ha0,ha1,hx=>by
    intro _
    unfold q22_T0
    have hlim:lim=1099511627776:=rfl
    obtain ⟨np,ne⟩:=exNext s i hi
    refine ⟨np,fun r hr _ r5 hr5 _=>?_⟩
    rw [ne] at hr
    rw [exDigit] at hr5
    subst hr5
    rcases Nat.lt_or_ge i s.length with hi' | hi'
    · rw [dropc hi'] at hr hx
      change r=s[i] at hr
      subst hr
      rw [cnt_cons,dgs_cons] at hx
      refine brb (fun hb=>⟨np,fun r hr _=>?_⟩) (fun hb=>?_)
      · rw [ne,dropc hi'] at hr
        change r=s[i] at hr
        subst hr
        rw [if_pos hb,if_pos hb] at hx
        have hb:=isDg_of hb
        have e:mn (IntKind.wrap .i64 ((IntKind.wrap .i64 (a * 10))+(IntKind.wrap .i64 (IntKind.wrap .u8 (s[i] - 48))))) 9999=(if 9999<a * 10+(s[i] - 48) then 9999 else a * 10+(s[i] - 48)):=by
          rw [wrap_u8 (by omega) (by omega),wrap_i64 (n:=s[i] - 48) (by omega) (by omega),wrap_i64 (n:=a * 10) (by omega) (by omega),wrap_i64 (by omega) (by omega)]
          unfold mn
          by_cases h9:9999<a * 10+(s[i] - 48)
          · rw [decide_eq_true h9,if_pos h9]; rfl
          · rw [decide_eq_false h9,if_neg h9]; rfl
        dsimp only
        rw [e,wrap_i64 (n:=(i:Int)+1) (by omega) (by omega),show (i:Int)+1=((i+1:Nat):Int) by omega]
        refine q22_l0 kx0 s hs n (i+1) _ (by omega) (by omega) (by split <;> omega) (by split <;> omega) ?_
        rw [show i+1+dgs (s.drop (i+1))=i+(dgs (s.drop (i+1))+1) by omega]
        exact hx
      · rw [if_neg (by rw [hb]; simp),if_neg (by rw [hb]; simp)] at hx
        exact hx
    · rw [List.drop_eq_nil_of_le hi'] at hr hx
      change r=0 at hr
      subst hr
      exact brb (fun hb=>absurd hb (by decide)) (fun _=>hx)
theorem q22_L0_sp (kx0:Int→LI×Int→Prop) (a:Int) (rv:LI×Int) (hp:q22_L0_P a rv) (hx:∀ q:Int×(LI×Int),q=q22_L0_F a rv→kx0 q.1 q.2):∃ m,q22_L0 kx0 m a rv:=by
  obtain ⟨s,i⟩:=rv
  obtain ⟨h0,h1,h2,h3,hs⟩:=hp
  obtain ⟨j,rfl⟩:=Int.eq_ofNat_of_zero_le (show 0≤i from h2)
  refine ⟨s.length+1,q22_l0 kx0 s hs _ j a (by omega) (Int.ofNat_le.1 h3) h0 h1 ?_⟩
  exact hx _ rfl

def q22_P (rv0:(LI×Int)):Prop:=
 q18_P rv0∧(
 let r1:(LI×Int):=q18_F rv0
 q25_P r1∧(
 let r2:Int:=q25_F r1
 let r3:Bool:=q62_F r2
 bif (!r3) then
 True
 else
 q22_L0_P (0:Int) r1))
def q22_F (rv0:(LI×Int)):(Int×(LI×Int))⊕Int:=
 let r1:(LI×Int):=q18_F rv0
 let r2:Int:=q25_F r1
 let r3:Bool:=q62_F r2
 bif (!r3) then
 .inl (((0:Int),r1))
 else
 let q0x0:Int×(LI×Int):=q22_L0_F (0:Int) r1
 let n3:Int:=q0x0.1
 let rv0b:(LI×Int):=q0x0.2
 bif (decide (n3=(0:Int))) then
 Sum.elim (fun r7=>
 .inl ((n3,rv0b))) (fun np8=>
 .inr np8) (q72_F (240:Int))
 else
 .inl ((n3,rv0b))
theorem q22_sp (rv0:(LI×Int)) (K:Res→List Cell→Prop) (_:wfA q22_A (rv0,())) (hp:q22_P rv0) (h:∀ r:Int×(LI×Int),q22_F rv0=.inl r→K (.one (.v yI r.1)) [⟨.st (.pair yB yI),r.2⟩]) (hqp:∀ n:Int,q22_F rv0=.inr n→K (.pan n) []):q22_raw rv0 K:=
 have h:=hc2 h hqp; an1 hp fun hp=>al (an1 hp fun hp=>al (al (br1 hp h (fun _ hp h=>h _ rfl)
 fun _ hp h=>fun _=>q22_L0_sp _ _ _ hp (al (br0 h (fun _ h=>ae0 h (fun _ h=>h _ rfl)
 fun _ h=>h _ rfl)
 fun _ h=>h _ rfl)))))
def q22_C (v:valsA q22_A) (K:Res→List Cell→Prop):Prop:=q22_P v.1∧(∀ r:Int×(LI×Int),q22_F v.1=.inl r→K (.one (.v yI r.1)) [⟨.st (.pair yB yI),r.2⟩])∧∀ n:Int,q22_F v.1=.inr n→K (.pan n) []
def q22_S:App:=specW q22_A q22_C
theorem q22_wv (K:Res→List Cell→Prop):∀ v:valsA q22_A,runF tb (getG q22_G) q22_B0 Tryz.f86 [true] (mkA q22_A v) K=q22_raw v.1 K
  | (rv0,())=>by kernel_rfl
theorem q22_ok:AppOk Tryz.prog 86 q22_S:=
  AppOk.specW (spec_ok ((runF_ok tb_M tb_ok q22_Gok (q22_b0) (f:=86) (fn:=Tryz.f86) (by kernel_rfl) (by kernel_rfl) q22_st [true])) fun v K hw h=>(q22_wv K v).mpr (q22_sp v.1 K hw h.1 h.2.1 h.2.2))

def q23_G:List (Nat×App):=[(39,q18_S),(82,q15_S),(43,q72_S)]
theorem q23_Gok:GOk Tryz.prog (getG q23_G):=GOk.cons q18_ok (GOk.cons q15_ok (GOk.cons q72_ok (GOk.nil)))
def q23_raw (rv0:(LI×Int)) (K:Res→List Cell→Prop):Prop:=
 q18_P rv0∧(
 ∀ (r1:(LI×Int)),r1=q18_F rv0→(
 wfR (.tup [])→(
 q15_P r1∧(
 (∀ (r2:tAd×(LI×Int)),q15_F r1=.inl r2→(
 wfR (.one (.v tyA r2.1))→(
 bif (!r2.1.2.2.2.2.2) then
 (∀ (r3:Unit),q72_F (240:Int)=.inl r3→(
 wfR (.tup [])→(
 K (.one (.v tyA r2.1)) [⟨.st (.pair yB yI),r2.2⟩])))∧(∀ (np4:Int),q72_F (240:Int)=.inr np4→(wfR (.pan np4)→(
 K (.pan np4) [])))
 else
 K (.one (.v tyA r2.1)) [⟨.st (.pair yB yI),r2.2⟩])))∧(∀ (np5:Int),q15_F r1=.inr np5→(wfR (.pan np5)→(
 K (.pan np5) [])))))))
def q23_A:List AS:=[.r none (.st (.pair yB yI))]

def q23_P (rv0:(LI×Int)):Prop:=
 q18_P rv0∧(
 let r1:(LI×Int):=q18_F rv0
 q15_P r1)
def q23_F (rv0:(LI×Int)):(tAd×(LI×Int))⊕Int:=
 let r1:(LI×Int):=q18_F rv0
 Sum.elim (fun r2=>
 bif (!r2.1.2.2.2.2.2) then
 Sum.elim (fun r3=>
 .inl ((r2.1,r2.2))) (fun np4=>
 .inr np4) (q72_F (240:Int))
 else
 .inl ((r2.1,r2.2))) (fun np5=>
 .inr np5) (q15_F r1)
theorem q23_sp (rv0:(LI×Int)) (K:Res→List Cell→Prop) (_:wfA q23_A (rv0,())) (hp:q23_P rv0) (h:∀ r:tAd×(LI×Int),q23_F rv0=.inl r→K (.one (.v tyA r.1)) [⟨.st (.pair yB yI),r.2⟩]) (hqp:∀ n:Int,q23_F rv0=.inr n→K (.pan n) []):q23_raw rv0 K:=
 have h:=hc2 h hqp; an1 hp fun hp=>al (⟨hp,ae0 h (fun _ h=>br0 h (fun _ h=>ae0 h (fun _ h=>h _ rfl)
 fun _ h=>h _ rfl)
 fun _ h=>h _ rfl)
 fun _ h=>h _ rfl⟩)
def q23_C (v:valsA q23_A) (K:Res→List Cell→Prop):Prop:=q23_P v.1∧(∀ r:tAd×(LI×Int),q23_F v.1=.inl r→K (.one (.v tyA r.1)) [⟨.st (.pair yB yI),r.2⟩])∧∀ n:Int,q23_F v.1=.inr n→K (.pan n) []
def q23_S:App:=specW q23_A q23_C
theorem q23_wv (K:Res→List Cell→Prop):∀ v:valsA q23_A,runF tb (getG q23_G) [] Tryz.f87 [true] (mkA q23_A v) K=q23_raw v.1 K
  | (rv0,())=>by kernel_rfl
theorem q23_ok:AppOk Tryz.prog 87 q23_S:=
  AppOk.specW (spec_ok ((runF_ok tb_M tb_ok q23_Gok (LabsOk.nil) (f:=87) (fn:=Tryz.f87) (by kernel_rfl) (by kernel_rfl) (by kernel_rfl) [true])) fun v K hw h=>(q23_wv K v).mpr (q23_sp v.1 K hw h.1 h.2.1 h.2.2))

def q26_G:List (Nat×App):=[(41,q20_S),(43,q72_S),(67,q71_S)]
theorem q26_Gok:GOk Tryz.prog (getG q26_G):=GOk.cons q20_ok (GOk.cons q72_ok (GOk.cons q71_ok (GOk.nil)))
theorem q26_st:storesC (bodyOf Tryz.f138)=true:=by kernel_rfl
def q26_d0:List LS:=[.b 0 7 [],.v 4 yI,.c 7 (.st (.pair yB yI))]
def q26_d0n:List LS:=[.b 0 7 [],.v 4 yI,.c 7 (.st (.pair yB yI))]
def q26_dx0:DX:=⟨some q26_d0n,none,[]⟩
def q26_y0n (k:Ex→St→Prop) (from4:Int) (rv0b:(LI×Int)):Prop:=wfD q26_d0n (from4,rv0b,())→k .nrm (mkD 69 q26_d0n (from4,rv0b,()))
def q26_J0 (kn:Int→(LI×Int)→Prop) (from4:Int) (rv0b:(LI×Int)):Prop:=
 kn from4 (rv0b.1,(IntKind.wrap .i64 (rv0b.2+(1:Int))))
def q26_g0 (k:Ex→St→Prop) (v:vals q26_d0):Prop:=q26_J0 (q26_y0n k) v.1 v.2.1
theorem q26_v0 (k:Ex→St→Prop):∀ v:vals q26_d0,ex tb (getG q26_G) [] (at' (bodyOf Tryz.f138) [1,0,1,0,0,0,1,1]) [1,0,1,0,0,0,1,1] (mkD 69 q26_d0 v) (wk 69 q26_dx0 k)=q26_g0 k v
  | (from4,rv0b,())=>by kernel_rfl
def q26_X0:Pce:=fun st k=>ckD 69 q26_d0 st fun v=>wfD q26_d0 v→q26_g0 k v
theorem q26_x0:SemOk Tryz.prog (at' (bodyOf Tryz.f138) [1,0,1,0,0,0,1,1]) q26_X0:=
  (SemOk.wk (N:=69) (ds:=q26_d0) (dx:=q26_dx0) (ex_sound tb_M tb_ok q26_Gok (LabsOk.nil) (at' (bodyOf Tryz.f138) [1,0,1,0,0,0,1,1]) [1,0,1,0,0,0,1,1] rfl (storesC_at q26_st [1,0,1,0,0,0,1,1]))).mono fun st k h=>ckD_mono h fun v hv hw=>Eq.mpr (q26_v0 k v) (hv hw)
def q26_B0:Labs:=([1,0,1,0,0,0,1,1],q26_X0)::[]
theorem q26_b0:LabsOk Tryz.prog (bodyOf Tryz.f138) q26_B0:=LabsOk.cons q26_x0 (LabsOk.nil)
def q26_d1:List LS:=[.b 0 7 [],.v 4 yI,.c 7 (.st (.pair yB yI))]
def q26_d1r:List LS:=[.o 2 21 5 yU,.v 3 .bool,.c 7 (.st (.pair yB yI))]
def q26_d1x0:List LS:=[.b 0 7 [],.v 4 yI,.c 7 (.st (.pair yB yI))]
def q26_dx1:DX:=⟨none,some q26_d1r,[(0,q26_d1x0)]⟩
def q26_y1r (k:Ex→St→Prop) (x2:LI) (x3:Bool) (rv0b:(LI×Int)):Prop:=wfD q26_d1r (x2,x3,rv0b,())→k .ret (mkD 69 q26_d1r (x2,x3,rv0b,()))
def q26_y1x0 (k:Ex→St→Prop) (from4:Int) (rv0b:(LI×Int)):Prop:=wfD q26_d1x0 (from4,rv0b,())→k (.exit 0) (mkD 69 q26_d1x0 (from4,rv0b,()))
def q26_T1 (Y:Int→(LI×Int)→Prop) (kz:Int→Prop) (kr:LI→Bool→(LI×Int)→Prop) (kx0:Int→(LI×Int)→Prop) (from4:Int) (rv0b:(LI×Int)):Prop:=
 ∀ (r1:Bool),r1=q20_F rv0b→(
 wB r1→(
 bif (!r1) then
 bif decide (0≤rv0b.2∧rv0b.2<(List.length rv0b.1:Int)) then
 bif (decide ((rd (0:Int) rv0b.1 rv0b.2)=(92:Int))) then
 ∀ (r2:Bool),r2=q20_F (rv0b.1,(IntKind.wrap .i64 (rv0b.2+(1:Int))))→(
 wB r2→(
 bif r2 then
 (∀ (r3:Unit),q72_F (240:Int)=.inl r3→(
 wfR (.tup [])→(
 (wfD q26_d0 (from4,(rv0b.1,(IntKind.wrap .i64 (rv0b.2+(1:Int)))),())→q26_J0 (fun (from4:Int) (rv0b:(LI×Int))=>wfD q26_d0n (from4,rv0b,())→(
 Y from4 rv0b)) from4 (rv0b.1,(IntKind.wrap .i64 (rv0b.2+(1:Int))))))))∧(∀ (np4:Int),q72_F (240:Int)=.inr np4→(wfR (.pan np4)→(
 kz np4)))
 else
 (wfD q26_d0 (from4,(rv0b.1,(IntKind.wrap .i64 (rv0b.2+(1:Int)))),())→q26_J0 (fun (from4:Int) (rv0b:(LI×Int))=>wfD q26_d0n (from4,rv0b,())→(
 Y from4 rv0b)) from4 (rv0b.1,(IntKind.wrap .i64 (rv0b.2+(1:Int)))))))
 else
 bif (decide ((rd (0:Int) rv0b.1 rv0b.2)=(47:Int))) then
 bif decide (0≤from4∧from4≤(IntKind.wrap .i64 ((IntKind.wrap .i64 (rv0b.2+(1:Int))) - (1:Int)))∧(IntKind.wrap .i64 ((IntKind.wrap .i64 (rv0b.2+(1:Int))) - (1:Int)))≤(List.length rv0b.1:Int)) then
 q71_P (slc rv0b.1 from4 (IntKind.wrap .i64 ((IntKind.wrap .i64 (rv0b.2+(1:Int))) - (1:Int))))∧(
 ∀ (r5:LI),r5=q71_F (slc rv0b.1 from4 (IntKind.wrap .i64 ((IntKind.wrap .i64 (rv0b.2+(1:Int))) - (1:Int))))→(
 wfR (.one (.fr 5 yU r5))→(
 kr r5 true (rv0b.1,(IntKind.wrap .i64 (rv0b.2+(1:Int)))))))
 else False
 else
 (wfD q26_d0 (from4,rv0b,())→q26_J0 (fun (from4:Int) (rv0b:(LI×Int))=>wfD q26_d0n (from4,rv0b,())→(
 Y from4 rv0b)) from4 rv0b)
 else False
 else
 kx0 from4 rv0b))
def q26_L1 (kz:Int→Prop) (kr:LI→Bool→(LI×Int)→Prop) (kx0:Int→(LI×Int)→Prop):Nat→Int→(LI×Int)→Prop
  | 0,_,_=>False
  | n+1,from4,rv0b=>wfD q26_d1 (from4,rv0b,())→q26_T1 (q26_L1 kz kr kx0 n) kz kr kx0 from4 rv0b
def q26_c1:Pce:=ex tb (getG q26_G) q26_B0 (at' (bodyOf Tryz.f138) [0,0,0,1,1]) [0,0,0,1,1]
def q26_g1 (k:Ex→St→Prop) (n:Nat) (v:vals q26_d1):Prop:=q26_L1 (fun np=>k (.pan np) st0) (q26_y1r k) (q26_y1x0 k) n v.1 v.2.1
theorem q26_s1 (k:Ex→St→Prop) (Y:vals q26_d1→Prop):∀ v:vals q26_d1,q26_c1 (mkD 69 q26_d1 v) (lpK 69 q26_d1 q26_dx1 k Y)=q26_T1 (fun from4 rv0b=>Y (from4,rv0b,())) (fun np=>k (.pan np) st0) (q26_y1r k) (q26_y1x0 k) v.1 v.2.1
  | (from4,rv0b,())=>by kernel_rfl
theorem q26_v1 (k:Ex→St→Prop):∀ (n:Nat) (v:vals q26_d1),lpD 69 q26_d1 q26_dx1 q26_c1 k n v=q26_g1 k n v
  | 0,(from4,rv0b,())=>rfl
  | n+1,(from4,rv0b,())=>congrArg (fun Z:Prop=>wfD q26_d1 (from4,rv0b,())→Z) ((q26_s1 k _ (from4,rv0b,())).trans (congrArg (fun Y=>q26_T1 Y (fun np=>k (.pan np) st0) (q26_y1r k) (q26_y1x0 k) from4 rv0b) (funext fun from4=>funext fun rv0b=>q26_v1 k n (from4,rv0b,()))))
def q26_X1:Pce:=fun st k=>ckD 69 q26_d1 st fun v=>wfD q26_d1 v→∃ n,q26_g1 k n v
theorem q26_x1:SemOk Tryz.prog (at' (bodyOf Tryz.f138) [0,0,1,1]) q26_X1:=
  (SemOk.loop (ex_sound tb_M tb_ok q26_Gok (q26_b0) (at' (bodyOf Tryz.f138) [0,0,0,1,1]) [0,0,0,1,1] rfl (storesC_at q26_st [0,0,0,1,1])) 69 q26_d1 q26_dx1).mono fun st k h=>ckD_mono h fun v hv hw=>(hv hw).elim fun n hn=>⟨n,Eq.mpr (q26_v1 k n v) hn⟩
def q26_B1:Labs:=([0,0,1,1],q26_X1)::q26_B0
theorem q26_b1:LabsOk Tryz.prog (bodyOf Tryz.f138) q26_B1:=LabsOk.cons q26_x1 (q26_b0)
def q26_raw (rv0:(LI×Int)) (K:Res→List Cell→Prop):Prop:=
 (wfD q26_d1 (rv0.2,rv0,())→∃ n,q26_L1 (fun (np:Int)=>K (.pan np) []) (fun (x2:LI) (x3:Bool) (rv0b:(LI×Int))=>wfD q26_d1r (x2,x3,rv0b,())→(
 K (.tup [.fr 5 yU x2,.v .bool x3]) [⟨.st (.pair yB yI),rv0b⟩])) (fun (from4:Int) (rv0b:(LI×Int))=>wfD q26_d1x0 (from4,rv0b,())→(
 bif decide (0≤from4∧from4≤(List.length rv0b.1:Int)) then
 q71_P (List.drop (Int.toNat from4) rv0b.1)∧(
 ∀ (r6:LI),r6=q71_F (List.drop (Int.toNat from4) rv0b.1)→(
 wfR (.one (.fr 5 yU r6))→(
 K (.tup [.fr 5 yU r6,.v .bool false]) [⟨.st (.pair yB yI),rv0b⟩])))
 else False)) n rv0.2 rv0)
def q26_A:List AS:=[.r none (.st (.pair yB yI))]
def q26_L1_P (from':Int) (rv:LI×Int):Prop:=from'=rv.2∧0≤rv.2∧rv.2≤rv.1.length∧rv.1.length≤lim
def q26_L1_F (from':Int) (rv:LI×Int):Int⊕(LI×Bool×(LI×Int))⊕(Int×(LI×Int)):=
 if clo (rv.1.drop rv.2.toNat) 47<(rv.1.drop rv.2.toNat).length then .inr (.inl ((rv.1.drop rv.2.toNat).take (clo (rv.1.drop rv.2.toNat) 47),true,(rv.1,rv.2+(clo (rv.1.drop rv.2.toNat) 47:Int)+1)))
 else if alo (rv.1.drop rv.2.toNat) then .inl 240 else .inr (.inr (from',(rv.1,(rv.1.length:Int))))
theorem q26_l1 (kp:Int→Prop) (kr:LI→Bool→LI×Int→Prop) (kx0:Int→LI×Int→Prop) (s:LI) (hs:s.length≤lim) (f:Nat) :
    ∀ (n i:Nat),s.length<n+i→f≤i→i≤s.length→(i+clo (s.drop i) 47<s.length→kr ((s.drop f).take (i+clo (s.drop i) 47 - f)) true (s,((i+clo (s.drop i) 47+1:Nat):Int)))→
      (s.length≤i+clo (s.drop i) 47→alo (s.drop i)=true→kp 240)→(s.length≤i+clo (s.drop i) 47→alo (s.drop i)=false→kx0 (f:Int) (s,(s.length:Int)))→q26_L1 kp kr kx0 n (f:Int) (s,(i:Int))
  | 0,i,hn,_,hi,_,_,_=>absurd hn (by omega)
  | n+1,i,hn,hf,hi,hr,hp,hx=>by
    intro _
    unfold q26_T1
    have hlim:lim=1099511627776:=rfl
    intro r hre _
    unfold q20_F at hre
    dsimp only at hre
    subst hre
    refine brx (fun hlt=>?_) (fun hge=>?_)
    · have hi':i<s.length:=by omega
      have hw1:IntKind.wrap .i64 ((i:Int)+1)=((i+1:Nat):Int):=by rw [wrap_i64 (by omega) (by omega)]; omega
      dsimp only
      refine asrt (by omega) ?_
      rw [rd_drop hi',hw1,wrap_i64 (n:=((i+1:Nat):Int) - 1) (by omega) (by omega)]
      rw [dropc hi',clo_cons] at hr hp hx
      refine brn (fun h92=>?_) (fun h92=>brn (fun h47=>?_) (fun h47=>?_))
      · intro r hre _
        unfold q20_F at hre
        dsimp only at hre
        subst hre
        rw [alo_cons] at hp hx
        rw [if_pos h92] at hr hp hx
        refine brn (fun he=>⟨fun r h=>(by cases h),fun m h _=>?_⟩) (fun he=>?_)
        · unfold q72_F at h
          injection h with h; subst h
          rw [List.drop_eq_nil_of_le (show s.length≤i+1 by omega)] at hp
          exact hp (by dsimp only; omega) (by dsimp only; simp [h92])
        · intro _
          unfold q26_J0
          dsimp only
          rw [wrap_i64 (by omega) (by omega),show ((i+1:Nat):Int)+1=((i+2:Nat):Int) by omega]
          intro _
          have h:i+1<s.length:=by omega
          rw [dropc h] at hr hp hx
          dsimp only at hr hp hx
          rw [if_pos h92] at hp hx
          have e:i+2+clo (s.drop (i+2)) 47=i+(clo (s.drop (i+1+1)) 47+2):=by rw [show i+1+1=i+2 from rfl]; omega
          refine q26_l1 kp kr kx0 s hs f n (i+2) (by omega) (by omega) (by omega) ?_ ?_ ?_
          · rw [e]; exact hr
          · rw [e]; exact hp
          · rw [e]; exact hx
      · rw [if_neg h92,if_pos h47] at hr
        refine asrt (by omega) ⟨?_,fun r hr2 _=>?_⟩
        · show List.length _≤lim
          unfold slc
          rw [List.length_drop,List.length_take]; omega
        · subst hr2
          have:=hr (by omega)
          unfold q71_F slc
          rw [show ((i+1:Nat):Int) - 1=(i:Int) by omega,Int.toNat_natCast,Int.toNat_natCast,List.drop_take]
          exact this
      · rw [if_neg h92,if_neg h47] at hr hp hx
        intro _
        unfold q26_J0
        dsimp only
        rw [hw1]
        intro _
        have e:i+1+clo (s.drop (i+1)) 47=i+(clo (s.drop (i+1)) 47+1):=by omega
        rw [alo_ne h92] at hp hx
        refine q26_l1 kp kr kx0 s hs f n (i+1) (by omega) (by omega) (by omega) ?_ ?_ ?_
        · rw [e]; exact hr
        · rw [e]; exact hp
        · rw [e]; exact hx
    · obtain rfl:i=s.length:=by omega
      rw [List.drop_eq_nil_of_le (Nat.le_refl _)] at hx
      exact hx (by omega) rfl
theorem q26_L1_sp (kp:Int→Prop) (kr:LI→Bool→LI×Int→Prop) (kx0:Int→LI×Int→Prop) (f:Int) (rv:LI×Int) (hp:q26_L1_P f rv)
    (hq:∀ q:Int,q26_L1_F f rv=.inl q→kp q) (hr:∀ q:LI×Bool×(LI×Int),q26_L1_F f rv=.inr (.inl q)→kr q.1 q.2.1 q.2.2)
    (hx:∀ q:Int×(LI×Int),q26_L1_F f rv=.inr (.inr q)→kx0 q.1 q.2):∃ m,q26_L1 kp kr kx0 m f rv:=by
  obtain ⟨s,i⟩:=rv
  obtain ⟨h0,h1,h2,hs⟩:=hp
  dsimp only at h0 h1 h2 hs
  subst h0
  obtain ⟨j,rfl⟩:=Int.eq_ofNat_of_zero_le h1
  have h2:j≤s.length:=Int.ofNat_le.1 h2
  unfold q26_L1_F at hq hr hx
  simp only [Int.toNat_natCast,List.length_drop] at hq hr hx
  refine ⟨s.length+1,q26_l1 kp kr kx0 s hs j _ j (by omega) (Nat.le_refl _) h2 (fun h=>?_) (fun h ha=>?_) (fun h ha=>?_)⟩
  · have:=hr _ (by rw [if_pos (by omega)])
    rw [show j+clo (s.drop j) 47 - j=clo (s.drop j) 47 by omega,show ((j+clo (s.drop j) 47+1:Nat):Int)=(j:Int)+(clo (s.drop j) 47:Int)+1 by omega]
    exact this
  · exact hq _ (by rw [if_neg (by omega),if_pos ha])
  · exact hx _ (by rw [if_neg (by omega),if_neg (by rw [ha]; simp)])

def q26_J0_F (from4:Int) (rv0b:(LI×Int)):Int×(LI×Int):=
 (from4,(rv0b.1,(IntKind.wrap .i64 (rv0b.2+(1:Int)))))
theorem q26_J0_sp (kn:Int→(LI×Int)→Prop) (from4:Int) (rv0b:(LI×Int)) (hn:∀ q:Int×(LI×Int),q=q26_J0_F from4 rv0b→kn q.1 q.2):q26_J0 kn from4 rv0b:=
 have h:=hn; h _ rfl
def q26_P (rv0:(LI×Int)):Prop:=
 q26_L1_P rv0.2 rv0∧(
 Sum.elim (fun q1z=>
 True) (Sum.elim (fun q1r=>
 True) (fun q1x0=>
 let from4:Int:=q1x0.1
 let rv0b:(LI×Int):=q1x0.2
 (0≤from4∧from4≤(List.length rv0b.1:Int))∧(
 q71_P (List.drop (Int.toNat from4) rv0b.1)))) (q26_L1_F rv0.2 rv0))
def q26_F (rv0:(LI×Int)):(LI×Bool×(LI×Int))⊕Int:=
 Sum.elim (fun q1z=>
 let np:Int:=q1z
 .inr np) (Sum.elim (fun q1r=>
 let x2:LI:=q1r.1
 let x3:Bool:=q1r.2.1
 let rv0b:(LI×Int):=q1r.2.2
 .inl ((x2,x3,rv0b))) (fun q1x0=>
 let from4:Int:=q1x0.1
 let rv0b:(LI×Int):=q1x0.2
 let r6:LI:=q71_F (List.drop (Int.toNat from4) rv0b.1)
 .inl ((r6,false,rv0b)))) (q26_L1_F rv0.2 rv0)
theorem q26_sp (rv0:(LI×Int)) (K:Res→List Cell→Prop) (_:wfA q26_A (rv0,())) (hp:q26_P rv0) (h:∀ r:LI×Bool×(LI×Int),q26_F rv0=.inl r→K (.tup [.fr 5 yU r.1,.v .bool r.2.1]) [⟨.st (.pair yB yI),r.2.2⟩]) (hqp:∀ n:Int,q26_F rv0=.inr n→K (.pan n) []):q26_raw rv0 K:=
 have h:=hc2 h hqp; fun _=>q26_L1_sp _ _ _ _ _ hp.1
 (fun _ e=>have h:=sl e h; h _ rfl)
 (fun _ e _=>have h:=sl rfl (sr e h); h _ rfl)
 (fun _ e _=>have h:=sr rfl (sr e h); have hp:=cR rfl (cR e hp.2); as1 hp fun hp=>⟨hp,al (h _ rfl)⟩)
def q26_C (v:valsA q26_A) (K:Res→List Cell→Prop):Prop:=q26_P v.1∧(∀ r:LI×Bool×(LI×Int),q26_F v.1=.inl r→K (.tup [.fr 5 yU r.1,.v .bool r.2.1]) [⟨.st (.pair yB yI),r.2.2⟩])∧∀ n:Int,q26_F v.1=.inr n→K (.pan n) []
def q26_S:App:=specW q26_A q26_C
theorem q26_wv (K:Res→List Cell→Prop):∀ v:valsA q26_A,runF tb (getG q26_G) q26_B1 Tryz.f138 [true,true] (mkA q26_A v) K=q26_raw v.1 K
  | (rv0,())=>by kernel_rfl
theorem q26_ok:AppOk Tryz.prog 138 q26_S:=
  AppOk.specW (spec_ok ((runF_ok tb_M tb_ok q26_Gok (q26_b1) (f:=138) (fn:=Tryz.f138) (by kernel_rfl) (by kernel_rfl) q26_st [true,true])) fun v K hw h=>(q26_wv K v).mpr (q26_sp v.1 K hw h.1 h.2.1 h.2.2))

def q8_G:List (Nat×App):=[(81,q21_S),(43,q72_S),(138,q26_S)]
theorem q8_Gok:GOk Tryz.prog (getG q8_G):=GOk.cons q21_ok (GOk.cons q72_ok (GOk.cons q26_ok (GOk.nil)))
theorem q8_st:storesC (bodyOf Tryz.f88)=true:=by kernel_rfl
def q8_d0:List LS:=[.b 0 7 [],.b 1 15 [],.o 4 37 5 yU,.c 7 (.st (.pair yB yI)),.c 15 tyX]
def q8_d0n:List LS:=[.c 7 (.st (.pair yB yI)),.c 15 tyX]
def q8_dx0:DX:=⟨some q8_d0n,none,[]⟩
def q8_y0n (k:Ex→St→Prop) (rv0b:(LI×Int)) (x1b:tEx):Prop:=wfD q8_d0n (rv0b,x1b,())→k .nrm (mkD 39 q8_d0n (rv0b,x1b,()))
def q8_J0 (kn:(LI×Int)→tEx→Prop) (kz:Int→Prop) (old4:LI) (rv0b:(LI×Int)) (x1b:tEx):Prop:=
 q26_P rv0b∧(
 (∀ (r5:LI×Bool×(LI×Int)),q26_F rv0b=.inl r5→(
 wfR (.tup [.fr 5 yU r5.1,.v .bool r5.2.1])→(
 bif r5.2.1 then
 q21_P r5.2.2 (103:Int)∧(
 ∀ (r6:Bool×(LI×Int)),r6=q21_F r5.2.2 (103:Int)→(
 wB r6.1→(
 kn r6.2 (x1b.1,x1b.2.1,x1b.2.2.1,x1b.2.2.2.1,x1b.2.2.2.2.1,x1b.2.2.2.2.2.1,x1b.2.2.2.2.2.2.1,old4,r5.1,r6.1))))
 else
 kn r5.2.2 (x1b.1,x1b.2.1,x1b.2.2.1,x1b.2.2.2.1,x1b.2.2.2.2.1,x1b.2.2.2.2.2.1,x1b.2.2.2.2.2.2.1,old4,r5.1,x1b.2.2.2.2.2.2.2.2.2))))∧(∀ (np7:Int),q26_F rv0b=.inr np7→(wfR (.pan np7)→(
 kz np7))))
def q8_g0 (k:Ex→St→Prop) (v:vals q8_d0):Prop:=q8_J0 (q8_y0n k) (fun np=>k (.pan np) st0) v.1 v.2.1 v.2.2.1
theorem q8_v0 (k:Ex→St→Prop):∀ v:vals q8_d0,ex tb (getG q8_G) [] (at' (bodyOf Tryz.f88) [1,1,1,1]) [1,1,1,1] (mkD 39 q8_d0 v) (wk 39 q8_dx0 k)=q8_g0 k v
  | (old4,rv0b,x1b,())=>by kernel_rfl
def q8_X0:Pce:=fun st k=>ckD 39 q8_d0 st fun v=>wfD q8_d0 v→q8_g0 k v
theorem q8_x0:SemOk Tryz.prog (at' (bodyOf Tryz.f88) [1,1,1,1]) q8_X0:=
  (SemOk.wk (N:=39) (ds:=q8_d0) (dx:=q8_dx0) (ex_sound tb_M tb_ok q8_Gok (LabsOk.nil) (at' (bodyOf Tryz.f88) [1,1,1,1]) [1,1,1,1] rfl (storesC_at q8_st [1,1,1,1]))).mono fun st k h=>ckD_mono h fun v hv hw=>Eq.mpr (q8_v0 k v) (hv hw)
def q8_B0:Labs:=([1,1,1,1],q8_X0)::[]
theorem q8_b0:LabsOk Tryz.prog (bodyOf Tryz.f88) q8_B0:=LabsOk.cons q8_x0 (LabsOk.nil)
def q8_d1:List LS:=[.b 0 7 [],.b 1 15 [],.c 7 (.st (.pair yB yI)),.c 15 tyX]
def q8_d1n:List LS:=[.c 7 (.st (.pair yB yI)),.c 15 tyX]
def q8_dx1:DX:=⟨some q8_d1n,none,[]⟩
def q8_y1n (k:Ex→St→Prop) (rv0b:(LI×Int)) (x1b:tEx):Prop:=wfD q8_d1n (rv0b,x1b,())→k .nrm (mkD 39 q8_d1n (rv0b,x1b,()))
def q8_J1 (kn:(LI×Int)→tEx→Prop) (kz:Int→Prop) (rv0b:(LI×Int)) (x1b:tEx):Prop:=
 q26_P rv0b∧(
 (∀ (r3:LI×Bool×(LI×Int)),q26_F rv0b=.inl r3→(
 wfR (.tup [.fr 5 yU r3.1,.v .bool r3.2.1])→(
 bif (!r3.2.1) then
 (∀ (r4:Unit),q72_F (240:Int)=.inl r4→(
 wfR (.tup [])→(
 (wfD q8_d0 (r3.1,r3.2.2,x1b,())→q8_J0 (fun (rv0b:(LI×Int)) (x1b:tEx)=>wfD q8_d0n (rv0b,x1b,())→(
 kn rv0b x1b)) (fun (np:Int)=>kz np) r3.1 r3.2.2 x1b))))∧(∀ (np8:Int),q72_F (240:Int)=.inr np8→(wfR (.pan np8)→(
 kz np8)))
 else
 (wfD q8_d0 (r3.1,r3.2.2,x1b,())→q8_J0 (fun (rv0b:(LI×Int)) (x1b:tEx)=>wfD q8_d0n (rv0b,x1b,())→(
 kn rv0b x1b)) (fun (np:Int)=>kz np) r3.1 r3.2.2 x1b))))∧(∀ (np9:Int),q26_F rv0b=.inr np9→(wfR (.pan np9)→(
 kz np9))))
def q8_g1 (k:Ex→St→Prop) (v:vals q8_d1):Prop:=q8_J1 (q8_y1n k) (fun np=>k (.pan np) st0) v.1 v.2.1
theorem q8_v1 (k:Ex→St→Prop):∀ v:vals q8_d1,ex tb (getG q8_G) q8_B0 (at' (bodyOf Tryz.f88) [1,1]) [1,1] (mkD 39 q8_d1 v) (wk 39 q8_dx1 k)=q8_g1 k v
  | (rv0b,x1b,())=>by kernel_rfl
def q8_X1:Pce:=fun st k=>ckD 39 q8_d1 st fun v=>wfD q8_d1 v→q8_g1 k v
theorem q8_x1:SemOk Tryz.prog (at' (bodyOf Tryz.f88) [1,1]) q8_X1:=
  (SemOk.wk (N:=39) (ds:=q8_d1) (dx:=q8_dx1) (ex_sound tb_M tb_ok q8_Gok (q8_b0) (at' (bodyOf Tryz.f88) [1,1]) [1,1] rfl (storesC_at q8_st [1,1]))).mono fun st k h=>ckD_mono h fun v hv hw=>Eq.mpr (q8_v1 k v) (hv hw)
def q8_B1:Labs:=([1,1],q8_X1)::q8_B0
theorem q8_b1:LabsOk Tryz.prog (bodyOf Tryz.f88) q8_B1:=LabsOk.cons q8_x1 (q8_b0)
def q8_raw (rv0:(LI×Int)) (x1:tEx) (K:Res→List Cell→Prop):Prop:=
 q21_P rv0 (47:Int)∧(
 ∀ (r1:Bool×(LI×Int)),r1=q21_F rv0 (47:Int)→(
 wB r1.1→(
 bif (!r1.1) then
 (∀ (r2:Unit),q72_F (240:Int)=.inl r2→(
 wfR (.tup [])→(
 (wfD q8_d1 (r1.2,(x1.1,x1.2.1,x1.2.2.1,([115]:LI),x1.2.2.2.2.1,x1.2.2.2.2.2.1,x1.2.2.2.2.2.2.1,x1.2.2.2.2.2.2.2.1,x1.2.2.2.2.2.2.2.2.1,x1.2.2.2.2.2.2.2.2.2),())→q8_J1 (fun (rv0b:(LI×Int)) (x1b:tEx)=>wfD q8_d1n (rv0b,x1b,())→(
 K (.tup []) [⟨.st (.pair yB yI),rv0b⟩,⟨.st (.pair tyA (.pair tyA (.pair .bool (.pair .str (.pair tyA (.pair yU (.pair yI (.pair yB (.pair yB .bool))))))))),x1b⟩])) (fun (np:Int)=>K (.pan np) []) r1.2 (x1.1,x1.2.1,x1.2.2.1,([115]:LI),x1.2.2.2.2.1,x1.2.2.2.2.2.1,x1.2.2.2.2.2.2.1,x1.2.2.2.2.2.2.2.1,x1.2.2.2.2.2.2.2.2.1,x1.2.2.2.2.2.2.2.2.2)))))∧(∀ (np10:Int),q72_F (240:Int)=.inr np10→(wfR (.pan np10)→(
 K (.pan np10) [])))
 else
 (wfD q8_d1 (r1.2,(x1.1,x1.2.1,x1.2.2.1,([115]:LI),x1.2.2.2.2.1,x1.2.2.2.2.2.1,x1.2.2.2.2.2.2.1,x1.2.2.2.2.2.2.2.1,x1.2.2.2.2.2.2.2.2.1,x1.2.2.2.2.2.2.2.2.2),())→q8_J1 (fun (rv0b:(LI×Int)) (x1b:tEx)=>wfD q8_d1n (rv0b,x1b,())→(
 K (.tup []) [⟨.st (.pair yB yI),rv0b⟩,⟨.st (.pair tyA (.pair tyA (.pair .bool (.pair .str (.pair tyA (.pair yU (.pair yI (.pair yB (.pair yB .bool))))))))),x1b⟩])) (fun (np:Int)=>K (.pan np) []) r1.2 (x1.1,x1.2.1,x1.2.2.1,([115]:LI),x1.2.2.2.2.1,x1.2.2.2.2.2.1,x1.2.2.2.2.2.2.1,x1.2.2.2.2.2.2.2.1,x1.2.2.2.2.2.2.2.2.1,x1.2.2.2.2.2.2.2.2.2)))))
def q8_A:List AS:=[.r none (.st (.pair yB yI)),.r none tyX]

def q8_J0_P (old4:LI) (rv0b:(LI×Int)) (x1b:tEx):Prop:=
 q26_P rv0b∧(
 Sum.elim (fun r5=>
 bif r5.2.1 then
 q21_P r5.2.2 (103:Int)
 else
 True) (fun _=>True) (q26_F rv0b))
def q8_J0_F (old4:LI) (rv0b:(LI×Int)) (x1b:tEx):((LI×Int)×tEx)⊕(Int):=
 Sum.elim (fun r5=>
 bif r5.2.1 then
 let r6:Bool×(LI×Int):=q21_F r5.2.2 (103:Int)
 .inl (r6.2,(x1b.1,x1b.2.1,x1b.2.2.1,x1b.2.2.2.1,x1b.2.2.2.2.1,x1b.2.2.2.2.2.1,x1b.2.2.2.2.2.2.1,old4,r5.1,r6.1))
 else
 .inl (r5.2.2,(x1b.1,x1b.2.1,x1b.2.2.1,x1b.2.2.2.1,x1b.2.2.2.2.1,x1b.2.2.2.2.2.1,x1b.2.2.2.2.2.2.1,old4,r5.1,x1b.2.2.2.2.2.2.2.2.2))) (fun np7=>
 .inr (np7)) (q26_F rv0b)
theorem q8_J0_sp (kn:(LI×Int)→tEx→Prop) (kz:Int→Prop) (old4:LI) (rv0b:(LI×Int)) (x1b:tEx) (hp:q8_J0_P old4 rv0b x1b) (hn:∀ q:(LI×Int)×tEx,q8_J0_F old4 rv0b x1b=.inl q→kn q.1 q.2) (hz:∀ q:Int,q8_J0_F old4 rv0b x1b=.inr q→kz q):q8_J0 kn kz old4 rv0b x1b:=
 have h:=hc2 hn hz; an1 hp fun hp=>ae1 hp h (fun _ hp h=>br1 hp h (fun _ hp h=>⟨hp,al (h _ rfl)⟩)
 fun _ hp h=>h _ rfl)
 fun _ h=>h _ rfl
def q8_J1_P (rv0b:(LI×Int)) (x1b:tEx):Prop:=
 q26_P rv0b∧(
 Sum.elim (fun r3=>
 bif (!r3.2.1) then
 Sum.elim (fun r4=>
 q8_J0_P r3.1 r3.2.2 x1b) (fun _=>True) (q72_F (240:Int))
 else
 q8_J0_P r3.1 r3.2.2 x1b) (fun _=>True) (q26_F rv0b))
def q8_J1_F (rv0b:(LI×Int)) (x1b:tEx):((LI×Int)×tEx)⊕(Int):=
 Sum.elim (fun r3=>
 bif (!r3.2.1) then
 Sum.elim (fun r4=>
 Sum.elim (fun q0n=>
 let rv0b:(LI×Int):=q0n.1
 let x1b:tEx:=q0n.2
 .inl (rv0b,x1b)) (fun q0z=>
 let np:Int:=q0z
 .inr (np)) (q8_J0_F r3.1 r3.2.2 x1b)) (fun np8=>
 .inr (np8)) (q72_F (240:Int))
 else
 Sum.elim (fun q0n=>
 let rv0b:(LI×Int):=q0n.1
 let x1b:tEx:=q0n.2
 .inl (rv0b,x1b)) (fun q0z=>
 let np:Int:=q0z
 .inr (np)) (q8_J0_F r3.1 r3.2.2 x1b)) (fun np9=>
 .inr (np9)) (q26_F rv0b)
theorem q8_J1_sp (kn:(LI×Int)→tEx→Prop) (kz:Int→Prop) (rv0b:(LI×Int)) (x1b:tEx) (hp:q8_J1_P rv0b x1b) (hn:∀ q:(LI×Int)×tEx,q8_J1_F rv0b x1b=.inl q→kn q.1 q.2) (hz:∀ q:Int,q8_J1_F rv0b x1b=.inr q→kz q):q8_J1 kn kz rv0b x1b:=
 have h:=hc2 hn hz; an1 hp fun hp=>ae1 hp h (fun _ hp h=>br1 hp h (fun _ hp h=>ae1 hp h (fun _ hp h=>fun _=>q8_J0_sp _ _ _ _ _ hp
 (fun _ e _=>have h:=sl e h; h _ rfl)
 (fun _ e=>have h:=sr e h; h _ rfl))
 fun _ h=>h _ rfl)
 fun _ hp h=>fun _=>q8_J0_sp _ _ _ _ _ hp
 (fun _ e _=>have h:=sl e h; h _ rfl)
 (fun _ e=>have h:=sr e h; h _ rfl))
 fun _ h=>h _ rfl
def q8_P (rv0:(LI×Int)) (x1:tEx):Prop:=
 q21_P rv0 (47:Int)∧(
 let r1:Bool×(LI×Int):=q21_F rv0 (47:Int)
 bif (!r1.1) then
 Sum.elim (fun r2=>
 q8_J1_P r1.2 (x1.1,x1.2.1,x1.2.2.1,([115]:LI),x1.2.2.2.2.1,x1.2.2.2.2.2.1,x1.2.2.2.2.2.2.1,x1.2.2.2.2.2.2.2.1,x1.2.2.2.2.2.2.2.2.1,x1.2.2.2.2.2.2.2.2.2)) (fun _=>True) (q72_F (240:Int))
 else
 q8_J1_P r1.2 (x1.1,x1.2.1,x1.2.2.1,([115]:LI),x1.2.2.2.2.1,x1.2.2.2.2.2.1,x1.2.2.2.2.2.2.1,x1.2.2.2.2.2.2.2.1,x1.2.2.2.2.2.2.2.2.1,x1.2.2.2.2.2.2.2.2.2))
def q8_F (rv0:(LI×Int)) (x1:tEx):((LI×Int)×tEx)⊕Int:=
 let r1:Bool×(LI×Int):=q21_F rv0 (47:Int)
 bif (!r1.1) then
 Sum.elim (fun r2=>
 Sum.elim (fun q1n=>
 let rv0b:(LI×Int):=q1n.1
 let x1b:tEx:=q1n.2
 .inl ((rv0b,x1b))) (fun q1z=>
 let np:Int:=q1z
 .inr np) (q8_J1_F r1.2 (x1.1,x1.2.1,x1.2.2.1,([115]:LI),x1.2.2.2.2.1,x1.2.2.2.2.2.1,x1.2.2.2.2.2.2.1,x1.2.2.2.2.2.2.2.1,x1.2.2.2.2.2.2.2.2.1,x1.2.2.2.2.2.2.2.2.2))) (fun np10=>
 .inr np10) (q72_F (240:Int))
 else
 Sum.elim (fun q1n=>
 let rv0b:(LI×Int):=q1n.1
 let x1b:tEx:=q1n.2
 .inl ((rv0b,x1b))) (fun q1z=>
 let np:Int:=q1z
 .inr np) (q8_J1_F r1.2 (x1.1,x1.2.1,x1.2.2.1,([115]:LI),x1.2.2.2.2.1,x1.2.2.2.2.2.1,x1.2.2.2.2.2.2.1,x1.2.2.2.2.2.2.2.1,x1.2.2.2.2.2.2.2.2.1,x1.2.2.2.2.2.2.2.2.2))
theorem q8_sp (rv0:(LI×Int)) (x1:tEx) (K:Res→List Cell→Prop) (_:wfA q8_A (rv0,x1,())) (hp:q8_P rv0 x1) (h:∀ r:(LI×Int)×tEx,q8_F rv0 x1=.inl r→K (.tup []) [⟨.st (.pair yB yI),r.1⟩,⟨.st (.pair tyA (.pair tyA (.pair .bool (.pair .str (.pair tyA (.pair yU (.pair yI (.pair yB (.pair yB .bool))))))))),r.2⟩]) (hqp:∀ n:Int,q8_F rv0 x1=.inr n→K (.pan n) []):q8_raw rv0 x1 K:=
 have h:=hc2 h hqp; an1 hp fun hp=>al (br1 hp h (fun _ hp h=>ae1 hp h (fun _ hp h=>fun _=>q8_J1_sp _ _ _ _ hp
 (fun _ e _=>have h:=sl e h; h _ rfl)
 (fun _ e=>have h:=sr e h; h _ rfl))
 fun _ h=>h _ rfl)
 fun _ hp h=>fun _=>q8_J1_sp _ _ _ _ hp
 (fun _ e _=>have h:=sl e h; h _ rfl)
 (fun _ e=>have h:=sr e h; h _ rfl))
def q8_C (v:valsA q8_A) (K:Res→List Cell→Prop):Prop:=q8_P v.1 v.2.1∧(∀ r:(LI×Int)×tEx,q8_F v.1 v.2.1=.inl r→K (.tup []) [⟨.st (.pair yB yI),r.1⟩,⟨.st (.pair tyA (.pair tyA (.pair .bool (.pair .str (.pair tyA (.pair yU (.pair yI (.pair yB (.pair yB .bool))))))))),r.2⟩])∧∀ n:Int,q8_F v.1 v.2.1=.inr n→K (.pan n) []
def q8_S:App:=specW q8_A q8_C
theorem q8_wv (K:Res→List Cell→Prop):∀ v:valsA q8_A,runF tb (getG q8_G) q8_B1 Tryz.f88 [] (mkA q8_A v) K=q8_raw v.1 v.2.1 K
  | (rv0,x1,())=>by kernel_rfl
theorem q8_ok:AppOk Tryz.prog 88 q8_S:=
  AppOk.specW (spec_ok ((runF_ok tb_M tb_ok q8_Gok (q8_b1) (f:=88) (fn:=Tryz.f88) (by kernel_rfl) (by kernel_rfl) q8_st [])) fun v K hw h=>(q8_wv K v).mpr (q8_sp v.1 v.2.1 K hw h.1 h.2.1 h.2.2))

def q16_G:List (Nat×App):=[(84,q25_S),(85,q10_S),(86,q22_S),(81,q21_S),(43,q72_S),(87,q23_S),(88,q8_S)]
theorem q16_Gok:GOk Tryz.prog (getG q16_G):=GOk.cons q25_ok (GOk.cons q10_ok (GOk.cons q22_ok (GOk.cons q21_ok (GOk.cons q72_ok (GOk.cons q23_ok (GOk.cons q8_ok (GOk.nil)))))))
theorem q16_st:storesC (bodyOf Tryz.f42)=true:=by kernel_rfl
def q16_d0:List LS:=[.b 0 7 [],.b 1 15 [],.c 7 (.st (.pair yB yI)),.c 15 tyX]
def q16_d0n:List LS:=[.c 7 (.st (.pair yB yI)),.c 15 tyX]
def q16_dx0:DX:=⟨some q16_d0n,none,[]⟩
def q16_y0n (k:Ex→St→Prop) (rv0b:(LI×Int)) (x1b:tEx):Prop:=wfD q16_d0n (rv0b,x1b,())→k .nrm (mkD 126 q16_d0n (rv0b,x1b,()))
def q16_J0 (kn:(LI×Int)→tEx→Prop) (rv0b:(LI×Int)) (x1b:tEx):Prop:=
 q21_P rv0b (33:Int)∧(
 ∀ (r7:Bool×(LI×Int)),r7=q21_F rv0b (33:Int)→(
 wB r7.1→(
 bif r7.1 then
 q10_P r7.2 true∧(
 ∀ (r8:Int×(LI×Int)),r8=q10_F r7.2 true→(
 wfR (.one (.v yU r8.1))→(
 kn r8.2 (x1b.1,x1b.2.1,x1b.2.2.1,([112,117,33]:LI),x1b.2.2.2.2.1,r8.1,x1b.2.2.2.2.2.2.1,x1b.2.2.2.2.2.2.2.1,x1b.2.2.2.2.2.2.2.2.1,x1b.2.2.2.2.2.2.2.2.2))))
 else
 q10_P r7.2 true∧(
 ∀ (r9:Int×(LI×Int)),r9=q10_F r7.2 true→(
 wfR (.one (.v yU r9.1))→(
 kn r9.2 (x1b.1,x1b.2.1,x1b.2.2.1,([112,117]:LI),x1b.2.2.2.2.1,r9.1,x1b.2.2.2.2.2.2.1,x1b.2.2.2.2.2.2.2.1,x1b.2.2.2.2.2.2.2.2.1,x1b.2.2.2.2.2.2.2.2.2)))))))
def q16_g0 (k:Ex→St→Prop) (v:vals q16_d0):Prop:=q16_J0 (q16_y0n k) v.1 v.2.1
theorem q16_v0 (k:Ex→St→Prop):∀ v:vals q16_d0,ex tb (getG q16_G) [] (at' (bodyOf Tryz.f42) [1,0,1,1,1,0,1,1,1]) [1,0,1,1,1,0,1,1,1] (mkD 126 q16_d0 v) (wk 126 q16_dx0 k)=q16_g0 k v
  | (rv0b,x1b,())=>by kernel_rfl
def q16_X0:Pce:=fun st k=>ckD 126 q16_d0 st fun v=>wfD q16_d0 v→q16_g0 k v
theorem q16_x0:SemOk Tryz.prog (at' (bodyOf Tryz.f42) [1,0,1,1,1,0,1,1,1]) q16_X0:=
  (SemOk.wk (N:=126) (ds:=q16_d0) (dx:=q16_dx0) (ex_sound tb_M tb_ok q16_Gok (LabsOk.nil) (at' (bodyOf Tryz.f42) [1,0,1,1,1,0,1,1,1]) [1,0,1,1,1,0,1,1,1] rfl (storesC_at q16_st [1,0,1,1,1,0,1,1,1]))).mono fun st k h=>ckD_mono h fun v hv hw=>Eq.mpr (q16_v0 k v) (hv hw)
def q16_B0:Labs:=([1,0,1,1,1,0,1,1,1],q16_X0)::[]
theorem q16_b0:LabsOk Tryz.prog (bodyOf Tryz.f42) q16_B0:=LabsOk.cons q16_x0 (LabsOk.nil)
def q16_d1:List LS:=[.b 0 7 [],.b 1 15 [],.v 4 yU,.c 7 (.st (.pair yB yI)),.c 15 tyX]
def q16_d1x1:List LS:=[.c 7 (.st (.pair yB yI)),.c 15 tyX]
def q16_dx1:DX:=⟨none,none,[(1,q16_d1x1)]⟩
def q16_y1x1 (k:Ex→St→Prop) (rv0b:(LI×Int)) (x1b:tEx):Prop:=wfD q16_d1x1 (rv0b,x1b,())→k (.exit 1) (mkD 126 q16_d1x1 (rv0b,x1b,()))
def q16_T1 (Y:Int→(LI×Int)→tEx→Prop) (kx1:(LI×Int)→tEx→Prop) (b4:Int) (rv0b:(LI×Int)) (x1b:tEx):Prop:=
 q21_P rv0b b4∧(
 ∀ (r16:Bool×(LI×Int)),r16=q21_F rv0b b4→(
 wB r16.1→(
 bif r16.1 then
 Y b4 r16.2 (x1b.1,x1b.2.1,x1b.2.2.1,x1b.2.2.2.1,x1b.2.2.2.2.1,x1b.2.2.2.2.2.1,(mn (IntKind.wrap .i64 (x1b.2.2.2.2.2.2.1+(1:Int))) (9999:Int)),x1b.2.2.2.2.2.2.2.1,x1b.2.2.2.2.2.2.2.2.1,x1b.2.2.2.2.2.2.2.2.2)
 else
 kx1 r16.2 x1b)))
def q16_L1 (kx1:(LI×Int)→tEx→Prop):Nat→Int→(LI×Int)→tEx→Prop
  | 0,_,_,_=>False
  | n+1,b4,rv0b,x1b=>wfD q16_d1 (b4,rv0b,x1b,())→q16_T1 (q16_L1 kx1 n) kx1 b4 rv0b x1b
def q16_c1:Pce:=ex tb (getG q16_G) q16_B0 (at' (bodyOf Tryz.f42) [0,0,1,1,0,1,1,1,1,1,1,1,0,1,1,1]) [0,0,1,1,0,1,1,1,1,1,1,1,0,1,1,1]
def q16_g1 (k:Ex→St→Prop) (n:Nat) (v:vals q16_d1):Prop:=q16_L1 (q16_y1x1 k) n v.1 v.2.1 v.2.2.1
theorem q16_s1 (k:Ex→St→Prop) (Y:vals q16_d1→Prop):∀ v:vals q16_d1,q16_c1 (mkD 126 q16_d1 v) (lpK 126 q16_d1 q16_dx1 k Y)=q16_T1 (fun b4 rv0b x1b=>Y (b4,rv0b,x1b,())) (q16_y1x1 k) v.1 v.2.1 v.2.2.1
  | (b4,rv0b,x1b,())=>by kernel_rfl
theorem q16_v1 (k:Ex→St→Prop):∀ (n:Nat) (v:vals q16_d1),lpD 126 q16_d1 q16_dx1 q16_c1 k n v=q16_g1 k n v
  | 0,(b4,rv0b,x1b,())=>rfl
  | n+1,(b4,rv0b,x1b,())=>congrArg (fun Z:Prop=>wfD q16_d1 (b4,rv0b,x1b,())→Z) ((q16_s1 k _ (b4,rv0b,x1b,())).trans (congrArg (fun Y=>q16_T1 Y (q16_y1x1 k) b4 rv0b x1b) (funext fun b4=>funext fun rv0b=>funext fun x1b=>q16_v1 k n (b4,rv0b,x1b,()))))
def q16_X1:Pce:=fun st k=>ckD 126 q16_d1 st fun v=>wfD q16_d1 v→∃ n,q16_g1 k n v
theorem q16_x1:SemOk Tryz.prog (at' (bodyOf Tryz.f42) [0,1,1,0,1,1,1,1,1,1,1,0,1,1,1]) q16_X1:=
  (SemOk.loop (ex_sound tb_M tb_ok q16_Gok (q16_b0) (at' (bodyOf Tryz.f42) [0,0,1,1,0,1,1,1,1,1,1,1,0,1,1,1]) [0,0,1,1,0,1,1,1,1,1,1,1,0,1,1,1] rfl (storesC_at q16_st [0,0,1,1,0,1,1,1,1,1,1,1,0,1,1,1])) 126 q16_d1 q16_dx1).mono fun st k h=>ckD_mono h fun v hv hw=>(hv hw).elim fun n hn=>⟨n,Eq.mpr (q16_v1 k n v) hn⟩
def q16_B1:Labs:=([0,1,1,0,1,1,1,1,1,1,1,0,1,1,1],q16_X1)::q16_B0
theorem q16_b1:LabsOk Tryz.prog (bodyOf Tryz.f42) q16_B1:=LabsOk.cons q16_x1 (q16_b0)
def q16_d2:List LS:=[.b 0 7 [],.b 1 15 [],.v 4 yU,.v 14 yU,.v 107 .bool,.c 7 (.st (.pair yB yI)),.c 15 tyX]
def q16_d2n:List LS:=[.c 7 (.st (.pair yB yI)),.c 15 tyX]
def q16_dx2:DX:=⟨some q16_d2n,none,[]⟩
def q16_y2n (k:Ex→St→Prop) (rv0b:(LI×Int)) (x1b:tEx):Prop:=wfD q16_d2n (rv0b,x1b,())→k .nrm (mkD 126 q16_d2n (rv0b,x1b,()))
def q16_J2 (kn:(LI×Int)→tEx→Prop) (kz:Int→Prop) (b4:Int) (x14:Int) (x107:Bool) (rv0b:(LI×Int)) (x1b:tEx):Prop:=
 bif x107 then
 q23_P rv0b∧(
 (∀ (r24:tAd×(LI×Int)),q23_F rv0b=.inl r24→(
 wfR (.one (.v tyA r24.1))→(
 kn r24.2 (x1b.1,x1b.2.1,x1b.2.2.1,([b4]:LI),r24.1,x1b.2.2.2.2.2.1,x1b.2.2.2.2.2.2.1,x1b.2.2.2.2.2.2.2.1,x1b.2.2.2.2.2.2.2.2.1,x1b.2.2.2.2.2.2.2.2.2))))∧(∀ (np25:Int),q23_F rv0b=.inr np25→(wfR (.pan np25)→(
 kz np25))))
 else
 bif (decide (x14=(115:Int))) then
 q8_P rv0b x1b∧(
 (∀ (r26:(LI×Int)×tEx),q8_F rv0b x1b=.inl r26→(
 wfR (.tup [])→(
 kn r26.1 r26.2)))∧(∀ (np27:Int),q8_F rv0b x1b=.inr np27→(wfR (.pan np27)→(
 kz np27))))
 else
 (∀ (r28:Unit),q72_F (240:Int)=.inl r28→(
 wfR (.tup [])→(
 kn rv0b x1b)))∧(∀ (np29:Int),q72_F (240:Int)=.inr np29→(wfR (.pan np29)→(
 kz np29)))
def q16_g2 (k:Ex→St→Prop) (v:vals q16_d2):Prop:=q16_J2 (q16_y2n k) (fun np=>k (.pan np) st0) v.1 v.2.1 v.2.2.1 v.2.2.2.1 v.2.2.2.2.1
theorem q16_v2 (k:Ex→St→Prop):∀ v:vals q16_d2,ex tb (getG q16_G) q16_B1 (at' (bodyOf Tryz.f42) [1,1,1,1,1,1,1,1,1,1,1,0,1,1,1]) [1,1,1,1,1,1,1,1,1,1,1,0,1,1,1] (mkD 126 q16_d2 v) (wk 126 q16_dx2 k)=q16_g2 k v
  | (b4,x14,x107,rv0b,x1b,())=>by kernel_rfl
def q16_X2:Pce:=fun st k=>ckD 126 q16_d2 st fun v=>wfD q16_d2 v→q16_g2 k v
theorem q16_x2:SemOk Tryz.prog (at' (bodyOf Tryz.f42) [1,1,1,1,1,1,1,1,1,1,1,0,1,1,1]) q16_X2:=
  (SemOk.wk (N:=126) (ds:=q16_d2) (dx:=q16_dx2) (ex_sound tb_M tb_ok q16_Gok (q16_b1) (at' (bodyOf Tryz.f42) [1,1,1,1,1,1,1,1,1,1,1,0,1,1,1]) [1,1,1,1,1,1,1,1,1,1,1,0,1,1,1] rfl (storesC_at q16_st [1,1,1,1,1,1,1,1,1,1,1,0,1,1,1]))).mono fun st k h=>ckD_mono h fun v hv hw=>Eq.mpr (q16_v2 k v) (hv hw)
def q16_B2:Labs:=([1,1,1,1,1,1,1,1,1,1,1,0,1,1,1],q16_X2)::q16_B1
theorem q16_b2:LabsOk Tryz.prog (bodyOf Tryz.f42) q16_B2:=LabsOk.cons q16_x2 (q16_b1)
def q16_d3:List LS:=[.b 0 7 [],.b 1 15 [],.v 4 yU,.v 14 yU,.v 69 .bool,.c 7 (.st (.pair yB yI)),.c 15 tyX]
def q16_d3n:List LS:=[.c 7 (.st (.pair yB yI)),.c 15 tyX]
def q16_dx3:DX:=⟨some q16_d3n,none,[]⟩
def q16_y3n (k:Ex→St→Prop) (rv0b:(LI×Int)) (x1b:tEx):Prop:=wfD q16_d3n (rv0b,x1b,())→k .nrm (mkD 126 q16_d3n (rv0b,x1b,()))
def q16_J3 (kn:(LI×Int)→tEx→Prop) (kz:Int→Prop) (b4:Int) (x14:Int) (x69:Bool) (rv0b:(LI×Int)) (x1b:tEx):Prop:=
 bif x69 then
 (wfD q16_d1 (b4,rv0b,(x1b.1,x1b.2.1,x1b.2.2.1,([b4]:LI),x1b.2.2.2.2.1,x1b.2.2.2.2.2.1,(1:Int),x1b.2.2.2.2.2.2.2.1,x1b.2.2.2.2.2.2.2.2.1,x1b.2.2.2.2.2.2.2.2.2),())→∃ n,q16_L1 (fun (rv0b:(LI×Int)) (x1b:tEx)=>wfD q16_d1x1 (rv0b,x1b,())→(
 kn rv0b x1b)) n b4 rv0b (x1b.1,x1b.2.1,x1b.2.2.1,([b4]:LI),x1b.2.2.2.2.1,x1b.2.2.2.2.2.1,(1:Int),x1b.2.2.2.2.2.2.2.1,x1b.2.2.2.2.2.2.2.2.1,x1b.2.2.2.2.2.2.2.2.2))
 else
 bif (decide (x14=(99:Int))) then
 q21_P rv0b (111:Int)∧(
 ∀ (r17:Bool×(LI×Int)),r17=q21_F rv0b (111:Int)→(
 wB r17.1→(
 bif (!r17.1) then
 (∀ (r18:Unit),q72_F (240:Int)=.inl r18→(
 wfR (.tup [])→(
 q23_P r17.2∧(
 (∀ (r19:tAd×(LI×Int)),q23_F r17.2=.inl r19→(
 wfR (.one (.v tyA r19.1))→(
 kn r19.2 (x1b.1,x1b.2.1,x1b.2.2.1,([116]:LI),r19.1,x1b.2.2.2.2.2.1,x1b.2.2.2.2.2.2.1,x1b.2.2.2.2.2.2.2.1,x1b.2.2.2.2.2.2.2.2.1,x1b.2.2.2.2.2.2.2.2.2))))∧(∀ (np20:Int),q23_F r17.2=.inr np20→(wfR (.pan np20)→(
 kz np20)))))))∧(∀ (np21:Int),q72_F (240:Int)=.inr np21→(wfR (.pan np21)→(
 kz np21)))
 else
 q23_P r17.2∧(
 (∀ (r22:tAd×(LI×Int)),q23_F r17.2=.inl r22→(
 wfR (.one (.v tyA r22.1))→(
 kn r22.2 (x1b.1,x1b.2.1,x1b.2.2.1,([116]:LI),r22.1,x1b.2.2.2.2.2.1,x1b.2.2.2.2.2.2.1,x1b.2.2.2.2.2.2.2.1,x1b.2.2.2.2.2.2.2.2.1,x1b.2.2.2.2.2.2.2.2.2))))∧(∀ (np23:Int),q23_F r17.2=.inr np23→(wfR (.pan np23)→(
 kz np23)))))))
 else
 bif (decide (x14=(116:Int))) then
 (wfD q16_d2 (b4,x14,(decide (x14=(116:Int))),rv0b,x1b,())→q16_J2 (fun (rv0b:(LI×Int)) (x1b:tEx)=>wfD q16_d2n (rv0b,x1b,())→(
 kn rv0b x1b)) (fun (np:Int)=>kz np) b4 x14 (decide (x14=(116:Int))) rv0b x1b)
 else
 (wfD q16_d2 (b4,x14,(decide (x14=(109:Int))),rv0b,x1b,())→q16_J2 (fun (rv0b:(LI×Int)) (x1b:tEx)=>wfD q16_d2n (rv0b,x1b,())→(
 kn rv0b x1b)) (fun (np:Int)=>kz np) b4 x14 (decide (x14=(109:Int))) rv0b x1b)
def q16_g3 (k:Ex→St→Prop) (v:vals q16_d3):Prop:=q16_J3 (q16_y3n k) (fun np=>k (.pan np) st0) v.1 v.2.1 v.2.2.1 v.2.2.2.1 v.2.2.2.2.1
theorem q16_v3 (k:Ex→St→Prop):∀ v:vals q16_d3,ex tb (getG q16_G) q16_B2 (at' (bodyOf Tryz.f42) [1,1,1,1,1,1,1,0,1,1,1]) [1,1,1,1,1,1,1,0,1,1,1] (mkD 126 q16_d3 v) (wk 126 q16_dx3 k)=q16_g3 k v
  | (b4,x14,x69,rv0b,x1b,())=>by kernel_rfl
def q16_X3:Pce:=fun st k=>ckD 126 q16_d3 st fun v=>wfD q16_d3 v→q16_g3 k v
theorem q16_x3:SemOk Tryz.prog (at' (bodyOf Tryz.f42) [1,1,1,1,1,1,1,0,1,1,1]) q16_X3:=
  (SemOk.wk (N:=126) (ds:=q16_d3) (dx:=q16_dx3) (ex_sound tb_M tb_ok q16_Gok (q16_b2) (at' (bodyOf Tryz.f42) [1,1,1,1,1,1,1,0,1,1,1]) [1,1,1,1,1,1,1,0,1,1,1] rfl (storesC_at q16_st [1,1,1,1,1,1,1,0,1,1,1]))).mono fun st k h=>ckD_mono h fun v hv hw=>Eq.mpr (q16_v3 k v) (hv hw)
def q16_B3:Labs:=([1,1,1,1,1,1,1,0,1,1,1],q16_X3)::q16_B2
theorem q16_b3:LabsOk Tryz.prog (bodyOf Tryz.f42) q16_B3:=LabsOk.cons q16_x3 (q16_b2)
def q16_d4:List LS:=[.b 0 7 [],.b 1 15 [],.v 4 yU,.v 14 yU,.v 16 .bool,.c 7 (.st (.pair yB yI)),.c 15 tyX]
def q16_d4n:List LS:=[.c 7 (.st (.pair yB yI)),.c 15 tyX]
def q16_dx4:DX:=⟨some q16_d4n,none,[]⟩
def q16_y4n (k:Ex→St→Prop) (rv0b:(LI×Int)) (x1b:tEx):Prop:=wfD q16_d4n (rv0b,x1b,())→k .nrm (mkD 126 q16_d4n (rv0b,x1b,()))
def q16_J4 (kn:(LI×Int)→tEx→Prop) (kz:Int→Prop) (b4:Int) (x14:Int) (x16:Bool) (rv0b:(LI×Int)) (x1b:tEx):Prop:=
 bif x16 then
 q10_P rv0b false∧(
 ∀ (r2:Int×(LI×Int)),r2=q10_F rv0b false→(
 wfR (.one (.v yU r2.1))→(
 q22_P r2.2∧(
 (∀ (r3:Int×(LI×Int)),q22_F r2.2=.inl r3→(
 wI r3.1→(
 kn r3.2 (x1b.1,x1b.2.1,x1b.2.2.1,([b4]:LI),x1b.2.2.2.2.1,r2.1,r3.1,x1b.2.2.2.2.2.2.2.1,x1b.2.2.2.2.2.2.2.2.1,x1b.2.2.2.2.2.2.2.2.2))))∧(∀ (np4:Int),q22_F r2.2=.inr np4→(wfR (.pan np4)→(
 kz np4)))))))
 else
 bif (decide (x14=(112:Int))) then
 q21_P rv0b (117:Int)∧(
 ∀ (r5:Bool×(LI×Int)),r5=q21_F rv0b (117:Int)→(
 wB r5.1→(
 bif (!r5.1) then
 (∀ (r6:Unit),q72_F (240:Int)=.inl r6→(
 wfR (.tup [])→(
 (wfD q16_d0 (r5.2,x1b,())→q16_J0 (fun (rv0b:(LI×Int)) (x1b:tEx)=>wfD q16_d0n (rv0b,x1b,())→(
 kn rv0b x1b)) r5.2 x1b))))∧(∀ (np10:Int),q72_F (240:Int)=.inr np10→(wfR (.pan np10)→(
 kz np10)))
 else
 (wfD q16_d0 (r5.2,x1b,())→q16_J0 (fun (rv0b:(LI×Int)) (x1b:tEx)=>wfD q16_d0n (rv0b,x1b,())→(
 kn rv0b x1b)) r5.2 x1b))))
 else
 bif (decide (x14=(106:Int))) then
 q21_P rv0b (33:Int)∧(
 ∀ (r11:Bool×(LI×Int)),r11=q21_F rv0b (33:Int)→(
 wB r11.1→(
 bif r11.1 then
 q22_P r11.2∧(
 (∀ (r12:Int×(LI×Int)),q22_F r11.2=.inl r12→(
 wI r12.1→(
 kn r12.2 (x1b.1,x1b.2.1,x1b.2.2.1,([106,33]:LI),x1b.2.2.2.2.1,x1b.2.2.2.2.2.1,r12.1,x1b.2.2.2.2.2.2.2.1,x1b.2.2.2.2.2.2.2.2.1,x1b.2.2.2.2.2.2.2.2.2))))∧(∀ (np13:Int),q22_F r11.2=.inr np13→(wfR (.pan np13)→(
 kz np13))))
 else
 q22_P r11.2∧(
 (∀ (r14:Int×(LI×Int)),q22_F r11.2=.inl r14→(
 wI r14.1→(
 kn r14.2 (x1b.1,x1b.2.1,x1b.2.2.1,([106]:LI),x1b.2.2.2.2.1,x1b.2.2.2.2.2.1,r14.1,x1b.2.2.2.2.2.2.2.1,x1b.2.2.2.2.2.2.2.2.1,x1b.2.2.2.2.2.2.2.2.2))))∧(∀ (np15:Int),q22_F r11.2=.inr np15→(wfR (.pan np15)→(
 kz np15)))))))
 else
 bif (decide (x14=(62:Int))) then
 (wfD q16_d3 (b4,x14,(decide (x14=(62:Int))),rv0b,x1b,())→q16_J3 (fun (rv0b:(LI×Int)) (x1b:tEx)=>wfD q16_d3n (rv0b,x1b,())→(
 kn rv0b x1b)) (fun (np:Int)=>kz np) b4 x14 (decide (x14=(62:Int))) rv0b x1b)
 else
 (wfD q16_d3 (b4,x14,(decide (x14=(60:Int))),rv0b,x1b,())→q16_J3 (fun (rv0b:(LI×Int)) (x1b:tEx)=>wfD q16_d3n (rv0b,x1b,())→(
 kn rv0b x1b)) (fun (np:Int)=>kz np) b4 x14 (decide (x14=(60:Int))) rv0b x1b)
def q16_g4 (k:Ex→St→Prop) (v:vals q16_d4):Prop:=q16_J4 (q16_y4n k) (fun np=>k (.pan np) st0) v.1 v.2.1 v.2.2.1 v.2.2.2.1 v.2.2.2.2.1
theorem q16_v4 (k:Ex→St→Prop):∀ v:vals q16_d4,ex tb (getG q16_G) q16_B3 (at' (bodyOf Tryz.f42) [1,0,1,1,1]) [1,0,1,1,1] (mkD 126 q16_d4 v) (wk 126 q16_dx4 k)=q16_g4 k v
  | (b4,x14,x16,rv0b,x1b,())=>by kernel_rfl
def q16_X4:Pce:=fun st k=>ckD 126 q16_d4 st fun v=>wfD q16_d4 v→q16_g4 k v
theorem q16_x4:SemOk Tryz.prog (at' (bodyOf Tryz.f42) [1,0,1,1,1]) q16_X4:=
  (SemOk.wk (N:=126) (ds:=q16_d4) (dx:=q16_dx4) (ex_sound tb_M tb_ok q16_Gok (q16_b3) (at' (bodyOf Tryz.f42) [1,0,1,1,1]) [1,0,1,1,1] rfl (storesC_at q16_st [1,0,1,1,1]))).mono fun st k h=>ckD_mono h fun v hv hw=>Eq.mpr (q16_v4 k v) (hv hw)
def q16_B4:Labs:=([1,0,1,1,1],q16_X4)::q16_B3
theorem q16_b4:LabsOk Tryz.prog (bodyOf Tryz.f42) q16_B4:=LabsOk.cons q16_x4 (q16_b3)
def q16_raw (rv0:(LI×Int)) (x1:tEx) (K:Res→List Cell→Prop):Prop:=
 q25_P rv0∧(
 ∀ (r1:Int),r1=q25_F rv0→(
 wfR (.one (.v yU r1))→(
 bif (decide (r1=(100:Int))) then
 (wfD q16_d4 (r1,r1,(decide (r1=(100:Int))),(rv0.1,(IntKind.wrap .i64 (rv0.2+(1:Int)))),x1,())→q16_J4 (fun (rv0b:(LI×Int)) (x1b:tEx)=>wfD q16_d4n (rv0b,x1b,())→(
 K (.tup []) [⟨.st (.pair yB yI),rv0b⟩,⟨.st (.pair tyA (.pair tyA (.pair .bool (.pair .str (.pair tyA (.pair yU (.pair yI (.pair yB (.pair yB .bool))))))))),x1b⟩])) (fun (np:Int)=>K (.pan np) []) r1 r1 (decide (r1=(100:Int))) (rv0.1,(IntKind.wrap .i64 (rv0.2+(1:Int)))) x1)
 else
 (wfD q16_d4 (r1,r1,(decide (r1=(121:Int))),(rv0.1,(IntKind.wrap .i64 (rv0.2+(1:Int)))),x1,())→q16_J4 (fun (rv0b:(LI×Int)) (x1b:tEx)=>wfD q16_d4n (rv0b,x1b,())→(
 K (.tup []) [⟨.st (.pair yB yI),rv0b⟩,⟨.st (.pair tyA (.pair tyA (.pair .bool (.pair .str (.pair tyA (.pair yU (.pair yI (.pair yB (.pair yB .bool))))))))),x1b⟩])) (fun (np:Int)=>K (.pan np) []) r1 r1 (decide (r1=(121:Int))) (rv0.1,(IntKind.wrap .i64 (rv0.2+(1:Int)))) x1))))
def q16_A:List AS:=[.r none (.st (.pair yB yI)),.r none tyX]
def q16_L1_P (b:Int) (rv:LI×Int) (x:ExD):Prop:=0≤rv.2∧rv.2≤rv.1.length∧rv.1.length≤lim∧0≤x.2.2.2.2.2.2.1∧x.2.2.2.2.2.2.1≤9999
def q16_L1_F (b:Int) (rv:LI×Int) (x:ExD):(LI×Int)×ExD:=
 ((rv.1,rv.2+(reps b (rv.1.drop rv.2.toNat):Int)),exN x (if 9999<x.2.2.2.2.2.2.1+(reps b (rv.1.drop rv.2.toNat):Int) then 9999 else x.2.2.2.2.2.2.1+(reps b (rv.1.drop rv.2.toNat):Int)))
theorem q16_l1 (kx1:LI×Int→ExD→Prop) (s:LI) (b:Int) (hs:s.length≤lim) :
    ∀ (n i:Nat) (x:ExD),s.length<n+i→i≤s.length→0≤x.2.2.2.2.2.2.1→x.2.2.2.2.2.2.1≤9999→
      kx1 (s,((i+reps b (s.drop i):Nat):Int)) (exN x (if 9999<x.2.2.2.2.2.2.1+(reps b (s.drop i):Int) then 9999 else x.2.2.2.2.2.2.1+(reps b (s.drop i):Int)))→q16_L1 kx1 n b (s,(i:Int)) x
  | 0,i,x,hn,hi,_,_,hx=>absurd hn (by omega)
  | n+1,i,x,hn,hi,h0,h9,hx=>by
    intro _
    unfold q16_T1
    have hlim:lim=1099511627776:=rfl
    obtain ⟨tp,te⟩:=exTakes s i b hi hs
    refine ⟨tp,fun r hr _=>?_⟩
    rw [te] at hr
    rcases Nat.lt_or_ge i s.length with hi' | hi'
    · rw [dropc hi'] at hr hx
      rw [reps_cons] at hx
      dsimp only at hr
      by_cases hc:s[i]=b
      · rw [if_pos hc] at hr hx
        subst hr
        refine brb (fun _=>?_) (fun h=>absurd h (by simp))
        have e:mn (IntKind.wrap .i64 (x.2.2.2.2.2.2.1+1)) 9999=(if 9999<x.2.2.2.2.2.2.1+1 then 9999 else x.2.2.2.2.2.2.1+1):=by
          rw [wrap_i64 (by omega) (by omega)]
          unfold mn
          by_cases h9:9999<x.2.2.2.2.2.2.1+1
          · rw [decide_eq_true h9,if_pos h9]; rfl
          · rw [decide_eq_false h9,if_neg h9]; rfl
        rw [e]
        refine q16_l1 kx1 s b hs n (i+1) _ (by omega) (by omega) (by dsimp only; split <;> omega) (by dsimp only; split <;> omega) ?_
        have e2:(if 9999<(if 9999<x.2.2.2.2.2.2.1+1 then 9999 else x.2.2.2.2.2.2.1+1)+(reps b (s.drop (i+1)):Int) then (9999:Int) else (if 9999<x.2.2.2.2.2.2.1+1 then 9999 else x.2.2.2.2.2.2.1+1)+(reps b (s.drop (i+1)):Int)) =
            (if 9999<x.2.2.2.2.2.2.1+((reps b (s.drop (i+1))+1:Nat):Int) then 9999 else x.2.2.2.2.2.2.1+((reps b (s.drop (i+1))+1:Nat):Int)):=by
          split <;> split <;> split <;> omega
        dsimp only
        rw [e2,show i+1+reps b (s.drop (i+1))=i+(reps b (s.drop (i+1))+1) by omega]
        exact hx
      · rw [if_neg hc] at hr hx
        subst hr
        refine brb (fun h=>absurd h (by simp)) (fun _=>?_)
        rw [show (if 9999<x.2.2.2.2.2.2.1+((0:Nat):Int) then (9999:Int) else x.2.2.2.2.2.2.1+((0:Nat):Int))=x.2.2.2.2.2.2.1 by rw [if_neg (by omega)]; omega] at hx
        exact hx
    · rw [List.drop_eq_nil_of_le hi'] at hr hx
      dsimp only at hr
      subst hr
      refine brb (fun h=>absurd h (by simp)) (fun _=>?_)
      rw [show (if 9999<x.2.2.2.2.2.2.1+((reps b []:Nat):Int) then (9999:Int) else x.2.2.2.2.2.2.1+((reps b []:Nat):Int))=x.2.2.2.2.2.2.1 by rw [show reps b []=0 from rfl,if_neg (by omega)]; omega] at hx
      exact hx
theorem q16_L1_sp (kx1:LI×Int→ExD→Prop) (b:Int) (rv:LI×Int) (x:ExD) (hp:q16_L1_P b rv x) (hx:∀ q:(LI×Int)×ExD,q=q16_L1_F b rv x→kx1 q.1 q.2):∃ m,q16_L1 kx1 m b rv x:=by
  obtain ⟨s,i⟩:=rv
  obtain ⟨h1,h2,hs,h0,h9⟩:=hp
  obtain ⟨j,rfl⟩:=Int.eq_ofNat_of_zero_le (show 0≤i from h1)
  exact ⟨s.length+1,q16_l1 kx1 s b hs _ j x (by omega) (Int.ofNat_le.1 h2) h0 h9 (hx _ rfl)⟩

def q16_J0_P (rv0b:(LI×Int)) (x1b:tEx):Prop:=
 q21_P rv0b (33:Int)∧(
 let r7:Bool×(LI×Int):=q21_F rv0b (33:Int)
 bif r7.1 then
 q10_P r7.2 true
 else
 q10_P r7.2 true)
def q16_J0_F (rv0b:(LI×Int)) (x1b:tEx):(LI×Int)×tEx:=
 let r7:Bool×(LI×Int):=q21_F rv0b (33:Int)
 bif r7.1 then
 let r8:Int×(LI×Int):=q10_F r7.2 true
 (r8.2,(x1b.1,x1b.2.1,x1b.2.2.1,([112,117,33]:LI),x1b.2.2.2.2.1,r8.1,x1b.2.2.2.2.2.2.1,x1b.2.2.2.2.2.2.2.1,x1b.2.2.2.2.2.2.2.2.1,x1b.2.2.2.2.2.2.2.2.2))
 else
 let r9:Int×(LI×Int):=q10_F r7.2 true
 (r9.2,(x1b.1,x1b.2.1,x1b.2.2.1,([112,117]:LI),x1b.2.2.2.2.1,r9.1,x1b.2.2.2.2.2.2.1,x1b.2.2.2.2.2.2.2.1,x1b.2.2.2.2.2.2.2.2.1,x1b.2.2.2.2.2.2.2.2.2))
theorem q16_J0_sp (kn:(LI×Int)→tEx→Prop) (rv0b:(LI×Int)) (x1b:tEx) (hp:q16_J0_P rv0b x1b) (hn:∀ q:(LI×Int)×tEx,q=q16_J0_F rv0b x1b→kn q.1 q.2):q16_J0 kn rv0b x1b:=
 have h:=hn; an1 hp fun hp=>al (br1 hp h (fun _ hp h=>⟨hp,al (h _ rfl)⟩)
 fun _ hp h=>⟨hp,al (h _ rfl)⟩)
def q16_J2_P (b4:Int) (x14:Int) (x107:Bool) (rv0b:(LI×Int)) (x1b:tEx):Prop:=
 bif x107 then
 q23_P rv0b
 else
 bif (decide (x14=(115:Int))) then
 q8_P rv0b x1b
 else
 True
def q16_J2_F (b4:Int) (x14:Int) (x107:Bool) (rv0b:(LI×Int)) (x1b:tEx):((LI×Int)×tEx)⊕(Int):=
 bif x107 then
 Sum.elim (fun r24=>
 .inl (r24.2,(x1b.1,x1b.2.1,x1b.2.2.1,([b4]:LI),r24.1,x1b.2.2.2.2.2.1,x1b.2.2.2.2.2.2.1,x1b.2.2.2.2.2.2.2.1,x1b.2.2.2.2.2.2.2.2.1,x1b.2.2.2.2.2.2.2.2.2))) (fun np25=>
 .inr (np25)) (q23_F rv0b)
 else
 bif (decide (x14=(115:Int))) then
 Sum.elim (fun r26=>
 .inl (r26.1,r26.2)) (fun np27=>
 .inr (np27)) (q8_F rv0b x1b)
 else
 Sum.elim (fun r28=>
 .inl (rv0b,x1b)) (fun np29=>
 .inr (np29)) (q72_F (240:Int))
theorem q16_J2_sp (kn:(LI×Int)→tEx→Prop) (kz:Int→Prop) (b4:Int) (x14:Int) (x107:Bool) (rv0b:(LI×Int)) (x1b:tEx) (hp:q16_J2_P b4 x14 x107 rv0b x1b) (hn:∀ q:(LI×Int)×tEx,q16_J2_F b4 x14 x107 rv0b x1b=.inl q→kn q.1 q.2) (hz:∀ q:Int,q16_J2_F b4 x14 x107 rv0b x1b=.inr q→kz q):q16_J2 kn kz b4 x14 x107 rv0b x1b:=
 have h:=hc2 hn hz; br1 hp h (fun _ hp h=>⟨hp,ae0 h (fun _ h=>h _ rfl)
 fun _ h=>h _ rfl⟩)
 fun _ hp h=>br1 hp h (fun _ hp h=>⟨hp,ae0 h (fun _ h=>h _ rfl)
 fun _ h=>h _ rfl⟩)
 fun _ hp h=>ae0 h (fun _ h=>h _ rfl)
 fun _ h=>h _ rfl
def q16_J3_P (b4:Int) (x14:Int) (x69:Bool) (rv0b:(LI×Int)) (x1b:tEx):Prop:=
 bif x69 then
 q16_L1_P b4 rv0b (x1b.1,x1b.2.1,x1b.2.2.1,([b4]:LI),x1b.2.2.2.2.1,x1b.2.2.2.2.2.1,(1:Int),x1b.2.2.2.2.2.2.2.1,x1b.2.2.2.2.2.2.2.2.1,x1b.2.2.2.2.2.2.2.2.2)
 else
 bif (decide (x14=(99:Int))) then
 q21_P rv0b (111:Int)∧(
 let r17:Bool×(LI×Int):=q21_F rv0b (111:Int)
 bif (!r17.1) then
 Sum.elim (fun r18=>
 q23_P r17.2) (fun _=>True) (q72_F (240:Int))
 else
 q23_P r17.2)
 else
 bif (decide (x14=(116:Int))) then
 q16_J2_P b4 x14 (decide (x14=(116:Int))) rv0b x1b
 else
 q16_J2_P b4 x14 (decide (x14=(109:Int))) rv0b x1b
def q16_J3_F (b4:Int) (x14:Int) (x69:Bool) (rv0b:(LI×Int)) (x1b:tEx):((LI×Int)×tEx)⊕(Int):=
 bif x69 then
 let q1x1:(LI×Int)×tEx:=q16_L1_F b4 rv0b (x1b.1,x1b.2.1,x1b.2.2.1,([b4]:LI),x1b.2.2.2.2.1,x1b.2.2.2.2.2.1,(1:Int),x1b.2.2.2.2.2.2.2.1,x1b.2.2.2.2.2.2.2.2.1,x1b.2.2.2.2.2.2.2.2.2)
 let rv0b:(LI×Int):=q1x1.1
 let x1b:tEx:=q1x1.2
 .inl (rv0b,x1b)
 else
 bif (decide (x14=(99:Int))) then
 let r17:Bool×(LI×Int):=q21_F rv0b (111:Int)
 bif (!r17.1) then
 Sum.elim (fun r18=>
 Sum.elim (fun r19=>
 .inl (r19.2,(x1b.1,x1b.2.1,x1b.2.2.1,([116]:LI),r19.1,x1b.2.2.2.2.2.1,x1b.2.2.2.2.2.2.1,x1b.2.2.2.2.2.2.2.1,x1b.2.2.2.2.2.2.2.2.1,x1b.2.2.2.2.2.2.2.2.2))) (fun np20=>
 .inr (np20)) (q23_F r17.2)) (fun np21=>
 .inr (np21)) (q72_F (240:Int))
 else
 Sum.elim (fun r22=>
 .inl (r22.2,(x1b.1,x1b.2.1,x1b.2.2.1,([116]:LI),r22.1,x1b.2.2.2.2.2.1,x1b.2.2.2.2.2.2.1,x1b.2.2.2.2.2.2.2.1,x1b.2.2.2.2.2.2.2.2.1,x1b.2.2.2.2.2.2.2.2.2))) (fun np23=>
 .inr (np23)) (q23_F r17.2)
 else
 bif (decide (x14=(116:Int))) then
 Sum.elim (fun q2n=>
 let rv0b:(LI×Int):=q2n.1
 let x1b:tEx:=q2n.2
 .inl (rv0b,x1b)) (fun q2z=>
 let np:Int:=q2z
 .inr (np)) (q16_J2_F b4 x14 (decide (x14=(116:Int))) rv0b x1b)
 else
 Sum.elim (fun q2n=>
 let rv0b:(LI×Int):=q2n.1
 let x1b:tEx:=q2n.2
 .inl (rv0b,x1b)) (fun q2z=>
 let np:Int:=q2z
 .inr (np)) (q16_J2_F b4 x14 (decide (x14=(109:Int))) rv0b x1b)
theorem q16_J3_sp (kn:(LI×Int)→tEx→Prop) (kz:Int→Prop) (b4:Int) (x14:Int) (x69:Bool) (rv0b:(LI×Int)) (x1b:tEx) (hp:q16_J3_P b4 x14 x69 rv0b x1b) (hn:∀ q:(LI×Int)×tEx,q16_J3_F b4 x14 x69 rv0b x1b=.inl q→kn q.1 q.2) (hz:∀ q:Int,q16_J3_F b4 x14 x69 rv0b x1b=.inr q→kz q):q16_J3 kn kz b4 x14 x69 rv0b x1b:=
 have h:=hc2 hn hz; br1 hp h (fun _ hp h=>fun _=>q16_L1_sp _ _ _ _ hp (al (h _ rfl)))
 fun _ hp h=>br1 hp h (fun _ hp h=>an1 hp fun hp=>al (br1 hp h (fun _ hp h=>ae1 hp h (fun _ hp h=>⟨hp,ae0 h (fun _ h=>h _ rfl)
 fun _ h=>h _ rfl⟩)
 fun _ h=>h _ rfl)
 fun _ hp h=>⟨hp,ae0 h (fun _ h=>h _ rfl)
 fun _ h=>h _ rfl⟩))
 fun _ hp h=>br1 hp h (fun _ hp h=>fun _=>q16_J2_sp _ _ _ _ _ _ _ hp
 (fun _ e _=>have h:=sl e h; h _ rfl)
 (fun _ e=>have h:=sr e h; h _ rfl))
 fun _ hp h=>fun _=>q16_J2_sp _ _ _ _ _ _ _ hp
 (fun _ e _=>have h:=sl e h; h _ rfl)
 (fun _ e=>have h:=sr e h; h _ rfl)
def q16_J4_P (b4:Int) (x14:Int) (x16:Bool) (rv0b:(LI×Int)) (x1b:tEx):Prop:=
 bif x16 then
 q10_P rv0b false∧(
 let r2:Int×(LI×Int):=q10_F rv0b false
 q22_P r2.2)
 else
 bif (decide (x14=(112:Int))) then
 q21_P rv0b (117:Int)∧(
 let r5:Bool×(LI×Int):=q21_F rv0b (117:Int)
 bif (!r5.1) then
 Sum.elim (fun r6=>
 q16_J0_P r5.2 x1b) (fun _=>True) (q72_F (240:Int))
 else
 q16_J0_P r5.2 x1b)
 else
 bif (decide (x14=(106:Int))) then
 q21_P rv0b (33:Int)∧(
 let r11:Bool×(LI×Int):=q21_F rv0b (33:Int)
 bif r11.1 then
 q22_P r11.2
 else
 q22_P r11.2)
 else
 bif (decide (x14=(62:Int))) then
 q16_J3_P b4 x14 (decide (x14=(62:Int))) rv0b x1b
 else
 q16_J3_P b4 x14 (decide (x14=(60:Int))) rv0b x1b
def q16_J4_F (b4:Int) (x14:Int) (x16:Bool) (rv0b:(LI×Int)) (x1b:tEx):((LI×Int)×tEx)⊕(Int):=
 bif x16 then
 let r2:Int×(LI×Int):=q10_F rv0b false
 Sum.elim (fun r3=>
 .inl (r3.2,(x1b.1,x1b.2.1,x1b.2.2.1,([b4]:LI),x1b.2.2.2.2.1,r2.1,r3.1,x1b.2.2.2.2.2.2.2.1,x1b.2.2.2.2.2.2.2.2.1,x1b.2.2.2.2.2.2.2.2.2))) (fun np4=>
 .inr (np4)) (q22_F r2.2)
 else
 bif (decide (x14=(112:Int))) then
 let r5:Bool×(LI×Int):=q21_F rv0b (117:Int)
 bif (!r5.1) then
 Sum.elim (fun r6=>
 let q0n:(LI×Int)×tEx:=q16_J0_F r5.2 x1b
 let rv0b:(LI×Int):=q0n.1
 let x1b:tEx:=q0n.2
 .inl (rv0b,x1b)) (fun np10=>
 .inr (np10)) (q72_F (240:Int))
 else
 let q0n:(LI×Int)×tEx:=q16_J0_F r5.2 x1b
 let rv0b:(LI×Int):=q0n.1
 let x1b:tEx:=q0n.2
 .inl (rv0b,x1b)
 else
 bif (decide (x14=(106:Int))) then
 let r11:Bool×(LI×Int):=q21_F rv0b (33:Int)
 bif r11.1 then
 Sum.elim (fun r12=>
 .inl (r12.2,(x1b.1,x1b.2.1,x1b.2.2.1,([106,33]:LI),x1b.2.2.2.2.1,x1b.2.2.2.2.2.1,r12.1,x1b.2.2.2.2.2.2.2.1,x1b.2.2.2.2.2.2.2.2.1,x1b.2.2.2.2.2.2.2.2.2))) (fun np13=>
 .inr (np13)) (q22_F r11.2)
 else
 Sum.elim (fun r14=>
 .inl (r14.2,(x1b.1,x1b.2.1,x1b.2.2.1,([106]:LI),x1b.2.2.2.2.1,x1b.2.2.2.2.2.1,r14.1,x1b.2.2.2.2.2.2.2.1,x1b.2.2.2.2.2.2.2.2.1,x1b.2.2.2.2.2.2.2.2.2))) (fun np15=>
 .inr (np15)) (q22_F r11.2)
 else
 bif (decide (x14=(62:Int))) then
 Sum.elim (fun q3n=>
 let rv0b:(LI×Int):=q3n.1
 let x1b:tEx:=q3n.2
 .inl (rv0b,x1b)) (fun q3z=>
 let np:Int:=q3z
 .inr (np)) (q16_J3_F b4 x14 (decide (x14=(62:Int))) rv0b x1b)
 else
 Sum.elim (fun q3n=>
 let rv0b:(LI×Int):=q3n.1
 let x1b:tEx:=q3n.2
 .inl (rv0b,x1b)) (fun q3z=>
 let np:Int:=q3z
 .inr (np)) (q16_J3_F b4 x14 (decide (x14=(60:Int))) rv0b x1b)
theorem q16_J4_sp (kn:(LI×Int)→tEx→Prop) (kz:Int→Prop) (b4:Int) (x14:Int) (x16:Bool) (rv0b:(LI×Int)) (x1b:tEx) (hp:q16_J4_P b4 x14 x16 rv0b x1b) (hn:∀ q:(LI×Int)×tEx,q16_J4_F b4 x14 x16 rv0b x1b=.inl q→kn q.1 q.2) (hz:∀ q:Int,q16_J4_F b4 x14 x16 rv0b x1b=.inr q→kz q):q16_J4 kn kz b4 x14 x16 rv0b x1b:=
 have h:=hc2 hn hz; br1 hp h (fun _ hp h=>an1 hp fun hp=>al (⟨hp,ae0 h (fun _ h=>h _ rfl)
 fun _ h=>h _ rfl⟩))
 fun _ hp h=>br1 hp h (fun _ hp h=>an1 hp fun hp=>al (br1 hp h (fun _ hp h=>ae1 hp h (fun _ hp h=>fun _=>q16_J0_sp _ _ _ hp (al (h _ rfl)))
 fun _ h=>h _ rfl)
 fun _ hp h=>fun _=>q16_J0_sp _ _ _ hp (al (h _ rfl))))
 fun _ hp h=>br1 hp h (fun _ hp h=>an1 hp fun hp=>al (br1 hp h (fun _ hp h=>⟨hp,ae0 h (fun _ h=>h _ rfl)
 fun _ h=>h _ rfl⟩)
 fun _ hp h=>⟨hp,ae0 h (fun _ h=>h _ rfl)
 fun _ h=>h _ rfl⟩))
 fun _ hp h=>br1 hp h (fun _ hp h=>fun _=>q16_J3_sp _ _ _ _ _ _ _ hp
 (fun _ e _=>have h:=sl e h; h _ rfl)
 (fun _ e=>have h:=sr e h; h _ rfl))
 fun _ hp h=>fun _=>q16_J3_sp _ _ _ _ _ _ _ hp
 (fun _ e _=>have h:=sl e h; h _ rfl)
 (fun _ e=>have h:=sr e h; h _ rfl)
def q16_P (rv0:(LI×Int)) (x1:tEx):Prop:=
 q25_P rv0∧(
 let r1:Int:=q25_F rv0
 bif (decide (r1=(100:Int))) then
 q16_J4_P r1 r1 (decide (r1=(100:Int))) (rv0.1,(IntKind.wrap .i64 (rv0.2+(1:Int)))) x1
 else
 q16_J4_P r1 r1 (decide (r1=(121:Int))) (rv0.1,(IntKind.wrap .i64 (rv0.2+(1:Int)))) x1)
def q16_F (rv0:(LI×Int)) (x1:tEx):((LI×Int)×tEx)⊕Int:=
 let r1:Int:=q25_F rv0
 bif (decide (r1=(100:Int))) then
 Sum.elim (fun q4n=>
 let rv0b:(LI×Int):=q4n.1
 let x1b:tEx:=q4n.2
 .inl ((rv0b,x1b))) (fun q4z=>
 let np:Int:=q4z
 .inr np) (q16_J4_F r1 r1 (decide (r1=(100:Int))) (rv0.1,(IntKind.wrap .i64 (rv0.2+(1:Int)))) x1)
 else
 Sum.elim (fun q4n=>
 let rv0b:(LI×Int):=q4n.1
 let x1b:tEx:=q4n.2
 .inl ((rv0b,x1b))) (fun q4z=>
 let np:Int:=q4z
 .inr np) (q16_J4_F r1 r1 (decide (r1=(121:Int))) (rv0.1,(IntKind.wrap .i64 (rv0.2+(1:Int)))) x1)
theorem q16_sp (rv0:(LI×Int)) (x1:tEx) (K:Res→List Cell→Prop) (_:wfA q16_A (rv0,x1,())) (hp:q16_P rv0 x1) (h:∀ r:(LI×Int)×tEx,q16_F rv0 x1=.inl r→K (.tup []) [⟨.st (.pair yB yI),r.1⟩,⟨.st (.pair tyA (.pair tyA (.pair .bool (.pair .str (.pair tyA (.pair yU (.pair yI (.pair yB (.pair yB .bool))))))))),r.2⟩]) (hqp:∀ n:Int,q16_F rv0 x1=.inr n→K (.pan n) []):q16_raw rv0 x1 K:=
 have h:=hc2 h hqp; an1 hp fun hp=>al (br1 hp h (fun _ hp h=>fun _=>q16_J4_sp _ _ _ _ _ _ _ hp
 (fun _ e _=>have h:=sl e h; h _ rfl)
 (fun _ e=>have h:=sr e h; h _ rfl))
 fun _ hp h=>fun _=>q16_J4_sp _ _ _ _ _ _ _ hp
 (fun _ e _=>have h:=sl e h; h _ rfl)
 (fun _ e=>have h:=sr e h; h _ rfl))
def q16_C (v:valsA q16_A) (K:Res→List Cell→Prop):Prop:=q16_P v.1 v.2.1∧(∀ r:(LI×Int)×tEx,q16_F v.1 v.2.1=.inl r→K (.tup []) [⟨.st (.pair yB yI),r.1⟩,⟨.st (.pair tyA (.pair tyA (.pair .bool (.pair .str (.pair tyA (.pair yU (.pair yI (.pair yB (.pair yB .bool))))))))),r.2⟩])∧∀ n:Int,q16_F v.1 v.2.1=.inr n→K (.pan n) []
def q16_S:App:=specW q16_A q16_C
theorem q16_wv (K:Res→List Cell→Prop):∀ v:valsA q16_A,runF tb (getG q16_G) q16_B4 Tryz.f42 [] (mkA q16_A v) K=q16_raw v.1 v.2.1 K
  | (rv0,x1,())=>by kernel_rfl
theorem q16_ok:AppOk Tryz.prog 42 q16_S:=
  AppOk.specW (spec_ok ((runF_ok tb_M tb_ok q16_Gok (q16_b4) (f:=42) (fn:=Tryz.f42) (by kernel_rfl) (by kernel_rfl) q16_st [])) fun v K hw h=>(q16_wv K v).mpr (q16_sp v.1 v.2.1 K hw h.1 h.2.1 h.2.2))

def q33_G:List (Nat×App):=[(39,q18_S),(41,q20_S),(43,q72_S)]
theorem q33_Gok:GOk Tryz.prog (getG q33_G):=GOk.cons q18_ok (GOk.cons q20_ok (GOk.cons q72_ok (GOk.nil)))
def q33_raw (rv0:(LI×Int)) (K:Res→List Cell→Prop):Prop:=
 q18_P rv0∧(
 ∀ (r1:(LI×Int)),r1=q18_F rv0→(
 wfR (.tup [])→(
 ∀ (r2:Bool),r2=q20_F r1→(
 wB r2→(
 bif (!r2) then
 (∀ (r3:Unit),q72_F (240:Int)=.inl r3→(
 wfR (.tup [])→(
 K (.tup []) [⟨.st (.pair yB yI),r1⟩])))∧(∀ (np4:Int),q72_F (240:Int)=.inr np4→(wfR (.pan np4)→(
 K (.pan np4) [])))
 else
 K (.tup []) [⟨.st (.pair yB yI),r1⟩])))))
def q33_A:List AS:=[.r none (.st (.pair yB yI))]

def q33_P (rv0:(LI×Int)):Prop:=
 q18_P rv0
def q33_F (rv0:(LI×Int)):((LI×Int))⊕Int:=
 let r1:(LI×Int):=q18_F rv0
 let r2:Bool:=q20_F r1
 bif (!r2) then
 Sum.elim (fun r3=>
 .inl (r1)) (fun np4=>
 .inr np4) (q72_F (240:Int))
 else
 .inl (r1)
theorem q33_sp (rv0:(LI×Int)) (K:Res→List Cell→Prop) (_:wfA q33_A (rv0,())) (hp:q33_P rv0) (h:∀ r:(LI×Int),q33_F rv0=.inl r→K (.tup []) [⟨.st (.pair yB yI),r⟩]) (hqp:∀ n:Int,q33_F rv0=.inr n→K (.pan n) []):q33_raw rv0 K:=
 have h:=hc2 h hqp; ⟨hp,al (al (br0 h (fun _ h=>ae0 h (fun _ h=>h _ rfl)
 fun _ h=>h _ rfl)
 fun _ h=>h _ rfl))⟩
def q33_C (v:valsA q33_A) (K:Res→List Cell→Prop):Prop:=q33_P v.1∧(∀ r:(LI×Int),q33_F v.1=.inl r→K (.tup []) [⟨.st (.pair yB yI),r⟩])∧∀ n:Int,q33_F v.1=.inr n→K (.pan n) []
def q33_S:App:=specW q33_A q33_C
theorem q33_wv (K:Res→List Cell→Prop):∀ v:valsA q33_A,runF tb (getG q33_G) [] Tryz.f44 [] (mkA q33_A v) K=q33_raw v.1 K
  | (rv0,())=>by kernel_rfl
theorem q33_ok:AppOk Tryz.prog 44 q33_S:=
  AppOk.specW (spec_ok ((runF_ok tb_M tb_ok q33_Gok (LabsOk.nil) (f:=44) (fn:=Tryz.f44) (by kernel_rfl) (by kernel_rfl) (by kernel_rfl) [])) fun v K hw h=>(q33_wv K v).mpr (q33_sp v.1 K hw h.1 h.2.1 h.2.2))

end Go.VE
namespace Go.VE
open Go Go.Proofs
def q59_G:List (Nat×App):=[(39,q18_S),(40,q24_S),(41,q20_S),(42,q16_S),(44,q33_S),(43,q72_S)]
theorem q59_Gok:GOk Tryz.prog (getG q59_G):=GOk.cons q18_ok (GOk.cons q24_ok (GOk.cons q20_ok (GOk.cons q16_ok (GOk.cons q33_ok (GOk.cons q72_ok (GOk.nil))))))
def q59_raw (line0:LI) (line1:tEx) (x2:Int) (K:Res→List Cell→Prop):Prop:=
 q18_P (line0,(0:Int))∧(
 ∀ (r1:(LI×Int)),r1=q18_F (line0,(0:Int))→(
 wfR (.tup [])→(
 q24_P r1 line1∧(
 (∀ (r2:Bool×(LI×Int)×tEx),q24_F r1 line1=.inl r2→(
 wB r2.1→(
 q18_P r2.2.1∧(
 ∀ (r3:(LI×Int)),r3=q18_F r2.2.1→(
 wfR (.tup [])→(
 ∀ (r4:Bool),r4=q20_F r3→(
 wB r4→(
 bif (!r4) then
 q16_P r3 r2.2.2∧(
 (∀ (r5:(LI×Int)×tEx),q16_F r3 r2.2.2=.inl r5→(
 wfR (.tup [])→(
 q33_P r5.1∧(
 (∀ (r6:(LI×Int)),q33_F r5.1=.inl r6→(
 wfR (.tup [])→(
 K (.tup [.v tyX r5.2,.v yI (0:Int)]) [⟨.st (.pair tyA (.pair tyA (.pair .bool (.pair .str (.pair tyA (.pair yU (.pair yI (.pair yB (.pair yB .bool))))))))),r5.2⟩,⟨.int .i64,(0:Int)⟩])))∧(∀ (np7:Int),q33_F r5.1=.inr np7→(wfR (.pan np7)→(
 K (.pan np7) [])))))))∧(∀ (np8:Int),q16_F r3 r2.2.2=.inr np8→(wfR (.pan np8)→(
 K (.pan np8) []))))
 else
 bif (!r2.1) then
 (∀ (r9:Unit),q72_F (240:Int)=.inl r9→(
 wfR (.tup [])→(
 q33_P r3∧(
 (∀ (r10:(LI×Int)),q33_F r3=.inl r10→(
 wfR (.tup [])→(
 K (.tup [.v tyX r2.2.2,.v yI (0:Int)]) [⟨.st (.pair tyA (.pair tyA (.pair .bool (.pair .str (.pair tyA (.pair yU (.pair yI (.pair yB (.pair yB .bool))))))))),r2.2.2⟩,⟨.int .i64,(0:Int)⟩])))∧(∀ (np11:Int),q33_F r3=.inr np11→(wfR (.pan np11)→(
 K (.pan np11) [])))))))∧(∀ (np12:Int),q72_F (240:Int)=.inr np12→(wfR (.pan np12)→(
 K (.pan np12) [])))
 else
 q33_P r3∧(
 (∀ (r13:(LI×Int)),q33_F r3=.inl r13→(
 wfR (.tup [])→(
 K (.tup [.v tyX r2.2.2,.v yI (0:Int)]) [⟨.st (.pair tyA (.pair tyA (.pair .bool (.pair .str (.pair tyA (.pair yU (.pair yI (.pair yB (.pair yB .bool))))))))),r2.2.2⟩,⟨.int .i64,(0:Int)⟩])))∧(∀ (np14:Int),q33_F r3=.inr np14→(wfR (.pan np14)→(
 K (.pan np14) []))))))))))))∧(∀ (np15:Int),q24_F r1 line1=.inr np15→(wfR (.pan np15)→(
 K (.pan np15) [])))))))
def q59_A:List AS:=[.v yB,.r none tyX,.r none yI]
theorem q59_walk (line0:LI) (line1:tEx) (x2:Int) (K:Res→List Cell→Prop):runR tb (ex tb (getG q59_G) [] (at' (bodyOf Tryz.f13) [1,1]) [1,1]) Tryz.f13 [true,true] [(2,15),(3,23)] [.v yB line0,.no,.box 15 [],.box 23 [],.no,.no,.no,.no,.no,.no,.no,.no,.no,.no,.no,.no,.no,.no,.no,.no,.no,.no,.no,.no,.no,.no,.no] (mkA q59_A (line0,line1,x2,())) K=q59_raw line0 line1 x2 K:=by kernel_rfl

def q59_P (line0:LI) (line1:tEx) (x2:Int):Prop:=
 q18_P (line0,(0:Int))∧(
 let r1:(LI×Int):=q18_F (line0,(0:Int))
 q24_P r1 line1∧(
 Sum.elim (fun r2=>
 q18_P r2.2.1∧(
 let r3:(LI×Int):=q18_F r2.2.1
 let r4:Bool:=q20_F r3
 bif (!r4) then
 q16_P r3 r2.2.2∧(
 Sum.elim (fun r5=>
 q33_P r5.1) (fun _=>True) (q16_F r3 r2.2.2))
 else
 bif (!r2.1) then
 Sum.elim (fun r9=>
 q33_P r3) (fun _=>True) (q72_F (240:Int))
 else
 q33_P r3)) (fun _=>True) (q24_F r1 line1)))
def q59_F (line0:LI) (line1:tEx) (x2:Int):(tEx×Int×tEx×Int)⊕Int:=
 let r1:(LI×Int):=q18_F (line0,(0:Int))
 Sum.elim (fun r2=>
 let r3:(LI×Int):=q18_F r2.2.1
 let r4:Bool:=q20_F r3
 bif (!r4) then
 Sum.elim (fun r5=>
 Sum.elim (fun r6=>
 .inl ((r5.2,(0:Int),r5.2,(0:Int)))) (fun np7=>
 .inr np7) (q33_F r5.1)) (fun np8=>
 .inr np8) (q16_F r3 r2.2.2)
 else
 bif (!r2.1) then
 Sum.elim (fun r9=>
 Sum.elim (fun r10=>
 .inl ((r2.2.2,(0:Int),r2.2.2,(0:Int)))) (fun np11=>
 .inr np11) (q33_F r3)) (fun np12=>
 .inr np12) (q72_F (240:Int))
 else
 Sum.elim (fun r13=>
 .inl ((r2.2.2,(0:Int),r2.2.2,(0:Int)))) (fun np14=>
 .inr np14) (q33_F r3)) (fun np15=>
 .inr np15) (q24_F r1 line1)
set_option maxRecDepth 20000 in
theorem q59_sp (line0:LI) (line1:tEx) (x2:Int) (K:Res→List Cell→Prop) (_:wfA q59_A (line0,line1,x2,())) (hp:q59_P line0 line1 x2) (h:∀ r:tEx×Int×tEx×Int,q59_F line0 line1 x2=.inl r→K (.tup [.v tyX r.1,.v yI r.2.1]) [⟨.st (.pair tyA (.pair tyA (.pair .bool (.pair .str (.pair tyA (.pair yU (.pair yI (.pair yB (.pair yB .bool))))))))),r.2.2.1⟩,⟨.int .i64,r.2.2.2⟩]) (hqp:∀ n:Int,q59_F line0 line1 x2=.inr n→K (.pan n) []):q59_raw line0 line1 x2 K:=
 have h:=hc2 h hqp; an1 hp fun hp=>al (an1 hp fun hp=>ae1 hp h (fun _ hp h=>an1 hp fun hp=>al (al (br1 hp h (fun _ hp h=>an1 hp fun hp=>ae1 hp h (fun _ hp h=>⟨hp,ae0 h (fun _ h=>h _ rfl)
 fun _ h=>h _ rfl⟩)
 fun _ h=>h _ rfl)
 fun _ hp h=>br1 hp h (fun _ hp h=>ae1 hp h (fun _ hp h=>⟨hp,ae0 h (fun _ h=>h _ rfl)
 fun _ h=>h _ rfl⟩)
 fun _ h=>h _ rfl)
 fun _ hp h=>⟨hp,ae0 h (fun _ h=>h _ rfl)
 fun _ h=>h _ rfl⟩)))
 fun _ h=>h _ rfl)

end Go.VE
