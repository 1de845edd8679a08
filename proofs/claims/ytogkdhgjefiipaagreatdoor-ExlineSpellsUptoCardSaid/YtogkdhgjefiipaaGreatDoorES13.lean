import Derived.Test.YtogkdhgjefiipaaGreatDoorES12
import Derived.WalkSmall
set_option linter.unusedVariables false
set_option linter.unusedSectionVars false
set_option linter.unusedSimpArgs false
namespace Go.VE
open Go Go.Proofs
def d0M:List AS:=[.v yI]
def B4 (n:Int):Unit⊕Int:=.inr n
def e6y (v:j3 d0M) (K:Res→List Cell→Prop):Prop:=(∀ r:Unit,B4 v.1=.inl r→K (.tup []) [])∧∀ n:Int,B4 v.1=.inr n→K (.pan n) []
def a7l:App:=specW d0M e6y
set_option maxRecDepth 100000 in
theorem d4f (n:Int) (w:World):Calls Tryz.prog 43 #[.int .i64 n] w fun e w'=>e=.panicked [{ v:=D1.pan n,recovered:=false }]∧w'=w:=by
 have hb:∀ w,(Instr.build 85 #[(0,Value.int IntKind.i64 n)]).run Tryz.prog w=.ok (.agg #[.int .i64 n]) w:=fun w=>by kernel_rfl
 have hi:∀ w,(Instr.makeInterface 85 (.agg #[.int .i64 n])).run Tryz.prog w=.ok (.iface 85 (.agg #[.int .i64 n])) w:=fun w=>by kernel_rfl
 refine calls_of_wp (c:=(Tryz.f43.body.getD .skip)) Tryz.func43 rfl ?_
 show (Code.region 0 _ false).wp _ _ _ _
 refine wp_region ?_
 have e:List.range.loop 4 []=[0,1,2,3]:=rfl
 simp [wpOps,List.range,e,Oper.wp,Region.wanted,execOp,go_sem,hb,hi,run_panic_iface,Oper.upon,Act.eval,Act.put,bodyPost,Tryz.ntmps43,D1.pan]
theorem d0N (n:Int) {Ok:Res→List Cell→Prop} (hK:Ok (.pan n) []):a2N Tryz.prog 43 (mkA d0M (n,())) Ok:=by
 intro I w vs bs hI hg ha
 have hlen:=ha.length
 obtain ⟨nv,rfl⟩:∃ a,vs=[a]:=by
  match vs,hlen with
  | [a],_=>exact ⟨a,rfl⟩
 obtain ⟨h1,h2⟩:=ha
 obtain ⟨_,rfl⟩:=l0.int_eq h1
 refine Calls.mono (d4f n w) ?_
 rintro e w' ⟨rfl,rfl⟩
 exact .inr ⟨n,rfl,hK,L5.refl _ _⟩
theorem a4j:g8 Tryz.prog 43 a7l:=by
 refine g8.specW fun ags K hs=>?_
 obtain ⟨v,rfl,_,hK⟩:=G5 _ ags _ hs
 obtain ⟨n,⟨⟩⟩:=v
 exact .inl ⟨enters_of Tryz.func43 (by kernel_rfl),d0N n (hK n rfl)⟩
end Go.VE
namespace Go.VE
set_option maxRecDepth 20000
open Go Go.Proofs
def d5a:List (Nat×App):=[(135,d6f),(43,a7l)]
theorem d2J:GOk Tryz.prog (j8 d5a):=GOk.cons e1S (GOk.cons a4j (GOk.nil))
def c0l (rv0:(LI×Int)) (K:Res→List Cell→Prop):Prop:=
 bif decide (0≤rv0.2∧rv0.2≤(List.length rv0.1:Int)) then
 (
 b0W (List.drop (Int.toNat rv0.2) rv0.1)∧(
 ∀ (r1:tAd×Int×Int),r1=b0U (List.drop (Int.toNat rv0.2) rv0.1)→(
 wfR (.tup [.v tyA r1.1,.v yI r1.2.1,.v yI r1.2.2])→(
 bif (!decide (r1.2.2=(0:Int))) then
 (∀ (r2:Unit),B4 r1.2.2=.inl r2→(
 wfR (.tup [])→(
 K (.one (.v tyA r1.1)) [⟨.st (.pair yB yI),(rv0.1,(IntKind.wrap .i64 (rv0.2+r1.2.1)))⟩])))∧(∀ (np3:Int),B4 r1.2.2=.inr np3→(wfR (.pan np3)→(
 K (.pan np3) [])))
 else
 K (.one (.v tyA r1.1)) [⟨.st (.pair yB yI),(rv0.1,(IntKind.wrap .i64 (rv0.2+r1.2.1)))⟩]))))∧(
 b0W (List.drop (Int.toNat rv0.2) rv0.1)∧(
 ∀ (r4:tAd×Int×Int),r4=b0U (List.drop (Int.toNat rv0.2) rv0.1)→(
 wfR (.tup [.v tyA r4.1,.v yI r4.2.1,.v yI r4.2.2])→(
 bif (!decide (r4.2.2=(0:Int))) then
 (∀ (r5:Unit),B4 r4.2.2=.inl r5→(
 wfR (.tup [])→(
 K (.one (.v tyA r4.1)) [⟨.st (.pair yB yI),(rv0.1,(IntKind.wrap .i64 (rv0.2+r4.2.1)))⟩])))∧(∀ (np6:Int),B4 r4.2.2=.inr np6→(wfR (.pan np6)→(
 K (.pan np6) [])))
 else
 K (.one (.v tyA r4.1)) [⟨.st (.pair yB yI),(rv0.1,(IntKind.wrap .i64 (rv0.2+r4.2.1)))⟩]))))∧True
 else False
def b5O:List AS:=[.r none (.st (.pair yB yI))]
def a57 (rv0:(LI×Int)):Prop:=
 (0≤rv0.2∧rv0.2≤(List.length rv0.1:Int))∧(
 b0W (List.drop (Int.toNat rv0.2) rv0.1))
def Z6 (rv0:(LI×Int)):(tAd×(LI×Int))⊕Int:=
 let r1:tAd×Int×Int:=b0U (List.drop (Int.toNat rv0.2) rv0.1)
 bif (!decide (r1.2.2=(0:Int))) then
 Sum.elim (fun r2=>
 .inl ((r1.1,(rv0.1,(IntKind.wrap .i64 (rv0.2+r1.2.1)))))) (fun np3=>
 .inr np3) (B4 r1.2.2)
 else
 .inl ((r1.1,(rv0.1,(IntKind.wrap .i64 (rv0.2+r1.2.1)))))
theorem d7w (rv0:(LI×Int)) (K:Res→List Cell→Prop) (_:wfA b5O (rv0,())) (hp:a57 rv0) (h:∀ r:tAd×(LI×Int),Z6 rv0=.inl r→K (.one (.v tyA r.1)) [⟨.st (.pair yB yI),r.2⟩]) (hqp:∀ n:Int,Z6 rv0=.inr n→K (.pan n) []):c0l rv0 K:=
 have h:=hc2 h hqp; as1 hp fun hp=>⟨⟨hp,al (br0 h (fun _ h=>ae0 h (fun _ h=>h _ rfl)
 fun _ h=>h _ rfl)
 fun _ h=>h _ rfl)⟩,
 ⟨hp,al (br0 h (fun _ h=>ae0 h (fun _ h=>h _ rfl)
 fun _ h=>h _ rfl)
 fun _ h=>h _ rfl)⟩,trivial⟩
def e40 (v:j3 b5O) (K:Res→List Cell→Prop):Prop:=a57 v.1∧(∀ r:tAd×(LI×Int),Z6 v.1=.inl r→K (.one (.v tyA r.1)) [⟨.st (.pair yB yI),r.2⟩])∧∀ n:Int,Z6 v.1=.inr n→K (.pan n) []
def c44:App:=specW b5O e40
theorem d7x (K:Res→List Cell→Prop):∀ v:j3 b5O,q7 tb (j8 d5a) [] Tryz.f82 [true] (mkA b5O v) K=c0l v.1 K
 | (rv0,())=>by kernel_rfl
theorem c45:g8 Tryz.prog 82 c44:=
 g8.specW (l9 ((l8 o0 j9 d2J (g7.nil) (f:=82) (fn:=Tryz.f82) (by kernel_rfl) (by kernel_rfl) (by kernel_rfl) [true])) fun v K hw h=>(d7x K v).mpr (d7w v.1 K hw h.1 h.2.1 h.2.2))
def d6w:List (Nat×App):=[]
theorem d4g:GOk Tryz.prog (j8 d6w):=GOk.nil
def c2B (a0:tAd) (K:Res→List Cell→Prop):Prop:=
 bif a0.2.2.2.2.2 then
 K (.one (.v tyA a0)) []
 else
 K (.one (.v tyA ((46:Int),(0:Int),(0:Int),([]:LI),(0:Int),true))) []
def b7h:List AS:=[.v tyA]
def a8y (a0:tAd):tAd:=
 bif a0.2.2.2.2.2 then
 a0
 else
 ((46:Int),(0:Int),(0:Int),([]:LI),(0:Int),true)
theorem e3r (a0:tAd) (K:Res→List Cell→Prop) (_:wfA b7h (a0,())) (h:∀ r:tAd,r=a8y a0→K (.one (.v tyA r)) []):c2B a0 K:=
 br0 h (fun _ h=>h _ rfl)
 fun _ h=>h _ rfl
def e6z (v:j3 b7h) (K:Res→List Cell→Prop):Prop:=∀ r:tAd,r=a8y v.1→K (.one (.v tyA r)) []
def d6x:App:=specW b7h e6z
theorem e3s (K:Res→List Cell→Prop):∀ v:j3 b7h,q7 tb (j8 d6w) [] Tryz.f83 [true] (mkA b7h v) K=c2B v.1 K
 | (a0,())=>by kernel_rfl
theorem e3q:g8 Tryz.prog 83 d6x:=
 g8.specW (l9 ((l8 o0 j9 d4g (g7.nil) (f:=83) (fn:=Tryz.f83) (by kernel_rfl) (by kernel_rfl) (by kernel_rfl) [true])) fun v K hw h=>(e3s K v).mpr (e3r v.1 K hw h))
def d5l:List (Nat×App):=[(81,c0A),(82,c44),(39,a94),(83,d6x)]
theorem d2V:GOk Tryz.prog (j8 d5l):=GOk.cons b8k (GOk.cons c45 (GOk.cons a7V (GOk.cons e3q (GOk.nil))))
def c0I (rv0:(LI×Int)) (x1:tEx) (K:Res→List Cell→Prop):Prop:=
 L7 rv0 (37:Int)∧(
 ∀ (r1:Bool×(LI×Int)),r1=D7 rv0 (37:Int)→(
 wB r1.1→(
 bif r1.1 then
 K (.one (.v .bool true)) [⟨.st (.pair yB yI),r1.2⟩,⟨.st (.pair tyA (.pair tyA (.pair .bool (.pair .str (.pair tyA (.pair yU (.pair yI (.pair yB (.pair yB .bool))))))))),(x1.1,x1.2.1,true,x1.2.2.2.1,x1.2.2.2.2.1,x1.2.2.2.2.2.1,x1.2.2.2.2.2.2.1,x1.2.2.2.2.2.2.2.1,x1.2.2.2.2.2.2.2.2.1,x1.2.2.2.2.2.2.2.2.2)⟩]
 else
 a57 r1.2∧(
 (∀ (r2:tAd×(LI×Int)),Z6 r1.2=.inl r2→(
 wfR (.one (.v tyA r2.1))→(
 P1 r2.2∧(
 ∀ (r3:(LI×Int)),r3=E0 r2.2→(
 wfR (.tup [])→(
 L7 r3 (44:Int)∧(
 ∀ (r4:Bool×(LI×Int)),r4=D7 r3 (44:Int)→(
 wB r4.1→(
 bif r4.1 then
 P1 r4.2∧(
 ∀ (r5:(LI×Int)),r5=E0 r4.2→(
 wfR (.tup [])→(
 ∀ (r6:tAd),r6=a8y r2.1→(
 wfR (.one (.v tyA r6))→(
 a57 r5∧(
 (∀ (r7:tAd×(LI×Int)),Z6 r5=.inl r7→(
 wfR (.one (.v tyA r7.1))→(
 ∀ (r8:tAd),r8=a8y r7.1→(
 wfR (.one (.v tyA r8))→(
 K (.one (.v .bool true)) [⟨.st (.pair yB yI),r7.2⟩,⟨.st (.pair tyA (.pair tyA (.pair .bool (.pair .str (.pair tyA (.pair yU (.pair yI (.pair yB (.pair yB .bool))))))))),(r6,r8,x1.2.2.1,x1.2.2.2.1,x1.2.2.2.2.1,x1.2.2.2.2.2.1,x1.2.2.2.2.2.2.1,x1.2.2.2.2.2.2.2.1,x1.2.2.2.2.2.2.2.2.1,x1.2.2.2.2.2.2.2.2.2)⟩])))))∧(∀ (np9:Int),Z6 r5=.inr np9→(wfR (.pan np9)→(
 K (.pan np9) [])))))))))
 else
 K (.one (.v .bool r2.1.2.2.2.2.2)) [⟨.st (.pair yB yI),(r4.2.1,r2.2.2)⟩,⟨.st (.pair tyA (.pair tyA (.pair .bool (.pair .str (.pair tyA (.pair yU (.pair yI (.pair yB (.pair yB .bool))))))))),(r2.1,x1.2.1,x1.2.2.1,x1.2.2.2.1,x1.2.2.2.2.1,x1.2.2.2.2.2.1,x1.2.2.2.2.2.2.1,x1.2.2.2.2.2.2.2.1,x1.2.2.2.2.2.2.2.2.1,x1.2.2.2.2.2.2.2.2.2)⟩])))))))))∧(∀ (np10:Int),Z6 r1.2=.inr np10→(wfR (.pan np10)→(
 K (.pan np10) [])))))))
def b51:List AS:=[.r none (.st (.pair yB yI)),.r none tyX]
def b18 (rv0:(LI×Int)) (x1:tEx):Prop:=
 L7 rv0 (37:Int)∧(
 let r1:Bool×(LI×Int):=D7 rv0 (37:Int)
 bif r1.1 then
 True
 else
 a57 r1.2∧(
 Sum.elim (fun r2=>
 P1 r2.2∧(
 let r3:(LI×Int):=E0 r2.2
 L7 r3 (44:Int)∧(
 let r4:Bool×(LI×Int):=D7 r3 (44:Int)
 bif r4.1 then
 P1 r4.2∧(
 let r5:(LI×Int):=E0 r4.2
 let r6:tAd:=a8y r2.1
 a57 r5)
 else
 True))) (fun _=>True) (Z6 r1.2)))
def a5h (rv0:(LI×Int)) (x1:tEx):(Bool×(LI×Int)×tEx)⊕Int:=
 let r1:Bool×(LI×Int):=D7 rv0 (37:Int)
 bif r1.1 then
 .inl ((true,r1.2,(x1.1,x1.2.1,true,x1.2.2.2.1,x1.2.2.2.2.1,x1.2.2.2.2.2.1,x1.2.2.2.2.2.2.1,x1.2.2.2.2.2.2.2.1,x1.2.2.2.2.2.2.2.2.1,x1.2.2.2.2.2.2.2.2.2)))
 else
 Sum.elim (fun r2=>
 let r3:(LI×Int):=E0 r2.2
 let r4:Bool×(LI×Int):=D7 r3 (44:Int)
 bif r4.1 then
 let r5:(LI×Int):=E0 r4.2
 let r6:tAd:=a8y r2.1
 Sum.elim (fun r7=>
 let r8:tAd:=a8y r7.1
 .inl ((true,r7.2,(r6,r8,x1.2.2.1,x1.2.2.2.1,x1.2.2.2.2.1,x1.2.2.2.2.2.1,x1.2.2.2.2.2.2.1,x1.2.2.2.2.2.2.2.1,x1.2.2.2.2.2.2.2.2.1,x1.2.2.2.2.2.2.2.2.2)))) (fun np9=>
 .inr np9) (Z6 r5)
 else
 .inl ((r2.1.2.2.2.2.2,(r4.2.1,r2.2.2),(r2.1,x1.2.1,x1.2.2.1,x1.2.2.2.1,x1.2.2.2.2.1,x1.2.2.2.2.2.1,x1.2.2.2.2.2.2.1,x1.2.2.2.2.2.2.2.1,x1.2.2.2.2.2.2.2.2.1,x1.2.2.2.2.2.2.2.2.2)))) (fun np10=>
 .inr np10) (Z6 r1.2)
theorem d8s (rv0:(LI×Int)) (x1:tEx) (K:Res→List Cell→Prop) (_:wfA b51 (rv0,x1,())) (hp:b18 rv0 x1) (h:∀ r:Bool×(LI×Int)×tEx,a5h rv0 x1=.inl r→K (.one (.v .bool r.1)) [⟨.st (.pair yB yI),r.2.1⟩,⟨.st (.pair tyA (.pair tyA (.pair .bool (.pair .str (.pair tyA (.pair yU (.pair yI (.pair yB (.pair yB .bool))))))))),r.2.2⟩]) (hqp:∀ n:Int,a5h rv0 x1=.inr n→K (.pan n) []):c0I rv0 x1 K:=
 have h:=hc2 h hqp; an1 hp fun hp=>al (br1 hp h (fun _ hp h=>h _ rfl)
 fun _ hp h=>an1 hp fun hp=>ae1 hp h (fun _ hp h=>an1 hp fun hp=>al (an1 hp fun hp=>al (br1 hp h (fun _ hp h=>an1 hp fun hp=>al (al (⟨hp,ae0 h (fun _ h=>al (h _ rfl))
 fun _ h=>h _ rfl⟩)))
 fun _ hp h=>h _ rfl)))
 fun _ h=>h _ rfl)
def e5d (v:j3 b51) (K:Res→List Cell→Prop):Prop:=b18 v.1 v.2.1∧(∀ r:Bool×(LI×Int)×tEx,a5h v.1 v.2.1=.inl r→K (.one (.v .bool r.1)) [⟨.st (.pair yB yI),r.2.1⟩,⟨.st (.pair tyA (.pair tyA (.pair .bool (.pair .str (.pair tyA (.pair yU (.pair yI (.pair yB (.pair yB .bool))))))))),r.2.2⟩])∧∀ n:Int,a5h v.1 v.2.1=.inr n→K (.pan n) []
def d5m:App:=specW b51 e5d
theorem d8t (K:Res→List Cell→Prop):∀ v:j3 b51,q7 tb (j8 d5l) [] Tryz.f40 [true] (mkA b51 v) K=c0I v.1 v.2.1 K
 | (rv0,x1,())=>by kernel_rfl
theorem d8r:g8 Tryz.prog 40 d5m:=
 g8.specW (l9 ((l8 o0 j9 d2V (g7.nil) (f:=40) (fn:=Tryz.f40) (by kernel_rfl) (by kernel_rfl) (by kernel_rfl) [true])) fun v K hw h=>(d8t K v).mpr (d8s v.1 v.2.1 K hw h.1 h.2.1 h.2.2))
def d5n:List (Nat×App):=[(41,a97)]
theorem d2W:GOk Tryz.prog (j8 d5n):=GOk.cons a7X (GOk.nil)
def c0K (rv0:(LI×Int)) (K:Res→List Cell→Prop):Prop:=
 ∀ (r1:Bool),r1=L6 rv0→(
 wB r1→(
 bif r1 then
 K (.one (.v yU (0:Int))) [⟨.st (.pair yB yI),rv0⟩]
 else
 bif decide (0≤rv0.2∧rv0.2<(List.length rv0.1:Int)) then
 K (.one (.v yU (rd (0:Int) rv0.1 rv0.2))) [⟨.st (.pair yB yI),rv0⟩]
 else False))
def b52:List AS:=[.r none (.st (.pair yB yI))]
def a1y (rv0:(LI×Int)):Prop:=
 let r1:Bool:=L6 rv0
 bif r1 then
 True
 else
 (0≤rv0.2∧rv0.2<(List.length rv0.1:Int))
def a0n (rv0:(LI×Int)):Int:=
 let r1:Bool:=L6 rv0
 bif r1 then
 (0:Int)
 else
 (rd (0:Int) rv0.1 rv0.2)
theorem d8u (rv0:(LI×Int)) (K:Res→List Cell→Prop) (_:wfA b52 (rv0,())) (hp:a1y rv0) (h:∀ r:Int,r=a0n rv0→K (.one (.v yU r)) [⟨.st (.pair yB yI),rv0⟩]):c0K rv0 K:=
 al (br1 hp h (fun _ hp h=>h _ rfl)
 fun _ hp h=>as0 hp (h _ rfl))
def e5e (v:j3 b52) (K:Res→List Cell→Prop):Prop:=a1y v.1∧∀ r:Int,r=a0n v.1→K (.one (.v yU r)) [⟨.st (.pair yB yI),v.1⟩]
def c0J:App:=specW b52 e5e
theorem d8v (K:Res→List Cell→Prop):∀ v:j3 b52,q7 tb (j8 d5n) [] Tryz.f84 [true] (mkA b52 v) K=c0K v.1 K
 | (rv0,())=>by kernel_rfl
theorem b8l:g8 Tryz.prog 84 c0J:=
 g8.specW (l9 ((l8 o0 j9 d2W (g7.nil) (f:=84) (fn:=Tryz.f84) (by kernel_rfl) (by kernel_rfl) (by kernel_rfl) [true])) fun v K hw h=>(d8v K v).mpr (d8u v.1 K hw h.1 h.2))
theorem c4e (s:LI) (i:Nat) (h:i≤s.length):a1y (s,(i:Int))∧a0n (s,(i:Int))=(s.drop i).headD 0:=by
 unfold a1y a0n L6
 dsimp only
 rcases Nat.lt_or_ge i s.length with hi | hi
 ·have e:decide ((s.length:Int)≤(i:Int))=false:=by simpa using hi
  rw [e]
  refine ⟨⟨by omega,by omega⟩,?_⟩
  rw [cond_false,b42 _ _ _ hi,List.drop_eq_getElem_cons hi]; rfl
 ·have e:decide ((s.length:Int)≤(i:Int))=true:=by simpa using hi
  rw [e,List.drop_eq_nil_of_le hi]
  exact ⟨trivial,rfl⟩
def c4M:List (Nat×App):=[]
theorem c4N:GOk Tryz.prog (j8 c4M):=GOk.nil
def b5E (name0:Int) (K:Res→List Cell→Prop):Prop:=
 bif (decide (name0=(0:Int))) then
 K (.tup [.v yI (1:Int),.v yI (0:Int)]) []
 else
 bif (decide (name0=(34:Int))) then
 K (.tup [.v yI (1:Int),.v yI (0:Int)]) []
 else
 bif (decide (name0=(45:Int))) then
 K (.tup [.v yI (2:Int),.v yI (0:Int)]) []
 else
 bif (decide ((49:Int)≤name0)) then
 bif (decide (name0≤(57:Int))) then
 K (.tup [.v yI (3:Int),.v yI (IntKind.wrap .i64 (IntKind.wrap .u8 (name0 - (49:Int))))]) []
 else
 bif (decide ((97:Int)≤name0)) then
 bif (decide (name0≤(122:Int))) then
 K (.tup [.v yI (4:Int),.v yI (IntKind.wrap .i64 (IntKind.wrap .u8 (name0 - (97:Int))))]) []
 else
 bif (decide ((65:Int)≤name0)) then
 bif (decide (name0≤(90:Int))) then
 K (.tup [.v yI (5:Int),.v yI (IntKind.wrap .i64 (IntKind.wrap .u8 (name0 - (65:Int))))]) []
 else
 K (.tup [.v yI (0:Int),.v yI (0:Int)]) []
 else
 K (.tup [.v yI (0:Int),.v yI (0:Int)]) []
 else
 bif (decide ((65:Int)≤name0)) then
 bif (decide (name0≤(90:Int))) then
 K (.tup [.v yI (5:Int),.v yI (IntKind.wrap .i64 (IntKind.wrap .u8 (name0 - (65:Int))))]) []
 else
 K (.tup [.v yI (0:Int),.v yI (0:Int)]) []
 else
 K (.tup [.v yI (0:Int),.v yI (0:Int)]) []
 else
 bif (decide ((97:Int)≤name0)) then
 bif (decide (name0≤(122:Int))) then
 K (.tup [.v yI (4:Int),.v yI (IntKind.wrap .i64 (IntKind.wrap .u8 (name0 - (97:Int))))]) []
 else
 bif (decide ((65:Int)≤name0)) then
 bif (decide (name0≤(90:Int))) then
 K (.tup [.v yI (5:Int),.v yI (IntKind.wrap .i64 (IntKind.wrap .u8 (name0 - (65:Int))))]) []
 else
 K (.tup [.v yI (0:Int),.v yI (0:Int)]) []
 else
 K (.tup [.v yI (0:Int),.v yI (0:Int)]) []
 else
 bif (decide ((65:Int)≤name0)) then
 bif (decide (name0≤(90:Int))) then
 K (.tup [.v yI (5:Int),.v yI (IntKind.wrap .i64 (IntKind.wrap .u8 (name0 - (65:Int))))]) []
 else
 K (.tup [.v yI (0:Int),.v yI (0:Int)]) []
 else
 K (.tup [.v yI (0:Int),.v yI (0:Int)]) []
def a9K:List AS:=[.v yU]
def a9L (name0:Int):Int×Int:=
 bif (decide (name0=(0:Int))) then
 ((1:Int),(0:Int))
 else
 bif (decide (name0=(34:Int))) then
 ((1:Int),(0:Int))
 else
 bif (decide (name0=(45:Int))) then
 ((2:Int),(0:Int))
 else
 bif (decide ((49:Int)≤name0)) then
 bif (decide (name0≤(57:Int))) then
 ((3:Int),(IntKind.wrap .i64 (IntKind.wrap .u8 (name0 - (49:Int)))))
 else
 bif (decide ((97:Int)≤name0)) then
 bif (decide (name0≤(122:Int))) then
 ((4:Int),(IntKind.wrap .i64 (IntKind.wrap .u8 (name0 - (97:Int)))))
 else
 bif (decide ((65:Int)≤name0)) then
 bif (decide (name0≤(90:Int))) then
 ((5:Int),(IntKind.wrap .i64 (IntKind.wrap .u8 (name0 - (65:Int)))))
 else
 ((0:Int),(0:Int))
 else
 ((0:Int),(0:Int))
 else
 bif (decide ((65:Int)≤name0)) then
 bif (decide (name0≤(90:Int))) then
 ((5:Int),(IntKind.wrap .i64 (IntKind.wrap .u8 (name0 - (65:Int)))))
 else
 ((0:Int),(0:Int))
 else
 ((0:Int),(0:Int))
 else
 bif (decide ((97:Int)≤name0)) then
 bif (decide (name0≤(122:Int))) then
 ((4:Int),(IntKind.wrap .i64 (IntKind.wrap .u8 (name0 - (97:Int)))))
 else
 bif (decide ((65:Int)≤name0)) then
 bif (decide (name0≤(90:Int))) then
 ((5:Int),(IntKind.wrap .i64 (IntKind.wrap .u8 (name0 - (65:Int)))))
 else
 ((0:Int),(0:Int))
 else
 ((0:Int),(0:Int))
 else
 bif (decide ((65:Int)≤name0)) then
 bif (decide (name0≤(90:Int))) then
 ((5:Int),(IntKind.wrap .i64 (IntKind.wrap .u8 (name0 - (65:Int)))))
 else
 ((0:Int),(0:Int))
 else
 ((0:Int),(0:Int))
theorem d2m (name0:Int) (K:Res→List Cell→Prop) (_:wfA a9K (name0,())) (h:∀ r:Int×Int,r=a9L name0→K (.tup [.v yI r.1,.v yI r.2]) []):b5E name0 K:=
 br0 h (fun _ h=>h _ rfl)
 fun _ h=>br0 h (fun _ h=>h _ rfl)
 fun _ h=>br0 h (fun _ h=>h _ rfl)
 fun _ h=>br0 h (fun _ h=>br0 h (fun _ h=>h _ rfl)
 fun _ h=>br0 h (fun _ h=>br0 h (fun _ h=>h _ rfl)
 fun _ h=>br0 h (fun _ h=>br0 h (fun _ h=>h _ rfl)
 fun _ h=>h _ rfl)
 fun _ h=>h _ rfl)
 fun _ h=>br0 h (fun _ h=>br0 h (fun _ h=>h _ rfl)
 fun _ h=>h _ rfl)
 fun _ h=>h _ rfl)
 fun _ h=>br0 h (fun _ h=>br0 h (fun _ h=>h _ rfl)
 fun _ h=>br0 h (fun _ h=>br0 h (fun _ h=>h _ rfl)
 fun _ h=>h _ rfl)
 fun _ h=>h _ rfl)
 fun _ h=>br0 h (fun _ h=>br0 h (fun _ h=>h _ rfl)
 fun _ h=>h _ rfl)
 fun _ h=>h _ rfl
def d7b (v:j3 a9K) (K:Res→List Cell→Prop):Prop:=∀ r:Int×Int,r=a9L v.1→K (.tup [.v yI r.1,.v yI r.2]) []
def c4O:App:=specW a9K d7b
theorem d2n (K:Res→List Cell→Prop):∀ v:j3 a9K,q7 tb (j8 c4M) [] Tryz.f132 [true,true] (mkA a9K v) K=b5E v.1 K
 | (name0,())=>by kernel_rfl
theorem d2l:g8 Tryz.prog 132 c4O:=
 g8.specW (l9 ((l8 o0 j9 c4N (g7.nil) (f:=132) (fn:=Tryz.f132) (by kernel_rfl) (by kernel_rfl) (by kernel_rfl) [true,true])) fun v K hw h=>(d2n K v).mpr (d2m v.1 K hw h))
def d6M:List (Nat×App):=[(132,c4O)]
theorem d4n:GOk Tryz.prog (j8 d6M):=GOk.cons d2l (GOk.nil)
def c2Q (name0:Int) (K:Res→List Cell→Prop):Prop:=
 ∀ (r1:Int×Int),r1=a9L name0→(
 wfR (.tup [.v yI r1.1,.v yI r1.2])→(
 K (.one (.v .bool (!decide (r1.1=(0:Int))))) []))
def b7u:List AS:=[.v yU]
def a7s (name0:Int):Bool:=
 let r1:Int×Int:=a9L name0
 (!decide (r1.1=(0:Int)))
theorem e32 (name0:Int) (K:Res→List Cell→Prop) (_:wfA b7u (name0,())) (h:∀ r:Bool,r=a7s name0→K (.one (.v .bool r)) []):c2Q name0 K:=
 al (h _ rfl)
def e6S (v:j3 b7u) (K:Res→List Cell→Prop):Prop:=∀ r:Bool,r=a7s v.1→K (.one (.v .bool r)) []
def d6N:App:=specW b7u e6S
theorem e33 (K:Res→List Cell→Prop):∀ v:j3 b7u,q7 tb (j8 d6M) [] Tryz.f136 [true] (mkA b7u v) K=c2Q v.1 K
 | (name0,())=>by kernel_rfl
theorem e31:g8 Tryz.prog 136 d6N:=
 g8.specW (l9 ((l8 o0 j9 d4n (g7.nil) (f:=136) (fn:=Tryz.f136) (by kernel_rfl) (by kernel_rfl) (by kernel_rfl) [true])) fun v K hw h=>(e33 K v).mpr (e32 v.1 K hw h))
def d6n:List (Nat×App):=[]
theorem d3X:GOk Tryz.prog (j8 d6n):=GOk.nil
def c2c (b0:Int) (K:Res→List Cell→Prop):Prop:=
 bif (decide ((48:Int)≤b0)) then
 K (.one (.v .bool (decide (b0≤(57:Int))))) []
 else
 K (.one (.v .bool false)) []
def b64:List AS:=[.v yU]
def a30 (b0:Int):Bool:=
 bif (decide ((48:Int)≤b0)) then
 (decide (b0≤(57:Int)))
 else
 false
theorem e2s (b0:Int) (K:Res→List Cell→Prop) (_:wfA b64 (b0,())) (h:∀ r:Bool,r=a30 b0→K (.one (.v .bool r)) []):c2c b0 K:=
 br0 h (fun _ h=>h _ rfl)
 fun _ h=>h _ rfl
def e6l (v:j3 b64) (K:Res→List Cell→Prop):Prop:=∀ r:Bool,r=a30 v.1→K (.one (.v .bool r)) []
def c9I:App:=specW b64 e6l
theorem e2t (K:Res→List Cell→Prop):∀ v:j3 b64,q7 tb (j8 d6n) [] Tryz.f137 [true] (mkA b64 v) K=c2c v.1 K
 | (b0,())=>by kernel_rfl
theorem c9J:g8 Tryz.prog 137 c9I:=
 g8.specW (l9 ((l8 o0 j9 d3X (g7.nil) (f:=137) (fn:=Tryz.f137) (by kernel_rfl) (by kernel_rfl) (by kernel_rfl) [true])) fun v K hw h=>(e2t K v).mpr (e2s v.1 K hw h))
def d41:List (Nat×App):=[(39,a94),(84,c0J),(136,d6N),(137,c9I)]
theorem d2G:GOk Tryz.prog (j8 d41):=GOk.cons a7V (GOk.cons b8l (GOk.cons e31 (GOk.cons c9J (GOk.nil))))
def c0j (rv0:(LI×Int)) (digits1:Bool) (K:Res→List Cell→Prop):Prop:=
 P1 rv0∧(
 ∀ (r1:(LI×Int)),r1=E0 rv0→(
 wfR (.tup [])→(
 a1y r1∧(
 ∀ (r2:Int),r2=a0n r1→(
 wfR (.one (.v yU r2))→(
 bif (decide (r2=(0:Int))) then
 K (.one (.v yU (0:Int))) [⟨.st (.pair yB yI),r1⟩]
 else
 ∀ (r3:Bool),r3=a7s r2→(
 wB r3→(
 bif (!r3) then
 K (.one (.v yU (0:Int))) [⟨.st (.pair yB yI),r1⟩]
 else
 ∀ (r4:Bool),r4=a30 r2→(
 wB r4→(
 bif r4 then
 bif (!digits1) then
 K (.one (.v yU (0:Int))) [⟨.st (.pair yB yI),r1⟩]
 else
 K (.one (.v yU r2)) [⟨.st (.pair yB yI),(r1.1,(IntKind.wrap .i64 (r1.2+(1:Int))))⟩]
 else
 K (.one (.v yU r2)) [⟨.st (.pair yB yI),(r1.1,(IntKind.wrap .i64 (r1.2+(1:Int))))⟩]))))))))))
def b5L:List AS:=[.r none (.st (.pair yB yI)),.v .bool]
def a49 (rv0:(LI×Int)) (digits1:Bool):Prop:=
 P1 rv0∧(
 let r1:(LI×Int):=E0 rv0
 a1y r1)
def a28 (rv0:(LI×Int)) (digits1:Bool):Int×(LI×Int):=
 let r1:(LI×Int):=E0 rv0
 let r2:Int:=a0n r1
 bif (decide (r2=(0:Int))) then
 ((0:Int),r1)
 else
 let r3:Bool:=a7s r2
 bif (!r3) then
 ((0:Int),r1)
 else
 let r4:Bool:=a30 r2
 bif r4 then
 bif (!digits1) then
 ((0:Int),r1)
 else
 (r2,(r1.1,(IntKind.wrap .i64 (r1.2+(1:Int)))))
 else
 (r2,(r1.1,(IntKind.wrap .i64 (r1.2+(1:Int)))))
theorem d7m (rv0:(LI×Int)) (digits1:Bool) (K:Res→List Cell→Prop) (_:wfA b5L (rv0,digits1,())) (hp:a49 rv0 digits1) (h:∀ r:Int×(LI×Int),r=a28 rv0 digits1→K (.one (.v yU r.1)) [⟨.st (.pair yB yI),r.2⟩]):c0j rv0 digits1 K:=
 an1 hp fun hp=>al (⟨hp,al (br0 h (fun _ h=>h _ rfl)
 fun _ h=>al (br0 h (fun _ h=>h _ rfl)
 fun _ h=>al (br0 h (fun _ h=>br0 h (fun _ h=>h _ rfl)
 fun _ h=>h _ rfl)
 fun _ h=>h _ rfl)))⟩)
def e4W (v:j3 b5L) (K:Res→List Cell→Prop):Prop:=a49 v.1 v.2.1∧∀ r:Int×(LI×Int),r=a28 v.1 v.2.1→K (.one (.v yU r.1)) [⟨.st (.pair yB yI),r.2⟩]
def d42:App:=specW b5L e4W
theorem d7n (K:Res→List Cell→Prop):∀ v:j3 b5L,q7 tb (j8 d41) [] Tryz.f85 [true] (mkA b5L v) K=c0j v.1 v.2.1 K
 | (rv0,digits1,())=>by kernel_rfl
theorem d7l:g8 Tryz.prog 85 d42:=
 g8.specW (l9 ((l8 o0 j9 d2G (g7.nil) (f:=85) (fn:=Tryz.f85) (by kernel_rfl) (by kernel_rfl) (by kernel_rfl) [true])) fun v K hw h=>(d7n K v).mpr (d7m v.1 v.2.1 K hw h.1 h.2))
def c5N:List (Nat×App):=[(39,a94),(84,c0J),(137,c9I),(43,a7l)]
theorem c0C:GOk Tryz.prog (j8 c5N):=GOk.cons a7V (GOk.cons b8l (GOk.cons c9J (GOk.cons a4j (GOk.nil))))
theorem c5S:o8 (g6 Tryz.f86)=true:=by kernel_rfl
def S0:List LS:=[.b 0 7 [],.v 3 yI,.c 7 (.st (.pair yB yI))]
def a6f:List LS:=[.v 3 yI,.c 7 (.st (.pair yB yI))]
def b3n:DX:=⟨none,none,[(0,a6f)]⟩
def b0a (k:Ex→St→Prop) (n3:Int) (rv0b:(LI×Int)):Prop:=wfD a6f (n3,rv0b,())→k (.exit 0) (mkD 32 a6f (n3,rv0b,()))
def b3m (Y:Int→(LI×Int)→Prop) (kx0:Int→(LI×Int)→Prop) (n3:Int) (rv0b:(LI×Int)):Prop:=
 a1y rv0b∧(
 ∀ (r4:Int),r4=a0n rv0b→(
 wfR (.one (.v yU r4))→(
 ∀ (r5:Bool),r5=a30 r4→(
 wB r5→(
 bif r5 then
 a1y rv0b∧(
 ∀ (r6:Int),r6=a0n rv0b→(
 wfR (.one (.v yU r6))→(
 Y (mn (IntKind.wrap .i64 ((IntKind.wrap .i64 (n3 * (10:Int)))+(IntKind.wrap .i64 (IntKind.wrap .u8 (r6 - (48:Int)))))) (9999:Int)) (rv0b.1,(IntKind.wrap .i64 (rv0b.2+(1:Int)))))))
 else
 kx0 n3 rv0b)))))
def a98 (kx0:Int→(LI×Int)→Prop):Nat→Int→(LI×Int)→Prop
 | 0,_,_=>False
 | n+1,n3,rv0b=>wfD S0 (n3,rv0b,())→b3m (a98 kx0 n) kx0 n3 rv0b
def c5P:Pce:=ex tb (j8 c5N) [] (at' (g6 Tryz.f86) [0,0,0,1,1,1,1]) [0,0,0,1,1,1,1]
def c5Q (k:Ex→St→Prop) (n:Nat) (v:l6 S0):Prop:=a98 (b0a k) n v.1 v.2.1
theorem d8e (k:Ex→St→Prop) (Y:l6 S0→Prop):∀ v:l6 S0,c5P (mkD 32 S0 v) (lpK 32 S0 b3n k Y)=b3m (fun n3 rv0b=>Y (n3,rv0b,())) (b0a k) v.1 v.2.1
 | (n3,rv0b,())=>by kernel_rfl
theorem c5T (k:Ex→St→Prop):∀ (n:Nat) (v:l6 S0),lpD 32 S0 b3n c5P k n v=c5Q k n v
 | 0,(n3,rv0b,())=>rfl
 | n+1,(n3,rv0b,())=>congrArg (fun Z:Prop=>wfD S0 (n3,rv0b,())→Z) ((d8e k _ (n3,rv0b,())).trans (congrArg (fun Y=>b3m Y (b0a k) n3 rv0b) (funext fun n3=>funext fun rv0b=>c5T k n (n3,rv0b,()))))
def c5O:Pce:=fun st k=>ckD 32 S0 st fun v=>wfD S0 v→∃ n,c5Q k n v
theorem d8h:j5 Tryz.prog (at' (g6 Tryz.f86) [0,0,1,1,1,1]) c5O:=
 (j5.loop (l3 o0 j9 c0C (g7.nil) (at' (g6 Tryz.f86) [0,0,0,1,1,1,1]) [0,0,0,1,1,1,1] rfl (g9 c5S [0,0,0,1,1,1,1])) 32 S0 b3n).mono fun st k h=>l4 h fun v hv hw=>(hv hw).elim fun n hn=>⟨n,Eq.mpr (c5T k n v) hn⟩
def c5M:q8:=([0,0,1,1,1,1],c5O)::[]
theorem d8c:g7 Tryz.prog (g6 Tryz.f86) c5M:=g7.cons d8h (g7.nil)
def c0D (rv0:(LI×Int)) (K:Res→List Cell→Prop):Prop:=
 P1 rv0∧(
 ∀ (r1:(LI×Int)),r1=E0 rv0→(
 wfR (.tup [])→(
 a1y r1∧(
 ∀ (r2:Int),r2=a0n r1→(
 wfR (.one (.v yU r2))→(
 ∀ (r3:Bool),r3=a30 r2→(
 wB r3→(
 bif (!r3) then
 K (.one (.v yI (0:Int))) [⟨.st (.pair yB yI),r1⟩]
 else
 (wfD S0 ((0:Int),r1,())→∃ n,a98 (fun (n3:Int) (rv0b:(LI×Int))=>wfD a6f (n3,rv0b,())→(
 bif (decide (n3=(0:Int))) then
 (∀ (r7:Unit),B4 (240:Int)=.inl r7→(
 wfR (.tup [])→(
 K (.one (.v yI n3)) [⟨.st (.pair yB yI),rv0b⟩])))∧(∀ (np8:Int),B4 (240:Int)=.inr np8→(wfR (.pan np8)→(
 K (.pan np8) [])))
 else
 K (.one (.v yI n3)) [⟨.st (.pair yB yI),rv0b⟩])) n (0:Int) r1)))))))))
def b5X:List AS:=[.r none (.st (.pair yB yI))]
def b5Y (n:Int) (rv:LI×Int):Prop:=0≤n∧n≤9999∧0≤rv.2∧rv.2≤rv.1.length∧rv.1.length≤lim
def a99 (n:Int) (rv:LI×Int):Int×(LI×Int):=(cnt n (rv.1.drop rv.2.toNat),(rv.1,rv.2+(dgs (rv.1.drop rv.2.toNat):Int)))
theorem b9U (b:Int):a30 b=L8 b:=by
 unfold a30 L8
 by_cases h1:48≤b <;> by_cases h2:b≤57 <;> simp [h1,h2]
theorem c5R (kx0:Int→LI×Int→Prop) (s:LI) (hs:s.length≤lim) :
  ∀ (n i:Nat) (a:Int),s.length<n+i→i≤s.length→0≤a→a≤9999→kx0 (cnt a (s.drop i)) (s,((i+dgs (s.drop i):Nat):Int))→a98 kx0 n a (s,(i:Int))
 | 0,i,a,hn,hi,_,_,hx=>absurd hn (by omega)
 | n+1,i,a,hn,hi,ha0,ha1,hx=>by
  intro _
  unfold b3m
  have hlim:lim=1099511627776:=rfl
  obtain ⟨np,ne⟩:=c4e s i hi
  refine ⟨np,fun r hr _ r5 hr5 _=>?_⟩
  rw [ne] at hr
  rw [b9U] at hr5
  subst hr5
  rcases Nat.lt_or_ge i s.length with hi' | hi'
  ·rw [D3 hi'] at hr hx
   change r=s[i] at hr
   subst hr
   rw [a9m,a0f] at hx
   refine brb (fun hb=>⟨np,fun r hr _=>?_⟩) (fun hb=>?_)
   ·rw [ne,D3 hi'] at hr
    change r=s[i] at hr
    subst hr
    rw [if_pos hb,if_pos hb] at hx
    have hb:=a4y hb
    have e:mn (IntKind.wrap .i64 ((IntKind.wrap .i64 (a * 10))+(IntKind.wrap .i64 (IntKind.wrap .u8 (s[i] - 48))))) 9999=(if 9999<a * 10+(s[i] - 48) then 9999 else a * 10+(s[i] - 48)):=by
     rw [N1 (by omega) (by omega),wrap_i64 (n:=s[i] - 48) (by omega) (by omega),wrap_i64 (n:=a * 10) (by omega) (by omega),wrap_i64 (by omega) (by omega)]
     unfold mn
     by_cases h9:9999<a * 10+(s[i] - 48)
     ·rw [decide_eq_true h9,if_pos h9]; rfl
     ·rw [decide_eq_false h9,if_neg h9]; rfl
    dsimp only
    rw [e,wrap_i64 (n:=(i:Int)+1) (by omega) (by omega),show (i:Int)+1=((i+1:Nat):Int) by omega]
    refine c5R kx0 s hs n (i+1) _ (by omega) (by omega) (by split <;> omega) (by split <;> omega) ?_
    rw [show i+1+dgs (s.drop (i+1))=i+(dgs (s.drop (i+1))+1) by omega]
    exact hx
   ·rw [if_neg (by rw [hb]; simp),if_neg (by rw [hb]; simp)] at hx
    exact hx
  ·rw [List.drop_eq_nil_of_le hi'] at hr hx
   change r=0 at hr
   subst hr
   exact brb (fun hb=>absurd hb (by decide)) (fun _=>hx)
theorem c3p (kx0:Int→LI×Int→Prop) (a:Int) (rv:LI×Int) (hp:b5Y a rv) (hx:∀ q:Int×(LI×Int),q=a99 a rv→kx0 q.1 q.2):∃ m,a98 kx0 m a rv:=by
 obtain ⟨s,i⟩:=rv
 obtain ⟨h0,h1,h2,h3,hs⟩:=hp
 obtain ⟨j,rfl⟩:=Int.eq_ofNat_of_zero_le (show 0≤i from h2)
 refine ⟨s.length+1,c5R kx0 s hs _ j a (by omega) (Int.ofNat_le.1 h3) h0 h1 ?_⟩
 exact hx _ rfl
def a5f (rv0:(LI×Int)):Prop:=
 P1 rv0∧(
 let r1:(LI×Int):=E0 rv0
 a1y r1∧(
 let r2:Int:=a0n r1
 let r3:Bool:=a30 r2
 bif (!r3) then
 True
 else
 b5Y (0:Int) r1))
def a0l (rv0:(LI×Int)):(Int×(LI×Int))⊕Int:=
 let r1:(LI×Int):=E0 rv0
 let r2:Int:=a0n r1
 let r3:Bool:=a30 r2
 bif (!r3) then
 .inl (((0:Int),r1))
 else
 let q0x0:Int×(LI×Int):=a99 (0:Int) r1
 let n3:Int:=q0x0.1
 let rv0b:(LI×Int):=q0x0.2
 bif (decide (n3=(0:Int))) then
 Sum.elim (fun r7=>
 .inl ((n3,rv0b))) (fun np8=>
 .inr np8) (B4 (240:Int))
 else
 .inl ((n3,rv0b))
theorem d8f (rv0:(LI×Int)) (K:Res→List Cell→Prop) (_:wfA b5X (rv0,())) (hp:a5f rv0) (h:∀ r:Int×(LI×Int),a0l rv0=.inl r→K (.one (.v yI r.1)) [⟨.st (.pair yB yI),r.2⟩]) (hqp:∀ n:Int,a0l rv0=.inr n→K (.pan n) []):c0D rv0 K:=
 have h:=hc2 h hqp; an1 hp fun hp=>al (an1 hp fun hp=>al (al (br1 hp h (fun _ hp h=>h _ rfl)
 fun _ hp h=>fun _=>c3p _ _ _ hp (al (br0 h (fun _ h=>ae0 h (fun _ h=>h _ rfl)
 fun _ h=>h _ rfl)
 fun _ h=>h _ rfl)))))
def e5a (v:j3 b5X) (K:Res→List Cell→Prop):Prop:=a5f v.1∧(∀ r:Int×(LI×Int),a0l v.1=.inl r→K (.one (.v yI r.1)) [⟨.st (.pair yB yI),r.2⟩])∧∀ n:Int,a0l v.1=.inr n→K (.pan n) []
def d5h:App:=specW b5X e5a
theorem d8g (K:Res→List Cell→Prop):∀ v:j3 b5X,q7 tb (j8 c5N) c5M Tryz.f86 [true] (mkA b5X v) K=c0D v.1 K
 | (rv0,())=>by kernel_rfl
theorem d8d:g8 Tryz.prog 86 d5h:=
 g8.specW (l9 ((l8 o0 j9 c0C (d8c) (f:=86) (fn:=Tryz.f86) (by kernel_rfl) (by kernel_rfl) c5S [true])) fun v K hw h=>(d8g K v).mpr (d8f v.1 K hw h.1 h.2.1 h.2.2))
def d5i:List (Nat×App):=[(39,a94),(82,c44),(43,a7l)]
theorem d2T:GOk Tryz.prog (j8 d5i):=GOk.cons a7V (GOk.cons c45 (GOk.cons a4j (GOk.nil)))
def c0E (rv0:(LI×Int)) (K:Res→List Cell→Prop):Prop:=
 P1 rv0∧(
 ∀ (r1:(LI×Int)),r1=E0 rv0→(
 wfR (.tup [])→(
 a57 r1∧(
 (∀ (r2:tAd×(LI×Int)),Z6 r1=.inl r2→(
 wfR (.one (.v tyA r2.1))→(
 bif (!r2.1.2.2.2.2.2) then
 (∀ (r3:Unit),B4 (240:Int)=.inl r3→(
 wfR (.tup [])→(
 K (.one (.v tyA r2.1)) [⟨.st (.pair yB yI),r2.2⟩])))∧(∀ (np4:Int),B4 (240:Int)=.inr np4→(wfR (.pan np4)→(
 K (.pan np4) [])))
 else
 K (.one (.v tyA r2.1)) [⟨.st (.pair yB yI),r2.2⟩])))∧(∀ (np5:Int),Z6 r1=.inr np5→(wfR (.pan np5)→(
 K (.pan np5) [])))))))
def b5Z:List AS:=[.r none (.st (.pair yB yI))]
def a5g (rv0:(LI×Int)):Prop:=
 P1 rv0∧(
 let r1:(LI×Int):=E0 rv0
 a57 r1)
def a0m (rv0:(LI×Int)):(tAd×(LI×Int))⊕Int:=
 let r1:(LI×Int):=E0 rv0
 Sum.elim (fun r2=>
 bif (!r2.1.2.2.2.2.2) then
 Sum.elim (fun r3=>
 .inl ((r2.1,r2.2))) (fun np4=>
 .inr np4) (B4 (240:Int))
 else
 .inl ((r2.1,r2.2))) (fun np5=>
 .inr np5) (Z6 r1)
theorem d8j (rv0:(LI×Int)) (K:Res→List Cell→Prop) (_:wfA b5Z (rv0,())) (hp:a5g rv0) (h:∀ r:tAd×(LI×Int),a0m rv0=.inl r→K (.one (.v tyA r.1)) [⟨.st (.pair yB yI),r.2⟩]) (hqp:∀ n:Int,a0m rv0=.inr n→K (.pan n) []):c0E rv0 K:=
 have h:=hc2 h hqp; an1 hp fun hp=>al (⟨hp,ae0 h (fun _ h=>br0 h (fun _ h=>ae0 h (fun _ h=>h _ rfl)
 fun _ h=>h _ rfl)
 fun _ h=>h _ rfl)
 fun _ h=>h _ rfl⟩)
def e5b (v:j3 b5Z) (K:Res→List Cell→Prop):Prop:=a5g v.1∧(∀ r:tAd×(LI×Int),a0m v.1=.inl r→K (.one (.v tyA r.1)) [⟨.st (.pair yB yI),r.2⟩])∧∀ n:Int,a0m v.1=.inr n→K (.pan n) []
def d5j:App:=specW b5Z e5b
theorem d8k (K:Res→List Cell→Prop):∀ v:j3 b5Z,q7 tb (j8 d5i) [] Tryz.f87 [true] (mkA b5Z v) K=c0E v.1 K
 | (rv0,())=>by kernel_rfl
theorem d8i:g8 Tryz.prog 87 d5j:=
 g8.specW (l9 ((l8 o0 j9 d2T (g7.nil) (f:=87) (fn:=Tryz.f87) (by kernel_rfl) (by kernel_rfl) (by kernel_rfl) [true])) fun v K hw h=>(d8k K v).mpr (d8j v.1 K hw h.1 h.2.1 h.2.2))
def c0L:List (Nat×App):=[(41,a97),(43,a7l),(67,b7g)]
theorem b3o:GOk Tryz.prog (j8 c0L):=GOk.cons a7X (GOk.cons a4j (GOk.cons b4N (GOk.nil)))
theorem b8o:o8 (g6 Tryz.f138)=true:=by kernel_rfl
def a2d:List LS:=[.b 0 7 [],.v 4 yI,.c 7 (.st (.pair yB yI))]
def a4I:List LS:=[.b 0 7 [],.v 4 yI,.c 7 (.st (.pair yB yI))]
def c0M:DX:=⟨some a4I,none,[]⟩
def d2X (k:Ex→St→Prop) (from4:Int) (rv0b:(LI×Int)):Prop:=wfD a4I (from4,rv0b,())→k .nrm (mkD 69 a4I (from4,rv0b,()))
def a5F (kn:Int→(LI×Int)→Prop) (from4:Int) (rv0b:(LI×Int)):Prop:=
 kn from4 (rv0b.1,(IntKind.wrap .i64 (rv0b.2+(1:Int))))
def c55 (k:Ex→St→Prop) (v:l6 a2d):Prop:=a5F (d2X k) v.1 v.2.1
theorem d8A (k:Ex→St→Prop):∀ v:l6 a2d,ex tb (j8 c0L) [] (at' (g6 Tryz.f138) [1,0,1,0,0,0,1,1]) [1,0,1,0,0,0,1,1] (mkD 69 a2d v) (wk 69 c0M k)=c55 k v
 | (from4,rv0b,())=>by kernel_rfl
def c51:Pce:=fun st k=>ckD 69 a2d st fun v=>wfD a2d v→c55 k v
theorem d8C:j5 Tryz.prog (at' (g6 Tryz.f138) [1,0,1,0,0,0,1,1]) c51:=
 (j5.wk (N:=69) (ds:=a2d) (dx:=c0M) (l3 o0 j9 b3o (g7.nil) (at' (g6 Tryz.f138) [1,0,1,0,0,0,1,1]) [1,0,1,0,0,0,1,1] rfl (g9 b8o [1,0,1,0,0,0,1,1]))).mono fun st k h=>l4 h fun v hv hw=>Eq.mpr (d8A k v) (hv hw)
def b8m:q8:=([1,0,1,0,0,0,1,1],c51)::[]
theorem c53:g7 Tryz.prog (g6 Tryz.f138) b8m:=g7.cons d8C (g7.nil)
def S1:List LS:=[.b 0 7 [],.v 4 yI,.c 7 (.st (.pair yB yI))]
def a8R:List LS:=[.o 2 21 5 yU,.v 3 .bool,.c 7 (.st (.pair yB yI))]
def a6g:List LS:=[.b 0 7 [],.v 4 yI,.c 7 (.st (.pair yB yI))]
def b3q:DX:=⟨none,some a8R,[(0,a6g)]⟩
def b3r (k:Ex→St→Prop) (x2:LI) (x3:Bool) (rv0b:(LI×Int)):Prop:=wfD a8R (x2,x3,rv0b,())→k .ret (mkD 69 a8R (x2,x3,rv0b,()))
def b0e (k:Ex→St→Prop) (from4:Int) (rv0b:(LI×Int)):Prop:=wfD a6g (from4,rv0b,())→k (.exit 0) (mkD 69 a6g (from4,rv0b,()))
def b3p (Y:Int→(LI×Int)→Prop) (kz:Int→Prop) (kr:LI→Bool→(LI×Int)→Prop) (kx0:Int→(LI×Int)→Prop) (from4:Int) (rv0b:(LI×Int)):Prop:=
 ∀ (r1:Bool),r1=L6 rv0b→(
 wB r1→(
 bif (!r1) then
 bif decide (0≤rv0b.2∧rv0b.2<(List.length rv0b.1:Int)) then
 bif (decide ((rd (0:Int) rv0b.1 rv0b.2)=(92:Int))) then
 ∀ (r2:Bool),r2=L6 (rv0b.1,(IntKind.wrap .i64 (rv0b.2+(1:Int))))→(
 wB r2→(
 bif r2 then
 (∀ (r3:Unit),B4 (240:Int)=.inl r3→(
 wfR (.tup [])→(
 (wfD a2d (from4,(rv0b.1,(IntKind.wrap .i64 (rv0b.2+(1:Int)))),())→a5F (fun (from4:Int) (rv0b:(LI×Int))=>wfD a4I (from4,rv0b,())→(
 Y from4 rv0b)) from4 (rv0b.1,(IntKind.wrap .i64 (rv0b.2+(1:Int))))))))∧(∀ (np4:Int),B4 (240:Int)=.inr np4→(wfR (.pan np4)→(
 kz np4)))
 else
 (wfD a2d (from4,(rv0b.1,(IntKind.wrap .i64 (rv0b.2+(1:Int)))),())→a5F (fun (from4:Int) (rv0b:(LI×Int))=>wfD a4I (from4,rv0b,())→(
 Y from4 rv0b)) from4 (rv0b.1,(IntKind.wrap .i64 (rv0b.2+(1:Int)))))))
 else
 bif (decide ((rd (0:Int) rv0b.1 rv0b.2)=(47:Int))) then
 bif decide (0≤from4∧from4≤(IntKind.wrap .i64 ((IntKind.wrap .i64 (rv0b.2+(1:Int))) - (1:Int)))∧(IntKind.wrap .i64 ((IntKind.wrap .i64 (rv0b.2+(1:Int))) - (1:Int)))≤(List.length rv0b.1:Int)) then
 D9 (slc rv0b.1 from4 (IntKind.wrap .i64 ((IntKind.wrap .i64 (rv0b.2+(1:Int))) - (1:Int))))∧(
 ∀ (r5:LI),r5=F7 (slc rv0b.1 from4 (IntKind.wrap .i64 ((IntKind.wrap .i64 (rv0b.2+(1:Int))) - (1:Int))))→(
 wfR (.one (.fr 5 yU r5))→(
 kr r5 true (rv0b.1,(IntKind.wrap .i64 (rv0b.2+(1:Int)))))))
 else False
 else
 (wfD a2d (from4,rv0b,())→a5F (fun (from4:Int) (rv0b:(LI×Int))=>wfD a4I (from4,rv0b,())→(
 Y from4 rv0b)) from4 rv0b)
 else False
 else
 kx0 from4 rv0b))
def b0c (kz:Int→Prop) (kr:LI→Bool→(LI×Int)→Prop) (kx0:Int→(LI×Int)→Prop):Nat→Int→(LI×Int)→Prop
 | 0,_,_=>False
 | n+1,from4,rv0b=>wfD S1 (from4,rv0b,())→b3p (b0c kz kr kx0 n) kz kr kx0 from4 rv0b
def c54:Pce:=ex tb (j8 c0L) b8m (at' (g6 Tryz.f138) [0,0,0,1,1]) [0,0,0,1,1]
def c56 (k:Ex→St→Prop) (n:Nat) (v:l6 S1):Prop:=b0c (fun np=>k (.pan np) st0) (b3r k) (b0e k) n v.1 v.2.1
theorem d8y (k:Ex→St→Prop) (Y:l6 S1→Prop):∀ v:l6 S1,c54 (mkD 69 S1 v) (lpK 69 S1 b3q k Y)=b3p (fun from4 rv0b=>Y (from4,rv0b,())) (fun np=>k (.pan np) st0) (b3r k) (b0e k) v.1 v.2.1
 | (from4,rv0b,())=>by kernel_rfl
theorem c57 (k:Ex→St→Prop):∀ (n:Nat) (v:l6 S1),lpD 69 S1 b3q c54 k n v=c56 k n v
 | 0,(from4,rv0b,())=>rfl
 | n+1,(from4,rv0b,())=>congrArg (fun Z:Prop=>wfD S1 (from4,rv0b,())→Z) ((d8y k _ (from4,rv0b,())).trans (congrArg (fun Y=>b3p Y (fun np=>k (.pan np) st0) (b3r k) (b0e k) from4 rv0b) (funext fun from4=>funext fun rv0b=>c57 k n (from4,rv0b,()))))
def c52:Pce:=fun st k=>ckD 69 S1 st fun v=>wfD S1 v→∃ n,c56 k n v
theorem d8D:j5 Tryz.prog (at' (g6 Tryz.f138) [0,0,1,1]) c52:=
 (j5.loop (l3 o0 j9 b3o (c53) (at' (g6 Tryz.f138) [0,0,0,1,1]) [0,0,0,1,1] rfl (g9 b8o [0,0,0,1,1])) 69 S1 b3q).mono fun st k h=>l4 h fun v hv hw=>(hv hw).elim fun n hn=>⟨n,Eq.mpr (c57 k n v) hn⟩
def c5Z:q8:=([0,0,1,1],c52)::b8m
theorem d8w:g7 Tryz.prog (g6 Tryz.f138) c5Z:=g7.cons d8D (c53)
def c0N (rv0:(LI×Int)) (K:Res→List Cell→Prop):Prop:=
 (wfD S1 (rv0.2,rv0,())→∃ n,b0c (fun (np:Int)=>K (.pan np) []) (fun (x2:LI) (x3:Bool) (rv0b:(LI×Int))=>wfD a8R (x2,x3,rv0b,())→(
 K (.tup [.fr 5 yU x2,.v .bool x3]) [⟨.st (.pair yB yI),rv0b⟩])) (fun (from4:Int) (rv0b:(LI×Int))=>wfD a6g (from4,rv0b,())→(
 bif decide (0≤from4∧from4≤(List.length rv0b.1:Int)) then
 D9 (List.drop (Int.toNat from4) rv0b.1)∧(
 ∀ (r6:LI),r6=F7 (List.drop (Int.toNat from4) rv0b.1)→(
 wfR (.one (.fr 5 yU r6))→(
 K (.tup [.fr 5 yU r6,.v .bool false]) [⟨.st (.pair yB yI),rv0b⟩])))
 else False)) n rv0.2 rv0)
def b53:List AS:=[.r none (.st (.pair yB yI))]
def b0d (from':Int) (rv:LI×Int):Prop:=from'=rv.2∧0≤rv.2∧rv.2≤rv.1.length∧rv.1.length≤lim
def a0o (from':Int) (rv:LI×Int):Int⊕(LI×Bool×(LI×Int))⊕(Int×(LI×Int)):=
 if clo (rv.1.drop rv.2.toNat) 47<(rv.1.drop rv.2.toNat).length then .inr (.inl ((rv.1.drop rv.2.toNat).take (clo (rv.1.drop rv.2.toNat) 47),true,(rv.1,rv.2+(clo (rv.1.drop rv.2.toNat) 47:Int)+1)))
 else if alo (rv.1.drop rv.2.toNat) then .inl 240 else .inr (.inr (from',(rv.1,(rv.1.length:Int))))
theorem b8n (kp:Int→Prop) (kr:LI→Bool→LI×Int→Prop) (kx0:Int→LI×Int→Prop) (s:LI) (hs:s.length≤lim) (f:Nat) :
  ∀ (n i:Nat),s.length<n+i→f≤i→i≤s.length→(i+clo (s.drop i) 47<s.length→kr ((s.drop f).take (i+clo (s.drop i) 47 - f)) true (s,((i+clo (s.drop i) 47+1:Nat):Int)))→
   (s.length≤i+clo (s.drop i) 47→alo (s.drop i)=true→kp 240)→(s.length≤i+clo (s.drop i) 47→alo (s.drop i)=false→kx0 (f:Int) (s,(s.length:Int)))→b0c kp kr kx0 n (f:Int) (s,(i:Int))
 | 0,i,hn,_,hi,_,_,_=>absurd hn (by omega)
 | n+1,i,hn,hf,hi,hr,hp,hx=>by
  intro _
  unfold b3p
  have hlim:lim=1099511627776:=rfl
  intro r hre _
  unfold L6 at hre
  dsimp only at hre
  subst hre
  refine brx (fun hlt=>?_) (fun hge=>?_)
  ·have hi':i<s.length:=by omega
   have hw1:IntKind.wrap .i64 ((i:Int)+1)=((i+1:Nat):Int):=by rw [wrap_i64 (by omega) (by omega)]; omega
   dsimp only
   refine C1 (by omega) ?_
   rw [D4 hi',hw1,wrap_i64 (n:=((i+1:Nat):Int) - 1) (by omega) (by omega)]
   rw [D3 hi',O1] at hr hp hx
   refine brn (fun h92=>?_) (fun h92=>brn (fun h47=>?_) (fun h47=>?_))
   ·intro r hre _
    unfold L6 at hre
    dsimp only at hre
    subst hre
    rw [a2Q] at hp hx
    rw [if_pos h92] at hr hp hx
    refine brn (fun he=>⟨fun r h=>(by cases h),fun m h _=>?_⟩) (fun he=>?_)
    ·unfold B4 at h
     injection h with h; subst h
     rw [List.drop_eq_nil_of_le (show s.length≤i+1 by omega)] at hp
     exact hp (by dsimp only; omega) (by dsimp only; simp [h92])
    ·intro _
     unfold a5F
     dsimp only
     rw [wrap_i64 (by omega) (by omega),show ((i+1:Nat):Int)+1=((i+2:Nat):Int) by omega]
     intro _
     have h:i+1<s.length:=by omega
     rw [D3 h] at hr hp hx
     dsimp only at hr hp hx
     rw [if_pos h92] at hp hx
     have e:i+2+clo (s.drop (i+2)) 47=i+(clo (s.drop (i+1+1)) 47+2):=by rw [show i+1+1=i+2 from rfl]; omega
     refine b8n kp kr kx0 s hs f n (i+2) (by omega) (by omega) (by omega) ?_ ?_ ?_
     ·rw [e]; exact hr
     ·rw [e]; exact hp
     ·rw [e]; exact hx
   ·rw [if_neg h92,if_pos h47] at hr
    refine C1 (by omega) ⟨?_,fun r hr2 _=>?_⟩
    ·show List.length _≤lim
     unfold slc
     rw [List.length_drop,List.length_take]; omega
    ·subst hr2
     have:=hr (by omega)
     unfold F7 slc
     rw [show ((i+1:Nat):Int) - 1=(i:Int) by omega,Int.toNat_natCast,Int.toNat_natCast,List.drop_take]
     exact this
   ·rw [if_neg h92,if_neg h47] at hr hp hx
    intro _
    unfold a5F
    dsimp only
    rw [hw1]
    intro _
    have e:i+1+clo (s.drop (i+1)) 47=i+(clo (s.drop (i+1)) 47+1):=by omega
    rw [c3Y h92] at hp hx
    refine b8n kp kr kx0 s hs f n (i+1) (by omega) (by omega) (by omega) ?_ ?_ ?_
    ·rw [e]; exact hr
    ·rw [e]; exact hp
    ·rw [e]; exact hx
  ·obtain rfl:i=s.length:=by omega
   rw [List.drop_eq_nil_of_le (Nat.le_refl _)] at hx
   exact hx (by omega) rfl
theorem c3q (kp:Int→Prop) (kr:LI→Bool→LI×Int→Prop) (kx0:Int→LI×Int→Prop) (f:Int) (rv:LI×Int) (hp:b0d f rv)
  (hq:∀ q:Int,a0o f rv=.inl q→kp q) (hr:∀ q:LI×Bool×(LI×Int),a0o f rv=.inr (.inl q)→kr q.1 q.2.1 q.2.2)
  (hx:∀ q:Int×(LI×Int),a0o f rv=.inr (.inr q)→kx0 q.1 q.2):∃ m,b0c kp kr kx0 m f rv:=by
 obtain ⟨s,i⟩:=rv
 obtain ⟨h0,h1,h2,hs⟩:=hp
 dsimp only at h0 h1 h2 hs
 subst h0
 obtain ⟨j,rfl⟩:=Int.eq_ofNat_of_zero_le h1
 have h2:j≤s.length:=Int.ofNat_le.1 h2
 unfold a0o at hq hr hx
 simp only [Int.toNat_natCast,List.length_drop] at hq hr hx
 refine ⟨s.length+1,b8n kp kr kx0 s hs j _ j (by omega) (Nat.le_refl _) h2 (fun h=>?_) (fun h ha=>?_) (fun h ha=>?_)⟩
 ·have:=hr _ (by rw [if_pos (by omega)])
  rw [show j+clo (s.drop j) 47 - j=clo (s.drop j) 47 by omega,show ((j+clo (s.drop j) 47+1:Nat):Int)=(j:Int)+(clo (s.drop j) 47:Int)+1 by omega]
  exact this
 ·exact hq _ (by rw [if_neg (by omega),if_pos ha])
 ·exact hx _ (by rw [if_neg (by omega),if_neg (by rw [ha]; simp)])
def c50 (from4:Int) (rv0b:(LI×Int)):Int×(LI×Int):=
 (from4,(rv0b.1,(IntKind.wrap .i64 (rv0b.2+(1:Int)))))
theorem e4t (kn:Int→(LI×Int)→Prop) (from4:Int) (rv0b:(LI×Int)) (hn:∀ q:Int×(LI×Int),q=c50 from4 rv0b→kn q.1 q.2):a5F kn from4 rv0b:=
 have h:=hn; h _ rfl
def a8o (rv0:(LI×Int)):Prop:=
 b0d rv0.2 rv0∧(
 Sum.elim (fun q1z=>
 True) (Sum.elim (fun q1r=>
 True) (fun q1x0=>
 let from4:Int:=q1x0.1
 let rv0b:(LI×Int):=q1x0.2
 (0≤from4∧from4≤(List.length rv0b.1:Int))∧(
 D9 (List.drop (Int.toNat from4) rv0b.1)))) (a0o rv0.2 rv0))
def a0N (rv0:(LI×Int)):(LI×Bool×(LI×Int))⊕Int:=
 Sum.elim (fun q1z=>
 let np:Int:=q1z
 .inr np) (Sum.elim (fun q1r=>
 let x2:LI:=q1r.1
 let x3:Bool:=q1r.2.1
 let rv0b:(LI×Int):=q1r.2.2
 .inl ((x2,x3,rv0b))) (fun q1x0=>
 let from4:Int:=q1x0.1
 let rv0b:(LI×Int):=q1x0.2
 let r6:LI:=F7 (List.drop (Int.toNat from4) rv0b.1)
 .inl ((r6,false,rv0b)))) (a0o rv0.2 rv0)
theorem d8z (rv0:(LI×Int)) (K:Res→List Cell→Prop) (_:wfA b53 (rv0,())) (hp:a8o rv0) (h:∀ r:LI×Bool×(LI×Int),a0N rv0=.inl r→K (.tup [.fr 5 yU r.1,.v .bool r.2.1]) [⟨.st (.pair yB yI),r.2.2⟩]) (hqp:∀ n:Int,a0N rv0=.inr n→K (.pan n) []):c0N rv0 K:=
 have h:=hc2 h hqp; fun _=>c3q _ _ _ _ _ hp.1
 (fun _ e=>have h:=sl e h; h _ rfl)
 (fun _ e _=>have h:=sl rfl (sr e h); h _ rfl)
 (fun _ e _=>have h:=sr rfl (sr e h); have hp:=cR rfl (cR e hp.2); as1 hp fun hp=>⟨hp,al (h _ rfl)⟩)
def e5f (v:j3 b53) (K:Res→List Cell→Prop):Prop:=a8o v.1∧(∀ r:LI×Bool×(LI×Int),a0N v.1=.inl r→K (.tup [.fr 5 yU r.1,.v .bool r.2.1]) [⟨.st (.pair yB yI),r.2.2⟩])∧∀ n:Int,a0N v.1=.inr n→K (.pan n) []
def d5o:App:=specW b53 e5f
theorem d8B (K:Res→List Cell→Prop):∀ v:j3 b53,q7 tb (j8 c0L) c5Z Tryz.f138 [true,true] (mkA b53 v) K=c0N v.1 K
 | (rv0,())=>by kernel_rfl
theorem d8x:g8 Tryz.prog 138 d5o:=
 g8.specW (l9 ((l8 o0 j9 b3o (d8w) (f:=138) (fn:=Tryz.f138) (by kernel_rfl) (by kernel_rfl) b8o [true,true])) fun v K hw h=>(d8B K v).mpr (d8z v.1 K hw h.1 h.2.1 h.2.2))
def d4h:List (Nat×App):=[(81,c0A),(43,a7l),(138,d5o)]
theorem b9k:GOk Tryz.prog (j8 d4h):=GOk.cons b8k (GOk.cons a4j (GOk.cons d8x (GOk.nil)))
theorem d0T:o8 (g6 Tryz.f88)=true:=by kernel_rfl
def a8z:List LS:=[.b 0 7 [],.b 1 15 [],.o 4 37 5 yU,.c 7 (.st (.pair yB yI)),.c 15 tyX]
def b08:List LS:=[.c 7 (.st (.pair yB yI)),.c 15 tyX]
def d0Q:DX:=⟨some b08,none,[]⟩
def e3t (k:Ex→St→Prop) (rv0b:(LI×Int)) (x1b:tEx):Prop:=wfD b08 (rv0b,x1b,())→k .nrm (mkD 39 b08 (rv0b,x1b,()))
def c2C (kn:(LI×Int)→tEx→Prop) (kz:Int→Prop) (old4:LI) (rv0b:(LI×Int)) (x1b:tEx):Prop:=
 a8o rv0b∧(
 (∀ (r5:LI×Bool×(LI×Int)),a0N rv0b=.inl r5→(
 wfR (.tup [.fr 5 yU r5.1,.v .bool r5.2.1])→(
 bif r5.2.1 then
 L7 r5.2.2 (103:Int)∧(
 ∀ (r6:Bool×(LI×Int)),r6=D7 r5.2.2 (103:Int)→(
 wB r6.1→(
 kn r6.2 (x1b.1,x1b.2.1,x1b.2.2.1,x1b.2.2.2.1,x1b.2.2.2.2.1,x1b.2.2.2.2.2.1,x1b.2.2.2.2.2.2.1,old4,r5.1,r6.1))))
 else
 kn r5.2.2 (x1b.1,x1b.2.1,x1b.2.2.1,x1b.2.2.2.1,x1b.2.2.2.2.1,x1b.2.2.2.2.2.1,x1b.2.2.2.2.2.2.1,old4,r5.1,x1b.2.2.2.2.2.2.2.2.2))))∧(∀ (np7:Int),a0N rv0b=.inr np7→(wfR (.pan np7)→(
 kz np7))))
def d6C (k:Ex→St→Prop) (v:l6 a8z):Prop:=c2C (e3t k) (fun np=>k (.pan np) st0) v.1 v.2.1 v.2.2.1
theorem e6E (k:Ex→St→Prop):∀ v:l6 a8z,ex tb (j8 d4h) [] (at' (g6 Tryz.f88) [1,1,1,1]) [1,1,1,1] (mkD 39 a8z v) (wk 39 d0Q k)=d6C k v
 | (old4,rv0b,x1b,())=>by kernel_rfl
def d6z:Pce:=fun st k=>ckD 39 a8z st fun v=>wfD a8z v→d6C k v
theorem e6H:j5 Tryz.prog (at' (g6 Tryz.f88) [1,1,1,1]) d6z:=
 (j5.wk (N:=39) (ds:=a8z) (dx:=d0Q) (l3 o0 j9 b9k (g7.nil) (at' (g6 Tryz.f88) [1,1,1,1]) [1,1,1,1] rfl (g9 d0T [1,1,1,1]))).mono fun st k h=>l4 h fun v hv hw=>Eq.mpr (e6E k v) (hv hw)
def d0P:q8:=([1,1,1,1],d6z)::[]
theorem d6B:g7 Tryz.prog (g6 Tryz.f88) d0P:=g7.cons e6H (g7.nil)
def a8A:List LS:=[.b 0 7 [],.b 1 15 [],.c 7 (.st (.pair yB yI)),.c 15 tyX]
def b09:List LS:=[.c 7 (.st (.pair yB yI)),.c 15 tyX]
def d0R:DX:=⟨some b09,none,[]⟩
def e3u (k:Ex→St→Prop) (rv0b:(LI×Int)) (x1b:tEx):Prop:=wfD b09 (rv0b,x1b,())→k .nrm (mkD 39 b09 (rv0b,x1b,()))
def c2D (kn:(LI×Int)→tEx→Prop) (kz:Int→Prop) (rv0b:(LI×Int)) (x1b:tEx):Prop:=
 a8o rv0b∧(
 (∀ (r3:LI×Bool×(LI×Int)),a0N rv0b=.inl r3→(
 wfR (.tup [.fr 5 yU r3.1,.v .bool r3.2.1])→(
 bif (!r3.2.1) then
 (∀ (r4:Unit),B4 (240:Int)=.inl r4→(
 wfR (.tup [])→(
 (wfD a8z (r3.1,r3.2.2,x1b,())→c2C (fun (rv0b:(LI×Int)) (x1b:tEx)=>wfD b08 (rv0b,x1b,())→(
 kn rv0b x1b)) (fun (np:Int)=>kz np) r3.1 r3.2.2 x1b))))∧(∀ (np8:Int),B4 (240:Int)=.inr np8→(wfR (.pan np8)→(
 kz np8)))
 else
 (wfD a8z (r3.1,r3.2.2,x1b,())→c2C (fun (rv0b:(LI×Int)) (x1b:tEx)=>wfD b08 (rv0b,x1b,())→(
 kn rv0b x1b)) (fun (np:Int)=>kz np) r3.1 r3.2.2 x1b))))∧(∀ (np9:Int),a0N rv0b=.inr np9→(wfR (.pan np9)→(
 kz np9))))
def d6D (k:Ex→St→Prop) (v:l6 a8A):Prop:=c2D (e3u k) (fun np=>k (.pan np) st0) v.1 v.2.1
theorem e6F (k:Ex→St→Prop):∀ v:l6 a8A,ex tb (j8 d4h) d0P (at' (g6 Tryz.f88) [1,1]) [1,1] (mkD 39 a8A v) (wk 39 d0R k)=d6D k v
 | (rv0b,x1b,())=>by kernel_rfl
def d6A:Pce:=fun st k=>ckD 39 a8A st fun v=>wfD a8A v→d6D k v
theorem e6I:j5 Tryz.prog (at' (g6 Tryz.f88) [1,1]) d6A:=
 (j5.wk (N:=39) (ds:=a8A) (dx:=d0R) (l3 o0 j9 b9k (d6B) (at' (g6 Tryz.f88) [1,1]) [1,1] rfl (g9 d0T [1,1]))).mono fun st k h=>l4 h fun v hv hw=>Eq.mpr (e6F k v) (hv hw)
def d6y:q8:=([1,1],d6A)::d0P
theorem e6B:g7 Tryz.prog (g6 Tryz.f88) d6y:=g7.cons e6I (d6B)
def d0S (rv0:(LI×Int)) (x1:tEx) (K:Res→List Cell→Prop):Prop:=
 L7 rv0 (47:Int)∧(
 ∀ (r1:Bool×(LI×Int)),r1=D7 rv0 (47:Int)→(
 wB r1.1→(
 bif (!r1.1) then
 (∀ (r2:Unit),B4 (240:Int)=.inl r2→(
 wfR (.tup [])→(
 (wfD a8A (r1.2,(x1.1,x1.2.1,x1.2.2.1,([115]:LI),x1.2.2.2.2.1,x1.2.2.2.2.2.1,x1.2.2.2.2.2.2.1,x1.2.2.2.2.2.2.2.1,x1.2.2.2.2.2.2.2.2.1,x1.2.2.2.2.2.2.2.2.2),())→c2D (fun (rv0b:(LI×Int)) (x1b:tEx)=>wfD b09 (rv0b,x1b,())→(
 K (.tup []) [⟨.st (.pair yB yI),rv0b⟩,⟨.st (.pair tyA (.pair tyA (.pair .bool (.pair .str (.pair tyA (.pair yU (.pair yI (.pair yB (.pair yB .bool))))))))),x1b⟩])) (fun (np:Int)=>K (.pan np) []) r1.2 (x1.1,x1.2.1,x1.2.2.1,([115]:LI),x1.2.2.2.2.1,x1.2.2.2.2.2.1,x1.2.2.2.2.2.2.1,x1.2.2.2.2.2.2.2.1,x1.2.2.2.2.2.2.2.2.1,x1.2.2.2.2.2.2.2.2.2)))))∧(∀ (np10:Int),B4 (240:Int)=.inr np10→(wfR (.pan np10)→(
 K (.pan np10) [])))
 else
 (wfD a8A (r1.2,(x1.1,x1.2.1,x1.2.2.1,([115]:LI),x1.2.2.2.2.1,x1.2.2.2.2.2.1,x1.2.2.2.2.2.2.1,x1.2.2.2.2.2.2.2.1,x1.2.2.2.2.2.2.2.2.1,x1.2.2.2.2.2.2.2.2.2),())→c2D (fun (rv0b:(LI×Int)) (x1b:tEx)=>wfD b09 (rv0b,x1b,())→(
 K (.tup []) [⟨.st (.pair yB yI),rv0b⟩,⟨.st (.pair tyA (.pair tyA (.pair .bool (.pair .str (.pair tyA (.pair yU (.pair yI (.pair yB (.pair yB .bool))))))))),x1b⟩])) (fun (np:Int)=>K (.pan np) []) r1.2 (x1.1,x1.2.1,x1.2.2.1,([115]:LI),x1.2.2.2.2.1,x1.2.2.2.2.2.1,x1.2.2.2.2.2.2.1,x1.2.2.2.2.2.2.2.1,x1.2.2.2.2.2.2.2.2.1,x1.2.2.2.2.2.2.2.2.2)))))
def d0O:List AS:=[.r none (.st (.pair yB yI)),.r none tyX]
def a7m (old4:LI) (rv0b:(LI×Int)) (x1b:tEx):Prop:=
 a8o rv0b∧(
 Sum.elim (fun r5=>
 bif r5.2.1 then
 L7 r5.2.2 (103:Int)
 else
 True) (fun _=>True) (a0N rv0b))
def a4X (old4:LI) (rv0b:(LI×Int)) (x1b:tEx):((LI×Int)×tEx)⊕(Int):=
 Sum.elim (fun r5=>
 bif r5.2.1 then
 let r6:Bool×(LI×Int):=D7 r5.2.2 (103:Int)
 .inl (r6.2,(x1b.1,x1b.2.1,x1b.2.2.1,x1b.2.2.2.1,x1b.2.2.2.2.1,x1b.2.2.2.2.2.1,x1b.2.2.2.2.2.2.1,old4,r5.1,r6.1))
 else
 .inl (r5.2.2,(x1b.1,x1b.2.1,x1b.2.2.1,x1b.2.2.2.1,x1b.2.2.2.2.1,x1b.2.2.2.2.2.1,x1b.2.2.2.2.2.2.1,old4,r5.1,x1b.2.2.2.2.2.2.2.2.2))) (fun np7=>
 .inr (np7)) (a0N rv0b)
theorem b7i (kn:(LI×Int)→tEx→Prop) (kz:Int→Prop) (old4:LI) (rv0b:(LI×Int)) (x1b:tEx) (hp:a7m old4 rv0b x1b) (hn:∀ q:(LI×Int)×tEx,a4X old4 rv0b x1b=.inl q→kn q.1 q.2) (hz:∀ q:Int,a4X old4 rv0b x1b=.inr q→kz q):c2C kn kz old4 rv0b x1b:=
 have h:=hc2 hn hz; an1 hp fun hp=>ae1 hp h (fun _ hp h=>br1 hp h (fun _ hp h=>⟨hp,al (h _ rfl)⟩)
 fun _ hp h=>h _ rfl)
 fun _ h=>h _ rfl
def a7n (rv0b:(LI×Int)) (x1b:tEx):Prop:=
 a8o rv0b∧(
 Sum.elim (fun r3=>
 bif (!r3.2.1) then
 Sum.elim (fun r4=>
 a7m r3.1 r3.2.2 x1b) (fun _=>True) (B4 (240:Int))
 else
 a7m r3.1 r3.2.2 x1b) (fun _=>True) (a0N rv0b))
def a2w (rv0b:(LI×Int)) (x1b:tEx):((LI×Int)×tEx)⊕(Int):=
 Sum.elim (fun r3=>
 bif (!r3.2.1) then
 Sum.elim (fun r4=>
 Sum.elim (fun q0n=>
 let rv0b:(LI×Int):=q0n.1
 let x1b:tEx:=q0n.2
 .inl (rv0b,x1b)) (fun q0z=>
 let np:Int:=q0z
 .inr (np)) (a4X r3.1 r3.2.2 x1b)) (fun np8=>
 .inr (np8)) (B4 (240:Int))
 else
 Sum.elim (fun q0n=>
 let rv0b:(LI×Int):=q0n.1
 let x1b:tEx:=q0n.2
 .inl (rv0b,x1b)) (fun q0z=>
 let np:Int:=q0z
 .inr (np)) (a4X r3.1 r3.2.2 x1b)) (fun np9=>
 .inr (np9)) (a0N rv0b)
theorem b7j (kn:(LI×Int)→tEx→Prop) (kz:Int→Prop) (rv0b:(LI×Int)) (x1b:tEx) (hp:a7n rv0b x1b) (hn:∀ q:(LI×Int)×tEx,a2w rv0b x1b=.inl q→kn q.1 q.2) (hz:∀ q:Int,a2w rv0b x1b=.inr q→kz q):c2D kn kz rv0b x1b:=
 have h:=hc2 hn hz; an1 hp fun hp=>ae1 hp h (fun _ hp h=>br1 hp h (fun _ hp h=>ae1 hp h (fun _ hp h=>fun _=>b7i _ _ _ _ _ hp
 (fun _ e _=>have h:=sl e h; h _ rfl)
 (fun _ e=>have h:=sr e h; h _ rfl))
 fun _ h=>h _ rfl)
 fun _ hp h=>fun _=>b7i _ _ _ _ _ hp
 (fun _ e _=>have h:=sl e h; h _ rfl)
 (fun _ e=>have h:=sr e h; h _ rfl))
 fun _ h=>h _ rfl
def c3D (rv0:(LI×Int)) (x1:tEx):Prop:=
 L7 rv0 (47:Int)∧(
 let r1:Bool×(LI×Int):=D7 rv0 (47:Int)
 bif (!r1.1) then
 Sum.elim (fun r2=>
 a7n r1.2 (x1.1,x1.2.1,x1.2.2.1,([115]:LI),x1.2.2.2.2.1,x1.2.2.2.2.2.1,x1.2.2.2.2.2.2.1,x1.2.2.2.2.2.2.2.1,x1.2.2.2.2.2.2.2.2.1,x1.2.2.2.2.2.2.2.2.2)) (fun _=>True) (B4 (240:Int))
 else
 a7n r1.2 (x1.1,x1.2.1,x1.2.2.1,([115]:LI),x1.2.2.2.2.1,x1.2.2.2.2.2.1,x1.2.2.2.2.2.2.1,x1.2.2.2.2.2.2.2.1,x1.2.2.2.2.2.2.2.2.1,x1.2.2.2.2.2.2.2.2.2))
def b4P (rv0:(LI×Int)) (x1:tEx):((LI×Int)×tEx)⊕Int:=
 let r1:Bool×(LI×Int):=D7 rv0 (47:Int)
 bif (!r1.1) then
 Sum.elim (fun r2=>
 Sum.elim (fun q1n=>
 let rv0b:(LI×Int):=q1n.1
 let x1b:tEx:=q1n.2
 .inl ((rv0b,x1b))) (fun q1z=>
 let np:Int:=q1z
 .inr np) (a2w r1.2 (x1.1,x1.2.1,x1.2.2.1,([115]:LI),x1.2.2.2.2.1,x1.2.2.2.2.2.1,x1.2.2.2.2.2.2.1,x1.2.2.2.2.2.2.2.1,x1.2.2.2.2.2.2.2.2.1,x1.2.2.2.2.2.2.2.2.2))) (fun np10=>
 .inr np10) (B4 (240:Int))
 else
 Sum.elim (fun q1n=>
 let rv0b:(LI×Int):=q1n.1
 let x1b:tEx:=q1n.2
 .inl ((rv0b,x1b))) (fun q1z=>
 let np:Int:=q1z
 .inr np) (a2w r1.2 (x1.1,x1.2.1,x1.2.2.1,([115]:LI),x1.2.2.2.2.1,x1.2.2.2.2.2.1,x1.2.2.2.2.2.2.1,x1.2.2.2.2.2.2.2.1,x1.2.2.2.2.2.2.2.2.1,x1.2.2.2.2.2.2.2.2.2))
theorem e6D (rv0:(LI×Int)) (x1:tEx) (K:Res→List Cell→Prop) (_:wfA d0O (rv0,x1,())) (hp:c3D rv0 x1) (h:∀ r:(LI×Int)×tEx,b4P rv0 x1=.inl r→K (.tup []) [⟨.st (.pair yB yI),r.1⟩,⟨.st (.pair tyA (.pair tyA (.pair .bool (.pair .str (.pair tyA (.pair yU (.pair yI (.pair yB (.pair yB .bool))))))))),r.2⟩]) (hqp:∀ n:Int,b4P rv0 x1=.inr n→K (.pan n) []):d0S rv0 x1 K:=
 have h:=hc2 h hqp; an1 hp fun hp=>al (br1 hp h (fun _ hp h=>ae1 hp h (fun _ hp h=>fun _=>b7j _ _ _ _ hp
 (fun _ e _=>have h:=sl e h; h _ rfl)
 (fun _ e=>have h:=sr e h; h _ rfl))
 fun _ h=>h _ rfl)
 fun _ hp h=>fun _=>b7j _ _ _ _ hp
 (fun _ e _=>have h:=sl e h; h _ rfl)
 (fun _ e=>have h:=sr e h; h _ rfl))
def e7A (v:j3 d0O) (K:Res→List Cell→Prop):Prop:=c3D v.1 v.2.1∧(∀ r:(LI×Int)×tEx,b4P v.1 v.2.1=.inl r→K (.tup []) [⟨.st (.pair yB yI),r.1⟩,⟨.st (.pair tyA (.pair tyA (.pair .bool (.pair .str (.pair tyA (.pair yU (.pair yI (.pair yB (.pair yB .bool))))))))),r.2⟩])∧∀ n:Int,b4P v.1 v.2.1=.inr n→K (.pan n) []
def e6A:App:=specW d0O e7A
theorem e6G (K:Res→List Cell→Prop):∀ v:j3 d0O,q7 tb (j8 d4h) d6y Tryz.f88 [] (mkA d0O v) K=d0S v.1 v.2.1 K
 | (rv0,x1,())=>by kernel_rfl
theorem e6C:g8 Tryz.prog 88 e6A:=
 g8.specW (l9 ((l8 o0 j9 b9k (e6B) (f:=88) (fn:=Tryz.f88) (by kernel_rfl) (by kernel_rfl) d0T [])) fun v K hw h=>(e6G K v).mpr (e6D v.1 v.2.1 K hw h.1 h.2.1 h.2.2))
def a9X:List (Nat×App):=[(84,c0J),(85,d42),(86,d5h),(81,c0A),(43,a7l),(87,d5j),(88,e6A)]
theorem a4E:GOk Tryz.prog (j8 a9X):=GOk.cons b8l (GOk.cons d7l (GOk.cons d8d (GOk.cons b8k (GOk.cons a4j (GOk.cons d8i (GOk.cons e6C (GOk.nil)))))))
theorem a7T:o8 (g6 Tryz.f42)=true:=by kernel_rfl
def a3e:List LS:=[.b 0 7 [],.b 1 15 [],.c 7 (.st (.pair yB yI)),.c 15 tyX]
def a58:List LS:=[.c 7 (.st (.pair yB yI)),.c 15 tyX]
def c0m:DX:=⟨some a58,none,[]⟩
def d2K (k:Ex→St→Prop) (rv0b:(LI×Int)) (x1b:tEx):Prop:=wfD a58 (rv0b,x1b,())→k .nrm (mkD 126 a58 (rv0b,x1b,()))
def b3b (kn:(LI×Int)→tEx→Prop) (rv0b:(LI×Int)) (x1b:tEx):Prop:=
 L7 rv0b (33:Int)∧(
 ∀ (r7:Bool×(LI×Int)),r7=D7 rv0b (33:Int)→(
 wB r7.1→(
 bif r7.1 then
 a49 r7.2 true∧(
 ∀ (r8:Int×(LI×Int)),r8=a28 r7.2 true→(
 wfR (.one (.v yU r8.1))→(
 kn r8.2 (x1b.1,x1b.2.1,x1b.2.2.1,([112,117,33]:LI),x1b.2.2.2.2.1,r8.1,x1b.2.2.2.2.2.2.1,x1b.2.2.2.2.2.2.2.1,x1b.2.2.2.2.2.2.2.2.1,x1b.2.2.2.2.2.2.2.2.2))))
 else
 a49 r7.2 true∧(
 ∀ (r9:Int×(LI×Int)),r9=a28 r7.2 true→(
 wfR (.one (.v yU r9.1))→(
 kn r9.2 (x1b.1,x1b.2.1,x1b.2.2.1,([112,117]:LI),x1b.2.2.2.2.1,r9.1,x1b.2.2.2.2.2.2.1,x1b.2.2.2.2.2.2.2.1,x1b.2.2.2.2.2.2.2.2.1,x1b.2.2.2.2.2.2.2.2.2)))))))
def c5h (k:Ex→St→Prop) (v:l6 a3e):Prop:=b3b (d2K k) v.1 v.2.1
theorem d7C (k:Ex→St→Prop):∀ v:l6 a3e,ex tb (j8 a9X) [] (at' (g6 Tryz.f42) [1,0,1,1,1,0,1,1,1]) [1,0,1,1,1,0,1,1,1] (mkD 126 a3e v) (wk 126 c0m k)=c5h k v
 | (rv0b,x1b,())=>by kernel_rfl
def c47:Pce:=fun st k=>ckD 126 a3e st fun v=>wfD a3e v→c5h k v
theorem d7H:j5 Tryz.prog (at' (g6 Tryz.f42) [1,0,1,1,1,0,1,1,1]) c47:=
 (j5.wk (N:=126) (ds:=a3e) (dx:=c0m) (l3 o0 j9 a4E (g7.nil) (at' (g6 Tryz.f42) [1,0,1,1,1,0,1,1,1]) [1,0,1,1,1,0,1,1,1] rfl (g9 a7T [1,0,1,1,1,0,1,1,1]))).mono fun st k h=>l4 h fun v hv hw=>Eq.mpr (d7C k v) (hv hw)
def b8d:q8:=([1,0,1,1,1,0,1,1,1],c47)::[]
theorem c5c:g7 Tryz.prog (g6 Tryz.f42) b8d:=g7.cons d7H (g7.nil)
def R7:List LS:=[.b 0 7 [],.b 1 15 [],.v 4 yU,.c 7 (.st (.pair yB yI)),.c 15 tyX]
def a59:List LS:=[.c 7 (.st (.pair yB yI)),.c 15 tyX]
def b3g:DX:=⟨none,none,[(1,a59)]⟩
def a90 (k:Ex→St→Prop) (rv0b:(LI×Int)) (x1b:tEx):Prop:=wfD a59 (rv0b,x1b,())→k (.exit 1) (mkD 126 a59 (rv0b,x1b,()))
def b3f (Y:Int→(LI×Int)→tEx→Prop) (kx1:(LI×Int)→tEx→Prop) (b4:Int) (rv0b:(LI×Int)) (x1b:tEx):Prop:=
 L7 rv0b b4∧(
 ∀ (r16:Bool×(LI×Int)),r16=D7 rv0b b4→(
 wB r16.1→(
 bif r16.1 then
 Y b4 r16.2 (x1b.1,x1b.2.1,x1b.2.2.1,x1b.2.2.2.1,x1b.2.2.2.2.1,x1b.2.2.2.2.2.1,(mn (IntKind.wrap .i64 (x1b.2.2.2.2.2.2.1+(1:Int))) (9999:Int)),x1b.2.2.2.2.2.2.2.1,x1b.2.2.2.2.2.2.2.2.1,x1b.2.2.2.2.2.2.2.2.2)
 else
 kx1 r16.2 x1b)))
def a9Y (kx1:(LI×Int)→tEx→Prop):Nat→Int→(LI×Int)→tEx→Prop
 | 0,_,_,_=>False
 | n+1,b4,rv0b,x1b=>wfD R7 (b4,rv0b,x1b,())→b3f (a9Y kx1 n) kx1 b4 rv0b x1b
def c5g:Pce:=ex tb (j8 a9X) b8d (at' (g6 Tryz.f42) [0,0,1,1,0,1,1,1,1,1,1,1,0,1,1,1]) [0,0,1,1,0,1,1,1,1,1,1,1,0,1,1,1]
def c5i (k:Ex→St→Prop) (n:Nat) (v:l6 R7):Prop:=a9Y (a90 k) n v.1 v.2.1 v.2.2.1
theorem d7A (k:Ex→St→Prop) (Y:l6 R7→Prop):∀ v:l6 R7,c5g (mkD 126 R7 v) (lpK 126 R7 b3g k Y)=b3f (fun b4 rv0b x1b=>Y (b4,rv0b,x1b,())) (a90 k) v.1 v.2.1 v.2.2.1
 | (b4,rv0b,x1b,())=>by kernel_rfl
theorem c5n (k:Ex→St→Prop):∀ (n:Nat) (v:l6 R7),lpD 126 R7 b3g c5g k n v=c5i k n v
 | 0,(b4,rv0b,x1b,())=>rfl
 | n+1,(b4,rv0b,x1b,())=>congrArg (fun Z:Prop=>wfD R7 (b4,rv0b,x1b,())→Z) ((d7A k _ (b4,rv0b,x1b,())).trans (congrArg (fun Y=>b3f Y (a90 k) b4 rv0b x1b) (funext fun b4=>funext fun rv0b=>funext fun x1b=>c5n k n (b4,rv0b,x1b,()))))
def c48:Pce:=fun st k=>ckD 126 R7 st fun v=>wfD R7 v→∃ n,c5i k n v
theorem d7I:j5 Tryz.prog (at' (g6 Tryz.f42) [0,1,1,0,1,1,1,1,1,1,1,0,1,1,1]) c48:=
 (j5.loop (l3 o0 j9 a4E (c5c) (at' (g6 Tryz.f42) [0,0,1,1,0,1,1,1,1,1,1,1,0,1,1,1]) [0,0,1,1,0,1,1,1,1,1,1,1,0,1,1,1] rfl (g9 a7T [0,0,1,1,0,1,1,1,1,1,1,1,0,1,1,1])) 126 R7 b3g).mono fun st k h=>l4 h fun v hv hw=>(hv hw).elim fun n hn=>⟨n,Eq.mpr (c5n k n v) hn⟩
def b8e:q8:=([0,1,1,0,1,1,1,1,1,1,1,0,1,1,1],c48)::b8d
theorem c5d:g7 Tryz.prog (g6 Tryz.f42) b8e:=g7.cons d7I (c5c)
def a3f:List LS:=[.b 0 7 [],.b 1 15 [],.v 4 yU,.v 14 yU,.v 107 .bool,.c 7 (.st (.pair yB yI)),.c 15 tyX]
def a6a:List LS:=[.c 7 (.st (.pair yB yI)),.c 15 tyX]
def c0n:DX:=⟨some a6a,none,[]⟩
def d2L (k:Ex→St→Prop) (rv0b:(LI×Int)) (x1b:tEx):Prop:=wfD a6a (rv0b,x1b,())→k .nrm (mkD 126 a6a (rv0b,x1b,()))
def b3c (kn:(LI×Int)→tEx→Prop) (kz:Int→Prop) (b4:Int) (x14:Int) (x107:Bool) (rv0b:(LI×Int)) (x1b:tEx):Prop:=
 bif x107 then
 a5g rv0b∧(
 (∀ (r24:tAd×(LI×Int)),a0m rv0b=.inl r24→(
 wfR (.one (.v tyA r24.1))→(
 kn r24.2 (x1b.1,x1b.2.1,x1b.2.2.1,([b4]:LI),r24.1,x1b.2.2.2.2.2.1,x1b.2.2.2.2.2.2.1,x1b.2.2.2.2.2.2.2.1,x1b.2.2.2.2.2.2.2.2.1,x1b.2.2.2.2.2.2.2.2.2))))∧(∀ (np25:Int),a0m rv0b=.inr np25→(wfR (.pan np25)→(
 kz np25))))
 else
 bif (decide (x14=(115:Int))) then
 c3D rv0b x1b∧(
 (∀ (r26:(LI×Int)×tEx),b4P rv0b x1b=.inl r26→(
 wfR (.tup [])→(
 kn r26.1 r26.2)))∧(∀ (np27:Int),b4P rv0b x1b=.inr np27→(wfR (.pan np27)→(
 kz np27))))
 else
 (∀ (r28:Unit),B4 (240:Int)=.inl r28→(
 wfR (.tup [])→(
 kn rv0b x1b)))∧(∀ (np29:Int),B4 (240:Int)=.inr np29→(wfR (.pan np29)→(
 kz np29)))
def c5j (k:Ex→St→Prop) (v:l6 a3f):Prop:=b3c (d2L k) (fun np=>k (.pan np) st0) v.1 v.2.1 v.2.2.1 v.2.2.2.1 v.2.2.2.2.1
theorem d7D (k:Ex→St→Prop):∀ v:l6 a3f,ex tb (j8 a9X) b8e (at' (g6 Tryz.f42) [1,1,1,1,1,1,1,1,1,1,1,0,1,1,1]) [1,1,1,1,1,1,1,1,1,1,1,0,1,1,1] (mkD 126 a3f v) (wk 126 c0n k)=c5j k v
 | (b4,x14,x107,rv0b,x1b,())=>by kernel_rfl
def c49:Pce:=fun st k=>ckD 126 a3f st fun v=>wfD a3f v→c5j k v
theorem d7J:j5 Tryz.prog (at' (g6 Tryz.f42) [1,1,1,1,1,1,1,1,1,1,1,0,1,1,1]) c49:=
 (j5.wk (N:=126) (ds:=a3f) (dx:=c0n) (l3 o0 j9 a4E (c5d) (at' (g6 Tryz.f42) [1,1,1,1,1,1,1,1,1,1,1,0,1,1,1]) [1,1,1,1,1,1,1,1,1,1,1,0,1,1,1] rfl (g9 a7T [1,1,1,1,1,1,1,1,1,1,1,0,1,1,1]))).mono fun st k h=>l4 h fun v hv hw=>Eq.mpr (d7D k v) (hv hw)
def b8f:q8:=([1,1,1,1,1,1,1,1,1,1,1,0,1,1,1],c49)::b8e
theorem c5e:g7 Tryz.prog (g6 Tryz.f42) b8f:=g7.cons d7J (c5d)
def a3g:List LS:=[.b 0 7 [],.b 1 15 [],.v 4 yU,.v 14 yU,.v 69 .bool,.c 7 (.st (.pair yB yI)),.c 15 tyX]
def a6b:List LS:=[.c 7 (.st (.pair yB yI)),.c 15 tyX]
def c0o:DX:=⟨some a6b,none,[]⟩
def d2M (k:Ex→St→Prop) (rv0b:(LI×Int)) (x1b:tEx):Prop:=wfD a6b (rv0b,x1b,())→k .nrm (mkD 126 a6b (rv0b,x1b,()))
def b3d (kn:(LI×Int)→tEx→Prop) (kz:Int→Prop) (b4:Int) (x14:Int) (x69:Bool) (rv0b:(LI×Int)) (x1b:tEx):Prop:=
 bif x69 then
 (wfD R7 (b4,rv0b,(x1b.1,x1b.2.1,x1b.2.2.1,([b4]:LI),x1b.2.2.2.2.1,x1b.2.2.2.2.2.1,(1:Int),x1b.2.2.2.2.2.2.2.1,x1b.2.2.2.2.2.2.2.2.1,x1b.2.2.2.2.2.2.2.2.2),())→∃ n,a9Y (fun (rv0b:(LI×Int)) (x1b:tEx)=>wfD a59 (rv0b,x1b,())→(
 kn rv0b x1b)) n b4 rv0b (x1b.1,x1b.2.1,x1b.2.2.1,([b4]:LI),x1b.2.2.2.2.1,x1b.2.2.2.2.2.1,(1:Int),x1b.2.2.2.2.2.2.2.1,x1b.2.2.2.2.2.2.2.2.1,x1b.2.2.2.2.2.2.2.2.2))
 else
 bif (decide (x14=(99:Int))) then
 L7 rv0b (111:Int)∧(
 ∀ (r17:Bool×(LI×Int)),r17=D7 rv0b (111:Int)→(
 wB r17.1→(
 bif (!r17.1) then
 (∀ (r18:Unit),B4 (240:Int)=.inl r18→(
 wfR (.tup [])→(
 a5g r17.2∧(
 (∀ (r19:tAd×(LI×Int)),a0m r17.2=.inl r19→(
 wfR (.one (.v tyA r19.1))→(
 kn r19.2 (x1b.1,x1b.2.1,x1b.2.2.1,([116]:LI),r19.1,x1b.2.2.2.2.2.1,x1b.2.2.2.2.2.2.1,x1b.2.2.2.2.2.2.2.1,x1b.2.2.2.2.2.2.2.2.1,x1b.2.2.2.2.2.2.2.2.2))))∧(∀ (np20:Int),a0m r17.2=.inr np20→(wfR (.pan np20)→(
 kz np20)))))))∧(∀ (np21:Int),B4 (240:Int)=.inr np21→(wfR (.pan np21)→(
 kz np21)))
 else
 a5g r17.2∧(
 (∀ (r22:tAd×(LI×Int)),a0m r17.2=.inl r22→(
 wfR (.one (.v tyA r22.1))→(
 kn r22.2 (x1b.1,x1b.2.1,x1b.2.2.1,([116]:LI),r22.1,x1b.2.2.2.2.2.1,x1b.2.2.2.2.2.2.1,x1b.2.2.2.2.2.2.2.1,x1b.2.2.2.2.2.2.2.2.1,x1b.2.2.2.2.2.2.2.2.2))))∧(∀ (np23:Int),a0m r17.2=.inr np23→(wfR (.pan np23)→(
 kz np23)))))))
 else
 bif (decide (x14=(116:Int))) then
 (wfD a3f (b4,x14,(decide (x14=(116:Int))),rv0b,x1b,())→b3c (fun (rv0b:(LI×Int)) (x1b:tEx)=>wfD a6a (rv0b,x1b,())→(
 kn rv0b x1b)) (fun (np:Int)=>kz np) b4 x14 (decide (x14=(116:Int))) rv0b x1b)
 else
 (wfD a3f (b4,x14,(decide (x14=(109:Int))),rv0b,x1b,())→b3c (fun (rv0b:(LI×Int)) (x1b:tEx)=>wfD a6a (rv0b,x1b,())→(
 kn rv0b x1b)) (fun (np:Int)=>kz np) b4 x14 (decide (x14=(109:Int))) rv0b x1b)
def c5k (k:Ex→St→Prop) (v:l6 a3g):Prop:=b3d (d2M k) (fun np=>k (.pan np) st0) v.1 v.2.1 v.2.2.1 v.2.2.2.1 v.2.2.2.2.1
theorem d7E (k:Ex→St→Prop):∀ v:l6 a3g,ex tb (j8 a9X) b8f (at' (g6 Tryz.f42) [1,1,1,1,1,1,1,0,1,1,1]) [1,1,1,1,1,1,1,0,1,1,1] (mkD 126 a3g v) (wk 126 c0o k)=c5k k v
 | (b4,x14,x69,rv0b,x1b,())=>by kernel_rfl
def c5a:Pce:=fun st k=>ckD 126 a3g st fun v=>wfD a3g v→c5k k v
theorem d7K:j5 Tryz.prog (at' (g6 Tryz.f42) [1,1,1,1,1,1,1,0,1,1,1]) c5a:=
 (j5.wk (N:=126) (ds:=a3g) (dx:=c0o) (l3 o0 j9 a4E (c5e) (at' (g6 Tryz.f42) [1,1,1,1,1,1,1,0,1,1,1]) [1,1,1,1,1,1,1,0,1,1,1] rfl (g9 a7T [1,1,1,1,1,1,1,0,1,1,1]))).mono fun st k h=>l4 h fun v hv hw=>Eq.mpr (d7E k v) (hv hw)
def b8g:q8:=([1,1,1,1,1,1,1,0,1,1,1],c5a)::b8f
theorem c5f:g7 Tryz.prog (g6 Tryz.f42) b8g:=g7.cons d7K (c5e)
def a3h:List LS:=[.b 0 7 [],.b 1 15 [],.v 4 yU,.v 14 yU,.v 16 .bool,.c 7 (.st (.pair yB yI)),.c 15 tyX]
def a6c:List LS:=[.c 7 (.st (.pair yB yI)),.c 15 tyX]
def c0p:DX:=⟨some a6c,none,[]⟩
def d2N (k:Ex→St→Prop) (rv0b:(LI×Int)) (x1b:tEx):Prop:=wfD a6c (rv0b,x1b,())→k .nrm (mkD 126 a6c (rv0b,x1b,()))
def b3e (kn:(LI×Int)→tEx→Prop) (kz:Int→Prop) (b4:Int) (x14:Int) (x16:Bool) (rv0b:(LI×Int)) (x1b:tEx):Prop:=
 bif x16 then
 a49 rv0b false∧(
 ∀ (r2:Int×(LI×Int)),r2=a28 rv0b false→(
 wfR (.one (.v yU r2.1))→(
 a5f r2.2∧(
 (∀ (r3:Int×(LI×Int)),a0l r2.2=.inl r3→(
 wI r3.1→(
 kn r3.2 (x1b.1,x1b.2.1,x1b.2.2.1,([b4]:LI),x1b.2.2.2.2.1,r2.1,r3.1,x1b.2.2.2.2.2.2.2.1,x1b.2.2.2.2.2.2.2.2.1,x1b.2.2.2.2.2.2.2.2.2))))∧(∀ (np4:Int),a0l r2.2=.inr np4→(wfR (.pan np4)→(
 kz np4)))))))
 else
 bif (decide (x14=(112:Int))) then
 L7 rv0b (117:Int)∧(
 ∀ (r5:Bool×(LI×Int)),r5=D7 rv0b (117:Int)→(
 wB r5.1→(
 bif (!r5.1) then
 (∀ (r6:Unit),B4 (240:Int)=.inl r6→(
 wfR (.tup [])→(
 (wfD a3e (r5.2,x1b,())→b3b (fun (rv0b:(LI×Int)) (x1b:tEx)=>wfD a58 (rv0b,x1b,())→(
 kn rv0b x1b)) r5.2 x1b))))∧(∀ (np10:Int),B4 (240:Int)=.inr np10→(wfR (.pan np10)→(
 kz np10)))
 else
 (wfD a3e (r5.2,x1b,())→b3b (fun (rv0b:(LI×Int)) (x1b:tEx)=>wfD a58 (rv0b,x1b,())→(
 kn rv0b x1b)) r5.2 x1b))))
 else
 bif (decide (x14=(106:Int))) then
 L7 rv0b (33:Int)∧(
 ∀ (r11:Bool×(LI×Int)),r11=D7 rv0b (33:Int)→(
 wB r11.1→(
 bif r11.1 then
 a5f r11.2∧(
 (∀ (r12:Int×(LI×Int)),a0l r11.2=.inl r12→(
 wI r12.1→(
 kn r12.2 (x1b.1,x1b.2.1,x1b.2.2.1,([106,33]:LI),x1b.2.2.2.2.1,x1b.2.2.2.2.2.1,r12.1,x1b.2.2.2.2.2.2.2.1,x1b.2.2.2.2.2.2.2.2.1,x1b.2.2.2.2.2.2.2.2.2))))∧(∀ (np13:Int),a0l r11.2=.inr np13→(wfR (.pan np13)→(
 kz np13))))
 else
 a5f r11.2∧(
 (∀ (r14:Int×(LI×Int)),a0l r11.2=.inl r14→(
 wI r14.1→(
 kn r14.2 (x1b.1,x1b.2.1,x1b.2.2.1,([106]:LI),x1b.2.2.2.2.1,x1b.2.2.2.2.2.1,r14.1,x1b.2.2.2.2.2.2.2.1,x1b.2.2.2.2.2.2.2.2.1,x1b.2.2.2.2.2.2.2.2.2))))∧(∀ (np15:Int),a0l r11.2=.inr np15→(wfR (.pan np15)→(
 kz np15)))))))
 else
 bif (decide (x14=(62:Int))) then
 (wfD a3g (b4,x14,(decide (x14=(62:Int))),rv0b,x1b,())→b3d (fun (rv0b:(LI×Int)) (x1b:tEx)=>wfD a6b (rv0b,x1b,())→(
 kn rv0b x1b)) (fun (np:Int)=>kz np) b4 x14 (decide (x14=(62:Int))) rv0b x1b)
 else
 (wfD a3g (b4,x14,(decide (x14=(60:Int))),rv0b,x1b,())→b3d (fun (rv0b:(LI×Int)) (x1b:tEx)=>wfD a6b (rv0b,x1b,())→(
 kn rv0b x1b)) (fun (np:Int)=>kz np) b4 x14 (decide (x14=(60:Int))) rv0b x1b)
def c5l (k:Ex→St→Prop) (v:l6 a3h):Prop:=b3e (d2N k) (fun np=>k (.pan np) st0) v.1 v.2.1 v.2.2.1 v.2.2.2.1 v.2.2.2.2.1
theorem d7F (k:Ex→St→Prop):∀ v:l6 a3h,ex tb (j8 a9X) b8g (at' (g6 Tryz.f42) [1,0,1,1,1]) [1,0,1,1,1] (mkD 126 a3h v) (wk 126 c0p k)=c5l k v
 | (b4,x14,x16,rv0b,x1b,())=>by kernel_rfl
def c5b:Pce:=fun st k=>ckD 126 a3h st fun v=>wfD a3h v→c5l k v
theorem d7L:j5 Tryz.prog (at' (g6 Tryz.f42) [1,0,1,1,1]) c5b:=
 (j5.wk (N:=126) (ds:=a3h) (dx:=c0p) (l3 o0 j9 a4E (c5f) (at' (g6 Tryz.f42) [1,0,1,1,1]) [1,0,1,1,1] rfl (g9 a7T [1,0,1,1,1]))).mono fun st k h=>l4 h fun v hv hw=>Eq.mpr (d7F k v) (hv hw)
def c46:q8:=([1,0,1,1,1],c5b)::b8g
theorem d7y:g7 Tryz.prog (g6 Tryz.f42) c46:=g7.cons d7L (c5f)
def c0q (rv0:(LI×Int)) (x1:tEx) (K:Res→List Cell→Prop):Prop:=
 a1y rv0∧(
 ∀ (r1:Int),r1=a0n rv0→(
 wfR (.one (.v yU r1))→(
 bif (decide (r1=(100:Int))) then
 (wfD a3h (r1,r1,(decide (r1=(100:Int))),(rv0.1,(IntKind.wrap .i64 (rv0.2+(1:Int)))),x1,())→b3e (fun (rv0b:(LI×Int)) (x1b:tEx)=>wfD a6c (rv0b,x1b,())→(
 K (.tup []) [⟨.st (.pair yB yI),rv0b⟩,⟨.st (.pair tyA (.pair tyA (.pair .bool (.pair .str (.pair tyA (.pair yU (.pair yI (.pair yB (.pair yB .bool))))))))),x1b⟩])) (fun (np:Int)=>K (.pan np) []) r1 r1 (decide (r1=(100:Int))) (rv0.1,(IntKind.wrap .i64 (rv0.2+(1:Int)))) x1)
 else
 (wfD a3h (r1,r1,(decide (r1=(121:Int))),(rv0.1,(IntKind.wrap .i64 (rv0.2+(1:Int)))),x1,())→b3e (fun (rv0b:(LI×Int)) (x1b:tEx)=>wfD a6c (rv0b,x1b,())→(
 K (.tup []) [⟨.st (.pair yB yI),rv0b⟩,⟨.st (.pair tyA (.pair tyA (.pair .bool (.pair .str (.pair tyA (.pair yU (.pair yI (.pair yB (.pair yB .bool))))))))),x1b⟩])) (fun (np:Int)=>K (.pan np) []) r1 r1 (decide (r1=(121:Int))) (rv0.1,(IntKind.wrap .i64 (rv0.2+(1:Int)))) x1))))
def b5P:List AS:=[.r none (.st (.pair yB yI)),.r none tyX]
def b5Q (b:Int) (rv:LI×Int) (x:ExD):Prop:=0≤rv.2∧rv.2≤rv.1.length∧rv.1.length≤lim∧0≤x.2.2.2.2.2.2.1∧x.2.2.2.2.2.2.1≤9999
def a9Z (b:Int) (rv:LI×Int) (x:ExD):(LI×Int)×ExD:=
 ((rv.1,rv.2+(D0 b (rv.1.drop rv.2.toNat):Int)),exN x (if 9999<x.2.2.2.2.2.2.1+(D0 b (rv.1.drop rv.2.toNat):Int) then 9999 else x.2.2.2.2.2.2.1+(D0 b (rv.1.drop rv.2.toNat):Int)))
theorem c5m (kx1:LI×Int→ExD→Prop) (s:LI) (b:Int) (hs:s.length≤lim) :
  ∀ (n i:Nat) (x:ExD),s.length<n+i→i≤s.length→0≤x.2.2.2.2.2.2.1→x.2.2.2.2.2.2.1≤9999→
   kx1 (s,((i+D0 b (s.drop i):Nat):Int)) (exN x (if 9999<x.2.2.2.2.2.2.1+(D0 b (s.drop i):Int) then 9999 else x.2.2.2.2.2.2.1+(D0 b (s.drop i):Int)))→a9Y kx1 n b (s,(i:Int)) x
 | 0,i,x,hn,hi,_,_,hx=>absurd hn (by omega)
 | n+1,i,x,hn,hi,h0,h9,hx=>by
  intro _
  unfold b3f
  have hlim:lim=1099511627776:=rfl
  obtain ⟨tp,te⟩:=b9V s i b hi hs
  refine ⟨tp,fun r hr _=>?_⟩
  rw [te] at hr
  rcases Nat.lt_or_ge i s.length with hi' | hi'
  ·rw [D3 hi'] at hr hx
   rw [a4Y] at hx
   dsimp only at hr
   by_cases hc:s[i]=b
   ·rw [if_pos hc] at hr hx
    subst hr
    refine brb (fun _=>?_) (fun h=>absurd h (by simp))
    have e:mn (IntKind.wrap .i64 (x.2.2.2.2.2.2.1+1)) 9999=(if 9999<x.2.2.2.2.2.2.1+1 then 9999 else x.2.2.2.2.2.2.1+1):=by
     rw [wrap_i64 (by omega) (by omega)]
     unfold mn
     by_cases h9:9999<x.2.2.2.2.2.2.1+1
     ·rw [decide_eq_true h9,if_pos h9]; rfl
     ·rw [decide_eq_false h9,if_neg h9]; rfl
    rw [e]
    refine c5m kx1 s b hs n (i+1) _ (by omega) (by omega) (by dsimp only; split <;> omega) (by dsimp only; split <;> omega) ?_
    have e2:(if 9999<(if 9999<x.2.2.2.2.2.2.1+1 then 9999 else x.2.2.2.2.2.2.1+1)+(D0 b (s.drop (i+1)):Int) then (9999:Int) else (if 9999<x.2.2.2.2.2.2.1+1 then 9999 else x.2.2.2.2.2.2.1+1)+(D0 b (s.drop (i+1)):Int)) =
      (if 9999<x.2.2.2.2.2.2.1+((D0 b (s.drop (i+1))+1:Nat):Int) then 9999 else x.2.2.2.2.2.2.1+((D0 b (s.drop (i+1))+1:Nat):Int)):=by
     split <;> split <;> split <;> omega
    dsimp only
    rw [e2,show i+1+D0 b (s.drop (i+1))=i+(D0 b (s.drop (i+1))+1) by omega]
    exact hx
   ·rw [if_neg hc] at hr hx
    subst hr
    refine brb (fun h=>absurd h (by simp)) (fun _=>?_)
    rw [show (if 9999<x.2.2.2.2.2.2.1+((0:Nat):Int) then (9999:Int) else x.2.2.2.2.2.2.1+((0:Nat):Int))=x.2.2.2.2.2.2.1 by rw [if_neg (by omega)]; omega] at hx
    exact hx
  ·rw [List.drop_eq_nil_of_le hi'] at hr hx
   dsimp only at hr
   subst hr
   refine brb (fun h=>absurd h (by simp)) (fun _=>?_)
   rw [show (if 9999<x.2.2.2.2.2.2.1+((D0 b []:Nat):Int) then (9999:Int) else x.2.2.2.2.2.2.1+((D0 b []:Nat):Int))=x.2.2.2.2.2.2.1 by rw [show D0 b []=0 from rfl,if_neg (by omega)]; omega] at hx
   exact hx
theorem c3n (kx1:LI×Int→ExD→Prop) (b:Int) (rv:LI×Int) (x:ExD) (hp:b5Q b rv x) (hx:∀ q:(LI×Int)×ExD,q=a9Z b rv x→kx1 q.1 q.2):∃ m,a9Y kx1 m b rv x:=by
 obtain ⟨s,i⟩:=rv
 obtain ⟨h1,h2,hs,h0,h9⟩:=hp
 obtain ⟨j,rfl⟩:=Int.eq_ofNat_of_zero_le (show 0≤i from h1)
 exact ⟨s.length+1,c5m kx1 s b hs _ j x (by omega) (Int.ofNat_le.1 h2) h0 h9 (hx _ rfl)⟩
def a3a (rv0b:(LI×Int)) (x1b:tEx):Prop:=
 L7 rv0b (33:Int)∧(
 let r7:Bool×(LI×Int):=D7 rv0b (33:Int)
 bif r7.1 then
 a49 r7.2 true
 else
 a49 r7.2 true)
def a29 (rv0b:(LI×Int)) (x1b:tEx):(LI×Int)×tEx:=
 let r7:Bool×(LI×Int):=D7 rv0b (33:Int)
 bif r7.1 then
 let r8:Int×(LI×Int):=a28 r7.2 true
 (r8.2,(x1b.1,x1b.2.1,x1b.2.2.1,([112,117,33]:LI),x1b.2.2.2.2.1,r8.1,x1b.2.2.2.2.2.2.1,x1b.2.2.2.2.2.2.2.1,x1b.2.2.2.2.2.2.2.2.1,x1b.2.2.2.2.2.2.2.2.2))
 else
 let r9:Int×(LI×Int):=a28 r7.2 true
 (r9.2,(x1b.1,x1b.2.1,x1b.2.2.1,([112,117]:LI),x1b.2.2.2.2.1,r9.1,x1b.2.2.2.2.2.2.1,x1b.2.2.2.2.2.2.2.1,x1b.2.2.2.2.2.2.2.2.1,x1b.2.2.2.2.2.2.2.2.2))
theorem b1Z (kn:(LI×Int)→tEx→Prop) (rv0b:(LI×Int)) (x1b:tEx) (hp:a3a rv0b x1b) (hn:∀ q:(LI×Int)×tEx,q=a29 rv0b x1b→kn q.1 q.2):b3b kn rv0b x1b:=
 have h:=hn; an1 hp fun hp=>al (br1 hp h (fun _ hp h=>⟨hp,al (h _ rfl)⟩)
 fun _ hp h=>⟨hp,al (h _ rfl)⟩)
def a3b (b4:Int) (x14:Int) (x107:Bool) (rv0b:(LI×Int)) (x1b:tEx):Prop:=
 bif x107 then
 a5g rv0b
 else
 bif (decide (x14=(115:Int))) then
 c3D rv0b x1b
 else
 True
def a1t (b4:Int) (x14:Int) (x107:Bool) (rv0b:(LI×Int)) (x1b:tEx):((LI×Int)×tEx)⊕(Int):=
 bif x107 then
 Sum.elim (fun r24=>
 .inl (r24.2,(x1b.1,x1b.2.1,x1b.2.2.1,([b4]:LI),r24.1,x1b.2.2.2.2.2.1,x1b.2.2.2.2.2.2.1,x1b.2.2.2.2.2.2.2.1,x1b.2.2.2.2.2.2.2.2.1,x1b.2.2.2.2.2.2.2.2.2))) (fun np25=>
 .inr (np25)) (a0m rv0b)
 else
 bif (decide (x14=(115:Int))) then
 Sum.elim (fun r26=>
 .inl (r26.1,r26.2)) (fun np27=>
 .inr (np27)) (b4P rv0b x1b)
 else
 Sum.elim (fun r28=>
 .inl (rv0b,x1b)) (fun np29=>
 .inr (np29)) (B4 (240:Int))
theorem b11 (kn:(LI×Int)→tEx→Prop) (kz:Int→Prop) (b4:Int) (x14:Int) (x107:Bool) (rv0b:(LI×Int)) (x1b:tEx) (hp:a3b b4 x14 x107 rv0b x1b) (hn:∀ q:(LI×Int)×tEx,a1t b4 x14 x107 rv0b x1b=.inl q→kn q.1 q.2) (hz:∀ q:Int,a1t b4 x14 x107 rv0b x1b=.inr q→kz q):b3c kn kz b4 x14 x107 rv0b x1b:=
 have h:=hc2 hn hz; br1 hp h (fun _ hp h=>⟨hp,ae0 h (fun _ h=>h _ rfl)
 fun _ h=>h _ rfl⟩)
 fun _ hp h=>br1 hp h (fun _ hp h=>⟨hp,ae0 h (fun _ h=>h _ rfl)
 fun _ h=>h _ rfl⟩)
 fun _ hp h=>ae0 h (fun _ h=>h _ rfl)
 fun _ h=>h _ rfl
def a3c (b4:Int) (x14:Int) (x69:Bool) (rv0b:(LI×Int)) (x1b:tEx):Prop:=
 bif x69 then
 b5Q b4 rv0b (x1b.1,x1b.2.1,x1b.2.2.1,([b4]:LI),x1b.2.2.2.2.1,x1b.2.2.2.2.2.1,(1:Int),x1b.2.2.2.2.2.2.2.1,x1b.2.2.2.2.2.2.2.2.1,x1b.2.2.2.2.2.2.2.2.2)
 else
 bif (decide (x14=(99:Int))) then
 L7 rv0b (111:Int)∧(
 let r17:Bool×(LI×Int):=D7 rv0b (111:Int)
 bif (!r17.1) then
 Sum.elim (fun r18=>
 a5g r17.2) (fun _=>True) (B4 (240:Int))
 else
 a5g r17.2)
 else
 bif (decide (x14=(116:Int))) then
 a3b b4 x14 (decide (x14=(116:Int))) rv0b x1b
 else
 a3b b4 x14 (decide (x14=(109:Int))) rv0b x1b
def a1u (b4:Int) (x14:Int) (x69:Bool) (rv0b:(LI×Int)) (x1b:tEx):((LI×Int)×tEx)⊕(Int):=
 bif x69 then
 let q1x1:(LI×Int)×tEx:=a9Z b4 rv0b (x1b.1,x1b.2.1,x1b.2.2.1,([b4]:LI),x1b.2.2.2.2.1,x1b.2.2.2.2.2.1,(1:Int),x1b.2.2.2.2.2.2.2.1,x1b.2.2.2.2.2.2.2.2.1,x1b.2.2.2.2.2.2.2.2.2)
 let rv0b:(LI×Int):=q1x1.1
 let x1b:tEx:=q1x1.2
 .inl (rv0b,x1b)
 else
 bif (decide (x14=(99:Int))) then
 let r17:Bool×(LI×Int):=D7 rv0b (111:Int)
 bif (!r17.1) then
 Sum.elim (fun r18=>
 Sum.elim (fun r19=>
 .inl (r19.2,(x1b.1,x1b.2.1,x1b.2.2.1,([116]:LI),r19.1,x1b.2.2.2.2.2.1,x1b.2.2.2.2.2.2.1,x1b.2.2.2.2.2.2.2.1,x1b.2.2.2.2.2.2.2.2.1,x1b.2.2.2.2.2.2.2.2.2))) (fun np20=>
 .inr (np20)) (a0m r17.2)) (fun np21=>
 .inr (np21)) (B4 (240:Int))
 else
 Sum.elim (fun r22=>
 .inl (r22.2,(x1b.1,x1b.2.1,x1b.2.2.1,([116]:LI),r22.1,x1b.2.2.2.2.2.1,x1b.2.2.2.2.2.2.1,x1b.2.2.2.2.2.2.2.1,x1b.2.2.2.2.2.2.2.2.1,x1b.2.2.2.2.2.2.2.2.2))) (fun np23=>
 .inr (np23)) (a0m r17.2)
 else
 bif (decide (x14=(116:Int))) then
 Sum.elim (fun q2n=>
 let rv0b:(LI×Int):=q2n.1
 let x1b:tEx:=q2n.2
 .inl (rv0b,x1b)) (fun q2z=>
 let np:Int:=q2z
 .inr (np)) (a1t b4 x14 (decide (x14=(116:Int))) rv0b x1b)
 else
 Sum.elim (fun q2n=>
 let rv0b:(LI×Int):=q2n.1
 let x1b:tEx:=q2n.2
 .inl (rv0b,x1b)) (fun q2z=>
 let np:Int:=q2z
 .inr (np)) (a1t b4 x14 (decide (x14=(109:Int))) rv0b x1b)
theorem b12 (kn:(LI×Int)→tEx→Prop) (kz:Int→Prop) (b4:Int) (x14:Int) (x69:Bool) (rv0b:(LI×Int)) (x1b:tEx) (hp:a3c b4 x14 x69 rv0b x1b) (hn:∀ q:(LI×Int)×tEx,a1u b4 x14 x69 rv0b x1b=.inl q→kn q.1 q.2) (hz:∀ q:Int,a1u b4 x14 x69 rv0b x1b=.inr q→kz q):b3d kn kz b4 x14 x69 rv0b x1b:=
 have h:=hc2 hn hz; br1 hp h (fun _ hp h=>fun _=>c3n _ _ _ _ hp (al (h _ rfl)))
 fun _ hp h=>br1 hp h (fun _ hp h=>an1 hp fun hp=>al (br1 hp h (fun _ hp h=>ae1 hp h (fun _ hp h=>⟨hp,ae0 h (fun _ h=>h _ rfl)
 fun _ h=>h _ rfl⟩)
 fun _ h=>h _ rfl)
 fun _ hp h=>⟨hp,ae0 h (fun _ h=>h _ rfl)
 fun _ h=>h _ rfl⟩))
 fun _ hp h=>br1 hp h (fun _ hp h=>fun _=>b11 _ _ _ _ _ _ _ hp
 (fun _ e _=>have h:=sl e h; h _ rfl)
 (fun _ e=>have h:=sr e h; h _ rfl))
 fun _ hp h=>fun _=>b11 _ _ _ _ _ _ _ hp
 (fun _ e _=>have h:=sl e h; h _ rfl)
 (fun _ e=>have h:=sr e h; h _ rfl)
def a3d (b4:Int) (x14:Int) (x16:Bool) (rv0b:(LI×Int)) (x1b:tEx):Prop:=
 bif x16 then
 a49 rv0b false∧(
 let r2:Int×(LI×Int):=a28 rv0b false
 a5f r2.2)
 else
 bif (decide (x14=(112:Int))) then
 L7 rv0b (117:Int)∧(
 let r5:Bool×(LI×Int):=D7 rv0b (117:Int)
 bif (!r5.1) then
 Sum.elim (fun r6=>
 a3a r5.2 x1b) (fun _=>True) (B4 (240:Int))
 else
 a3a r5.2 x1b)
 else
 bif (decide (x14=(106:Int))) then
 L7 rv0b (33:Int)∧(
 let r11:Bool×(LI×Int):=D7 rv0b (33:Int)
 bif r11.1 then
 a5f r11.2
 else
 a5f r11.2)
 else
 bif (decide (x14=(62:Int))) then
 a3c b4 x14 (decide (x14=(62:Int))) rv0b x1b
 else
 a3c b4 x14 (decide (x14=(60:Int))) rv0b x1b
def a1v (b4:Int) (x14:Int) (x16:Bool) (rv0b:(LI×Int)) (x1b:tEx):((LI×Int)×tEx)⊕(Int):=
 bif x16 then
 let r2:Int×(LI×Int):=a28 rv0b false
 Sum.elim (fun r3=>
 .inl (r3.2,(x1b.1,x1b.2.1,x1b.2.2.1,([b4]:LI),x1b.2.2.2.2.1,r2.1,r3.1,x1b.2.2.2.2.2.2.2.1,x1b.2.2.2.2.2.2.2.2.1,x1b.2.2.2.2.2.2.2.2.2))) (fun np4=>
 .inr (np4)) (a0l r2.2)
 else
 bif (decide (x14=(112:Int))) then
 let r5:Bool×(LI×Int):=D7 rv0b (117:Int)
 bif (!r5.1) then
 Sum.elim (fun r6=>
 let q0n:(LI×Int)×tEx:=a29 r5.2 x1b
 let rv0b:(LI×Int):=q0n.1
 let x1b:tEx:=q0n.2
 .inl (rv0b,x1b)) (fun np10=>
 .inr (np10)) (B4 (240:Int))
 else
 let q0n:(LI×Int)×tEx:=a29 r5.2 x1b
 let rv0b:(LI×Int):=q0n.1
 let x1b:tEx:=q0n.2
 .inl (rv0b,x1b)
 else
 bif (decide (x14=(106:Int))) then
 let r11:Bool×(LI×Int):=D7 rv0b (33:Int)
 bif r11.1 then
 Sum.elim (fun r12=>
 .inl (r12.2,(x1b.1,x1b.2.1,x1b.2.2.1,([106,33]:LI),x1b.2.2.2.2.1,x1b.2.2.2.2.2.1,r12.1,x1b.2.2.2.2.2.2.2.1,x1b.2.2.2.2.2.2.2.2.1,x1b.2.2.2.2.2.2.2.2.2))) (fun np13=>
 .inr (np13)) (a0l r11.2)
 else
 Sum.elim (fun r14=>
 .inl (r14.2,(x1b.1,x1b.2.1,x1b.2.2.1,([106]:LI),x1b.2.2.2.2.1,x1b.2.2.2.2.2.1,r14.1,x1b.2.2.2.2.2.2.2.1,x1b.2.2.2.2.2.2.2.2.1,x1b.2.2.2.2.2.2.2.2.2))) (fun np15=>
 .inr (np15)) (a0l r11.2)
 else
 bif (decide (x14=(62:Int))) then
 Sum.elim (fun q3n=>
 let rv0b:(LI×Int):=q3n.1
 let x1b:tEx:=q3n.2
 .inl (rv0b,x1b)) (fun q3z=>
 let np:Int:=q3z
 .inr (np)) (a1u b4 x14 (decide (x14=(62:Int))) rv0b x1b)
 else
 Sum.elim (fun q3n=>
 let rv0b:(LI×Int):=q3n.1
 let x1b:tEx:=q3n.2
 .inl (rv0b,x1b)) (fun q3z=>
 let np:Int:=q3z
 .inr (np)) (a1u b4 x14 (decide (x14=(60:Int))) rv0b x1b)
theorem b13 (kn:(LI×Int)→tEx→Prop) (kz:Int→Prop) (b4:Int) (x14:Int) (x16:Bool) (rv0b:(LI×Int)) (x1b:tEx) (hp:a3d b4 x14 x16 rv0b x1b) (hn:∀ q:(LI×Int)×tEx,a1v b4 x14 x16 rv0b x1b=.inl q→kn q.1 q.2) (hz:∀ q:Int,a1v b4 x14 x16 rv0b x1b=.inr q→kz q):b3e kn kz b4 x14 x16 rv0b x1b:=
 have h:=hc2 hn hz; br1 hp h (fun _ hp h=>an1 hp fun hp=>al (⟨hp,ae0 h (fun _ h=>h _ rfl)
 fun _ h=>h _ rfl⟩))
 fun _ hp h=>br1 hp h (fun _ hp h=>an1 hp fun hp=>al (br1 hp h (fun _ hp h=>ae1 hp h (fun _ hp h=>fun _=>b1Z _ _ _ hp (al (h _ rfl)))
 fun _ h=>h _ rfl)
 fun _ hp h=>fun _=>b1Z _ _ _ hp (al (h _ rfl))))
 fun _ hp h=>br1 hp h (fun _ hp h=>an1 hp fun hp=>al (br1 hp h (fun _ hp h=>⟨hp,ae0 h (fun _ h=>h _ rfl)
 fun _ h=>h _ rfl⟩)
 fun _ hp h=>⟨hp,ae0 h (fun _ h=>h _ rfl)
 fun _ h=>h _ rfl⟩))
 fun _ hp h=>br1 hp h (fun _ hp h=>fun _=>b12 _ _ _ _ _ _ _ hp
 (fun _ e _=>have h:=sl e h; h _ rfl)
 (fun _ e=>have h:=sr e h; h _ rfl))
 fun _ hp h=>fun _=>b12 _ _ _ _ _ _ _ hp
 (fun _ e _=>have h:=sl e h; h _ rfl)
 (fun _ e=>have h:=sr e h; h _ rfl)
def b14 (rv0:(LI×Int)) (x1:tEx):Prop:=
 a1y rv0∧(
 let r1:Int:=a0n rv0
 bif (decide (r1=(100:Int))) then
 a3d r1 r1 (decide (r1=(100:Int))) (rv0.1,(IntKind.wrap .i64 (rv0.2+(1:Int)))) x1
 else
 a3d r1 r1 (decide (r1=(121:Int))) (rv0.1,(IntKind.wrap .i64 (rv0.2+(1:Int)))) x1)
def a5c (rv0:(LI×Int)) (x1:tEx):((LI×Int)×tEx)⊕Int:=
 let r1:Int:=a0n rv0
 bif (decide (r1=(100:Int))) then
 Sum.elim (fun q4n=>
 let rv0b:(LI×Int):=q4n.1
 let x1b:tEx:=q4n.2
 .inl ((rv0b,x1b))) (fun q4z=>
 let np:Int:=q4z
 .inr np) (a1v r1 r1 (decide (r1=(100:Int))) (rv0.1,(IntKind.wrap .i64 (rv0.2+(1:Int)))) x1)
 else
 Sum.elim (fun q4n=>
 let rv0b:(LI×Int):=q4n.1
 let x1b:tEx:=q4n.2
 .inl ((rv0b,x1b))) (fun q4z=>
 let np:Int:=q4z
 .inr np) (a1v r1 r1 (decide (r1=(121:Int))) (rv0.1,(IntKind.wrap .i64 (rv0.2+(1:Int)))) x1)
theorem d7B (rv0:(LI×Int)) (x1:tEx) (K:Res→List Cell→Prop) (_:wfA b5P (rv0,x1,())) (hp:b14 rv0 x1) (h:∀ r:(LI×Int)×tEx,a5c rv0 x1=.inl r→K (.tup []) [⟨.st (.pair yB yI),r.1⟩,⟨.st (.pair tyA (.pair tyA (.pair .bool (.pair .str (.pair tyA (.pair yU (.pair yI (.pair yB (.pair yB .bool))))))))),r.2⟩]) (hqp:∀ n:Int,a5c rv0 x1=.inr n→K (.pan n) []):c0q rv0 x1 K:=
 have h:=hc2 h hqp; an1 hp fun hp=>al (br1 hp h (fun _ hp h=>fun _=>b13 _ _ _ _ _ _ _ hp
 (fun _ e _=>have h:=sl e h; h _ rfl)
 (fun _ e=>have h:=sr e h; h _ rfl))
 fun _ hp h=>fun _=>b13 _ _ _ _ _ _ _ hp
 (fun _ e _=>have h:=sl e h; h _ rfl)
 (fun _ e=>have h:=sr e h; h _ rfl))
def e41 (v:j3 b5P) (K:Res→List Cell→Prop):Prop:=b14 v.1 v.2.1∧(∀ r:(LI×Int)×tEx,a5c v.1 v.2.1=.inl r→K (.tup []) [⟨.st (.pair yB yI),r.1⟩,⟨.st (.pair tyA (.pair tyA (.pair .bool (.pair .str (.pair tyA (.pair yU (.pair yI (.pair yB (.pair yB .bool))))))))),r.2⟩])∧∀ n:Int,a5c v.1 v.2.1=.inr n→K (.pan n) []
def d5b:App:=specW b5P e41
theorem d7G (K:Res→List Cell→Prop):∀ v:j3 b5P,q7 tb (j8 a9X) c46 Tryz.f42 [] (mkA b5P v) K=c0q v.1 v.2.1 K
 | (rv0,x1,())=>by kernel_rfl
theorem d7z:g8 Tryz.prog 42 d5b:=
 g8.specW (l9 ((l8 o0 j9 a4E (d7y) (f:=42) (fn:=Tryz.f42) (by kernel_rfl) (by kernel_rfl) a7T [])) fun v K hw h=>(d7G K v).mpr (d7B v.1 v.2.1 K hw h.1 h.2.1 h.2.2))
def d5A:List (Nat×App):=[(39,a94),(41,a97),(43,a7l)]
theorem d25:GOk Tryz.prog (j8 d5A):=GOk.cons a7V (GOk.cons a7X (GOk.cons a4j (GOk.nil)))
def c00 (rv0:(LI×Int)) (K:Res→List Cell→Prop):Prop:=
 P1 rv0∧(
 ∀ (r1:(LI×Int)),r1=E0 rv0→(
 wfR (.tup [])→(
 ∀ (r2:Bool),r2=L6 r1→(
 wB r2→(
 bif (!r2) then
 (∀ (r3:Unit),B4 (240:Int)=.inl r3→(
 wfR (.tup [])→(
 K (.tup []) [⟨.st (.pair yB yI),r1⟩])))∧(∀ (np4:Int),B4 (240:Int)=.inr np4→(wfR (.pan np4)→(
 K (.pan np4) [])))
 else
 K (.tup []) [⟨.st (.pair yB yI),r1⟩])))))
def b6f:List AS:=[.r none (.st (.pair yB yI))]
def a6l (rv0:(LI×Int)):Prop:=
 P1 rv0
def a0p (rv0:(LI×Int)):((LI×Int))⊕Int:=
 let r1:(LI×Int):=E0 rv0
 let r2:Bool:=L6 r1
 bif (!r2) then
 Sum.elim (fun r3=>
 .inl (r1)) (fun np4=>
 .inr np4) (B4 (240:Int))
 else
 .inl (r1)
theorem d9e (rv0:(LI×Int)) (K:Res→List Cell→Prop) (_:wfA b6f (rv0,())) (hp:a6l rv0) (h:∀ r:(LI×Int),a0p rv0=.inl r→K (.tup []) [⟨.st (.pair yB yI),r⟩]) (hqp:∀ n:Int,a0p rv0=.inr n→K (.pan n) []):c00 rv0 K:=
 have h:=hc2 h hqp; ⟨hp,al (al (br0 h (fun _ h=>ae0 h (fun _ h=>h _ rfl)
 fun _ h=>h _ rfl)
 fun _ h=>h _ rfl))⟩
def e5r (v:j3 b6f) (K:Res→List Cell→Prop):Prop:=a6l v.1∧(∀ r:(LI×Int),a0p v.1=.inl r→K (.tup []) [⟨.st (.pair yB yI),r⟩])∧∀ n:Int,a0p v.1=.inr n→K (.pan n) []
def d5B:App:=specW b6f e5r
theorem d9f (K:Res→List Cell→Prop):∀ v:j3 b6f,q7 tb (j8 d5A) [] Tryz.f44 [] (mkA b6f v) K=c00 v.1 K
 | (rv0,())=>by kernel_rfl
theorem d9d:g8 Tryz.prog 44 d5B:=
 g8.specW (l9 ((l8 o0 j9 d25 (g7.nil) (f:=44) (fn:=Tryz.f44) (by kernel_rfl) (by kernel_rfl) (by kernel_rfl) [])) fun v K hw h=>(d9f K v).mpr (d9e v.1 K hw h.1 h.2.1 h.2.2))
end Go.VE
namespace Go.VE
open Go Go.Proofs
def d6i:List (Nat×App):=[(39,a94),(40,d5m),(41,a97),(42,d5b),(44,d5B),(43,a7l)]
theorem d3U:GOk Tryz.prog (j8 d6i):=GOk.cons a7V (GOk.cons d8r (GOk.cons a7X (GOk.cons d7z (GOk.cons d9d (GOk.cons a4j (GOk.nil))))))
def c19 (line0:LI) (line1:tEx) (x2:Int) (K:Res→List Cell→Prop):Prop:=
 P1 (line0,(0:Int))∧(
 ∀ (r1:(LI×Int)),r1=E0 (line0,(0:Int))→(
 wfR (.tup [])→(
 b18 r1 line1∧(
 (∀ (r2:Bool×(LI×Int)×tEx),a5h r1 line1=.inl r2→(
 wB r2.1→(
 P1 r2.2.1∧(
 ∀ (r3:(LI×Int)),r3=E0 r2.2.1→(
 wfR (.tup [])→(
 ∀ (r4:Bool),r4=L6 r3→(
 wB r4→(
 bif (!r4) then
 b14 r3 r2.2.2∧(
 (∀ (r5:(LI×Int)×tEx),a5c r3 r2.2.2=.inl r5→(
 wfR (.tup [])→(
 a6l r5.1∧(
 (∀ (r6:(LI×Int)),a0p r5.1=.inl r6→(
 wfR (.tup [])→(
 K (.tup [.v tyX r5.2,.v yI (0:Int)]) [⟨.st (.pair tyA (.pair tyA (.pair .bool (.pair .str (.pair tyA (.pair yU (.pair yI (.pair yB (.pair yB .bool))))))))),r5.2⟩,⟨.int .i64,(0:Int)⟩])))∧(∀ (np7:Int),a0p r5.1=.inr np7→(wfR (.pan np7)→(
 K (.pan np7) [])))))))∧(∀ (np8:Int),a5c r3 r2.2.2=.inr np8→(wfR (.pan np8)→(
 K (.pan np8) []))))
 else
 bif (!r2.1) then
 (∀ (r9:Unit),B4 (240:Int)=.inl r9→(
 wfR (.tup [])→(
 a6l r3∧(
 (∀ (r10:(LI×Int)),a0p r3=.inl r10→(
 wfR (.tup [])→(
 K (.tup [.v tyX r2.2.2,.v yI (0:Int)]) [⟨.st (.pair tyA (.pair tyA (.pair .bool (.pair .str (.pair tyA (.pair yU (.pair yI (.pair yB (.pair yB .bool))))))))),r2.2.2⟩,⟨.int .i64,(0:Int)⟩])))∧(∀ (np11:Int),a0p r3=.inr np11→(wfR (.pan np11)→(
 K (.pan np11) [])))))))∧(∀ (np12:Int),B4 (240:Int)=.inr np12→(wfR (.pan np12)→(
 K (.pan np12) [])))
 else
 a6l r3∧(
 (∀ (r13:(LI×Int)),a0p r3=.inl r13→(
 wfR (.tup [])→(
 K (.tup [.v tyX r2.2.2,.v yI (0:Int)]) [⟨.st (.pair tyA (.pair tyA (.pair .bool (.pair .str (.pair tyA (.pair yU (.pair yI (.pair yB (.pair yB .bool))))))))),r2.2.2⟩,⟨.int .i64,(0:Int)⟩])))∧(∀ (np14:Int),a0p r3=.inr np14→(wfR (.pan np14)→(
 K (.pan np14) []))))))))))))∧(∀ (np15:Int),a5h r1 line1=.inr np15→(wfR (.pan np15)→(
 K (.pan np15) [])))))))
def b61:List AS:=[.v yB,.r none tyX,.r none yI]
theorem c9G (line0:LI) (line1:tEx) (x2:Int) (K:Res→List Cell→Prop):e6V tb (ex tb (j8 d6i) [] (at' (g6 Tryz.f13) [1,1]) [1,1]) Tryz.f13 [true,true] [(2,15),(3,23)] [.v yB line0,.no,.box 15 [],.box 23 [],.no,.no,.no,.no,.no,.no,.no,.no,.no,.no,.no,.no,.no,.no,.no,.no,.no,.no,.no,.no,.no,.no,.no] (mkA b61 (line0,line1,x2,())) K=c19 line0 line1 x2 K:=by kernel_rfl
def c18 (line0:LI) (line1:tEx) (x2:Int):Prop:=
 P1 (line0,(0:Int))∧(
 let r1:(LI×Int):=E0 (line0,(0:Int))
 b18 r1 line1∧(
 Sum.elim (fun r2=>
 P1 r2.2.1∧(
 let r3:(LI×Int):=E0 r2.2.1
 let r4:Bool:=L6 r3
 bif (!r4) then
 b14 r3 r2.2.2∧(
 Sum.elim (fun r5=>
 a6l r5.1) (fun _=>True) (a5c r3 r2.2.2))
 else
 bif (!r2.1) then
 Sum.elim (fun r9=>
 a6l r3) (fun _=>True) (B4 (240:Int))
 else
 a6l r3)) (fun _=>True) (a5h r1 line1)))
def a65 (line0:LI) (line1:tEx) (x2:Int):(tEx×Int×tEx×Int)⊕Int:=
 let r1:(LI×Int):=E0 (line0,(0:Int))
 Sum.elim (fun r2=>
 let r3:(LI×Int):=E0 r2.2.1
 let r4:Bool:=L6 r3
 bif (!r4) then
 Sum.elim (fun r5=>
 Sum.elim (fun r6=>
 .inl ((r5.2,(0:Int),r5.2,(0:Int)))) (fun np7=>
 .inr np7) (a0p r5.1)) (fun np8=>
 .inr np8) (a5c r3 r2.2.2)
 else
 bif (!r2.1) then
 Sum.elim (fun r9=>
 Sum.elim (fun r10=>
 .inl ((r2.2.2,(0:Int),r2.2.2,(0:Int)))) (fun np11=>
 .inr np11) (a0p r3)) (fun np12=>
 .inr np12) (B4 (240:Int))
 else
 Sum.elim (fun r13=>
 .inl ((r2.2.2,(0:Int),r2.2.2,(0:Int)))) (fun np14=>
 .inr np14) (a0p r3)) (fun np15=>
 .inr np15) (a5h r1 line1)
set_option maxRecDepth 20000 in
theorem e2l (line0:LI) (line1:tEx) (x2:Int) (K:Res→List Cell→Prop) (_:wfA b61 (line0,line1,x2,())) (hp:c18 line0 line1 x2) (h:∀ r:tEx×Int×tEx×Int,a65 line0 line1 x2=.inl r→K (.tup [.v tyX r.1,.v yI r.2.1]) [⟨.st (.pair tyA (.pair tyA (.pair .bool (.pair .str (.pair tyA (.pair yU (.pair yI (.pair yB (.pair yB .bool))))))))),r.2.2.1⟩,⟨.int .i64,r.2.2.2⟩]) (hqp:∀ n:Int,a65 line0 line1 x2=.inr n→K (.pan n) []):c19 line0 line1 x2 K:=
 have h:=hc2 h hqp; an1 hp fun hp=>al (an1 hp fun hp=>ae1 hp h (fun _ hp h=>an1 hp fun hp=>al (al (br1 hp h (fun _ hp h=>an1 hp fun hp=>ae1 hp h (fun _ hp h=>⟨hp,ae0 h (fun _ h=>h _ rfl)
 fun _ h=>h _ rfl⟩)
 fun _ h=>h _ rfl)
 fun _ hp h=>br1 hp h (fun _ hp h=>ae1 hp h (fun _ hp h=>⟨hp,ae0 h (fun _ h=>h _ rfl)
 fun _ h=>h _ rfl⟩)
 fun _ h=>h _ rfl)
 fun _ hp h=>⟨hp,ae0 h (fun _ h=>h _ rfl)
 fun _ h=>h _ rfl⟩)))
 fun _ h=>h _ rfl)
end Go.VE
