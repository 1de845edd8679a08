import Derived.Test.YtogkdhgjefiipaaGreatDoorES14
set_option linter.unusedVariables false
set_option linter.unusedSectionVars false
set_option linter.unusedSimpArgs false
namespace Go.VE
set_option maxRecDepth 20000
open Go Go.Proofs
def b5S:List (Nat×App):=[(33,b6J),(80,d5s),(79,d5N)]
theorem a8Q:GOk Tryz.prog (j8 b5S):=GOk.cons b4c (GOk.cons d8H (GOk.cons e0a (GOk.nil)))
theorem b3j:o8 (g6 Tryz.f37)=true:=by kernel_rfl
def R8:List LS:=[.v 1 yB,.b 2 16 [],.b 4 32 [],.v 6 yI,.c 16 tyX,.c 32 tyX]
def a6d:List LS:=[.v 1 yB,.b 2 16 [],.b 4 32 [],.v 6 yI,.c 16 tyX,.c 32 tyX]
def b3i:DX:=⟨none,none,[(0,a6d)]⟩
def a93 (k:Ex→St→Prop) (s1:LI) (at6:Int) (x2b:tEx) (x4b:tEx):Prop:=wfD a6d (s1,at6,x2b,x4b,())→k (.exit 0) (mkD 124 a6d (s1,at6,x2b,x4b,()))
def b3h (Y:LI→Int→tEx→tEx→Prop) (kx0:LI→Int→tEx→tEx→Prop) (s1:LI) (at6:Int) (x2b:tEx) (x4b:tEx):Prop:=
 bif (decide (at6<(List.length s1:Int))) then
 bif decide (0≤at6∧at6<(List.length s1:Int)) then
 ∀ (r3:Bool),r3=a1z (rd (0:Int) s1 at6)→(
 wB r3→(
 bif r3 then
 bif decide (0≤at6∧at6<(List.length s1:Int)) then
 bif (decide ((9999:Int)<(IntKind.wrap .i64 ((IntKind.wrap .i64 (x2b.2.2.2.2.2.2.1 * (10:Int)))+(IntKind.wrap .i64 (IntKind.wrap .u8 ((rd (0:Int) s1 at6) - (48:Int)))))))) then
 Y s1 (IntKind.wrap .i64 (at6+(1:Int))) (x2b.1,x2b.2.1,x2b.2.2.1,x2b.2.2.2.1,x2b.2.2.2.2.1,x2b.2.2.2.2.2.1,(9999:Int),x2b.2.2.2.2.2.2.2.1,x2b.2.2.2.2.2.2.2.2.1,x2b.2.2.2.2.2.2.2.2.2) x4b
 else
 Y s1 (IntKind.wrap .i64 (at6+(1:Int))) (x2b.1,x2b.2.1,x2b.2.2.1,x2b.2.2.2.1,x2b.2.2.2.2.1,x2b.2.2.2.2.2.1,(IntKind.wrap .i64 ((IntKind.wrap .i64 (x2b.2.2.2.2.2.2.1 * (10:Int)))+(IntKind.wrap .i64 (IntKind.wrap .u8 ((rd (0:Int) s1 at6) - (48:Int)))))),x2b.2.2.2.2.2.2.2.1,x2b.2.2.2.2.2.2.2.2.1,x2b.2.2.2.2.2.2.2.2.2) x4b
 else False
 else
 kx0 s1 at6 x2b x4b))
 else False
 else
 kx0 s1 at6 x2b x4b
def a91 (kx0:LI→Int→tEx→tEx→Prop):Nat→LI→Int→tEx→tEx→Prop
 | 0,_,_,_,_=>False
 | n+1,s1,at6,x2b,x4b=>wfD R8 (s1,at6,x2b,x4b,())→b3h (a91 kx0 n) kx0 s1 at6 x2b x4b
def c5u:Pce:=ex tb (j8 b5S) [] (at' (g6 Tryz.f37) [0,0,0,0,1,0,1,1,1,1,1]) [0,0,0,0,1,0,1,1,1,1,1]
def c5v (k:Ex→St→Prop) (n:Nat) (v:l6 R8):Prop:=a91 (a93 k) n v.1 v.2.1 v.2.2.1 v.2.2.2.1
theorem d7O (k:Ex→St→Prop) (Y:l6 R8→Prop):∀ v:l6 R8,c5u (mkD 124 R8 v) (lpK 124 R8 b3i k Y)=b3h (fun s1 at6 x2b x4b=>Y (s1,at6,x2b,x4b,())) (a93 k) v.1 v.2.1 v.2.2.1 v.2.2.2.1
 | (s1,at6,x2b,x4b,())=>by kernel_rfl
theorem c5y (k:Ex→St→Prop):∀ (n:Nat) (v:l6 R8),lpD 124 R8 b3i c5u k n v=c5v k n v
 | 0,(s1,at6,x2b,x4b,())=>rfl
 | n+1,(s1,at6,x2b,x4b,())=>congrArg (fun Z:Prop=>wfD R8 (s1,at6,x2b,x4b,())→Z) ((d7O k _ (s1,at6,x2b,x4b,())).trans (congrArg (fun Y=>b3h Y (a93 k) s1 at6 x2b x4b) (funext fun s1=>funext fun at6=>funext fun x2b=>funext fun x4b=>c5y k n (s1,at6,x2b,x4b,()))))
def c5p:Pce:=fun st k=>ckD 124 R8 st fun v=>wfD R8 v→∃ n,c5v k n v
theorem d7T:j5 Tryz.prog (at' (g6 Tryz.f37) [0,0,0,1,0,1,1,1,1,1]) c5p:=
 (j5.loop (l3 o0 j9 a8Q (g7.nil) (at' (g6 Tryz.f37) [0,0,0,0,1,0,1,1,1,1,1]) [0,0,0,0,1,0,1,1,1,1,1] rfl (g9 b3j [0,0,0,0,1,0,1,1,1,1,1])) 124 R8 b3i).mono fun st k h=>l4 h fun v hv hw=>(hv hw).elim fun n hn=>⟨n,Eq.mpr (c5y k n v) hn⟩
def b8h:q8:=([0,0,0,1,0,1,1,1,1,1],c5p)::[]
theorem c5s:g7 Tryz.prog (g6 Tryz.f37) b8h:=g7.cons d7T (g7.nil)
def a00:List LS:=[.v 1 yB,.b 2 16 [],.b 4 32 [],.v 6 yI,.c 16 tyX,.c 32 tyX]
def a2a:List LS:=[.b 4 32 [],.v 5 yI,.c 32 tyX]
def c0r:DX:=⟨none,some a2a,[]⟩
def d2O (k:Ex→St→Prop) (x5:Int) (x4b:tEx):Prop:=wfD a2a (x5,x4b,())→k .ret (mkD 124 a2a (x5,x4b,()))
def a7U (kr:Int→tEx→Prop) (s1:LI) (at6:Int) (x2b:tEx) (x4b:tEx):Prop:=
 C6 s1 at6∧(
 ∀ (r4:Int),r4=u5 s1 at6→(
 wI r4→(
 bif (!decide (r4=(List.length s1:Int))) then
 kr (240:Int) zX
 else
 kr (0:Int) x2b)))
def c5w (k:Ex→St→Prop) (v:l6 a00):Prop:=a7U (d2O k) v.1 v.2.1 v.2.2.1 v.2.2.2.1
theorem d7Q (k:Ex→St→Prop):∀ v:l6 a00,ex tb (j8 b5S) b8h (at' (g6 Tryz.f37) [1,1,1,1,1,1]) [1,1,1,1,1,1] (mkD 124 a00 v) (wk 124 c0r k)=c5w k v
 | (s1,at6,x2b,x4b,())=>by kernel_rfl
def c5q:Pce:=fun st k=>ckD 124 a00 st fun v=>wfD a00 v→c5w k v
theorem d7U:j5 Tryz.prog (at' (g6 Tryz.f37) [1,1,1,1,1,1]) c5q:=
 (j5.wk (N:=124) (ds:=a00) (dx:=c0r) (l3 o0 j9 a8Q (c5s) (at' (g6 Tryz.f37) [1,1,1,1,1,1]) [1,1,1,1,1,1] rfl (g9 b3j [1,1,1,1,1,1]))).mono fun st k h=>l4 h fun v hv hw=>Eq.mpr (d7Q k v) (hv hw)
def b8i:q8:=([1,1,1,1,1,1],c5q)::b8h
theorem c5t:g7 Tryz.prog (g6 Tryz.f37) b8i:=g7.cons d7U (c5s)
def E5:List LS:=[.v 1 yB,.b 2 16 [],.b 4 32 [],.v 6 yI,.v 7 .bool,.c 16 tyX,.c 32 tyX]
def D6:List LS:=[.b 4 32 [],.v 5 yI,.c 32 tyX]
def c0s:DX:=⟨none,some D6,[]⟩
def d2P (k:Ex→St→Prop) (x5:Int) (x4b:tEx):Prop:=wfD D6 (x5,x4b,())→k .ret (mkD 124 D6 (x5,x4b,()))
def M0 (kr:Int→tEx→Prop) (s1:LI) (at6:Int) (put7:Bool) (x2b:tEx) (x4b:tEx):Prop:=
 bif (!put7) then
 bif (decide (at6<(List.length s1:Int))) then
 bif decide (0≤at6∧at6<(List.length s1:Int)) then
 ∀ (r2:Bool),r2=a1z (rd (0:Int) s1 at6)→(
 wB r2→(
 bif r2 then
 (wfD R8 (s1,at6,x2b,x4b,())→∃ n,a91 (fun (s1:LI) (at6:Int) (x2b:tEx) (x4b:tEx)=>wfD a6d (s1,at6,x2b,x4b,())→(
 bif (decide (x2b.2.2.2.2.2.2.1=(0:Int))) then
 kr (240:Int) zX
 else
 (wfD a00 (s1,at6,x2b,x4b,())→a7U (fun (x5:Int) (x4b:tEx)=>wfD a2a (x5,x4b,())→(
 kr x5 x4b)) s1 at6 x2b x4b))) n s1 at6 x2b x4b)
 else
 (wfD a00 (s1,at6,x2b,x4b,())→a7U (fun (x5:Int) (x4b:tEx)=>wfD a2a (x5,x4b,())→(
 kr x5 x4b)) s1 at6 x2b x4b)))
 else False
 else
 (wfD a00 (s1,at6,x2b,x4b,())→a7U (fun (x5:Int) (x4b:tEx)=>wfD a2a (x5,x4b,())→(
 kr x5 x4b)) s1 at6 x2b x4b)
 else
 (wfD a00 (s1,at6,x2b,x4b,())→a7U (fun (x5:Int) (x4b:tEx)=>wfD a2a (x5,x4b,())→(
 kr x5 x4b)) s1 at6 x2b x4b)
def c5x (k:Ex→St→Prop) (v:l6 E5):Prop:=M0 (d2P k) v.1 v.2.1 v.2.2.1 v.2.2.2.1 v.2.2.2.2.1
theorem d7R (k:Ex→St→Prop):∀ v:l6 E5,ex tb (j8 b5S) b8i (at' (g6 Tryz.f37) [1,1,1,1,1]) [1,1,1,1,1] (mkD 124 E5 v) (wk 124 c0s k)=c5x k v
 | (s1,at6,put7,x2b,x4b,())=>by kernel_rfl
def c5r:Pce:=fun st k=>ckD 124 E5 st fun v=>wfD E5 v→c5x k v
theorem d7V:j5 Tryz.prog (at' (g6 Tryz.f37) [1,1,1,1,1]) c5r:=
 (j5.wk (N:=124) (ds:=E5) (dx:=c0s) (l3 o0 j9 a8Q (c5t) (at' (g6 Tryz.f37) [1,1,1,1,1]) [1,1,1,1,1] rfl (g9 b3j [1,1,1,1,1]))).mono fun st k h=>l4 h fun v hv hw=>Eq.mpr (d7R k v) (hv hw)
def c5o:q8:=([1,1,1,1,1],c5r)::b8i
theorem d7M:g7 Tryz.prog (g6 Tryz.f37) c5o:=g7.cons d7V (c5t)
def c0t (x0:tEx) (s1:LI) (K:Res→List Cell→Prop):Prop:=
 C6 s1 (0:Int)∧(
 ∀ (r1:Int),r1=u5 s1 (0:Int)→(
 wI r1→(
 bif (decide (x0.2.2.2.1=([112,117]:LI))) then
 bif (decide (x0.2.2.2.1=([106]:LI))) then
 (wfD E5 (s1,r1,true,x0,zX,())→M0 (fun (x5:Int) (x4b:tEx)=>wfD D6 (x5,x4b,())→(
 K (.tup [.v tyX x4b,.v yI x5]) [])) s1 r1 true x0 zX)
 else
 bif (!(decide (x0.2.2.2.1=([106,33]:LI)))) then
 bif (decide (r1<(List.length s1:Int))) then
 bif decide (0≤r1∧r1<(List.length s1:Int)) then
 bif (!decide ((rd (0:Int) s1 r1)=(0:Int))) then
 bif decide (0≤r1∧r1<(List.length s1:Int)) then
 ∀ (r5:Bool),r5=a2J (rd (0:Int) s1 r1)→(
 wB r5→(
 bif r5 then
 bif decide (0≤r1∧r1<(List.length s1:Int)) then
 C6 s1 (IntKind.wrap .i64 (r1+(1:Int)))∧(
 ∀ (r6:Int),r6=u5 s1 (IntKind.wrap .i64 (r1+(1:Int)))→(
 wI r6→(
 (wfD E5 (s1,r6,true,(x0.1,x0.2.1,x0.2.2.1,x0.2.2.2.1,x0.2.2.2.2.1,(rd (0:Int) s1 r1),x0.2.2.2.2.2.2.1,x0.2.2.2.2.2.2.2.1,x0.2.2.2.2.2.2.2.2.1,x0.2.2.2.2.2.2.2.2.2),zX,())→M0 (fun (x5:Int) (x4b:tEx)=>wfD D6 (x5,x4b,())→(
 K (.tup [.v tyX x4b,.v yI x5]) [])) s1 r6 true (x0.1,x0.2.1,x0.2.2.1,x0.2.2.2.1,x0.2.2.2.2.1,(rd (0:Int) s1 r1),x0.2.2.2.2.2.2.1,x0.2.2.2.2.2.2.2.1,x0.2.2.2.2.2.2.2.2.1,x0.2.2.2.2.2.2.2.2.2) zX))))
 else False
 else
 (wfD E5 (s1,r1,true,x0,zX,())→M0 (fun (x5:Int) (x4b:tEx)=>wfD D6 (x5,x4b,())→(
 K (.tup [.v tyX x4b,.v yI x5]) [])) s1 r1 true x0 zX)))
 else False
 else
 (wfD E5 (s1,r1,true,x0,zX,())→M0 (fun (x5:Int) (x4b:tEx)=>wfD D6 (x5,x4b,())→(
 K (.tup [.v tyX x4b,.v yI x5]) [])) s1 r1 true x0 zX)
 else False
 else
 (wfD E5 (s1,r1,true,x0,zX,())→M0 (fun (x5:Int) (x4b:tEx)=>wfD D6 (x5,x4b,())→(
 K (.tup [.v tyX x4b,.v yI x5]) [])) s1 r1 true x0 zX)
 else
 (wfD E5 (s1,r1,true,x0,zX,())→M0 (fun (x5:Int) (x4b:tEx)=>wfD D6 (x5,x4b,())→(
 K (.tup [.v tyX x4b,.v yI x5]) [])) s1 r1 true x0 zX)
 else
 bif (decide (x0.2.2.2.1=([106]:LI))) then
 (wfD E5 (s1,r1,(decide (x0.2.2.2.1=([112,117,33]:LI))),x0,zX,())→M0 (fun (x5:Int) (x4b:tEx)=>wfD D6 (x5,x4b,())→(
 K (.tup [.v tyX x4b,.v yI x5]) [])) s1 r1 (decide (x0.2.2.2.1=([112,117,33]:LI))) x0 zX)
 else
 bif (!(decide (x0.2.2.2.1=([106,33]:LI)))) then
 bif (decide (r1<(List.length s1:Int))) then
 bif decide (0≤r1∧r1<(List.length s1:Int)) then
 bif (!decide ((rd (0:Int) s1 r1)=(0:Int))) then
 bif decide (0≤r1∧r1<(List.length s1:Int)) then
 ∀ (r7:Bool),r7=a2J (rd (0:Int) s1 r1)→(
 wB r7→(
 bif r7 then
 bif (decide (x0.2.2.2.1=([112,117,33]:LI))) then
 bif decide (0≤r1∧r1<(List.length s1:Int)) then
 C6 s1 (IntKind.wrap .i64 (r1+(1:Int)))∧(
 ∀ (r8:Int),r8=u5 s1 (IntKind.wrap .i64 (r1+(1:Int)))→(
 wI r8→(
 (wfD E5 (s1,r8,(decide (x0.2.2.2.1=([112,117,33]:LI))),(x0.1,x0.2.1,x0.2.2.1,x0.2.2.2.1,x0.2.2.2.2.1,(rd (0:Int) s1 r1),x0.2.2.2.2.2.2.1,x0.2.2.2.2.2.2.2.1,x0.2.2.2.2.2.2.2.2.1,x0.2.2.2.2.2.2.2.2.2),zX,())→M0 (fun (x5:Int) (x4b:tEx)=>wfD D6 (x5,x4b,())→(
 K (.tup [.v tyX x4b,.v yI x5]) [])) s1 r8 (decide (x0.2.2.2.1=([112,117,33]:LI))) (x0.1,x0.2.1,x0.2.2.1,x0.2.2.2.1,x0.2.2.2.2.1,(rd (0:Int) s1 r1),x0.2.2.2.2.2.2.1,x0.2.2.2.2.2.2.2.1,x0.2.2.2.2.2.2.2.2.1,x0.2.2.2.2.2.2.2.2.2) zX))))
 else False
 else
 bif decide (0≤r1∧r1<(List.length s1:Int)) then
 ∀ (r9:Bool),r9=a1z (rd (0:Int) s1 r1)→(
 wB r9→(
 bif (!r9) then
 bif decide (0≤r1∧r1<(List.length s1:Int)) then
 C6 s1 (IntKind.wrap .i64 (r1+(1:Int)))∧(
 ∀ (r10:Int),r10=u5 s1 (IntKind.wrap .i64 (r1+(1:Int)))→(
 wI r10→(
 (wfD E5 (s1,r10,(decide (x0.2.2.2.1=([112,117,33]:LI))),(x0.1,x0.2.1,x0.2.2.1,x0.2.2.2.1,x0.2.2.2.2.1,(rd (0:Int) s1 r1),x0.2.2.2.2.2.2.1,x0.2.2.2.2.2.2.2.1,x0.2.2.2.2.2.2.2.2.1,x0.2.2.2.2.2.2.2.2.2),zX,())→M0 (fun (x5:Int) (x4b:tEx)=>wfD D6 (x5,x4b,())→(
 K (.tup [.v tyX x4b,.v yI x5]) [])) s1 r10 (decide (x0.2.2.2.1=([112,117,33]:LI))) (x0.1,x0.2.1,x0.2.2.1,x0.2.2.2.1,x0.2.2.2.2.1,(rd (0:Int) s1 r1),x0.2.2.2.2.2.2.1,x0.2.2.2.2.2.2.2.1,x0.2.2.2.2.2.2.2.2.1,x0.2.2.2.2.2.2.2.2.2) zX))))
 else False
 else
 (wfD E5 (s1,r1,(decide (x0.2.2.2.1=([112,117,33]:LI))),x0,zX,())→M0 (fun (x5:Int) (x4b:tEx)=>wfD D6 (x5,x4b,())→(
 K (.tup [.v tyX x4b,.v yI x5]) [])) s1 r1 (decide (x0.2.2.2.1=([112,117,33]:LI))) x0 zX)))
 else False
 else
 (wfD E5 (s1,r1,(decide (x0.2.2.2.1=([112,117,33]:LI))),x0,zX,())→M0 (fun (x5:Int) (x4b:tEx)=>wfD D6 (x5,x4b,())→(
 K (.tup [.v tyX x4b,.v yI x5]) [])) s1 r1 (decide (x0.2.2.2.1=([112,117,33]:LI))) x0 zX)))
 else False
 else
 (wfD E5 (s1,r1,(decide (x0.2.2.2.1=([112,117,33]:LI))),x0,zX,())→M0 (fun (x5:Int) (x4b:tEx)=>wfD D6 (x5,x4b,())→(
 K (.tup [.v tyX x4b,.v yI x5]) [])) s1 r1 (decide (x0.2.2.2.1=([112,117,33]:LI))) x0 zX)
 else False
 else
 (wfD E5 (s1,r1,(decide (x0.2.2.2.1=([112,117,33]:LI))),x0,zX,())→M0 (fun (x5:Int) (x4b:tEx)=>wfD D6 (x5,x4b,())→(
 K (.tup [.v tyX x4b,.v yI x5]) [])) s1 r1 (decide (x0.2.2.2.1=([112,117,33]:LI))) x0 zX)
 else
 (wfD E5 (s1,r1,(decide (x0.2.2.2.1=([112,117,33]:LI))),x0,zX,())→M0 (fun (x5:Int) (x4b:tEx)=>wfD D6 (x5,x4b,())→(
 K (.tup [.v tyX x4b,.v yI x5]) [])) s1 r1 (decide (x0.2.2.2.1=([112,117,33]:LI))) x0 zX))))
def b5R:List AS:=[.v tyX,.v yB]
theorem b1i (b:Int):a1z b=L8 b:=by
 unfold a1z L8
 by_cases h1:48≤b <;> by_cases h2:b≤57 <;> simp [h1,h2]
def a92 (s:LI) (i:Int) (x _:ExD):Prop:=0≤i∧i≤s.length∧s.length≤lim∧0≤x.2.2.2.2.2.2.1∧x.2.2.2.2.2.2.1≤9999
def a3i (s:LI) (i:Int) (x y:ExD):LI×Int×ExD×ExD:=(s,i+(dgs (s.drop i.toNat):Int),exN x (cnt x.2.2.2.2.2.2.1 (s.drop i.toNat)),y)
theorem b8j (kx0:LI→Int→ExD→ExD→Prop) (s:LI) (y:ExD) (hs:s.length≤lim) :
  ∀ (n i:Nat) (x:ExD),s.length<n+i→i≤s.length→0≤x.2.2.2.2.2.2.1→x.2.2.2.2.2.2.1≤9999→
   kx0 s ((i+dgs (s.drop i):Nat):Int) (exN x (cnt x.2.2.2.2.2.2.1 (s.drop i))) y→a91 kx0 n s (i:Int) x y
 | 0,i,x,hn,hi,_,_,_=>absurd hn (by omega)
 | n+1,i,x,hn,hi,h0,h9,hx=>by
  intro _
  unfold b3h
  have hlim:lim=1099511627776:=rfl
  refine brn (fun hlt=>C1 (by omega) ?_) (fun hge=>?_)
  ·have hi':i<s.length:=by omega
   rw [D4 hi',wrap_i64 (n:=(i:Int)+1) (by omega) (by omega),show (i:Int)+1=((i+1:Nat):Int) by omega]
   intro r hr _
   rw [b1i] at hr
   subst hr
   rw [D3 hi',a0f,a9m] at hx
   refine brb (fun hb=>C1 (by omega) ?_) (fun hb=>?_)
   ·rw [if_pos hb,if_pos hb] at hx
    have hb:=a4y hb
    rw [N1 (n:=s[i] - 48) (by omega) (by omega),wrap_i64 (n:=s[i] - 48) (by omega) (by omega),wrap_i64 (n:=x.2.2.2.2.2.2.1 * 10) (by omega) (by omega),wrap_i64 (n:=x.2.2.2.2.2.2.1 * 10+(s[i] - 48)) (by omega) (by omega)]
    refine brn (fun h=>?_) (fun h=>?_)
    ·refine b8j kx0 s y hs n (i+1) _ (by omega) (by omega) (by dsimp only; omega) (by dsimp only; omega) ?_
     rw [if_pos h] at hx
     rw [show i+1+dgs (s.drop (i+1))=i+(dgs (s.drop (i+1))+1) by omega]
     exact hx
    ·refine b8j kx0 s y hs n (i+1) _ (by omega) (by omega) (by dsimp only; omega) (by dsimp only; omega) ?_
     rw [if_neg h] at hx
     rw [show i+1+dgs (s.drop (i+1))=i+(dgs (s.drop (i+1))+1) by omega]
     exact hx
   ·rw [if_neg (by rw [hb]; simp),if_neg (by rw [hb]; simp)] at hx
    exact hx
  ·rw [List.drop_eq_nil_of_le (by omega)] at hx
   exact hx
theorem c3o (kx0:LI→Int→ExD→ExD→Prop) (s:LI) (i:Int) (x y:ExD) (hp:a92 s i x y) (hx:∀ q:LI×Int×ExD×ExD,q=a3i s i x y→kx0 q.1 q.2.1 q.2.2.1 q.2.2.2):∃ m,a91 kx0 m s i x y:=by
 obtain ⟨h1,h2,hs,h0,h9⟩:=hp
 obtain ⟨j,rfl⟩:=Int.eq_ofNat_of_zero_le h1
 exact ⟨s.length+1,b8j kx0 s y hs _ j x (by omega) (Int.ofNat_le.1 h2) h0 h9 (hx _ rfl)⟩
def a1w (s1:LI) (at6:Int) (x2b:tEx) (x4b:tEx):Prop:=
 C6 s1 at6
def P0 (s1:LI) (at6:Int) (x2b:tEx) (x4b:tEx):Int×tEx:=
 let r4:Int:=u5 s1 at6
 bif (!decide (r4=(List.length s1:Int))) then
 ((240:Int),zX)
 else
 ((0:Int),x2b)
theorem a4F (kr:Int→tEx→Prop) (s1:LI) (at6:Int) (x2b:tEx) (x4b:tEx) (hp:a1w s1 at6 x2b x4b) (hr:∀ q:Int×tEx,q=P0 s1 at6 x2b x4b→kr q.1 q.2):a7U kr s1 at6 x2b x4b:=
 have h:=hr; ⟨hp,al (br0 h (fun _ h=>h _ rfl)
 fun _ h=>h _ rfl)⟩
def B6 (s1:LI) (at6:Int) (put7:Bool) (x2b:tEx) (x4b:tEx):Prop:=
 bif (!put7) then
 bif (decide (at6<(List.length s1:Int))) then
 (0≤at6∧at6<(List.length s1:Int))∧(
 let r2:Bool:=a1z (rd (0:Int) s1 at6)
 bif r2 then
 a92 s1 at6 x2b x4b∧(
 let q0x0:LI×Int×tEx×tEx:=a3i s1 at6 x2b x4b
 let s1:LI:=q0x0.1
 let at6:Int:=q0x0.2.1
 let x2b:tEx:=q0x0.2.2.1
 let x4b:tEx:=q0x0.2.2.2
 bif (decide (x2b.2.2.2.2.2.2.1=(0:Int))) then
 True
 else
 a1w s1 at6 x2b x4b)
 else
 a1w s1 at6 x2b x4b)
 else
 a1w s1 at6 x2b x4b
 else
 a1w s1 at6 x2b x4b
def B2 (s1:LI) (at6:Int) (put7:Bool) (x2b:tEx) (x4b:tEx):Int×tEx:=
 bif (!put7) then
 bif (decide (at6<(List.length s1:Int))) then
 let r2:Bool:=a1z (rd (0:Int) s1 at6)
 bif r2 then
 let q0x0:LI×Int×tEx×tEx:=a3i s1 at6 x2b x4b
 let s1:LI:=q0x0.1
 let at6:Int:=q0x0.2.1
 let x2b:tEx:=q0x0.2.2.1
 let x4b:tEx:=q0x0.2.2.2
 bif (decide (x2b.2.2.2.2.2.2.1=(0:Int))) then
 ((240:Int),zX)
 else
 let q1r:Int×tEx:=P0 s1 at6 x2b x4b
 let x5:Int:=q1r.1
 let x4b:tEx:=q1r.2
 (x5,x4b)
 else
 let q1r:Int×tEx:=P0 s1 at6 x2b x4b
 let x5:Int:=q1r.1
 let x4b:tEx:=q1r.2
 (x5,x4b)
 else
 let q1r:Int×tEx:=P0 s1 at6 x2b x4b
 let x5:Int:=q1r.1
 let x4b:tEx:=q1r.2
 (x5,x4b)
 else
 let q1r:Int×tEx:=P0 s1 at6 x2b x4b
 let x5:Int:=q1r.1
 let x4b:tEx:=q1r.2
 (x5,x4b)
theorem C8 (kr:Int→tEx→Prop) (s1:LI) (at6:Int) (put7:Bool) (x2b:tEx) (x4b:tEx) (hp:B6 s1 at6 put7 x2b x4b) (hr:∀ q:Int×tEx,q=B2 s1 at6 put7 x2b x4b→kr q.1 q.2):M0 kr s1 at6 put7 x2b x4b:=
 have h:=hr; br1 hp h (fun _ hp h=>br1 hp h (fun _ hp h=>as1 hp fun hp=>al (br1 hp h (fun _ hp h=>fun _=>c3o _ _ _ _ _ hp.1 (have hp:=hp.2; al (br1 hp h (fun _ hp h=>h _ rfl)
 fun _ hp h=>fun _=>a4F _ _ _ _ _ hp (al (h _ rfl)))))
 fun _ hp h=>fun _=>a4F _ _ _ _ _ hp (al (h _ rfl))))
 fun _ hp h=>fun _=>a4F _ _ _ _ _ hp (al (h _ rfl)))
 fun _ hp h=>fun _=>a4F _ _ _ _ _ hp (al (h _ rfl))
def a5e (x0:tEx) (s1:LI):Prop:=
 C6 s1 (0:Int)∧(
 let r1:Int:=u5 s1 (0:Int)
 bif (decide (x0.2.2.2.1=([112,117]:LI))) then
 bif (decide (x0.2.2.2.1=([106]:LI))) then
 B6 s1 r1 true x0 zX
 else
 bif (!(decide (x0.2.2.2.1=([106,33]:LI)))) then
 bif (decide (r1<(List.length s1:Int))) then
 (0≤r1∧r1<(List.length s1:Int))∧(
 bif (!decide ((rd (0:Int) s1 r1)=(0:Int))) then
 (0≤r1∧r1<(List.length s1:Int))∧(
 let r5:Bool:=a2J (rd (0:Int) s1 r1)
 bif r5 then
 (0≤r1∧r1<(List.length s1:Int))∧(
 C6 s1 (IntKind.wrap .i64 (r1+(1:Int)))∧(
 let r6:Int:=u5 s1 (IntKind.wrap .i64 (r1+(1:Int)))
 B6 s1 r6 true (x0.1,x0.2.1,x0.2.2.1,x0.2.2.2.1,x0.2.2.2.2.1,(rd (0:Int) s1 r1),x0.2.2.2.2.2.2.1,x0.2.2.2.2.2.2.2.1,x0.2.2.2.2.2.2.2.2.1,x0.2.2.2.2.2.2.2.2.2) zX))
 else
 B6 s1 r1 true x0 zX)
 else
 B6 s1 r1 true x0 zX)
 else
 B6 s1 r1 true x0 zX
 else
 B6 s1 r1 true x0 zX
 else
 bif (decide (x0.2.2.2.1=([106]:LI))) then
 B6 s1 r1 (decide (x0.2.2.2.1=([112,117,33]:LI))) x0 zX
 else
 bif (!(decide (x0.2.2.2.1=([106,33]:LI)))) then
 bif (decide (r1<(List.length s1:Int))) then
 (0≤r1∧r1<(List.length s1:Int))∧(
 bif (!decide ((rd (0:Int) s1 r1)=(0:Int))) then
 (0≤r1∧r1<(List.length s1:Int))∧(
 let r7:Bool:=a2J (rd (0:Int) s1 r1)
 bif r7 then
 bif (decide (x0.2.2.2.1=([112,117,33]:LI))) then
 (0≤r1∧r1<(List.length s1:Int))∧(
 C6 s1 (IntKind.wrap .i64 (r1+(1:Int)))∧(
 let r8:Int:=u5 s1 (IntKind.wrap .i64 (r1+(1:Int)))
 B6 s1 r8 (decide (x0.2.2.2.1=([112,117,33]:LI))) (x0.1,x0.2.1,x0.2.2.1,x0.2.2.2.1,x0.2.2.2.2.1,(rd (0:Int) s1 r1),x0.2.2.2.2.2.2.1,x0.2.2.2.2.2.2.2.1,x0.2.2.2.2.2.2.2.2.1,x0.2.2.2.2.2.2.2.2.2) zX))
 else
 (0≤r1∧r1<(List.length s1:Int))∧(
 let r9:Bool:=a1z (rd (0:Int) s1 r1)
 bif (!r9) then
 (0≤r1∧r1<(List.length s1:Int))∧(
 C6 s1 (IntKind.wrap .i64 (r1+(1:Int)))∧(
 let r10:Int:=u5 s1 (IntKind.wrap .i64 (r1+(1:Int)))
 B6 s1 r10 (decide (x0.2.2.2.1=([112,117,33]:LI))) (x0.1,x0.2.1,x0.2.2.1,x0.2.2.2.1,x0.2.2.2.2.1,(rd (0:Int) s1 r1),x0.2.2.2.2.2.2.1,x0.2.2.2.2.2.2.2.1,x0.2.2.2.2.2.2.2.2.1,x0.2.2.2.2.2.2.2.2.2) zX))
 else
 B6 s1 r1 (decide (x0.2.2.2.1=([112,117,33]:LI))) x0 zX)
 else
 B6 s1 r1 (decide (x0.2.2.2.1=([112,117,33]:LI))) x0 zX)
 else
 B6 s1 r1 (decide (x0.2.2.2.1=([112,117,33]:LI))) x0 zX)
 else
 B6 s1 r1 (decide (x0.2.2.2.1=([112,117,33]:LI))) x0 zX
 else
 B6 s1 r1 (decide (x0.2.2.2.1=([112,117,33]:LI))) x0 zX)
def a5d (x0:tEx) (s1:LI):tEx×Int:=
 let r1:Int:=u5 s1 (0:Int)
 bif (decide (x0.2.2.2.1=([112,117]:LI))) then
 bif (decide (x0.2.2.2.1=([106]:LI))) then
 let q2r:Int×tEx:=B2 s1 r1 true x0 zX
 let x5:Int:=q2r.1
 let x4b:tEx:=q2r.2
 (x4b,x5)
 else
 bif (!(decide (x0.2.2.2.1=([106,33]:LI)))) then
 bif (decide (r1<(List.length s1:Int))) then
 bif (!decide ((rd (0:Int) s1 r1)=(0:Int))) then
 let r5:Bool:=a2J (rd (0:Int) s1 r1)
 bif r5 then
 let r6:Int:=u5 s1 (IntKind.wrap .i64 (r1+(1:Int)))
 let q2r:Int×tEx:=B2 s1 r6 true (x0.1,x0.2.1,x0.2.2.1,x0.2.2.2.1,x0.2.2.2.2.1,(rd (0:Int) s1 r1),x0.2.2.2.2.2.2.1,x0.2.2.2.2.2.2.2.1,x0.2.2.2.2.2.2.2.2.1,x0.2.2.2.2.2.2.2.2.2) zX
 let x5:Int:=q2r.1
 let x4b:tEx:=q2r.2
 (x4b,x5)
 else
 let q2r:Int×tEx:=B2 s1 r1 true x0 zX
 let x5:Int:=q2r.1
 let x4b:tEx:=q2r.2
 (x4b,x5)
 else
 let q2r:Int×tEx:=B2 s1 r1 true x0 zX
 let x5:Int:=q2r.1
 let x4b:tEx:=q2r.2
 (x4b,x5)
 else
 let q2r:Int×tEx:=B2 s1 r1 true x0 zX
 let x5:Int:=q2r.1
 let x4b:tEx:=q2r.2
 (x4b,x5)
 else
 let q2r:Int×tEx:=B2 s1 r1 true x0 zX
 let x5:Int:=q2r.1
 let x4b:tEx:=q2r.2
 (x4b,x5)
 else
 bif (decide (x0.2.2.2.1=([106]:LI))) then
 let q2r:Int×tEx:=B2 s1 r1 (decide (x0.2.2.2.1=([112,117,33]:LI))) x0 zX
 let x5:Int:=q2r.1
 let x4b:tEx:=q2r.2
 (x4b,x5)
 else
 bif (!(decide (x0.2.2.2.1=([106,33]:LI)))) then
 bif (decide (r1<(List.length s1:Int))) then
 bif (!decide ((rd (0:Int) s1 r1)=(0:Int))) then
 let r7:Bool:=a2J (rd (0:Int) s1 r1)
 bif r7 then
 bif (decide (x0.2.2.2.1=([112,117,33]:LI))) then
 let r8:Int:=u5 s1 (IntKind.wrap .i64 (r1+(1:Int)))
 let q2r:Int×tEx:=B2 s1 r8 (decide (x0.2.2.2.1=([112,117,33]:LI))) (x0.1,x0.2.1,x0.2.2.1,x0.2.2.2.1,x0.2.2.2.2.1,(rd (0:Int) s1 r1),x0.2.2.2.2.2.2.1,x0.2.2.2.2.2.2.2.1,x0.2.2.2.2.2.2.2.2.1,x0.2.2.2.2.2.2.2.2.2) zX
 let x5:Int:=q2r.1
 let x4b:tEx:=q2r.2
 (x4b,x5)
 else
 let r9:Bool:=a1z (rd (0:Int) s1 r1)
 bif (!r9) then
 let r10:Int:=u5 s1 (IntKind.wrap .i64 (r1+(1:Int)))
 let q2r:Int×tEx:=B2 s1 r10 (decide (x0.2.2.2.1=([112,117,33]:LI))) (x0.1,x0.2.1,x0.2.2.1,x0.2.2.2.1,x0.2.2.2.2.1,(rd (0:Int) s1 r1),x0.2.2.2.2.2.2.1,x0.2.2.2.2.2.2.2.1,x0.2.2.2.2.2.2.2.2.1,x0.2.2.2.2.2.2.2.2.2) zX
 let x5:Int:=q2r.1
 let x4b:tEx:=q2r.2
 (x4b,x5)
 else
 let q2r:Int×tEx:=B2 s1 r1 (decide (x0.2.2.2.1=([112,117,33]:LI))) x0 zX
 let x5:Int:=q2r.1
 let x4b:tEx:=q2r.2
 (x4b,x5)
 else
 let q2r:Int×tEx:=B2 s1 r1 (decide (x0.2.2.2.1=([112,117,33]:LI))) x0 zX
 let x5:Int:=q2r.1
 let x4b:tEx:=q2r.2
 (x4b,x5)
 else
 let q2r:Int×tEx:=B2 s1 r1 (decide (x0.2.2.2.1=([112,117,33]:LI))) x0 zX
 let x5:Int:=q2r.1
 let x4b:tEx:=q2r.2
 (x4b,x5)
 else
 let q2r:Int×tEx:=B2 s1 r1 (decide (x0.2.2.2.1=([112,117,33]:LI))) x0 zX
 let x5:Int:=q2r.1
 let x4b:tEx:=q2r.2
 (x4b,x5)
 else
 let q2r:Int×tEx:=B2 s1 r1 (decide (x0.2.2.2.1=([112,117,33]:LI))) x0 zX
 let x5:Int:=q2r.1
 let x4b:tEx:=q2r.2
 (x4b,x5)
theorem d7P (x0:tEx) (s1:LI) (K:Res→List Cell→Prop) (_:wfA b5R (x0,s1,())) (hp:a5e x0 s1) (h:∀ r:tEx×Int,r=a5d x0 s1→K (.tup [.v tyX r.1,.v yI r.2]) []):c0t x0 s1 K:=
 an1 hp fun hp=>al (br1 hp h (fun _ hp h=>br1 hp h (fun _ hp h=>fun _=>C8 _ _ _ _ _ _ hp (al (h _ rfl)))
 fun _ hp h=>br1 hp h (fun _ hp h=>br1 hp h (fun _ hp h=>as1 hp fun hp=>br1 hp h (fun _ hp h=>as1 hp fun hp=>al (br1 hp h (fun _ hp h=>as1 hp fun hp=>an1 hp fun hp=>al (fun _=>C8 _ _ _ _ _ _ hp (al (h _ rfl))))
 fun _ hp h=>fun _=>C8 _ _ _ _ _ _ hp (al (h _ rfl))))
 fun _ hp h=>fun _=>C8 _ _ _ _ _ _ hp (al (h _ rfl)))
 fun _ hp h=>fun _=>C8 _ _ _ _ _ _ hp (al (h _ rfl)))
 fun _ hp h=>fun _=>C8 _ _ _ _ _ _ hp (al (h _ rfl)))
 fun _ hp h=>br1 hp h (fun _ hp h=>fun _=>C8 _ _ _ _ _ _ hp (al (h _ rfl)))
 fun _ hp h=>br1 hp h (fun _ hp h=>br1 hp h (fun _ hp h=>as1 hp fun hp=>br1 hp h (fun _ hp h=>as1 hp fun hp=>al (br1 hp h (fun _ hp h=>br1 hp h (fun _ hp h=>as1 hp fun hp=>an1 hp fun hp=>al (fun _=>C8 _ _ _ _ _ _ hp (al (h _ rfl))))
 fun _ hp h=>as1 hp fun hp=>al (br1 hp h (fun _ hp h=>as1 hp fun hp=>an1 hp fun hp=>al (fun _=>C8 _ _ _ _ _ _ hp (al (h _ rfl))))
 fun _ hp h=>fun _=>C8 _ _ _ _ _ _ hp (al (h _ rfl))))
 fun _ hp h=>fun _=>C8 _ _ _ _ _ _ hp (al (h _ rfl))))
 fun _ hp h=>fun _=>C8 _ _ _ _ _ _ hp (al (h _ rfl)))
 fun _ hp h=>fun _=>C8 _ _ _ _ _ _ hp (al (h _ rfl)))
 fun _ hp h=>fun _=>C8 _ _ _ _ _ _ hp (al (h _ rfl)))
def e42 (v:j3 b5R) (K:Res→List Cell→Prop):Prop:=a5e v.1 v.2.1∧∀ r:tEx×Int,r=a5d v.1 v.2.1→K (.tup [.v tyX r.1,.v yI r.2]) []
def d5c:App:=specW b5R e42
theorem d7S (K:Res→List Cell→Prop):∀ v:j3 b5R,q7 tb (j8 b5S) c5o Tryz.f37 [true,true] (mkA b5R v) K=c0t v.1 v.2.1 K
 | (x0,s1,())=>by kernel_rfl
theorem d7N:g8 Tryz.prog 37 d5c:=
 g8.specW (l9 ((l8 o0 j9 a8Q (d7M) (f:=37) (fn:=Tryz.f37) (by kernel_rfl) (by kernel_rfl) b3j [true,true])) fun v K hw h=>(d7S K v).mpr (d7P v.1 v.2.1 K hw h.1 h.2))
def b0B:List (Nat×App):=[(32,d5d),(33,b6J),(34,d5K),(35,d5k),(36,c6W),(37,d5c)]
theorem a4M:GOk Tryz.prog (j8 b0B):=GOk.cons d72 (GOk.cons b4c (GOk.cons d9X (GOk.cons d8m (GOk.cons c7c (GOk.cons d7N (GOk.nil))))))
theorem a75:o8 (g6 Tryz.f12)=true:=by kernel_rfl
def a3t:List LS:=[.b 2 16 [],.b 4 32 [],.v 7 yB,.c 16 tyX,.c 32 tyX]
def a6A:List LS:=[.b 2 16 [],.v 3 yI,.c 16 tyX]
def c1m:DX:=⟨none,some a6A,[]⟩
def d3i (k:Ex→St→Prop) (x3:Int) (x2b:tEx):Prop:=wfD a6A (x3,x2b,())→k .ret (mkD 124 a6A (x3,x2b,()))
def b3T (kr:Int→tEx→Prop) (rest7:LI) (x2b:tEx) (x4b:tEx):Prop:=
 C6 rest7 (0:Int)∧(
 ∀ (r4:Int),r4=u5 rest7 (0:Int)→(
 wI r4→(
 bif (!decide (r4=(List.length rest7:Int))) then
 kr (240:Int) zX
 else
 kr (0:Int) x4b)))
def c7P (k:Ex→St→Prop) (v:l6 a3t):Prop:=b3T (d3i k) v.1 v.2.1 v.2.2.1
theorem e0g (k:Ex→St→Prop):∀ v:l6 a3t,ex tb (j8 b0B) [] (at' (g6 Tryz.f12) [1,1,0,1,0,1,0,1,1,1,1,1,1,1,1,1]) [1,1,0,1,0,1,0,1,1,1,1,1,1,1,1,1] (mkD 124 a3t v) (wk 124 c1m k)=c7P k v
 | (rest7,x2b,x4b,())=>by kernel_rfl
def c7G:Pce:=fun st k=>ckD 124 a3t st fun v=>wfD a3t v→c7P k v
theorem e0m:j5 Tryz.prog (at' (g6 Tryz.f12) [1,1,0,1,0,1,0,1,1,1,1,1,1,1,1,1]) c7G:=
 (j5.wk (N:=124) (ds:=a3t) (dx:=c1m) (l3 o0 j9 a4M (g7.nil) (at' (g6 Tryz.f12) [1,1,0,1,0,1,0,1,1,1,1,1,1,1,1,1]) [1,1,0,1,0,1,0,1,1,1,1,1,1,1,1,1] rfl (g9 a75 [1,1,0,1,0,1,0,1,1,1,1,1,1,1,1,1]))).mono fun st k h=>l4 h fun v hv hw=>Eq.mpr (e0g k v) (hv hw)
def b8H:q8:=([1,1,0,1,0,1,0,1,1,1,1,1,1,1,1,1],c7G)::[]
theorem c7L:g7 Tryz.prog (g6 Tryz.f12) b8H:=g7.cons e0m (g7.nil)
def a3u:List LS:=[.b 2 16 [],.b 4 32 [],.v 7 yB,.c 16 tyX,.c 32 tyX]
def a6B:List LS:=[.b 2 16 [],.v 3 yI,.c 16 tyX]
def c1n:DX:=⟨none,some a6B,[]⟩
def d3j (k:Ex→St→Prop) (x3:Int) (x2b:tEx):Prop:=wfD a6B (x3,x2b,())→k .ret (mkD 124 a6B (x3,x2b,()))
def b3U (kr:Int→tEx→Prop) (rest7:LI) (x2b:tEx) (x4b:tEx):Prop:=
 C6 rest7 (0:Int)∧(
 ∀ (r6:Int),r6=u5 rest7 (0:Int)→(
 wI r6→(
 bif decide (0≤r6∧r6≤(List.length rest7:Int)) then
 a0P (List.drop (Int.toNat r6) rest7)∧(
 ∀ (r7:tAd×Int×Int),r7=Y8 (List.drop (Int.toNat r6) rest7)→(
 wfR (.tup [.v tyA r7.1,.v yI r7.2.1,.v yI r7.2.2])→(
 bif (!decide (r7.2.2=(0:Int))) then
 kr r7.2.2 zX
 else
 bif (!r7.1.2.2.2.2.2) then
 kr (240:Int) zX
 else
 C6 rest7 (IntKind.wrap .i64 (r6+r7.2.1))∧(
 ∀ (r8:Int),r8=u5 rest7 (IntKind.wrap .i64 (r6+r7.2.1))→(
 wI r8→(
 bif (!decide (r8=(List.length rest7:Int))) then
 kr (240:Int) zX
 else
 kr (0:Int) (x4b.1,x4b.2.1,x4b.2.2.1,x4b.2.2.2.1,r7.1,x4b.2.2.2.2.2.1,x4b.2.2.2.2.2.2.1,x4b.2.2.2.2.2.2.2.1,x4b.2.2.2.2.2.2.2.2.1,x4b.2.2.2.2.2.2.2.2.2)))))))
 else False)))
def c7Q (k:Ex→St→Prop) (v:l6 a3u):Prop:=b3U (d3j k) v.1 v.2.1 v.2.2.1
theorem e0h (k:Ex→St→Prop):∀ v:l6 a3u,ex tb (j8 b0B) b8H (at' (g6 Tryz.f12) [1,0,1,1,1,1,1,0,1,0,1,1,1,1,1,1,1,1,1]) [1,0,1,1,1,1,1,0,1,0,1,1,1,1,1,1,1,1,1] (mkD 124 a3u v) (wk 124 c1n k)=c7Q k v
 | (rest7,x2b,x4b,())=>by kernel_rfl
def c7H:Pce:=fun st k=>ckD 124 a3u st fun v=>wfD a3u v→c7Q k v
theorem e0n:j5 Tryz.prog (at' (g6 Tryz.f12) [1,0,1,1,1,1,1,0,1,0,1,1,1,1,1,1,1,1,1]) c7H:=
 (j5.wk (N:=124) (ds:=a3u) (dx:=c1n) (l3 o0 j9 a4M (c7L) (at' (g6 Tryz.f12) [1,0,1,1,1,1,1,0,1,0,1,1,1,1,1,1,1,1,1]) [1,0,1,1,1,1,1,0,1,0,1,1,1,1,1,1,1,1,1] rfl (g9 a75 [1,0,1,1,1,1,1,0,1,0,1,1,1,1,1,1,1,1,1]))).mono fun st k h=>l4 h fun v hv hw=>Eq.mpr (e0h k v) (hv hw)
def b8I:q8:=([1,0,1,1,1,1,1,0,1,0,1,1,1,1,1,1,1,1,1],c7H)::b8H
theorem c7M:g7 Tryz.prog (g6 Tryz.f12) b8I:=g7.cons e0n (c7L)
def a2i:List LS:=[.b 2 16 [],.b 4 32 [],.v 7 yB,.v 8 .str,.v 81 .bool,.c 16 tyX,.c 32 tyX]
def a4O:List LS:=[.b 2 16 [],.v 3 yI,.c 16 tyX]
def a4N:List LS:=[.b 2 16 [],.b 4 32 [],.v 7 yB,.c 16 tyX,.c 32 tyX]
def c1o:DX:=⟨some a4N,some a4O,[]⟩
def d3l (k:Ex→St→Prop) (x3:Int) (x2b:tEx):Prop:=wfD a4O (x3,x2b,())→k .ret (mkD 124 a4O (x3,x2b,()))
def d3k (k:Ex→St→Prop) (rest7:LI) (x2b:tEx) (x4b:tEx):Prop:=wfD a4N (rest7,x2b,x4b,())→k .nrm (mkD 124 a4N (rest7,x2b,x4b,()))
def b0C (kr:Int→tEx→Prop) (kn:LI→tEx→tEx→Prop) (rest7:LI) (name8:LI) (x81:Bool) (x2b:tEx) (x4b:tEx):Prop:=
 bif x81 then
 bif (decide (name8=([99,111]:LI))) then
 (wfD a3u (rest7,x2b,(x4b.1,x4b.2.1,x4b.2.2.1,([116]:LI),x4b.2.2.2.2.1,x4b.2.2.2.2.2.1,x4b.2.2.2.2.2.2.1,x4b.2.2.2.2.2.2.2.1,x4b.2.2.2.2.2.2.2.2.1,x4b.2.2.2.2.2.2.2.2.2),())→b3U (fun (x3:Int) (x2b:tEx)=>wfD a6B (x3,x2b,())→(
 kr x3 x2b)) rest7 x2b (x4b.1,x4b.2.1,x4b.2.2.1,([116]:LI),x4b.2.2.2.2.1,x4b.2.2.2.2.2.1,x4b.2.2.2.2.2.2.1,x4b.2.2.2.2.2.2.2.1,x4b.2.2.2.2.2.2.2.2.1,x4b.2.2.2.2.2.2.2.2.2))
 else
 (wfD a3u (rest7,x2b,x4b,())→b3U (fun (x3:Int) (x2b:tEx)=>wfD a6B (x3,x2b,())→(
 kr x3 x2b)) rest7 x2b x4b)
 else
 kn rest7 x2b x4b
def c7R (k:Ex→St→Prop) (v:l6 a2i):Prop:=b0C (d3l k) (d3k k) v.1 v.2.1 v.2.2.1 v.2.2.2.1 v.2.2.2.2.1
theorem e0i (k:Ex→St→Prop):∀ v:l6 a2i,ex tb (j8 b0B) b8I (at' (g6 Tryz.f12) [1,1,1,1,1,0,1,0,1,1,1,1,1,1,1,1,1]) [1,1,1,1,1,0,1,0,1,1,1,1,1,1,1,1,1] (mkD 124 a2i v) (wk 124 c1o k)=c7R k v
 | (rest7,name8,x81,x2b,x4b,())=>by kernel_rfl
def c7I:Pce:=fun st k=>ckD 124 a2i st fun v=>wfD a2i v→c7R k v
theorem e0o:j5 Tryz.prog (at' (g6 Tryz.f12) [1,1,1,1,1,0,1,0,1,1,1,1,1,1,1,1,1]) c7I:=
 (j5.wk (N:=124) (ds:=a2i) (dx:=c1o) (l3 o0 j9 a4M (c7M) (at' (g6 Tryz.f12) [1,1,1,1,1,0,1,0,1,1,1,1,1,1,1,1,1]) [1,1,1,1,1,0,1,0,1,1,1,1,1,1,1,1,1] rfl (g9 a75 [1,1,1,1,1,0,1,0,1,1,1,1,1,1,1,1,1]))).mono fun st k h=>l4 h fun v hv hw=>Eq.mpr (e0i k v) (hv hw)
def b8J:q8:=([1,1,1,1,1,0,1,0,1,1,1,1,1,1,1,1,1],c7I)::b8I
theorem c7N:g7 Tryz.prog (g6 Tryz.f12) b8J:=g7.cons e0o (c7M)
def a3v:List LS:=[.b 2 16 [],.b 4 32 [],.v 7 yB,.v 8 .str,.v 9 yI,.v 58 .str,.v 59 .bool,.c 16 tyX,.c 32 tyX]
def a6D:List LS:=[.b 2 16 [],.v 3 yI,.c 16 tyX]
def a6C:List LS:=[.b 2 16 [],.b 4 32 [],.v 7 yB,.c 16 tyX,.c 32 tyX]
def c1p:DX:=⟨some a6C,some a6D,[]⟩
def d3n (k:Ex→St→Prop) (x3:Int) (x2b:tEx):Prop:=wfD a6D (x3,x2b,())→k .ret (mkD 124 a6D (x3,x2b,()))
def d3m (k:Ex→St→Prop) (rest7:LI) (x2b:tEx) (x4b:tEx):Prop:=wfD a6C (rest7,x2b,x4b,())→k .nrm (mkD 124 a6C (rest7,x2b,x4b,()))
def b3V (kr:Int→tEx→Prop) (kn:LI→tEx→tEx→Prop) (rest7:LI) (name8:LI) (n9:Int) (x58:LI) (x59:Bool) (x2b:tEx) (x4b:tEx):Prop:=
 bif x59 then
 bif (decide ((9999:Int)<n9)) then
 (wfD a3t (rest7,x2b,(x4b.1,x4b.2.1,x4b.2.2.1,x4b.2.2.2.1,x4b.2.2.2.2.1,x4b.2.2.2.2.2.1,(9999:Int),x4b.2.2.2.2.2.2.2.1,x4b.2.2.2.2.2.2.2.2.1,x4b.2.2.2.2.2.2.2.2.2),())→b3T (fun (x3:Int) (x2b:tEx)=>wfD a6A (x3,x2b,())→(
 kr x3 x2b)) rest7 x2b (x4b.1,x4b.2.1,x4b.2.2.1,x4b.2.2.2.1,x4b.2.2.2.2.1,x4b.2.2.2.2.2.1,(9999:Int),x4b.2.2.2.2.2.2.2.1,x4b.2.2.2.2.2.2.2.2.1,x4b.2.2.2.2.2.2.2.2.2))
 else
 (wfD a3t (rest7,x2b,(x4b.1,x4b.2.1,x4b.2.2.1,x4b.2.2.2.1,x4b.2.2.2.2.1,x4b.2.2.2.2.2.1,n9,x4b.2.2.2.2.2.2.2.1,x4b.2.2.2.2.2.2.2.2.1,x4b.2.2.2.2.2.2.2.2.2),())→b3T (fun (x3:Int) (x2b:tEx)=>wfD a6A (x3,x2b,())→(
 kr x3 x2b)) rest7 x2b (x4b.1,x4b.2.1,x4b.2.2.1,x4b.2.2.2.1,x4b.2.2.2.2.1,x4b.2.2.2.2.2.1,n9,x4b.2.2.2.2.2.2.2.1,x4b.2.2.2.2.2.2.2.2.1,x4b.2.2.2.2.2.2.2.2.2))
 else
 bif (decide (x58=([115]:LI))) then
 b17 x4b rest7∧(
 ∀ (r5:tEx×Int),r5=b16 x4b rest7→(
 wfR (.tup [.v tyX r5.1,.v yI r5.2])→(
 kr r5.2 r5.1)))
 else
 bif (decide (x58=([116]:LI))) then
 (wfD a2i (rest7,name8,(decide (x58=([116]:LI))),x2b,x4b,())→b0C (fun (x3:Int) (x2b:tEx)=>wfD a4O (x3,x2b,())→(
 kr x3 x2b)) (fun (rest7:LI) (x2b:tEx) (x4b:tEx)=>wfD a4N (rest7,x2b,x4b,())→(
 kn rest7 x2b x4b)) rest7 name8 (decide (x58=([116]:LI))) x2b x4b)
 else
 bif (decide (x58=([99,111]:LI))) then
 (wfD a2i (rest7,name8,(decide (x58=([99,111]:LI))),x2b,x4b,())→b0C (fun (x3:Int) (x2b:tEx)=>wfD a4O (x3,x2b,())→(
 kr x3 x2b)) (fun (rest7:LI) (x2b:tEx) (x4b:tEx)=>wfD a4N (rest7,x2b,x4b,())→(
 kn rest7 x2b x4b)) rest7 name8 (decide (x58=([99,111]:LI))) x2b x4b)
 else
 (wfD a2i (rest7,name8,(decide (x58=([109]:LI))),x2b,x4b,())→b0C (fun (x3:Int) (x2b:tEx)=>wfD a4O (x3,x2b,())→(
 kr x3 x2b)) (fun (rest7:LI) (x2b:tEx) (x4b:tEx)=>wfD a4N (rest7,x2b,x4b,())→(
 kn rest7 x2b x4b)) rest7 name8 (decide (x58=([109]:LI))) x2b x4b)
def c7S (k:Ex→St→Prop) (v:l6 a3v):Prop:=b3V (d3n k) (d3m k) v.1 v.2.1 v.2.2.1 v.2.2.2.1 v.2.2.2.2.1 v.2.2.2.2.2.1 v.2.2.2.2.2.2.1
theorem e0j (k:Ex→St→Prop):∀ v:l6 a3v,ex tb (j8 b0B) b8J (at' (g6 Tryz.f12) [1,0,1,0,1,1,1,1,1,1,1,1,1]) [1,0,1,0,1,1,1,1,1,1,1,1,1] (mkD 124 a3v v) (wk 124 c1p k)=c7S k v
 | (rest7,name8,n9,x58,x59,x2b,x4b,())=>by kernel_rfl
def c7J:Pce:=fun st k=>ckD 124 a3v st fun v=>wfD a3v v→c7S k v
theorem e0p:j5 Tryz.prog (at' (g6 Tryz.f12) [1,0,1,0,1,1,1,1,1,1,1,1,1]) c7J:=
 (j5.wk (N:=124) (ds:=a3v) (dx:=c1p) (l3 o0 j9 a4M (c7N) (at' (g6 Tryz.f12) [1,0,1,0,1,1,1,1,1,1,1,1,1]) [1,0,1,0,1,1,1,1,1,1,1,1,1] rfl (g9 a75 [1,0,1,0,1,1,1,1,1,1,1,1,1]))).mono fun st k h=>l4 h fun v hv hw=>Eq.mpr (e0j k v) (hv hw)
def b8K:q8:=([1,0,1,0,1,1,1,1,1,1,1,1,1],c7J)::b8J
theorem c7O:g7 Tryz.prog (g6 Tryz.f12) b8K:=g7.cons e0p (c7N)
def a3w:List LS:=[.b 2 16 [],.b 4 32 [],.v 7 yB,.c 16 tyX,.c 32 tyX]
def a6E:List LS:=[.b 2 16 [],.v 3 yI,.c 16 tyX]
def c1q:DX:=⟨none,some a6E,[]⟩
def d3o (k:Ex→St→Prop) (x3:Int) (x2b:tEx):Prop:=wfD a6E (x3,x2b,())→k .ret (mkD 124 a6E (x3,x2b,()))
def b3W (kr:Int→tEx→Prop) (rest7:LI) (x2b:tEx) (x4b:tEx):Prop:=
 a5e x4b rest7∧(
 ∀ (r9:tEx×Int),r9=a5d x4b rest7→(
 wfR (.tup [.v tyX r9.1,.v yI r9.2])→(
 kr r9.2 r9.1)))
def c7T (k:Ex→St→Prop) (v:l6 a3w):Prop:=b3W (d3o k) v.1 v.2.1 v.2.2.1
theorem e0k (k:Ex→St→Prop):∀ v:l6 a3w,ex tb (j8 b0B) b8K (at' (g6 Tryz.f12) [1,1,1,1,1,1,1,1,1,1]) [1,1,1,1,1,1,1,1,1,1] (mkD 124 a3w v) (wk 124 c1q k)=c7T k v
 | (rest7,x2b,x4b,())=>by kernel_rfl
def c7K:Pce:=fun st k=>ckD 124 a3w st fun v=>wfD a3w v→c7T k v
theorem e0q:j5 Tryz.prog (at' (g6 Tryz.f12) [1,1,1,1,1,1,1,1,1,1]) c7K:=
 (j5.wk (N:=124) (ds:=a3w) (dx:=c1q) (l3 o0 j9 a4M (c7O) (at' (g6 Tryz.f12) [1,1,1,1,1,1,1,1,1,1]) [1,1,1,1,1,1,1,1,1,1] rfl (g9 a75 [1,1,1,1,1,1,1,1,1,1]))).mono fun st k h=>l4 h fun v hv hw=>Eq.mpr (e0k k v) (hv hw)
def c7F:q8:=([1,1,1,1,1,1,1,1,1,1],c7K)::b8K
theorem e0d:g7 Tryz.prog (g6 Tryz.f12) c7F:=g7.cons e0q (c7O)
def c1r (line0:LI) (K:Res→List Cell→Prop):Prop:=
 b15 line0∧(
 ∀ (r1:tEx×Int×Int),r1=a96 line0→(
 wfR (.tup [.v tyX r1.1,.v yI r1.2.1,.v yI r1.2.2])→(
 bif (!decide (r1.2.2=(0:Int))) then
 K (.tup [.v tyX zX,.v yI r1.2.2]) []
 else
 C6 line0 r1.2.1∧(
 ∀ (r2:Int),r2=u5 line0 r1.2.1→(
 wI r2→(
 bif decide (0≤r2∧r2≤(List.length line0:Int)) then
 b2g (List.drop (Int.toNat r2) line0)∧(
 ∀ (r3:LI×Int),r3=b0w (List.drop (Int.toNat r2) line0)→(
 wfR (.tup [.v .str r3.1,.v yI r3.2])→(
 bif (decide (r3.2=(0:Int))) then
 bif (decide ((0:Int)<(List.length (List.drop (Int.toNat r2) line0):Int))) then
 K (.tup [.v tyX zX,.v yI (240:Int)]) []
 else
 bif (!r1.1.2.2.1) then
 bif (!r1.1.1.2.2.2.2.2) then
 K (.tup [.v tyX zX,.v yI (240:Int)]) []
 else
 K (.tup [.v tyX r1.1,.v yI (0:Int)]) []
 else
 K (.tup [.v tyX r1.1,.v yI (0:Int)]) []
 else
 bif decide (0≤r3.2∧r3.2≤(List.length (List.drop (Int.toNat r2) line0):Int)) then
 bif (decide (r3.1=([62]:LI))) then
 (wfD a3v ((List.drop (Int.toNat r3.2) (List.drop (Int.toNat r2) line0)),r3.1,r3.2,r3.1,(decide (r3.1=([62]:LI))),zX,(r1.1.1,r1.1.2.1,r1.1.2.2.1,r3.1,r1.1.2.2.2.2.1,r1.1.2.2.2.2.2.1,r1.1.2.2.2.2.2.2.1,r1.1.2.2.2.2.2.2.2.1,r1.1.2.2.2.2.2.2.2.2.1,r1.1.2.2.2.2.2.2.2.2.2),())→b3V (fun (x3:Int) (x2b:tEx)=>wfD a6D (x3,x2b,())→(
 K (.tup [.v tyX x2b,.v yI x3]) [])) (fun (rest7:LI) (x2b:tEx) (x4b:tEx)=>wfD a6C (rest7,x2b,x4b,())→(
 (wfD a3w (rest7,x2b,x4b,())→b3W (fun (x3:Int) (x2b:tEx)=>wfD a6E (x3,x2b,())→(
 K (.tup [.v tyX x2b,.v yI x3]) [])) rest7 x2b x4b))) (List.drop (Int.toNat r3.2) (List.drop (Int.toNat r2) line0)) r3.1 r3.2 r3.1 (decide (r3.1=([62]:LI))) zX (r1.1.1,r1.1.2.1,r1.1.2.2.1,r3.1,r1.1.2.2.2.2.1,r1.1.2.2.2.2.2.1,r1.1.2.2.2.2.2.2.1,r1.1.2.2.2.2.2.2.2.1,r1.1.2.2.2.2.2.2.2.2.1,r1.1.2.2.2.2.2.2.2.2.2))
 else
 (wfD a3v ((List.drop (Int.toNat r3.2) (List.drop (Int.toNat r2) line0)),r3.1,r3.2,r3.1,(decide (r3.1=([60]:LI))),zX,(r1.1.1,r1.1.2.1,r1.1.2.2.1,r3.1,r1.1.2.2.2.2.1,r1.1.2.2.2.2.2.1,r1.1.2.2.2.2.2.2.1,r1.1.2.2.2.2.2.2.2.1,r1.1.2.2.2.2.2.2.2.2.1,r1.1.2.2.2.2.2.2.2.2.2),())→b3V (fun (x3:Int) (x2b:tEx)=>wfD a6D (x3,x2b,())→(
 K (.tup [.v tyX x2b,.v yI x3]) [])) (fun (rest7:LI) (x2b:tEx) (x4b:tEx)=>wfD a6C (rest7,x2b,x4b,())→(
 (wfD a3w (rest7,x2b,x4b,())→b3W (fun (x3:Int) (x2b:tEx)=>wfD a6E (x3,x2b,())→(
 K (.tup [.v tyX x2b,.v yI x3]) [])) rest7 x2b x4b))) (List.drop (Int.toNat r3.2) (List.drop (Int.toNat r2) line0)) r3.1 r3.2 r3.1 (decide (r3.1=([60]:LI))) zX (r1.1.1,r1.1.2.1,r1.1.2.2.1,r3.1,r1.1.2.2.2.2.1,r1.1.2.2.2.2.2.1,r1.1.2.2.2.2.2.2.1,r1.1.2.2.2.2.2.2.2.1,r1.1.2.2.2.2.2.2.2.2.1,r1.1.2.2.2.2.2.2.2.2.2))
 else False)))
 else False))))))
def b6u:List AS:=[.v yB]
def a1G (rest7:LI) (x2b:tEx) (x4b:tEx):Prop:=
 C6 rest7 (0:Int)
def E7 (rest7:LI) (x2b:tEx) (x4b:tEx):Int×tEx:=
 let r4:Int:=u5 rest7 (0:Int)
 bif (!decide (r4=(List.length rest7:Int))) then
 ((240:Int),zX)
 else
 ((0:Int),x4b)
theorem b2i (kr:Int→tEx→Prop) (rest7:LI) (x2b:tEx) (x4b:tEx) (hp:a1G rest7 x2b x4b) (hr:∀ q:Int×tEx,q=E7 rest7 x2b x4b→kr q.1 q.2):b3T kr rest7 x2b x4b:=
 have h:=hr; ⟨hp,al (br0 h (fun _ h=>h _ rfl)
 fun _ h=>h _ rfl)⟩
def a3q (rest7:LI) (x2b:tEx) (x4b:tEx):Prop:=
 C6 rest7 (0:Int)∧(
 let r6:Int:=u5 rest7 (0:Int)
 (0≤r6∧r6≤(List.length rest7:Int))∧(
 a0P (List.drop (Int.toNat r6) rest7)∧(
 let r7:tAd×Int×Int:=Y8 (List.drop (Int.toNat r6) rest7)
 bif (!decide (r7.2.2=(0:Int))) then
 True
 else
 bif (!r7.1.2.2.2.2.2) then
 True
 else
 C6 rest7 (IntKind.wrap .i64 (r6+r7.2.1)))))
def a3p (rest7:LI) (x2b:tEx) (x4b:tEx):Int×tEx:=
 let r6:Int:=u5 rest7 (0:Int)
 let r7:tAd×Int×Int:=Y8 (List.drop (Int.toNat r6) rest7)
 bif (!decide (r7.2.2=(0:Int))) then
 (r7.2.2,zX)
 else
 bif (!r7.1.2.2.2.2.2) then
 ((240:Int),zX)
 else
 let r8:Int:=u5 rest7 (IntKind.wrap .i64 (r6+r7.2.1))
 bif (!decide (r8=(List.length rest7:Int))) then
 ((240:Int),zX)
 else
 ((0:Int),(x4b.1,x4b.2.1,x4b.2.2.1,x4b.2.2.2.1,r7.1,x4b.2.2.2.2.2.1,x4b.2.2.2.2.2.2.1,x4b.2.2.2.2.2.2.2.1,x4b.2.2.2.2.2.2.2.2.1,x4b.2.2.2.2.2.2.2.2.2))
theorem b2j (kr:Int→tEx→Prop) (rest7:LI) (x2b:tEx) (x4b:tEx) (hp:a3q rest7 x2b x4b) (hr:∀ q:Int×tEx,q=a3p rest7 x2b x4b→kr q.1 q.2):b3U kr rest7 x2b x4b:=
 have h:=hr; an1 hp fun hp=>al (as1 hp fun hp=>an1 hp fun hp=>al (br1 hp h (fun _ hp h=>h _ rfl)
 fun _ hp h=>br1 hp h (fun _ hp h=>h _ rfl)
 fun _ hp h=>⟨hp,al (br0 h (fun _ h=>h _ rfl)
 fun _ h=>h _ rfl)⟩))
def a6z (rest7:LI) (name8:LI) (x81:Bool) (x2b:tEx) (x4b:tEx):Prop:=
 bif x81 then
 bif (decide (name8=([99,111]:LI))) then
 a3q rest7 x2b (x4b.1,x4b.2.1,x4b.2.2.1,([116]:LI),x4b.2.2.2.2.1,x4b.2.2.2.2.2.1,x4b.2.2.2.2.2.2.1,x4b.2.2.2.2.2.2.2.1,x4b.2.2.2.2.2.2.2.2.1,x4b.2.2.2.2.2.2.2.2.2)
 else
 a3q rest7 x2b x4b
 else
 True
def a3r (rest7:LI) (name8:LI) (x81:Bool) (x2b:tEx) (x4b:tEx):(Int×tEx)⊕(LI×tEx×tEx):=
 bif x81 then
 bif (decide (name8=([99,111]:LI))) then
 let q1r:Int×tEx:=a3p rest7 x2b (x4b.1,x4b.2.1,x4b.2.2.1,([116]:LI),x4b.2.2.2.2.1,x4b.2.2.2.2.2.1,x4b.2.2.2.2.2.2.1,x4b.2.2.2.2.2.2.2.1,x4b.2.2.2.2.2.2.2.2.1,x4b.2.2.2.2.2.2.2.2.2)
 let x3:Int:=q1r.1
 let x2b:tEx:=q1r.2
 .inl (x3,x2b)
 else
 let q1r:Int×tEx:=a3p rest7 x2b x4b
 let x3:Int:=q1r.1
 let x2b:tEx:=q1r.2
 .inl (x3,x2b)
 else
 .inr (rest7,x2b,x4b)
theorem a74 (kr:Int→tEx→Prop) (kn:LI→tEx→tEx→Prop) (rest7:LI) (name8:LI) (x81:Bool) (x2b:tEx) (x4b:tEx) (hp:a6z rest7 name8 x81 x2b x4b) (hr:∀ q:Int×tEx,a3r rest7 name8 x81 x2b x4b=.inl q→kr q.1 q.2) (hn:∀ q:LI×tEx×tEx,a3r rest7 name8 x81 x2b x4b=.inr q→kn q.1 q.2.1 q.2.2):b0C kr kn rest7 name8 x81 x2b x4b:=
 have h:=hc2 hr hn; br1 hp h (fun _ hp h=>br1 hp h (fun _ hp h=>fun _=>b2j _ _ _ _ hp (al (h _ rfl)))
 fun _ hp h=>fun _=>b2j _ _ _ _ hp (al (h _ rfl)))
 fun _ hp h=>h _ rfl
def a3s (rest7:LI) (name8:LI) (n9:Int) (x58:LI) (x59:Bool) (x2b:tEx) (x4b:tEx):Prop:=
 bif x59 then
 bif (decide ((9999:Int)<n9)) then
 a1G rest7 x2b (x4b.1,x4b.2.1,x4b.2.2.1,x4b.2.2.2.1,x4b.2.2.2.2.1,x4b.2.2.2.2.2.1,(9999:Int),x4b.2.2.2.2.2.2.2.1,x4b.2.2.2.2.2.2.2.2.1,x4b.2.2.2.2.2.2.2.2.2)
 else
 a1G rest7 x2b (x4b.1,x4b.2.1,x4b.2.2.1,x4b.2.2.2.1,x4b.2.2.2.2.1,x4b.2.2.2.2.2.1,n9,x4b.2.2.2.2.2.2.2.1,x4b.2.2.2.2.2.2.2.2.1,x4b.2.2.2.2.2.2.2.2.2)
 else
 bif (decide (x58=([115]:LI))) then
 b17 x4b rest7
 else
 bif (decide (x58=([116]:LI))) then
 a6z rest7 name8 (decide (x58=([116]:LI))) x2b x4b
 else
 bif (decide (x58=([99,111]:LI))) then
 a6z rest7 name8 (decide (x58=([99,111]:LI))) x2b x4b
 else
 a6z rest7 name8 (decide (x58=([109]:LI))) x2b x4b
def M7 (rest7:LI) (name8:LI) (n9:Int) (x58:LI) (x59:Bool) (x2b:tEx) (x4b:tEx):(Int×tEx)⊕(LI×tEx×tEx):=
 bif x59 then
 bif (decide ((9999:Int)<n9)) then
 let q0r:Int×tEx:=E7 rest7 x2b (x4b.1,x4b.2.1,x4b.2.2.1,x4b.2.2.2.1,x4b.2.2.2.2.1,x4b.2.2.2.2.2.1,(9999:Int),x4b.2.2.2.2.2.2.2.1,x4b.2.2.2.2.2.2.2.2.1,x4b.2.2.2.2.2.2.2.2.2)
 let x3:Int:=q0r.1
 let x2b:tEx:=q0r.2
 .inl (x3,x2b)
 else
 let q0r:Int×tEx:=E7 rest7 x2b (x4b.1,x4b.2.1,x4b.2.2.1,x4b.2.2.2.1,x4b.2.2.2.2.1,x4b.2.2.2.2.2.1,n9,x4b.2.2.2.2.2.2.2.1,x4b.2.2.2.2.2.2.2.2.1,x4b.2.2.2.2.2.2.2.2.2)
 let x3:Int:=q0r.1
 let x2b:tEx:=q0r.2
 .inl (x3,x2b)
 else
 bif (decide (x58=([115]:LI))) then
 let r5:tEx×Int:=b16 x4b rest7
 .inl (r5.2,r5.1)
 else
 bif (decide (x58=([116]:LI))) then
 Sum.elim (fun q2r=>
 let x3:Int:=q2r.1
 let x2b:tEx:=q2r.2
 .inl (x3,x2b)) (fun q2n=>
 let rest7:LI:=q2n.1
 let x2b:tEx:=q2n.2.1
 let x4b:tEx:=q2n.2.2
 .inr (rest7,x2b,x4b)) (a3r rest7 name8 (decide (x58=([116]:LI))) x2b x4b)
 else
 bif (decide (x58=([99,111]:LI))) then
 Sum.elim (fun q2r=>
 let x3:Int:=q2r.1
 let x2b:tEx:=q2r.2
 .inl (x3,x2b)) (fun q2n=>
 let rest7:LI:=q2n.1
 let x2b:tEx:=q2n.2.1
 let x4b:tEx:=q2n.2.2
 .inr (rest7,x2b,x4b)) (a3r rest7 name8 (decide (x58=([99,111]:LI))) x2b x4b)
 else
 Sum.elim (fun q2r=>
 let x3:Int:=q2r.1
 let x2b:tEx:=q2r.2
 .inl (x3,x2b)) (fun q2n=>
 let rest7:LI:=q2n.1
 let x2b:tEx:=q2n.2.1
 let x4b:tEx:=q2n.2.2
 .inr (rest7,x2b,x4b)) (a3r rest7 name8 (decide (x58=([109]:LI))) x2b x4b)
theorem b2k (kr:Int→tEx→Prop) (kn:LI→tEx→tEx→Prop) (rest7:LI) (name8:LI) (n9:Int) (x58:LI) (x59:Bool) (x2b:tEx) (x4b:tEx) (hp:a3s rest7 name8 n9 x58 x59 x2b x4b) (hr:∀ q:Int×tEx,M7 rest7 name8 n9 x58 x59 x2b x4b=.inl q→kr q.1 q.2) (hn:∀ q:LI×tEx×tEx,M7 rest7 name8 n9 x58 x59 x2b x4b=.inr q→kn q.1 q.2.1 q.2.2):b3V kr kn rest7 name8 n9 x58 x59 x2b x4b:=
 have h:=hc2 hr hn; br1 hp h (fun _ hp h=>br1 hp h (fun _ hp h=>fun _=>b2i _ _ _ _ hp (al (h _ rfl)))
 fun _ hp h=>fun _=>b2i _ _ _ _ hp (al (h _ rfl)))
 fun _ hp h=>br1 hp h (fun _ hp h=>⟨hp,al (h _ rfl)⟩)
 fun _ hp h=>br1 hp h (fun _ hp h=>fun _=>a74 _ _ _ _ _ _ _ hp
 (fun _ e _=>have h:=sl e h; h _ rfl)
 (fun _ e _=>have h:=sr e h; h _ rfl))
 fun _ hp h=>br1 hp h (fun _ hp h=>fun _=>a74 _ _ _ _ _ _ _ hp
 (fun _ e _=>have h:=sl e h; h _ rfl)
 (fun _ e _=>have h:=sr e h; h _ rfl))
 fun _ hp h=>fun _=>a74 _ _ _ _ _ _ _ hp
 (fun _ e _=>have h:=sl e h; h _ rfl)
 (fun _ e _=>have h:=sr e h; h _ rfl)
def a1H (rest7:LI) (x2b:tEx) (x4b:tEx):Prop:=
 a5e x4b rest7
def Q1 (rest7:LI) (x2b:tEx) (x4b:tEx):Int×tEx:=
 let r9:tEx×Int:=a5d x4b rest7
 (r9.2,r9.1)
theorem b2l (kr:Int→tEx→Prop) (rest7:LI) (x2b:tEx) (x4b:tEx) (hp:a1H rest7 x2b x4b) (hr:∀ q:Int×tEx,q=Q1 rest7 x2b x4b→kr q.1 q.2):b3W kr rest7 x2b x4b:=
 have h:=hr; ⟨hp,al (h _ rfl)⟩
def a5m (line0:LI):Prop:=
 b15 line0∧(
 let r1:tEx×Int×Int:=a96 line0
 bif (!decide (r1.2.2=(0:Int))) then
 True
 else
 C6 line0 r1.2.1∧(
 let r2:Int:=u5 line0 r1.2.1
 (0≤r2∧r2≤(List.length line0:Int))∧(
 b2g (List.drop (Int.toNat r2) line0)∧(
 let r3:LI×Int:=b0w (List.drop (Int.toNat r2) line0)
 bif (decide (r3.2=(0:Int))) then
 True
 else
 (0≤r3.2∧r3.2≤(List.length (List.drop (Int.toNat r2) line0):Int))∧(
 bif (decide (r3.1=([62]:LI))) then
 a3s (List.drop (Int.toNat r3.2) (List.drop (Int.toNat r2) line0)) r3.1 r3.2 r3.1 (decide (r3.1=([62]:LI))) zX (r1.1.1,r1.1.2.1,r1.1.2.2.1,r3.1,r1.1.2.2.2.2.1,r1.1.2.2.2.2.2.1,r1.1.2.2.2.2.2.2.1,r1.1.2.2.2.2.2.2.2.1,r1.1.2.2.2.2.2.2.2.2.1,r1.1.2.2.2.2.2.2.2.2.2)∧(
 Sum.elim (fun q3r=>
 True) (fun q3n=>
 let rest7:LI:=q3n.1
 let x2b:tEx:=q3n.2.1
 let x4b:tEx:=q3n.2.2
 a1H rest7 x2b x4b) (M7 (List.drop (Int.toNat r3.2) (List.drop (Int.toNat r2) line0)) r3.1 r3.2 r3.1 (decide (r3.1=([62]:LI))) zX (r1.1.1,r1.1.2.1,r1.1.2.2.1,r3.1,r1.1.2.2.2.2.1,r1.1.2.2.2.2.2.1,r1.1.2.2.2.2.2.2.1,r1.1.2.2.2.2.2.2.2.1,r1.1.2.2.2.2.2.2.2.2.1,r1.1.2.2.2.2.2.2.2.2.2)))
 else
 a3s (List.drop (Int.toNat r3.2) (List.drop (Int.toNat r2) line0)) r3.1 r3.2 r3.1 (decide (r3.1=([60]:LI))) zX (r1.1.1,r1.1.2.1,r1.1.2.2.1,r3.1,r1.1.2.2.2.2.1,r1.1.2.2.2.2.2.1,r1.1.2.2.2.2.2.2.1,r1.1.2.2.2.2.2.2.2.1,r1.1.2.2.2.2.2.2.2.2.1,r1.1.2.2.2.2.2.2.2.2.2)∧(
 Sum.elim (fun q3r=>
 True) (fun q3n=>
 let rest7:LI:=q3n.1
 let x2b:tEx:=q3n.2.1
 let x4b:tEx:=q3n.2.2
 a1H rest7 x2b x4b) (M7 (List.drop (Int.toNat r3.2) (List.drop (Int.toNat r2) line0)) r3.1 r3.2 r3.1 (decide (r3.1=([60]:LI))) zX (r1.1.1,r1.1.2.1,r1.1.2.2.1,r3.1,r1.1.2.2.2.2.1,r1.1.2.2.2.2.2.1,r1.1.2.2.2.2.2.2.1,r1.1.2.2.2.2.2.2.2.1,r1.1.2.2.2.2.2.2.2.2.1,r1.1.2.2.2.2.2.2.2.2.2))))))))
def a2K (line0:LI):tEx×Int:=
 let r1:tEx×Int×Int:=a96 line0
 bif (!decide (r1.2.2=(0:Int))) then
 (zX,r1.2.2)
 else
 let r2:Int:=u5 line0 r1.2.1
 let r3:LI×Int:=b0w (List.drop (Int.toNat r2) line0)
 bif (decide (r3.2=(0:Int))) then
 bif (decide ((0:Int)<(List.length (List.drop (Int.toNat r2) line0):Int))) then
 (zX,(240:Int))
 else
 bif (!r1.1.2.2.1) then
 bif (!r1.1.1.2.2.2.2.2) then
 (zX,(240:Int))
 else
 (r1.1,(0:Int))
 else
 (r1.1,(0:Int))
 else
 bif (decide (r3.1=([62]:LI))) then
 Sum.elim (fun q3r=>
 let x3:Int:=q3r.1
 let x2b:tEx:=q3r.2
 (x2b,x3)) (fun q3n=>
 let rest7:LI:=q3n.1
 let x2b:tEx:=q3n.2.1
 let x4b:tEx:=q3n.2.2
 let q4r:Int×tEx:=Q1 rest7 x2b x4b
 let x3:Int:=q4r.1
 let x2b:tEx:=q4r.2
 (x2b,x3)) (M7 (List.drop (Int.toNat r3.2) (List.drop (Int.toNat r2) line0)) r3.1 r3.2 r3.1 (decide (r3.1=([62]:LI))) zX (r1.1.1,r1.1.2.1,r1.1.2.2.1,r3.1,r1.1.2.2.2.2.1,r1.1.2.2.2.2.2.1,r1.1.2.2.2.2.2.2.1,r1.1.2.2.2.2.2.2.2.1,r1.1.2.2.2.2.2.2.2.2.1,r1.1.2.2.2.2.2.2.2.2.2))
 else
 Sum.elim (fun q3r=>
 let x3:Int:=q3r.1
 let x2b:tEx:=q3r.2
 (x2b,x3)) (fun q3n=>
 let rest7:LI:=q3n.1
 let x2b:tEx:=q3n.2.1
 let x4b:tEx:=q3n.2.2
 let q4r:Int×tEx:=Q1 rest7 x2b x4b
 let x3:Int:=q4r.1
 let x2b:tEx:=q4r.2
 (x2b,x3)) (M7 (List.drop (Int.toNat r3.2) (List.drop (Int.toNat r2) line0)) r3.1 r3.2 r3.1 (decide (r3.1=([60]:LI))) zX (r1.1.1,r1.1.2.1,r1.1.2.2.1,r3.1,r1.1.2.2.2.2.1,r1.1.2.2.2.2.2.1,r1.1.2.2.2.2.2.2.1,r1.1.2.2.2.2.2.2.2.1,r1.1.2.2.2.2.2.2.2.2.1,r1.1.2.2.2.2.2.2.2.2.2))
theorem e0f (line0:LI) (K:Res→List Cell→Prop) (_:wfA b6u (line0,())) (hp:a5m line0) (h:∀ r:tEx×Int,r=a2K line0→K (.tup [.v tyX r.1,.v yI r.2]) []):c1r line0 K:=
 an1 hp fun hp=>al (br1 hp h (fun _ hp h=>h _ rfl)
 fun _ hp h=>an1 hp fun hp=>al (as1 hp fun hp=>an1 hp fun hp=>al (br1 hp h (fun _ hp h=>br0 h (fun _ h=>h _ rfl)
 fun _ h=>br0 h (fun _ h=>br0 h (fun _ h=>h _ rfl)
 fun _ h=>h _ rfl)
 fun _ h=>h _ rfl)
 fun _ hp h=>as1 hp fun hp=>br1 hp h (fun _ hp h=>fun _=>b2k _ _ _ _ _ _ _ _ _ hp.1
 (fun _ e _=>have h:=sl e h; h _ rfl)
 (fun _ e _=>have h:=sr e h; have hp:=cR e hp.2; fun _=>b2l _ _ _ _ hp (al (h _ rfl))))
 fun _ hp h=>fun _=>b2k _ _ _ _ _ _ _ _ _ hp.1
 (fun _ e _=>have h:=sl e h; h _ rfl)
 (fun _ e _=>have h:=sr e h; have hp:=cR e hp.2; fun _=>b2l _ _ _ _ hp (al (h _ rfl))))))
def e5K (v:j3 b6u) (K:Res→List Cell→Prop):Prop:=a5m v.1∧∀ r:tEx×Int,r=a2K v.1→K (.tup [.v tyX r.1,.v yI r.2]) []
def d5O:App:=specW b6u e5K
theorem e0l (K:Res→List Cell→Prop):∀ v:j3 b6u,q7 tb (j8 b0B) c7F Tryz.f12 [true,true] (mkA b6u v) K=c1r v.1 K
 | (line0,())=>by kernel_rfl
theorem e0e:g8 Tryz.prog 12 d5O:=
 g8.specW (l9 ((l8 o0 j9 a4M (e0d) (f:=12) (fn:=Tryz.f12) (by kernel_rfl) (by kernel_rfl) a75 [true,true])) fun v K hw h=>(e0l K v).mpr (e0f v.1 K hw h.1 h.2))
end Go.VE
namespace Go.VE
def ix (s l:LI):Int:=(s.length:Int) - l.length
section
variable {s l:LI}
theorem V8 (h:l <:+ s):s.drop (ix s l).toNat=l:=a1s h
theorem a15 (s:LI):ix s s=0:=Int.sub_self _
theorem O8 (h:l <:+ s):C6 s (ix s l)∧u5 s (ix s l)=ix s (bk l):=by
 have h1:=B1 h
 have h2:=b7S l
 refine ⟨⟨show 0≤(s.length:Int) - l.length by omega,show (s.length:Int) - l.length≤s.length by omega⟩,?_⟩
 unfold u5
 rw [V8 h]
 show (s.length:Int) - l.length+(bls l:Int)=(s.length:Int) - (bk l).length
 rw [c31]
 omega
theorem c2R {c:Int} {r:LI} (h:c::r <:+ s):rd (0:Int) s (ix s (c::r))=c:=by
 have hd:=V8 h
 have h1:=B1 h
 simp only [List.length_cons] at h1
 have e:(ix s (c::r)).toNat<s.length:=by unfold ix; simp only [List.length_cons]; omega
 rw [List.drop_eq_getElem_cons e] at hd
 unfold rd
 injection hd with h2 _
 simp [e,h2]
theorem b99 {c:Int} {r:LI} (h:c::r <:+ s):0≤ix s (c::r)∧ix s (c::r)<(s.length:Int):=by
 have h1:=B1 h
 simp only [List.length_cons] at h1
 unfold ix; simp only [List.length_cons]; omega
theorem b5r (h:l <:+ s):0≤ix s l∧ix s l≤(s.length:Int):=by
 have h1:=B1 h
 unfold ix; omega
theorem b25 {c:Int} {r:LI} (h:c::r <:+ s) (hs:s.length≤lim):IntKind.wrap .i64 (ix s (c::r)+1)=ix s r:=by
 have hlim:lim=1099511627776:=rfl
 have h1:=B1 h
 simp only [List.length_cons] at h1
 unfold ix
 rw [List.length_cons,wrap_i64 (by omega) (by omega)]
 omega
theorem b23 {r:LI} (h:l <:+ s) (hr:r <:+ l) (hs:s.length≤lim):IntKind.wrap .i64 (ix s l+((l.length:Int) - r.length))=ix s r:=by
 have hlim:lim=1099511627776:=rfl
 have h1:=B1 h
 have h2:=B1 hr
 unfold ix
 rw [wrap_i64 (by omega) (by omega)]
 omega
theorem a9A:ix s []=s.length:=by unfold ix; simp
theorem b5d (s:LI) (hs:s.length≤lim):b15 s∧a96 s=(match spM (bk s) with
  | .inl ((_,a,b,w),r)=>(exB a b w,ix s r,0)
  | .inr e=>(exZ,0,e)):=by
 have hlim:lim=1099511627776:=rfl
 have hss:=List.suffix_refl s
 have hb:=D2 s
 obtain ⟨bp,bf⟩:=O8 hss
 rw [a15] at bp bf
 unfold b15 a96
 simp only [bf]
 cases hl:bk s with
 | nil=>
  rw [hl] at hb
  obtain ⟨rp,rf⟩:=a7t [] (by simp)
  have e1:adM []=.inl (p9,[]):=rfl
  have e2:spM []=.inl ((false,p9,p9,false),[]):=rfl
  have ixl:=b5r hb
  obtain ⟨pp,pf⟩:=O8 hb
  have w0:IntKind.wrap .i64 (ix s []+((([]:LI).length:Int) - (([]:LI).length:Int)))=ix s []:=b23 hb (List.suffix_refl _) hs
  rw [decide_eq_false (by rw [a9A]; omega),e2]
  simp only [cond_false,V8 hb,rf,e1,adR,w0,pf]
  have e3:decide ((s.length:Int)≤ix s (bk []))=true:=decide_eq_true (by rw [show bk ([]:LI)=[] from rfl,a9A]; omega)
  rw [e3]
  exact ⟨⟨bp,ixl,rp,pp,trivial⟩,rfl⟩
 | cons c t=>
  rw [hl] at hb
  have hsl:=B1 hb
  obtain ⟨rp,rf⟩:=a7t (c::t) (by omega)
  have ixi:=b99 hb
  have ixl:=b5r hb
  rw [decide_eq_true ixi.2]
  simp only [cond_true,c2R hb,V8 hb,rf]
  unfold spM
  rw [L4]
  by_cases c1:c=37
  ·rw [decide_eq_true c1,if_pos c1,b25 hb hs]
   exact ⟨⟨bp,ixi,trivial⟩,rfl⟩
  rw [decide_eq_false c1,if_neg c1]
  dsimp only
  rcases ha:adM (c::t) with ⟨a,r⟩ | e
  ·have hr:=(a0H _ ha)
   obtain ⟨pp,pf⟩:=O8 (hr.trans hb)
   have hbr:=(D2 r).trans (hr.trans hb)
   simp only [adR,b23 hb hr hs,pf]
   cases hk:bk r with
   | nil=>
    rw [decide_eq_true (show (s.length:Int)≤ix s [] by rw [a9A]; omega)]
    exact ⟨⟨bp,ixi,ixl,rp,pp,trivial⟩,rfl⟩
   | cons d u=>
    rw [hk] at hbr
    have ixd:=b99 hbr
    rw [decide_eq_false (show ¬ (s.length:Int)≤ix s (d::u) by omega),c2R hbr,b25 hbr hs,L4]
    have hu:=(List.suffix_cons d u).trans hbr
    by_cases c2:d=44
    ·rw [decide_eq_true c2,if_pos c2]
     obtain ⟨qp,qf⟩:=O8 hu
     have hbu:=(D2 u).trans hu
     have hbl:=B1 hbu
     obtain ⟨rp2,rf2⟩:=a7t (bk u) (by omega)
     have ixu:=b5r hbu
     simp only [qf,V8 hbu,rf2]
     refine ⟨⟨bp,ixi,ixl,rp,pp,ixd,qp,ixu,rp2⟩,?_⟩
     rcases hb2:adM (bk u) with ⟨b,v⟩ | e
     ·have hv:=a0H _ hb2
      have j0:∀ a':Adr,a0k (ix s (bk u)) (((bk u).length:Int) - v.length) exZ (a',b,false,[],p9,0,0,[],[],false)=(ix s v,0,exB a' (b97 b) false):=fun a'=>by
       unfold a0k
       rw [b23 hbu hv hs]
       obtain ⟨b1,b2,b3,b4,b5,g⟩:=b
       cases g <;> rfl
      obtain ⟨a1,a2,a3,a4,a5,g⟩:=a
      cases g
      ·exact congrArg (fun q=>(q.2.2,q.1,q.2.1)) (j0 _)
      ·exact congrArg (fun q=>(q.2.2,q.1,q.2.1)) (j0 _)
     ·have:=Z9 _ hb2
      subst this; rfl
    ·rw [decide_eq_false c2,if_neg c2]
     exact ⟨⟨bp,ixi,ixl,rp,pp,ixd,trivial⟩,rfl⟩
  ·have:=Z9 _ ha
   subst this
   exact ⟨⟨bp,ixi,ixl,rp,trivial⟩,rfl⟩
end
end Go.VE
namespace Go.VE
def swp (p:ExD×Int):Int×ExD:=(p.2,p.1)
def cnX (x:ExD) (l:LI):Rd ExD:=match cnM l with
 | .inl (n,t)=>.inl (exN x n,t)
 | .inr e=>.inr e
theorem b1L:∀ l,bk (bk l)=bk l
 | []=>rfl
 | c::r=>by
  unfold bk
  rw [a5N]
  by_cases h:c=32∨c=9
  ·rw [if_pos h]
   exact b1L r
  ·rw [if_neg h]
   show (c::r).drop (bls (c::r))=c::r
   rw [a5N,if_neg h]; rfl
section
variable {s l:LI}
theorem b24:decide (ix s l=(s.length:Int))=decide (l=[]):=by
 unfold ix
 cases l with
 | nil=>simp
 | cons c r=>rw [decide_eq_false (by simp only [List.length_cons]; omega),decide_eq_false (by simp)]
theorem d65 (h:l <:+ s) (x x4:ExD):a1w s (ix s l) x x4∧P0 s (ix s l) x x4=swp (toB (enM (.inl (x,l)))):=by
 obtain ⟨pp,pf⟩:=O8 h
 refine ⟨pp,?_⟩
 unfold P0
 simp only [pf,b24,enM]
 by_cases c:bk l=[]
 ·rw [decide_eq_true c,if_pos c]; rfl
 ·rw [decide_eq_false c,if_neg c]; rfl
theorem d4T (h:l <:+ s) (x x4:ExD):B6 s (ix s l) true x x4∧B2 s (ix s l) true x x4=swp (toB (enM (.inl (x,l)))):=d65 h x x4
theorem c4u (h:l <:+ s) (hs:s.length≤lim) (hb:bk l=l) (x x4:ExD) (hx:x.2.2.2.2.2.2.1=0):B6 s (ix s l) false x x4∧B2 s (ix s l) false x x4=swp (toB (enM (cnX x l))):=by
 have jj:=d65 h x x4
 have e:exN x 0=x:=by
  obtain ⟨x1,x2,x3,x4,x5,x6,x7,x8,x9,x10⟩:=x
  cases hx; rfl
 unfold B6 B2 cnX cnM
 rw [hb]
 cases l with
 | nil=>
  rw [decide_eq_false (show ¬ ix s []<(s.length:Int) by rw [a9A]; omega)]
  rw [show L8 (([]:LI).headD 0)=false from rfl]
  refine ⟨jj.1,?_⟩
  show P0 s (ix s []) x x4=swp (toB (enM (Sum.inl (exN x 0,[]))))
  rw [e]; exact jj.2
 | cons c r=>
  have ixi:=b99 h
  rw [decide_eq_true ixi.2]
  rw [show (c::r).headD 0=c from rfl]
  simp only [c2R h,b1i]
  by_cases hg:L8 c=true
  case neg=>
   have hg:L8 c=false:=by simpa using hg
   rw [hg]
   refine ⟨⟨ixi,jj.1⟩,?_⟩
   show P0 s (ix s (c::r)) x x4=swp (toB (enM (Sum.inl (exN x 0,c::r))))
   rw [e]; exact jj.2
  case pos=>
   rw [hg]
   have lp:a92 s (ix s (c::r)) x x4:=⟨ixi.1,by omega,hs,by omega,by omega⟩
   have hd:=V8 h
   have hdl:=R0 (c::r)
   have h1:=B1 h
   have e:a3i s (ix s (c::r)) x x4=(s,ix s ((c::r).drop (dgs (c::r))),exN x (cnt 0 (c::r)),x4):=by
    unfold a3i
    rw [hd,hx,show ix s (c::r)+(dgs (c::r):Int)=ix s ((c::r).drop (dgs (c::r))) by unfold ix; rw [List.length_drop]; omega]
   simp only [e,if_true]
   have j2:=d65 ((List.drop_suffix (dgs (c::r)) (c::r)).trans h) (exN x (cnt 0 (c::r))) x4
   by_cases c0:cnt 0 (c::r)=0
   ·have:(exN x (cnt 0 (c::r))).2.2.2.2.2.2.1=0:=c0
    rw [if_pos c0,decide_eq_true this]
    exact ⟨⟨ixi,lp,trivial⟩,rfl⟩
   ·have:¬ (exN x (cnt 0 (c::r))).2.2.2.2.2.2.1=0:=c0
    rw [if_neg c0,decide_eq_false this]
    exact ⟨⟨ixi,lp,j2.1⟩,j2.2⟩
theorem d1I (c:Int):a2J c=a7s c:=by
 have w1:97≤c→c≤122→IntKind.wrap .i64 (IntKind.wrap .u8 (c - 97))=c - 97:=fun h1 h2=>by
  rw [N1 (by omega) (by omega),wrap_i64 (by omega) (by omega)]
 have w2:65≤c→c≤90→IntKind.wrap .i64 (IntKind.wrap .u8 (c - 65))=c - 65:=fun h1 h2=>by
  rw [N1 (by omega) (by omega),wrap_i64 (by omega) (by omega)]
 unfold a2J a7s a9L b0p
 by_cases h1:c=0
 ·simp [h1]
 by_cases h2:c=34
 ·simp [h2]
 by_cases h3:c=45
 ·simp [h3]
 by_cases h4:49≤c <;> by_cases h5:c≤57 <;> by_cases h6:97≤c <;> by_cases h7:c≤122 <;> by_cases h8:65≤c <;> by_cases h9:c≤90 <;> first | omega | (simp [h1,h2,h3,h4,h5,h6,h7,h8,h9]; try (first | (rw [w1 h6 h7]; omega) | (rw [w2 h8 h9]; omega)))
end
end Go.VE
namespace Go.VE
def exR (x:ExD) (c:Int):ExD:=(x.1,x.2.1,x.2.2.1,x.2.2.2.1,x.2.2.2.2.1,c,x.2.2.2.2.2.2.1,x.2.2.2.2.2.2.2.1,x.2.2.2.2.2.2.2.2.1,x.2.2.2.2.2.2.2.2.2)
theorem d60 (x:ExD) (l:LI):enM (.inl (x,bk l))=enM (.inl (x,l)):=by unfold enM; dsimp only; rw [b1L]
theorem d6Z (l:LI):cnM (bk l)=cnM l:=by unfold cnM; rw [b1L]
theorem c38 (x:ExD) (l:LI):cnX x (bk l)=cnX x l:=by unfold cnX; rw [d6Z]
theorem d4P {x:ExD} (h:x.2.2.2.2.2.1=0):exR x 0=x:=by
 obtain ⟨x1,x2,x3,x4,x5,x6,x7,x8,x9,x10⟩:=x
 cases h; rfl
section
variable (s:LI) (hs:s.length≤lim) (x:ExD) (hx:x.2.2.2.2.2.2.1=0) (hr:x.2.2.2.2.2.1=0)
include hs hx hr
theorem d6O (put:Bool) (kP:Int→ExD→Prop) (kF:Int→ExD→ExD×Int) (res:ExD→LI→ExD×Int)
  (hk:∀ (l:LI) (y:ExD),l <:+ s→bk l=l→y.2.2.2.2.2.2.1=0→kP (ix s l) y∧kF (ix s l) y=res y l) (hres:∀ y l,res y (bk l)=res y l) :
  (bif decide (ix s (bk s)<(s.length:Int)) then ((0≤ix s (bk s)∧ix s (bk s)<(s.length:Int))∧(bif !decide (rd (0:Int) s (ix s (bk s))=0) then ((0≤ix s (bk s)∧ix s (bk s)<(s.length:Int))∧(bif a2J (rd (0:Int) s (ix s (bk s))) then (bif put then ((0≤ix s (bk s)∧ix s (bk s)<(s.length:Int))∧(C6 s (IntKind.wrap .i64 (ix s (bk s)+1))∧kP (u5 s (IntKind.wrap .i64 (ix s (bk s)+1))) (exR x (rd (0:Int) s (ix s (bk s)))))) else ((0≤ix s (bk s)∧ix s (bk s)<(s.length:Int))∧(bif !(a1z (rd (0:Int) s (ix s (bk s)))) then ((0≤ix s (bk s)∧ix s (bk s)<(s.length:Int))∧(C6 s (IntKind.wrap .i64 (ix s (bk s)+1))∧kP (u5 s (IntKind.wrap .i64 (ix s (bk s)+1))) (exR x (rd (0:Int) s (ix s (bk s)))))) else kP (ix s (bk s)) x))) else kP (ix s (bk s)) x)) else kP (ix s (bk s)) x)) else kP (ix s (bk s)) x)∧
  (bif decide (ix s (bk s)<(s.length:Int)) then (bif !decide (rd (0:Int) s (ix s (bk s))=0) then (bif a2J (rd (0:Int) s (ix s (bk s))) then (bif put then kF (u5 s (IntKind.wrap .i64 (ix s (bk s)+1))) (exR x (rd (0:Int) s (ix s (bk s)))) else (bif !(a1z (rd (0:Int) s (ix s (bk s)))) then kF (u5 s (IntKind.wrap .i64 (ix s (bk s)+1))) (exR x (rd (0:Int) s (ix s (bk s)))) else kF (ix s (bk s)) x)) else kF (ix s (bk s)) x) else kF (ix s (bk s)) x) else kF (ix s (bk s)) x)=res (exR x (rg put s).1) (rg put s).2:=by
 have hb:=D2 s
 have k0:=hk (bk s) x hb (b1L s) hx
 unfold rg
 cases hl:bk s with
 | nil=>
  rw [hl] at k0
  rw [decide_eq_false (show ¬ ix s []<(s.length:Int) by rw [a9A]; omega)]
  refine ⟨k0.1,?_⟩
  show kF (ix s []) x=res (exR x 0) []
  rw [d4P hr]; exact k0.2
 | cons c r=>
  rw [hl] at k0 hb
  have ixi:=b99 hb
  have hrr:=(List.suffix_cons c r).trans hb
  obtain ⟨pp,pf⟩:=O8 hrr
  have k1:=hk (bk r) (exR x c) ((D2 r).trans hrr) (b1L r) hx
  rw [hres] at k1
  rw [decide_eq_true ixi.2]
  simp only [c2R hb,b25 hb hs,pf,b1i,d1I]
  have no:kF (ix s (c::r)) x=res (exR x 0) (c::r):=by rw [d4P hr]; exact k0.2
  by_cases c0:c=0
  ·rw [decide_eq_true c0,if_pos (.inl c0)]
   exact ⟨⟨ixi,k0.1⟩,no⟩
  ·rw [decide_eq_false c0]
   cases hv:a7s c
   ·rw [if_pos (.inr (.inl rfl))]
    exact ⟨⟨ixi,ixi,k0.1⟩,no⟩
   ·cases put
    ·cases hg:L8 c
     ·rw [if_neg (by simp [c0])]
      exact ⟨⟨ixi,ixi,ixi,ixi,pp,k1.1⟩,k1.2⟩
     ·rw [if_pos (by simp)]
      exact ⟨⟨ixi,ixi,ixi,k0.1⟩,no⟩
    ·rw [if_neg (by simp [c0])]
     exact ⟨⟨ixi,ixi,ixi,pp,k1.1⟩,k1.2⟩
theorem b9E (hn:x.2.2.2.1=[112,117]∨x.2.2.2.1=[112,117,33]):a5e x s∧a5d x s=toB (enM (.inl (exR x (rg true s).1,(rg true s).2))):=by
 obtain ⟨bp,bf⟩:=O8 (List.suffix_refl s)
 rw [a15] at bp bf
 have key:=d6O s hs x hx hr true (fun i y=>B6 s i true y exZ) (fun i y=>((B2 s i true y exZ).2,(B2 s i true y exZ).1)) (fun y l=>toB (enM (.inl (y,l))))
  (fun l y hl _ _=>⟨(d4T hl y exZ).1,by rw [(d4T hl y exZ).2]; rfl⟩) (fun y l=>congrArg toB (d60 y l))
 unfold a5e a5d
 simp only [bf]
 rcases hn with hn | hn
 ·rw [show decide (x.2.2.2.1=[112,117])=true by rw [hn]; rfl,show decide (x.2.2.2.1=[106])=false by rw [hn]; rfl,show decide (x.2.2.2.1=[106,33])=false by rw [hn]; rfl]
  exact ⟨⟨bp,key.1⟩,key.2⟩
 ·rw [show decide (x.2.2.2.1=[112,117])=false by rw [hn]; rfl,show decide (x.2.2.2.1=[106])=false by rw [hn]; rfl,show decide (x.2.2.2.1=[106,33])=false by rw [hn]; rfl,show decide (x.2.2.2.1=[112,117,33])=true by rw [hn]; rfl]
  exact ⟨⟨bp,key.1⟩,key.2⟩
theorem c32 (hn:x.2.2.2.1=[100]∨x.2.2.2.1=[121]):a5e x s∧a5d x s=toB (enM (cnX (exR x (rg false s).1) (rg false s).2)):=by
 obtain ⟨bp,bf⟩:=O8 (List.suffix_refl s)
 rw [a15] at bp bf
 have key:=d6O s hs x hx hr false (fun i y=>B6 s i false y exZ) (fun i y=>((B2 s i false y exZ).2,(B2 s i false y exZ).1)) (fun y l=>toB (enM (cnX y l)))
  (fun l y hl hb hy=>⟨(c4u hl hs hb y exZ hy).1,by rw [(c4u hl hs hb y exZ hy).2]; rfl⟩) (fun y l=>by rw [c38])
 unfold a5e a5d
 simp only [bf]
 rcases hn with hn | hn
 ·rw [show decide (x.2.2.2.1=[112,117])=false by rw [hn]; rfl,show decide (x.2.2.2.1=[106])=false by rw [hn]; rfl,show decide (x.2.2.2.1=[106,33])=false by rw [hn]; rfl,show decide (x.2.2.2.1=[112,117,33])=false by rw [hn]; rfl]
  exact ⟨⟨bp,key.1⟩,key.2⟩
 ·rw [show decide (x.2.2.2.1=[112,117])=false by rw [hn]; rfl,show decide (x.2.2.2.1=[106])=false by rw [hn]; rfl,show decide (x.2.2.2.1=[106,33])=false by rw [hn]; rfl,show decide (x.2.2.2.1=[112,117,33])=false by rw [hn]; rfl]
  exact ⟨⟨bp,key.1⟩,key.2⟩
theorem d4N (hn:x.2.2.2.1=[106]∨x.2.2.2.1=[106,33]):a5e x s∧a5d x s=toB (enM (cnX x s)):=by
 obtain ⟨bp,bf⟩:=O8 (List.suffix_refl s)
 rw [a15] at bp bf
 have jj:=c4u (D2 s) hs (b1L s) x exZ hx
 rw [c38] at jj
 unfold a5e a5d
 simp only [bf]
 rcases hn with hn | hn
 ·rw [show decide (x.2.2.2.1=[112,117])=false by rw [hn]; rfl,show decide (x.2.2.2.1=[106])=true by rw [hn]; rfl,show decide (x.2.2.2.1=[112,117,33])=false by rw [hn]; rfl]
  exact ⟨⟨bp,jj.1⟩,congrArg (fun q:Int×ExD=>(q.2,q.1)) jj.2⟩
 ·rw [show decide (x.2.2.2.1=[112,117])=false by rw [hn]; rfl,show decide (x.2.2.2.1=[106])=false by rw [hn]; rfl,show decide (x.2.2.2.1=[106,33])=true by rw [hn]; rfl,show decide (x.2.2.2.1=[112,117,33])=false by rw [hn]; rfl]
  exact ⟨⟨bp,jj.1⟩,congrArg (fun q:Int×ExD=>(q.2,q.1)) jj.2⟩
end
end Go.VE
namespace Go.VE
theorem c26 (r:LI):a5k r=if clo r 47<r.length then (clo r 47:Int) else -1:=by
 unfold a5k a1A
 split <;> rfl
theorem d1C (r:LI):b2h r=alo r:=by
 unfold b2h a1F
 cases alo r <;> rfl
theorem b7W (a b:Adr) (w:Bool) (l:LI) (hl:l.length≤lim):b17 (a,b,w,[115],p9,0,0,[],[],false) l∧b16 (a,b,w,[115],p9,0,0,[],[],false) l=toB (enM (rpM a b w l)):=by
 have hlim:lim=1099511627776:=rfl
 unfold b17 b16 rpM
 cases l with
 | nil=>exact ⟨trivial,rfl⟩
 | cons c r=>
  have hn:decide (((c::r).length:Int)=0)=false:=decide_eq_false (by simp only [List.length_cons]; omega)
  have e0:rd (0:Int) (c::r) 0=c:=rfl
  have hd:List.drop (Int.toNat (1:Int)) (c::r)=r:=rfl
  have hr0:(0:Int)≤0∧(0:Int)<((c::r).length:Int):=by simp only [List.length_cons]; omega
  have hr1:(0:Int)≤1∧(1:Int)≤((c::r).length:Int):=by simp only [List.length_cons]; omega
  have hl2:r.length+1≤lim:=hl
  rw [hn,L4]
  simp only [e0,hd,cond_false,c26,d1C]
  by_cases c1:c=47
  case neg=>
   rw [decide_eq_false c1,if_neg c1]
   exact ⟨⟨hr0,trivial⟩,rfl⟩
  rw [decide_eq_true c1,if_pos c1]
  have hc:=a1Y r 47
  have cp:a8q r:=⟨rfl,by omega⟩
  dsimp only
  unfold ptM
  by_cases c2:clo r 47<r.length
  case neg=>
   rw [if_neg c2,if_neg c2,decide_eq_true (show (-1:Int)<0 by decide)]
   refine ⟨⟨hr0,hr1,cp,trivial⟩,?_⟩
   cases alo r <;> rfl
  rw [if_pos c2,if_pos c2,decide_eq_false (show ¬ (clo r 47:Int)<0 by omega)]
  have w1:IntKind.wrap .i64 ((clo r 47:Int)+1)=((clo r 47+1:Nat):Int):=by rw [wrap_i64 (by omega) (by omega)]; omega
  simp only [w1,Int.toNat_natCast,List.nil_append]
  have a1:(0:Int)≤(clo r 47:Int)∧(clo r 47:Int)≤(r.length:Int):=by omega
  have a2:([]:LI).length+(r.take (clo r 47)).length≤lim:=by rw [List.length_take]; simp only [List.length_nil]; omega
  have a3:(0:Int)≤((clo r 47+1:Nat):Int)∧((clo r 47+1:Nat):Int)≤(r.length:Int):=by omega
  have htl:(r.drop (clo r 47+1)).length+1≤r.length:=by rw [List.length_drop]; omega
  generalize r.drop (clo r 47+1)=t at htl ⊢
  have hc2:=a1Y t 47
  have cp2:a8q t:=⟨rfl,by omega⟩
  by_cases c3:clo t 47<t.length
  case neg=>
   rw [if_neg c3,if_neg c3,decide_eq_true (show (-1:Int)<0 by decide)]
   refine ⟨⟨hr0,hr1,cp,a1,a2,a3,cp2,show ([]:LI).length+t.length≤lim by simp only [List.length_nil]; omega,⟨rfl,by omega⟩⟩,?_⟩
   cases alo t <;> rfl
  rw [if_pos c3,if_pos c3,decide_eq_false (show ¬ (clo t 47:Int)<0 by omega)]
  have w2:IntKind.wrap .i64 ((clo t 47:Int)+1)=((clo t 47+1:Nat):Int):=by rw [wrap_i64 (by omega) (by omega)]; omega
  simp only [w2,Int.toNat_natCast]
  have b1:(0:Int)≤(clo t 47:Int)∧(clo t 47:Int)≤(t.length:Int):=by omega
  have b2:([]:LI).length+(t.take (clo t 47)).length≤lim:=by rw [List.length_take]; simp only [List.length_nil]; omega
  have b3:(0:Int)≤((clo t 47+1:Nat):Int)∧((clo t 47+1:Nat):Int)≤(t.length:Int):=by omega
  generalize t.drop (clo t 47+1)=u
  -- the end
  have j0:∀ (v:LI) (x x4:ExD),a3j v x x4∧a1x v x x4=swp (toB (enM (.inl (x,v)))):=by
   intro v x x4
   obtain ⟨pp,pf⟩:=O8 (List.suffix_refl v)
   rw [a15] at pp pf
   refine ⟨pp,?_⟩
   unfold a1x
   simp only [pf,b24,enM]
   by_cases c:bk v=[]
   ·rw [decide_eq_true c,if_pos c]; rfl
   ·rw [decide_eq_false c,if_neg c]; rfl
  cases u with
  | nil=>
   have:=j0 [] (a,b,w,[115],p9,0,0,r.take (clo r 47),t.take (clo t 47),false) exZ
   exact ⟨⟨hr0,hr1,cp,a1,a2,a3,cp2,b1,b2,b3,this.1⟩,congrArg (fun q:Int×ExD=>(q.2,q.1)) this.2⟩
  | cons d v=>
   have hq:decide ((0:Int)<((d::v).length:Int))=true:=decide_eq_true (by simp only [List.length_cons]; omega)
   have q0:(0:Int)≤0∧(0:Int)<((d::v).length:Int):=by simp only [List.length_cons]; omega
   have q1:(0:Int)≤1∧(1:Int)≤((d::v).length:Int):=by simp only [List.length_cons]; omega
   have e1:rd (0:Int) (d::v) 0=d:=rfl
   have hd1:List.drop (Int.toNat (1:Int)) (d::v)=v:=rfl
   rw [hq,L4]
   simp only [e1,hd1]
   by_cases c4:d=103
   ·rw [decide_eq_true c4,if_pos c4]
    have:=j0 v (a,b,w,[115],p9,0,0,r.take (clo r 47),t.take (clo t 47),true) exZ
    exact ⟨⟨hr0,hr1,cp,a1,a2,a3,cp2,b1,b2,b3,q0,q1,this.1⟩,congrArg (fun q:Int×ExD=>(q.2,q.1)) this.2⟩
   ·rw [decide_eq_false c4,if_neg c4]
    have:=j0 (d::v) (a,b,w,[115],p9,0,0,r.take (clo r 47),t.take (clo t 47),false) exZ
    exact ⟨⟨hr0,hr1,cp,a1,a2,a3,cp2,b1,b2,b3,q0,this.1⟩,congrArg (fun q:Int×ExD=>(q.2,q.1)) this.2⟩
def nmM:LI→LI×Int
 | []=>([],0)
 | c::t=>if c=62∨c=60 then ([c],1+(D0 c t:Int))
  else if c=112 then (if (tk 117 t).1=true then (if (tk 33 (tk 117 t).2).1=true then ([112,117,33],3) else ([112,117],2)) else ([],0))
  else if c=99 then (if (tk 111 t).1=true then ([99,111],2) else ([],0))
  else if c=106 then (if (tk 33 t).1=true then ([106,33],2) else ([106],1))
  else if c=100∨c=121∨c=116∨c=109∨c=115 then ([c],1)
  else ([],0)
theorem Y6 (c:Int) (t:LI):nmM (c::t)=if c=62∨c=60 then ([c],1+(D0 c t:Int))
  else if c=112 then (if (tk 117 t).1=true then (if (tk 33 (tk 117 t).2).1=true then ([112,117,33],3) else ([112,117],2)) else ([],0))
  else if c=99 then (if (tk 111 t).1=true then ([99,111],2) else ([],0))
  else if c=106 then (if (tk 33 t).1=true then ([106,33],2) else ([106],1))
  else if c=100∨c=121∨c=116∨c=109∨c=115 then ([c],1)
  else ([],0):=rfl
def b1B (xs t:LI):Prop:=xs.length≤t.length∧t.take xs.length=xs
instance (xs t:LI):Decidable (b1B xs t):=by unfold b1B; infer_instance
theorem a7Q (x:Int) (xs:LI) (c:Int) (t:LI):b1B (x::xs) (c::t)↔(c=x∧b1B xs t):=by
 unfold b1B
 simp only [List.length_cons,List.take_succ_cons,List.cons.injEq]
 constructor
 ·rintro ⟨h1,h2,h3⟩; exact ⟨h2,by omega,h3⟩
 ·rintro ⟨h2,h1,h3⟩; exact ⟨by omega,h2,h3⟩
theorem b5A (t:LI):b1B [] t:=⟨Nat.zero_le _,rfl⟩
theorem b5B (x:Int) (xs:LI):¬ b1B (x::xs) []:=fun h=>by have:=h.1; simp only [List.length_cons,List.length_nil] at this; omega
theorem b5C (y:Int) (t:LI):b1B [y] t↔(tk y t).1=true:=by
 cases t with
 | nil=>exact ⟨fun h=>absurd h (b5B _ _),fun h=>by cases h⟩
 | cons c r=>
  rw [a7Q,L4]
  by_cases h:c=y
  ·rw [if_pos h]; exact ⟨fun _=>rfl,fun _=>⟨h,b5A _⟩⟩
  ·rw [if_neg h]; exact ⟨fun h2=>absurd h2.1 h,fun h2=>by cases h2⟩
theorem c4H (y z:Int) (t:LI):b1B [y,z] t↔((tk y t).1=true∧(tk z (tk y t).2).1=true):=by
 cases t with
 | nil=>exact ⟨fun h=>absurd h (b5B _ _),fun h=>by cases h.1⟩
 | cons c r=>
  rw [a7Q,L4]
  by_cases h:c=y
  ·rw [if_pos h,b5C]; exact ⟨fun h2=>⟨rfl,h2.2⟩,fun h2=>⟨h,h2.2⟩⟩
  ·rw [if_neg h]; exact ⟨fun h2=>absurd h2.1 h,fun h2=>by cases h2.1⟩
theorem d19 (s x:LI) (l:List (LI)):nmd s (x::l)=if b1B x s then some x else nmd s l:=rfl
theorem c3i (c:Int) (t:LI) (h:¬ (c=62∨c=60)):(match nmd (c::t) a2I with | some x=>(x,(x.length:Int)) | none=>(([],0):LI×Int))=nmM (c::t):=by
 unfold a2I
 rw [Y6,if_neg h]
 simp only [d19,a7Q,c4H,b5C,b5A,and_true]
 by_cases h1:c=112
 ·subst h1
  cases h2:(tk 117 t).1 <;> cases h3:(tk 33 (tk 117 t).2).1 <;> simp [nmd]
 by_cases h2:c=99
 ·subst h2
  cases h3:(tk 111 t).1 <;> simp [nmd]
 by_cases h3:c=106
 ·subst h3
  cases h4:(tk 33 t).1 <;> simp [nmd]
 by_cases h4:c=100
 ·subst h4; simp
 by_cases h5:c=121
 ·subst h5; simp
 by_cases h6:c=116
 ·subst h6; simp
 by_cases h7:c=109
 ·subst h7; simp
 by_cases h8:c=115
 ·subst h8; simp
 simp [h1,h2,h3,h4,h5,h6,h7,h8,nmd]
theorem d17 (l:LI) (hl:l.length≤lim):b2g l∧b0w l=nmM l:=by
 have hlim:lim=1099511627776:=rfl
 cases l with
 | nil=>exact ⟨⟨rfl,by decide⟩,rfl⟩
 | cons c t=>
  have hn:decide ((0:Int)<((c::t).length:Int))=true:=decide_eq_true (by simp only [List.length_cons]; omega)
  have e0:rd (0:Int) (c::t) 0=c:=rfl
  have q0:(0:Int)≤0∧(0:Int)<((c::t).length:Int):=by simp only [List.length_cons]; omega
  have q1:(0:Int)≤1∧(1:Int)≤((c::t).length:Int):=by simp only [List.length_cons]; omega
  have lp:a6v (c::t) 0:=⟨rfl,by simp,hl⟩
  have lp1:a6w (c::t) a2I 0:=⟨rfl,by decide⟩
  have lf:a0u (c::t) 0=(c::t,1+(D0 c t:Int)):=by
   unfold a0u
   rw [e0,a4Y,if_pos rfl]
   congr 1; omega
  unfold b2g b0w
  rw [hn]
  simp only [e0,lf,cond_true]
  by_cases c1:c=62
  ·rw [decide_eq_true c1]
   refine ⟨⟨q0,lp,q1⟩,?_⟩
   rw [Y6,if_pos (.inl c1)]; rfl
  rw [decide_eq_false c1]
  by_cases c2:c=60
  ·rw [decide_eq_true c2]
   refine ⟨⟨q0,q0,lp,q1⟩,?_⟩
   rw [Y6,if_pos (.inr c2)]; rfl
  rw [decide_eq_false c2]
  refine ⟨⟨q0,q0,lp1⟩,?_⟩
  rw [← c3i c t (by simp [c1,c2])]
  unfold a0v
  cases nmd (c::t) a2I <;> rfl
abbrev a1m (a b:Adr) (w:Bool) (name:LI):ExD:=(a,b,w,name,p9,0,0,[],[],false)
def tlF (rest name:LI) (n:Int) (a b:Adr) (w:Bool):ExD×Int:=
 bif decide (name=[62]) then Sum.elim (fun q=>(q.2,q.1)) (fun q=>((Q1 q.1 q.2.1 q.2.2).2,(Q1 q.1 q.2.1 q.2.2).1)) (M7 rest name n name (decide (name=[62])) exZ (a1m a b w name))
 else Sum.elim (fun q=>(q.2,q.1)) (fun q=>((Q1 q.1 q.2.1 q.2.2).2,(Q1 q.1 q.2.1 q.2.2).1)) (M7 rest name n name (decide (name=[60])) exZ (a1m a b w name))
def tlP (rest name:LI) (n:Int) (a b:Adr) (w:Bool):Prop:=
 bif decide (name=[62]) then a3s rest name n name (decide (name=[62])) exZ (a1m a b w name)∧Sum.elim (fun _=>True) (fun q=>a1H q.1 q.2.1 q.2.2) (M7 rest name n name (decide (name=[62])) exZ (a1m a b w name))
 else a3s rest name n name (decide (name=[60])) exZ (a1m a b w name)∧Sum.elim (fun _=>True) (fun q=>a1H q.1 q.2.1 q.2.2) (M7 rest name n name (decide (name=[60])) exZ (a1m a b w name))
theorem d4X (v:LI) (x x4:ExD):a1G v x x4∧E7 v x x4=swp (toB (enM (.inl (x4,v)))):=by
 obtain ⟨pp,pf⟩:=O8 (List.suffix_refl v)
 rw [a15] at pp pf
 refine ⟨pp,?_⟩
 unfold E7
 simp only [pf,b24,enM]
 by_cases c:bk v=[]
 ·rw [decide_eq_true c,if_pos c]; rfl
 ·rw [decide_eq_false c,if_neg c]; rfl
def gvX (x:ExD) (l:LI):Rd ExD:=match gvM l with
 | .inl (d,t)=>.inl ((x.1,x.2.1,x.2.2.1,x.2.2.2.1,d,x.2.2.2.2.2.1,x.2.2.2.2.2.2.1,x.2.2.2.2.2.2.2.1,x.2.2.2.2.2.2.2.2.1,x.2.2.2.2.2.2.2.2.2),t)
 | .inr e=>.inr e
theorem d4Y (v:LI) (hv:v.length≤lim) (x x4:ExD):a3q v x x4∧a3p v x x4=swp (toB (enM (gvX x4 v))):=by
 obtain ⟨pp,pf⟩:=O8 (List.suffix_refl v)
 rw [a15] at pp pf
 have hb:=D2 v
 have hbl:=B1 hb
 obtain ⟨rp,rf⟩:=a7t (bk v) (by omega)
 have ixl:=b5r hb
 unfold a3q a3p gvX gvM
 simp only [pf,V8 hb,rf]
 rcases ha:adM (bk v) with ⟨d,t⟩ | e
 ·have ht:=a0H _ ha
  obtain ⟨qp,qf⟩:=O8 (ht.trans hb)
  simp only [adR,b23 hb ht hv,qf,b24]
  obtain ⟨d1,d2,d3,d4,d5,g⟩:=d
  cases g
  ·exact ⟨⟨pp,ixl,rp,trivial⟩,rfl⟩
  ·refine ⟨⟨pp,ixl,rp,qp⟩,?_⟩
   rw [if_pos rfl]
   unfold enM
   dsimp only
   by_cases c:bk t=[]
   ·rw [decide_eq_true c,if_pos c]; rfl
   ·rw [decide_eq_false c,if_neg c]; rfl
 ·have:=Z9 _ ha
  subst this
  exact ⟨⟨pp,ixl,rp,trivial⟩,rfl⟩
theorem e7p (p:ExD×Int):((swp p).2,(swp p).1)=p:=rfl
section
variable (rest:LI) (hr:rest.length≤lim) (n:Int) (a b:Adr) (w:Bool)
include hr
theorem e65 (c:Int) (hc:c=62∨c=60):tlP rest [c] n a b w∧tlF rest [c] n a b w=toB (enM (.inl ((a,b,w,[c],p9,0,if 9999<n then 9999 else n,[],[],false),rest))):=by
 have j1:=d4X rest exZ (a,b,w,[c],p9,0,9999,[],[],false)
 have j2:=d4X rest exZ (a,b,w,[c],p9,0,n,[],[],false)
 have key:(bif decide (9999<n) then a1G rest exZ (a,b,w,[c],p9,0,9999,[],[],false) else a1G rest exZ (a,b,w,[c],p9,0,n,[],[],false))∧Sum.elim (fun _=>True) (fun q:LI×ExD×ExD=>a1H q.1 q.2.1 q.2.2) (bif decide (9999<n) then (.inl ((E7 rest exZ (a,b,w,[c],p9,0,9999,[],[],false)).1,(E7 rest exZ (a,b,w,[c],p9,0,9999,[],[],false)).2):(Int×ExD)⊕(LI×ExD×ExD)) else .inl ((E7 rest exZ (a,b,w,[c],p9,0,n,[],[],false)).1,(E7 rest exZ (a,b,w,[c],p9,0,n,[],[],false)).2)):=by
  by_cases h:9999<n
  ·rw [decide_eq_true h]; exact ⟨j1.1,trivial⟩
  ·rw [decide_eq_false h]; exact ⟨j2.1,trivial⟩
 have keyF:Sum.elim (fun q:Int×ExD=>(q.2,q.1)) (fun q:LI×ExD×ExD=>((Q1 q.1 q.2.1 q.2.2).2,(Q1 q.1 q.2.1 q.2.2).1)) (bif decide (9999<n) then (.inl ((E7 rest exZ (a,b,w,[c],p9,0,9999,[],[],false)).1,(E7 rest exZ (a,b,w,[c],p9,0,9999,[],[],false)).2):(Int×ExD)⊕(LI×ExD×ExD)) else .inl ((E7 rest exZ (a,b,w,[c],p9,0,n,[],[],false)).1,(E7 rest exZ (a,b,w,[c],p9,0,n,[],[],false)).2)) =
   toB (enM (.inl ((a,b,w,[c],p9,0,if 9999<n then 9999 else n,[],[],false),rest))):=by
  by_cases h:9999<n
  ·rw [decide_eq_true h,if_pos h]
   exact congrArg (fun q:Int×ExD=>(q.2,q.1)) j1.2
  ·rw [decide_eq_false h,if_neg h]
   exact congrArg (fun q:Int×ExD=>(q.2,q.1)) j2.2
 rcases hc with rfl | rfl
 ·exact ⟨key,keyF⟩
 ·exact ⟨key,keyF⟩
theorem e7F:tlP rest [115] n a b w∧tlF rest [115] n a b w=toB (enM (rpM a b w rest)):=by
 obtain ⟨p,f⟩:=b7W a b w rest hr
 exact ⟨⟨p,trivial⟩,f⟩
theorem e7G (c:Int) (hc:c=116∨c=109):tlP rest [c] n a b w∧tlF rest [c] n a b w=toB (enM (gvX (a1m a b w [c]) rest)):=by
 obtain ⟨p,f⟩:=d4Y rest hr exZ (a1m a b w [c])
 rcases hc with rfl | rfl
 ·exact ⟨⟨p,trivial⟩,congrArg (fun q:Int×ExD=>(q.2,q.1)) f⟩
 ·exact ⟨⟨p,trivial⟩,congrArg (fun q:Int×ExD=>(q.2,q.1)) f⟩
theorem e63:tlP rest [99,111] n a b w∧tlF rest [99,111] n a b w=toB (enM (gvX (a1m a b w [116]) rest)):=by
 obtain ⟨p,f⟩:=d4Y rest hr exZ (a1m a b w [116])
 exact ⟨⟨p,trivial⟩,congrArg (fun q:Int×ExD=>(q.2,q.1)) f⟩
theorem e64 (c:Int) (hc:c=100∨c=121):tlP rest [c] n a b w∧tlF rest [c] n a b w=toB (enM (cnX (exR (a1m a b w [c]) (rg false rest).1) (rg false rest).2)):=by
 rcases hc with rfl | rfl
 ·obtain ⟨p,f⟩:=c32 rest hr (a1m a b w [100]) rfl rfl (.inl rfl)
  exact ⟨⟨trivial,p⟩,f⟩
 ·obtain ⟨p,f⟩:=c32 rest hr (a1m a b w [121]) rfl rfl (.inr rfl)
  exact ⟨⟨trivial,p⟩,f⟩
theorem d1D (e:Bool):tlP rest (if e=true then [112,117,33] else [112,117]) n a b w∧tlF rest (if e=true then [112,117,33] else [112,117]) n a b w=toB (enM (.inl (exR (a1m a b w (if e=true then [112,117,33] else [112,117])) (rg true rest).1,(rg true rest).2))):=by
 cases e
 ·obtain ⟨p,f⟩:=b9E rest hr (a1m a b w [112,117]) rfl rfl (.inl rfl)
  exact ⟨⟨trivial,p⟩,f⟩
 ·obtain ⟨p,f⟩:=b9E rest hr (a1m a b w [112,117,33]) rfl rfl (.inr rfl)
  exact ⟨⟨trivial,p⟩,f⟩
theorem e4c (e:Bool):tlP rest (if e=true then [106,33] else [106]) n a b w∧tlF rest (if e=true then [106,33] else [106]) n a b w=toB (enM (cnX (a1m a b w (if e=true then [106,33] else [106])) rest)):=by
 cases e
 ·obtain ⟨p,f⟩:=d4N rest hr (a1m a b w [106]) rfl rfl (.inl rfl)
  exact ⟨⟨trivial,p⟩,f⟩
 ·obtain ⟨p,f⟩:=d4N rest hr (a1m a b w [106,33]) rfl rfl (.inr rfl)
  exact ⟨⟨trivial,p⟩,f⟩
end
end Go.VE
namespace Go.VE
theorem e60 {l:LI} {g w:Bool} {a b:Adr} {r:LI} (h:spM l=.inl ((g,a,b,w),r)):g=(w || a.2.2.2.2.2):=by
 unfold spM at h
 split at h
 ·cases h; rfl
 ·split at h
  ·cases h
  ·rename_i a' r' ha
   split at h
   ·split at h
    ·cases h
    ·cases h
     obtain ⟨a1,a2,a3,a4,a5,g⟩:=a'
     cases g <;> rfl
   ·cases h; rfl
theorem b9n (s:LI) (hs:s.length≤lim):a5m s∧a2K s=toB (a0Z s):=by
 have hlim:lim=1099511627776:=rfl
 obtain ⟨ap,af⟩:=b5d s hs
 unfold a0Z
 rcases hsp:spM (bk s) with ⟨⟨g,a,b,w⟩,r⟩ | e
 case inr=>
  rw [hsp] at af
  have he:e=230:=by
   unfold spM at hsp
   split at hsp
   ·cases hsp
   ·split at hsp
    ·rename_i e' ha; cases hsp; exact Z9 _ ha
    ·split at hsp
     ·split at hsp
      ·rename_i e' ha; cases hsp; exact Z9 _ ha
      ·cases hsp
     ·cases hsp
  subst he
  unfold a5m a2K
  simp only [af]
  exact ⟨⟨ap,trivial⟩,rfl⟩
 rw [hsp] at af
 have hg:=e60 hsp
 have hr:=(c2T hsp).trans (D2 s)
 obtain ⟨pp,pf⟩:=O8 hr
 have hbr:=(D2 r).trans hr
 have ixl:=b5r hbr
 have hbl:=B1 hbr
 obtain ⟨np,nf⟩:=d17 (bk r) (by omega)
 have hP:∀ name n,nmM (bk r)=(name,n)→(n≠0→(0≤n∧n≤((bk r).length:Int))∧tlP ((bk r).drop n.toNat) name n a b w)→a5m s:=by
  intro name n hn h
  unfold a5m
  simp only [af,pf,V8 hbr,nf,hn]
  refine ⟨ap,pp,ixl,np,?_⟩
  by_cases h0:n=0
  ·rw [decide_eq_true h0]; trivial
  ·rw [decide_eq_false h0]; exact h h0
 have hF:∀ name n,nmM (bk r)=(name,n)→n≠0→a2K s=tlF ((bk r).drop n.toNat) name n a b w:=by
  intro name n hn h0
  unfold a2K
  simp only [af,pf,V8 hbr,nf,hn]
  rw [decide_eq_false h0]
  rfl
 have hF0:∀ name,nmM (bk r)=(name,0)→a2K s=(bif decide (0<((bk r).length:Int)) then (exZ,240) else bif !w then (bif !a.2.2.2.2.2 then (exZ,240) else (exB a b w,0)) else (exB a b w,0)):=by
  intro name hn
  unfold a2K
  simp only [af,pf,V8 hbr,nf,hn]
  rfl
 clear af ap pf pp np nf
 dsimp only
 generalize bk r=l at hP hF hF0 hbr hbl ⊢
 unfold bhM
 cases l with
 | nil=>
  refine ⟨hP [] 0 rfl (fun h=>absurd rfl h),?_⟩
  rw [hF0 [] rfl,if_pos rfl,hg]
  obtain ⟨a1,a2,a3,a4,a5,ag⟩:=a
  cases w <;> cases ag <;> rfl
 | cons c t=>
  rw [if_neg (by simp)]
  simp only [List.length_cons] at hbl
  have none_:nmM (c::t)=([],0)→cmM a b w (c::t)=.inr 240→a5m s∧a2K s=toB (enM (cmM a b w (c::t))):=by
   intro h1 h2
   refine ⟨hP [] 0 h1 (fun h=>absurd rfl h),?_⟩
   rw [hF0 [] h1,h2,decide_eq_true (by simp only [List.length_cons]; omega)]; rfl
  have some_:∀ (name:LI) (k:Nat) (rest:LI),nmM (c::t)=(name,(k:Int))→k≠0→(c::t).drop k=rest→k≤t.length+1→(tlP rest name (k:Int) a b w∧tlF rest name (k:Int) a b w=toB (enM (cmM a b w (c::t))))→a5m s∧a2K s=toB (enM (cmM a b w (c::t))):=by
   intro name k rest h1 h2 h3 h4 h5
   refine ⟨hP name k h1 (fun _=>⟨⟨by omega,by simp only [List.length_cons]; omega⟩,by rw [Int.toNat_natCast,h3]; exact h5.1⟩),?_⟩
   rw [hF name k h1 (by omega),Int.toNat_natCast,h3,h5.2]
  have htl:t.length≤lim:=by omega
  by_cases c1:c=62∨c=60
  ·have hk:=b44 c t
   have:=e65 (t.drop (D0 c t)) (by rw [List.length_drop]; omega) ((1+D0 c t:Nat):Int) a b w c c1
   refine some_ [c] (1+D0 c t) (t.drop (D0 c t)) (by rw [Y6,if_pos c1]; congr 1) (by omega) (by rw [Nat.add_comm]; rfl) (by omega) ⟨this.1,this.2.trans ?_⟩
   have hcm:cmM a b w (c::t)=.inl ((a,b,w,[c],p9,0,if 9999<1+(D0 c t:Int) then 9999 else 1+(D0 c t:Int),[],[],false),t.drop (D0 c t)):=by
    rw [Y1,if_neg (by rcases c1 with h | h <;> omega),if_neg (by rcases c1 with h | h <;> omega),if_neg (by rcases c1 with h | h <;> omega),if_pos c1]
   rw [hcm,show ((1+D0 c t:Nat):Int)=1+(D0 c t:Int) by omega]
  by_cases c2:c=112
  ·subst c2
   have hcm:cmM a b w (112::t)=(match tk 117 t with
    | (false,_)=>.inr 240
    | (true,r)=>.inl ((a,b,w,if (tk 33 r).1=true then [112,117,33] else [112,117],p9,(rg true (tk 33 r).2).1,0,[],[],false),(rg true (tk 33 r).2).2)):=rfl
   have hnm:nmM (112::t)=(if (tk 117 t).1=true then (if (tk 33 (tk 117 t).2).1=true then ([112,117,33],3) else ([112,117],2)) else ([],0)):=rfl
   cases t with
   | nil=>exact none_ rfl rfl
   | cons d u=>
    rw [L4] at hnm hcm
    by_cases c3:d=117
    ·rw [if_pos c3] at hnm hcm
     simp only [List.length_cons] at htl
     cases u with
     | nil=>
      have:=d1D [] (by simp) 2 a b w false
      exact some_ [112,117] 2 [] hnm (by omega) rfl (by simp) ⟨this.1,by rw [hcm]; exact this.2⟩
     | cons f v=>
      rw [L4] at hnm
      dsimp only at hcm
      rw [L4] at hcm
      simp only [List.length_cons] at htl
      by_cases c4:f=33
      ·rw [if_pos c4] at hnm hcm
       have:=d1D v (by omega) 3 a b w true
       exact some_ [112,117,33] 3 v hnm (by omega) rfl (by simp) ⟨this.1,by rw [hcm]; exact this.2⟩
      ·rw [if_neg c4] at hnm hcm
       have:=d1D (f::v) (by simp only [List.length_cons]; omega) 2 a b w false
       exact some_ [112,117] 2 (f::v) hnm (by omega) rfl (by simp) ⟨this.1,by rw [hcm]; exact this.2⟩
    ·rw [if_neg c3] at hnm hcm
     exact none_ hnm hcm
  by_cases c3:c=99
  ·subst c3
   have hcm:cmM a b w (99::t)=(match tk 111 t with
   | (false,_)=>.inr 240
   | (true,r)=>match gvM r with
    | .inl (d,t)=>.inl ((a,b,w,[116],d,0,0,[],[],false),t)
    | .inr e=>.inr e):=rfl
   have hnm:nmM (99::t)=(if (tk 111 t).1=true then ([99,111],2) else ([],0)):=rfl
   cases t with
   | nil=>exact none_ rfl rfl
   | cons d u=>
    rw [L4] at hnm hcm
    by_cases c4:d=111
    ·rw [if_pos c4] at hnm hcm
     simp only [List.length_cons] at htl
     have:=e63 u (by omega) 2 a b w
     refine some_ [99,111] 2 u hnm (by omega) rfl (by simp) ⟨this.1,?_⟩
     rw [hcm]
     refine this.2.trans ?_
     unfold gvX
     dsimp only
     all_goals (rcases gvM u with ⟨d,t⟩ | e <;> rfl)
    ·rw [if_neg c4] at hnm hcm
     exact none_ hnm hcm
  by_cases c4:c=106
  ·subst c4
   have hcm:cmM a b w (106::t)=(match cnM (tk 33 t).2 with
   | .inl (n,u)=>.inl ((a,b,w,if (tk 33 t).1=true then [106,33] else [106],p9,0,n,[],[],false),u)
   | .inr e=>.inr e):=rfl
   have hnm:nmM (106::t)=(if (tk 33 t).1=true then ([106,33],2) else ([106],1)):=rfl
   have fin:∀ (e:Bool) (u:LI),toB (enM (cnX (a1m a b w (if e=true then [106,33] else [106])) u))=toB (enM (match cnM u with
   | .inl (n,u)=>.inl ((a,b,w,if e=true then [106,33] else [106],p9,0,n,[],[],false),u)
   | .inr e=>.inr e)):=fun e u=>by
    unfold cnX
    rcases cnM u with ⟨n,v⟩ | e <;> rfl
   cases t with
   | nil=>
    have:=e4c [] (by simp) 1 a b w false
    exact some_ [106] 1 [] hnm (by omega) rfl (by simp) ⟨this.1,by rw [hcm]; exact this.2.trans (fin false [])⟩
   | cons d u=>
    rw [L4] at hnm hcm
    simp only [List.length_cons] at htl
    by_cases c5:d=33
    ·rw [if_pos c5] at hnm hcm
     have:=e4c u (by omega) 2 a b w true
     exact some_ [106,33] 2 u hnm (by omega) rfl (by simp) ⟨this.1,by rw [hcm]; exact this.2.trans (fin true u)⟩
    ·rw [if_neg c5] at hnm hcm
     have:=e4c (d::u) (by simp only [List.length_cons]; omega) 1 a b w false
     exact some_ [106] 1 (d::u) hnm (by omega) rfl (by simp) ⟨this.1,by rw [hcm]; exact this.2.trans (fin false (d::u))⟩
  by_cases c5:c=100∨c=121
  ·have:=e64 t htl 1 a b w c c5
   refine some_ [c] 1 t (by rw [Y6,if_neg c1,if_neg c2,if_neg c3,if_neg c4,if_pos (by rcases c5 with h | h <;> simp [h])]; rfl) (by omega) rfl (by omega) ⟨this.1,this.2.trans ?_⟩
   rw [Y1,if_pos c5]
   unfold cnX
   rcases cnM (rg false t).2 with ⟨n,v⟩ | e <;> rfl
  have d1:=c5
  by_cases c6:c=116∨c=109
  ·have:=e7G t htl 1 a b w c c6
   refine some_ [c] 1 t (by rw [Y6,if_neg c1,if_neg c2,if_neg c3,if_neg c4,if_pos (by rcases c6 with h | h <;> simp [h])]; rfl) (by omega) rfl (by omega) ⟨this.1,this.2.trans ?_⟩
   rw [Y1,if_neg c5,if_neg c2,if_neg c4,if_neg c1,if_neg c3,if_pos c6]
   unfold gvX
   rcases gvM t with ⟨n,v⟩ | e <;> rfl
  by_cases c7:c=115
  ·have:=e7F t htl 1 a b w
   subst c7
   exact some_ [115] 1 t (by rw [Y6,if_neg c1,if_neg c2,if_neg c3,if_neg c4,if_pos (by simp)]; rfl) (by omega) rfl (by omega) ⟨this.1,this.2⟩
  ·refine none_ ?_ ?_
   ·rw [Y6,if_neg c1,if_neg c2,if_neg c3,if_neg c4,if_neg (by simp at c5 c6; simp [c5,c6,c7])]
   ·rw [Y1,if_neg c5,if_neg c2,if_neg c4,if_neg c1,if_neg c3,if_neg c6,if_neg c7]
end Go.VE
namespace Go.VE
open Go Go.Proofs
def a6h:List AS:=[.v yI]
def b0f (k:Nat) (n:Int):Prop:=0≤n∧n<10000000000∧n.toNat<10 ^ k∧0<k
def a3k (n:Int):LI:=dec n.toNat
theorem e5k (n:Int):¬ b0f 0 n:=fun h=>absurd h.2.2.2 (Nat.lt_irrefl 0)
def b8p (k:Nat) (v:j3 a6h) (K:Res→List Cell→Prop):Prop:=b0f k v.1∧∀ r:LI,r=a3k v.1→K (.one (.fr 5 yU r)) []
def b8q (k:Nat):App:=specW a6h (b8p k)
def c6a (k:Nat):List (Nat×App):=[(47,b8q k)]
theorem d20 (k:Nat) (h:g8 Tryz.prog 47 (b8q k)):GOk Tryz.prog (j8 (c6a k)):=GOk.cons h (GOk.nil)
def a8S (k:Nat) (n0:Int) (K:Res→List Cell→Prop):Prop:=
 bif (decide (n0<(10:Int))) then
 K (.one (.fr 5 yU ([(IntKind.wrap .u8 (IntKind.wrap .i64 ((48:Int)+n0)))]:LI))) []
 else
 b0f k (IntKind.wrap .i64 (Int.tdiv n0 (10:Int)))∧(
 ∀ (r1:LI),r1=a3k (IntKind.wrap .i64 (Int.tdiv n0 (10:Int)))→(
 wfR (.one (.fr 5 yU r1))→(
 bif decide (List.length r1+List.length ([(IntKind.wrap .u8 (IntKind.wrap .i64 ((48:Int)+(Int.tmod n0 (10:Int)))))]:LI)≤lim) then
 K (.one (.fr 5 yU (r1++([(IntKind.wrap .u8 (IntKind.wrap .i64 ((48:Int)+(Int.tmod n0 (10:Int)))))]:LI)))) []
 else False)))
theorem c6c (k:Nat) (n0:Int) (K:Res→List Cell→Prop):q7 tb (j8 (c6a k)) [] Tryz.f47 [true] (mkA a6h (n0,())) K=a8S k n0 K:=by kernel_rfl
theorem d8M (k:Nat) (K:Res→List Cell→Prop):∀ v:j3 a6h,q7 tb (j8 (c6a k)) [] Tryz.f47 [true] (mkA a6h v) K=a8S k v.1 K
 | (n0,())=>c6c k n0 K
theorem d8L (k:Nat) (n0:Int) (K:Res→List Cell→Prop) (hw:wfA a6h (n0,())) (hp:b0f (k+1) n0) (h:∀ r:LI,r=a3k n0→K (.one (.fr 5 yU r)) []):a8S k n0 K:=by
 obtain ⟨h0,h1,h2,_⟩:=hp
 unfold a8S
 obtain ⟨m,rfl⟩:=Int.eq_ofNat_of_zero_le h0
 have h1:m<10000000000:=by omega
 have h3:m<10 ^ (k+1):=h2
 refine brn (fun hlt=>?_) (fun hge=>?_)
 ·rw [N1 (by rw [wrap_i64 (by omega) (by omega)]; omega) (by rw [wrap_i64 (by omega) (by omega)]; omega),wrap_i64 (by omega) (by omega)]
  exact h _ (by unfold a3k; rw [Int.toNat_natCast,a4r (by omega)])
 ·have q1:Int.tdiv (m:Int) 10=((m / 10:Nat):Int):=rfl
  have q2:Int.tmod (m:Int) 10=((m % 10:Nat):Int):=rfl
  have hk:0<k:=by
   cases k with
   | zero=>simp at h3; omega
   | succ k=>omega
  rw [q1,q2,wrap_i64 (by omega) (by omega)]
  refine ⟨⟨by omega,by omega,by rw [Int.toNat_natCast]; rw [Nat.pow_succ] at h3; omega,hk⟩,fun r hr _=>?_⟩
  subst r
  have hl:=a2U 10 (m / 10)
  unfold a3k dec
  rw [Int.toNat_natCast,wrap_i64 (n:=48+((m % 10:Nat):Int)) (by omega) (by omega),N1 (by omega) (by omega)]
  refine C1 (by simp only [List.length_cons,List.length_nil]; unfold lim; omega) (h _ ?_)
  unfold a3k
  rw [Int.toNat_natCast,a4q (by omega) h1]
  rfl
theorem c0Q:∀ k,g8 Tryz.prog 47 (b8q k)
 | 0=>g8.none fun v K h=>e5k v.1 h.1
 | k+1=>g8.specW (l9 (l8 o0 j9 (d20 k (c0Q k)) g7.nil (f:=47) (fn:=Tryz.f47) (by kernel_rfl) (by kernel_rfl) (by kernel_rfl) [true]) fun v K hw h=>(d8M k K v).mpr (d8L k v.1 K hw h.1 h.2))
def c6b (n0:Int):Prop:=∃ k,b0f k n0
def e5l (v:j3 a6h) (K:Res→List Cell→Prop):Prop:=c6b v.1∧∀ r:LI,r=a3k v.1→K (.one (.fr 5 yU r)) []
def d5t:App:=specW a6h e5l
theorem d8K:g8 Tryz.prog 47 d5t:=fun ags K hs=>(g8.any (b:=b8p) c0Q) ags K (by
 obtain ⟨v,rfl,hb⟩:=G5 _ ags _ hs
 exact a2x a6h v (fun v=>∃ k,b8p k v fun r o=>wfR r→K r o) (hb.1.elim fun k hk=>⟨k,hk,hb.2⟩))
end Go.VE
namespace Go.VE
set_option maxRecDepth 20000
open Go Go.Proofs
def a5n:List (Nat×App):=[(46,d5H),(47,d5t),(12,d5O),(14,d52)]
theorem a0b:GOk Tryz.prog (j8 a5n):=GOk.cons d9K (GOk.cons d8K (GOk.cons e0e (GOk.cons e08 (GOk.nil))))
theorem a2j:o8 (g6 Tryz.f15)=true:=by kernel_rfl
def S9:List LS:=[.b 1 8 [],.o 3 29 5 yU,.v 4 yI,.c 8 tyX]
def a6G:List LS:=[.b 1 8 [],.o 3 29 5 yU,.c 8 tyX]
def b35:DX:=⟨none,none,[(1,a6G)]⟩
def b0E (k:Ex→St→Prop) (s3:LI) (x1b:tEx):Prop:=wfD a6G (s3,x1b,())→k (.exit 1) (mkD 128 a6G (s3,x1b,()))
def b34 (Y:LI→Int→tEx→Prop) (kx1:LI→tEx→Prop) (s3:LI) (i4:Int) (x1b:tEx):Prop:=
 bif (decide (i4<x1b.2.2.2.2.2.2.1)) then
 bif decide (0≤(0:Int)∧(0:Int)<(List.length x1b.2.2.2.1:Int)) then
 bif decide (List.length s3+List.length ([(rd (0:Int) x1b.2.2.2.1 (0:Int))]:LI)≤lim) then
 Y (s3++([(rd (0:Int) x1b.2.2.2.1 (0:Int))]:LI)) (IntKind.wrap .i64 (i4+(1:Int))) x1b
 else False
 else False
 else
 kx1 s3 x1b
def b0D (kx1:LI→tEx→Prop):Nat→LI→Int→tEx→Prop
 | 0,_,_,_=>False
 | n+1,s3,i4,x1b=>wfD S9 (s3,i4,x1b,())→b34 (b0D kx1 n) kx1 s3 i4 x1b
def c8a:Pce:=ex tb (j8 a5n) [] (at' (g6 Tryz.f15) [0,0,1,0,1,0,1,0,1,1,1,1,1,1]) [0,0,1,0,1,0,1,0,1,1,1,1,1,1]
def c8b (k:Ex→St→Prop) (n:Nat) (v:l6 S9):Prop:=b0D (b0E k) n v.1 v.2.1 v.2.2.1
theorem e0t (k:Ex→St→Prop) (Y:l6 S9→Prop):∀ v:l6 S9,c8a (mkD 128 S9 v) (lpK 128 S9 b35 k Y)=b34 (fun s3 i4 x1b=>Y (s3,i4,x1b,())) (b0E k) v.1 v.2.1 v.2.2.1
 | (s3,i4,x1b,())=>by kernel_rfl
theorem c8k (k:Ex→St→Prop):∀ (n:Nat) (v:l6 S9),lpD 128 S9 b35 c8a k n v=c8b k n v
 | 0,(s3,i4,x1b,())=>rfl
 | n+1,(s3,i4,x1b,())=>congrArg (fun Z:Prop=>wfD S9 (s3,i4,x1b,())→Z) ((e0t k _ (s3,i4,x1b,())).trans (congrArg (fun Y=>b34 Y (b0E k) s3 i4 x1b) (funext fun s3=>funext fun i4=>funext fun x1b=>c8k k n (s3,i4,x1b,()))))
def c7V:Pce:=fun st k=>ckD 128 S9 st fun v=>wfD S9 v→∃ n,c8b k n v
theorem e0D:j5 Tryz.prog (at' (g6 Tryz.f15) [0,1,0,1,0,1,0,1,1,1,1,1,1]) c7V:=
 (j5.loop (l3 o0 j9 a0b (g7.nil) (at' (g6 Tryz.f15) [0,0,1,0,1,0,1,0,1,1,1,1,1,1]) [0,0,1,0,1,0,1,0,1,1,1,1,1,1] rfl (g9 a2j [0,0,1,0,1,0,1,0,1,1,1,1,1,1])) 128 S9 b35).mono fun st k h=>l4 h fun v hv hw=>(hv hw).elim fun n hn=>⟨n,Eq.mpr (c8k k n v) hn⟩
def b8L:q8:=([0,1,0,1,0,1,0,1,1,1,1,1,1],c7V)::[]
theorem c73:g7 Tryz.prog (g6 Tryz.f15) b8L:=g7.cons e0D (g7.nil)
def a3J:List LS:=[.b 1 8 [],.o 3 29 5 yU,.c 8 tyX]
def a6H:List LS:=[.b 1 8 [],.o 3 29 5 yU,.c 8 tyX]
def c1s:DX:=⟨some a6H,none,[]⟩
def d3p (k:Ex→St→Prop) (s3:LI) (x1b:tEx):Prop:=wfD a6H (s3,x1b,())→k .nrm (mkD 128 a6H (s3,x1b,()))
def b3X (kn:LI→tEx→Prop) (s3:LI) (x1b:tEx):Prop:=
 bif (!decide (x1b.2.2.2.2.2.2.1=(0:Int))) then
 bif decide (List.length s3+List.length ([(32:Int)]:LI)≤lim) then
 c6b x1b.2.2.2.2.2.2.1∧(
 ∀ (r4:LI),r4=a3k x1b.2.2.2.2.2.2.1→(
 wfR (.one (.fr 5 yU r4))→(
 bif decide (List.length (s3++([(32:Int)]:LI))+List.length r4≤lim) then
 kn ((s3++([(32:Int)]:LI))++r4) x1b
 else False)))
 else False
 else
 kn s3 x1b
def c8c (k:Ex→St→Prop) (v:l6 a3J):Prop:=b3X (d3p k) v.1 v.2.1
theorem e0v (k:Ex→St→Prop):∀ v:l6 a3J,ex tb (j8 a5n) b8L (at' (g6 Tryz.f15) [1,1,1,1,1,1,1,1,0,1,0,1,1,1,1,1,1]) [1,1,1,1,1,1,1,1,0,1,0,1,1,1,1,1,1] (mkD 128 a3J v) (wk 128 c1s k)=c8c k v
 | (s3,x1b,())=>by kernel_rfl
def c7W:Pce:=fun st k=>ckD 128 a3J st fun v=>wfD a3J v→c8c k v
theorem e0E:j5 Tryz.prog (at' (g6 Tryz.f15) [1,1,1,1,1,1,1,1,0,1,0,1,1,1,1,1,1]) c7W:=
 (j5.wk (N:=128) (ds:=a3J) (dx:=c1s) (l3 o0 j9 a0b (c73) (at' (g6 Tryz.f15) [1,1,1,1,1,1,1,1,0,1,0,1,1,1,1,1,1]) [1,1,1,1,1,1,1,1,0,1,0,1,1,1,1,1,1] rfl (g9 a2j [1,1,1,1,1,1,1,1,0,1,0,1,1,1,1,1,1]))).mono fun st k h=>l4 h fun v hv hw=>Eq.mpr (e0v k v) (hv hw)
def b8M:q8:=([1,1,1,1,1,1,1,1,0,1,0,1,1,1,1,1,1],c7W)::b8L
theorem c74:g7 Tryz.prog (g6 Tryz.f15) b8M:=g7.cons e0E (c73)
def a3K:List LS:=[.b 1 8 [],.o 3 29 5 yU,.v 100 .bool,.c 8 tyX]
def a6I:List LS:=[.b 1 8 [],.o 3 29 5 yU,.c 8 tyX]
def c1t:DX:=⟨some a6I,none,[]⟩
def d3q (k:Ex→St→Prop) (s3:LI) (x1b:tEx):Prop:=wfD a6I (s3,x1b,())→k .nrm (mkD 128 a6I (s3,x1b,()))
def b3Y (kn:LI→tEx→Prop) (s3:LI) (x100:Bool) (x1b:tEx):Prop:=
 bif x100 then
 bif decide (0≤(0:Int)∧(0:Int)<(List.length x1b.2.2.2.1:Int)) then
 bif decide (List.length s3+List.length ([(rd (0:Int) x1b.2.2.2.1 (0:Int)),(32:Int)]:LI)≤lim) then
 a5l x1b.2.2.2.2.1∧(
 ∀ (r3:LI),r3=a1C x1b.2.2.2.2.1→(
 wfR (.one (.fr 5 yU r3))→(
 bif decide (List.length (s3++([(rd (0:Int) x1b.2.2.2.1 (0:Int)),(32:Int)]:LI))+List.length r3≤lim) then
 kn ((s3++([(rd (0:Int) x1b.2.2.2.1 (0:Int)),(32:Int)]:LI))++r3) x1b
 else False)))
 else False
 else False
 else
 bif decide (List.length s3+List.length x1b.2.2.2.1≤lim) then
 bif (!decide (x1b.2.2.2.2.2.1=(0:Int))) then
 bif decide (List.length (s3++x1b.2.2.2.1)+List.length ([(32:Int),x1b.2.2.2.2.2.1]:LI)≤lim) then
 (wfD a3J (((s3++x1b.2.2.2.1)++([(32:Int),x1b.2.2.2.2.2.1]:LI)),x1b,())→b3X (fun (s3:LI) (x1b:tEx)=>wfD a6H (s3,x1b,())→(
 kn s3 x1b)) ((s3++x1b.2.2.2.1)++([(32:Int),x1b.2.2.2.2.2.1]:LI)) x1b)
 else False
 else
 (wfD a3J ((s3++x1b.2.2.2.1),x1b,())→b3X (fun (s3:LI) (x1b:tEx)=>wfD a6H (s3,x1b,())→(
 kn s3 x1b)) (s3++x1b.2.2.2.1) x1b)
 else False
def c8d (k:Ex→St→Prop) (v:l6 a3K):Prop:=b3Y (d3q k) v.1 v.2.1 v.2.2.1
theorem e0w (k:Ex→St→Prop):∀ v:l6 a3K,ex tb (j8 a5n) b8M (at' (g6 Tryz.f15) [1,1,1,1,1,0,1,0,1,1,1,1,1,1]) [1,1,1,1,1,0,1,0,1,1,1,1,1,1] (mkD 128 a3K v) (wk 128 c1t k)=c8d k v
 | (s3,x100,x1b,())=>by kernel_rfl
def c7X:Pce:=fun st k=>ckD 128 a3K st fun v=>wfD a3K v→c8d k v
theorem e0F:j5 Tryz.prog (at' (g6 Tryz.f15) [1,1,1,1,1,0,1,0,1,1,1,1,1,1]) c7X:=
 (j5.wk (N:=128) (ds:=a3K) (dx:=c1t) (l3 o0 j9 a0b (c74) (at' (g6 Tryz.f15) [1,1,1,1,1,0,1,0,1,1,1,1,1,1]) [1,1,1,1,1,0,1,0,1,1,1,1,1,1] rfl (g9 a2j [1,1,1,1,1,0,1,0,1,1,1,1,1,1]))).mono fun st k h=>l4 h fun v hv hw=>Eq.mpr (e0w k v) (hv hw)
def b8N:q8:=([1,1,1,1,1,0,1,0,1,1,1,1,1,1],c7X)::b8M
theorem c75:g7 Tryz.prog (g6 Tryz.f15) b8N:=g7.cons e0F (c74)
def a3L:List LS:=[.b 1 8 [],.o 3 29 5 yU,.v 40 .str,.v 64 .bool,.c 8 tyX]
def a6J:List LS:=[.b 1 8 [],.o 3 29 5 yU,.c 8 tyX]
def c1u:DX:=⟨some a6J,none,[]⟩
def d3r (k:Ex→St→Prop) (s3:LI) (x1b:tEx):Prop:=wfD a6J (s3,x1b,())→k .nrm (mkD 128 a6J (s3,x1b,()))
def b3Z (kn:LI→tEx→Prop) (s3:LI) (x40:LI) (x64:Bool) (x1b:tEx):Prop:=
 bif x64 then
 (wfD S9 (s3,(0:Int),x1b,())→∃ n,b0D (fun (s3:LI) (x1b:tEx)=>wfD a6G (s3,x1b,())→(
 kn s3 x1b)) n s3 (0:Int) x1b)
 else
 bif (decide (x40=([115]:LI))) then
 bif decide (List.length s3+List.length ([(115:Int),(47:Int)]:LI)≤lim) then
 bif decide (List.length (s3++([(115:Int),(47:Int)]:LI))+List.length x1b.2.2.2.2.2.2.2.1≤lim) then
 bif decide (List.length ((s3++([(115:Int),(47:Int)]:LI))++x1b.2.2.2.2.2.2.2.1)+List.length ([(47:Int)]:LI)≤lim) then
 bif decide (List.length (((s3++([(115:Int),(47:Int)]:LI))++x1b.2.2.2.2.2.2.2.1)++([(47:Int)]:LI))+List.length x1b.2.2.2.2.2.2.2.2.1≤lim) then
 bif x1b.2.2.2.2.2.2.2.2.2 then
 bif decide (List.length ((((s3++([(115:Int),(47:Int)]:LI))++x1b.2.2.2.2.2.2.2.1)++([(47:Int)]:LI))++x1b.2.2.2.2.2.2.2.2.1)+List.length ([(47:Int),(103:Int)]:LI)≤lim) then
 kn (((((s3++([(115:Int),(47:Int)]:LI))++x1b.2.2.2.2.2.2.2.1)++([(47:Int)]:LI))++x1b.2.2.2.2.2.2.2.2.1)++([(47:Int),(103:Int)]:LI)) x1b
 else False
 else
 kn ((((s3++([(115:Int),(47:Int)]:LI))++x1b.2.2.2.2.2.2.2.1)++([(47:Int)]:LI))++x1b.2.2.2.2.2.2.2.2.1) x1b
 else False
 else False
 else False
 else False
 else
 bif (decide (x40=([116]:LI))) then
 (wfD a3K (s3,(decide (x40=([116]:LI))),x1b,())→b3Y (fun (s3:LI) (x1b:tEx)=>wfD a6I (s3,x1b,())→(
 kn s3 x1b)) s3 (decide (x40=([116]:LI))) x1b)
 else
 (wfD a3K (s3,(decide (x40=([109]:LI))),x1b,())→b3Y (fun (s3:LI) (x1b:tEx)=>wfD a6I (s3,x1b,())→(
 kn s3 x1b)) s3 (decide (x40=([109]:LI))) x1b)
def c8e (k:Ex→St→Prop) (v:l6 a3L):Prop:=b3Z (d3r k) v.1 v.2.1 v.2.2.1 v.2.2.2.1
theorem e0x (k:Ex→St→Prop):∀ v:l6 a3L,ex tb (j8 a5n) b8N (at' (g6 Tryz.f15) [1,0,1,0,1,1,1,1,1,1]) [1,0,1,0,1,1,1,1,1,1] (mkD 128 a3L v) (wk 128 c1u k)=c8e k v
 | (s3,x40,x64,x1b,())=>by kernel_rfl
def c7Y:Pce:=fun st k=>ckD 128 a3L st fun v=>wfD a3L v→c8e k v
theorem e0G:j5 Tryz.prog (at' (g6 Tryz.f15) [1,0,1,0,1,1,1,1,1,1]) c7Y:=
 (j5.wk (N:=128) (ds:=a3L) (dx:=c1u) (l3 o0 j9 a0b (c75) (at' (g6 Tryz.f15) [1,0,1,0,1,1,1,1,1,1]) [1,0,1,0,1,1,1,1,1,1] rfl (g9 a2j [1,0,1,0,1,1,1,1,1,1]))).mono fun st k h=>l4 h fun v hv hw=>Eq.mpr (e0x k v) (hv hw)
def b8O:q8:=([1,0,1,0,1,1,1,1,1,1],c7Y)::b8N
theorem c76:g7 Tryz.prog (g6 Tryz.f15) b8O:=g7.cons e0G (c75)
def a3M:List LS:=[.b 1 8 [],.o 3 29 5 yU,.c 8 tyX]
def a6K:List LS:=[.v 2 yB]
def c1v:DX:=⟨none,some a6K,[]⟩
def d3s (k:Ex→St→Prop) (x2:LI):Prop:=wfD a6K (x2,())→k .ret (mkD 128 a6K (x2,()))
def b30 (kr:LI→Prop) (s3:LI) (x1b:tEx):Prop:=
 a5m s3∧(
 ∀ (r5:tEx×Int),r5=a2K s3→(
 wfR (.tup [.v tyX r5.1,.v yI r5.2])→(
 bif (!decide (r5.2=(0:Int))) then
 kr ([]:LI)
 else
 ∀ (r6:Bool),r6=b0I x1b r5.1→(
 wB r6→(
 bif (!r6) then
 kr ([]:LI)
 else
 kr s3)))))
def c8f (k:Ex→St→Prop) (v:l6 a3M):Prop:=b30 (d3s k) v.1 v.2.1
theorem e0y (k:Ex→St→Prop):∀ v:l6 a3M,ex tb (j8 a5n) b8O (at' (g6 Tryz.f15) [1,1,1,1,1,1,1]) [1,1,1,1,1,1,1] (mkD 128 a3M v) (wk 128 c1v k)=c8f k v
 | (s3,x1b,())=>by kernel_rfl
def c7Z:Pce:=fun st k=>ckD 128 a3M st fun v=>wfD a3M v→c8f k v
theorem e0H:j5 Tryz.prog (at' (g6 Tryz.f15) [1,1,1,1,1,1,1]) c7Z:=
 (j5.wk (N:=128) (ds:=a3M) (dx:=c1v) (l3 o0 j9 a0b (c76) (at' (g6 Tryz.f15) [1,1,1,1,1,1,1]) [1,1,1,1,1,1,1] rfl (g9 a2j [1,1,1,1,1,1,1]))).mono fun st k h=>l4 h fun v hv hw=>Eq.mpr (e0y k v) (hv hw)
def b8P:q8:=([1,1,1,1,1,1,1],c7Z)::b8O
theorem c77:g7 Tryz.prog (g6 Tryz.f15) b8P:=g7.cons e0H (c76)
def a3N:List LS:=[.b 1 8 [],.o 3 29 5 yU,.c 8 tyX]
def a6L:List LS:=[.v 2 yB]
def c1w:DX:=⟨none,some a6L,[]⟩
def d3t (k:Ex→St→Prop) (x2:LI):Prop:=wfD a6L (x2,())→k .ret (mkD 128 a6L (x2,()))
def b31 (kr:LI→Prop) (s3:LI) (x1b:tEx):Prop:=
 bif (decide (x1b.2.2.2.2.2.2.1<(0:Int))) then
 kr ([]:LI)
 else
 bif (decide ((9999:Int)<x1b.2.2.2.2.2.2.1)) then
 kr ([]:LI)
 else
 bif (decide (x1b.2.2.2.1=([62]:LI))) then
 (wfD a3L (s3,x1b.2.2.2.1,(decide (x1b.2.2.2.1=([62]:LI))),x1b,())→b3Z (fun (s3:LI) (x1b:tEx)=>wfD a6J (s3,x1b,())→(
 (wfD a3M (s3,x1b,())→b30 (fun (x2:LI)=>wfD a6K (x2,())→(
 kr x2)) s3 x1b))) s3 x1b.2.2.2.1 (decide (x1b.2.2.2.1=([62]:LI))) x1b)
 else
 (wfD a3L (s3,x1b.2.2.2.1,(decide (x1b.2.2.2.1=([60]:LI))),x1b,())→b3Z (fun (s3:LI) (x1b:tEx)=>wfD a6J (s3,x1b,())→(
 (wfD a3M (s3,x1b,())→b30 (fun (x2:LI)=>wfD a6K (x2,())→(
 kr x2)) s3 x1b))) s3 x1b.2.2.2.1 (decide (x1b.2.2.2.1=([60]:LI))) x1b)
def c8g (k:Ex→St→Prop) (v:l6 a3N):Prop:=b31 (d3t k) v.1 v.2.1
theorem e0z (k:Ex→St→Prop):∀ v:l6 a3N,ex tb (j8 a5n) b8P (at' (g6 Tryz.f15) [1,1,1,1,1]) [1,1,1,1,1] (mkD 128 a3N v) (wk 128 c1w k)=c8g k v
 | (s3,x1b,())=>by kernel_rfl
def c70:Pce:=fun st k=>ckD 128 a3N st fun v=>wfD a3N v→c8g k v
theorem e0I:j5 Tryz.prog (at' (g6 Tryz.f15) [1,1,1,1,1]) c70:=
 (j5.wk (N:=128) (ds:=a3N) (dx:=c1w) (l3 o0 j9 a0b (c77) (at' (g6 Tryz.f15) [1,1,1,1,1]) [1,1,1,1,1] rfl (g9 a2j [1,1,1,1,1]))).mono fun st k h=>l4 h fun v hv hw=>Eq.mpr (e0z k v) (hv hw)
def b8Q:q8:=([1,1,1,1,1],c70)::b8P
theorem c78:g7 Tryz.prog (g6 Tryz.f15) b8Q:=g7.cons e0I (c77)
def a3O:List LS:=[.b 1 8 [],.o 3 29 5 yU,.c 8 tyX]
def a6M:List LS:=[.v 2 yB]
def c1x:DX:=⟨none,some a6M,[]⟩
def d3u (k:Ex→St→Prop) (x2:LI):Prop:=wfD a6M (x2,())→k .ret (mkD 128 a6M (x2,()))
def b32 (kr:LI→Prop) (s3:LI) (x1b:tEx):Prop:=
 bif x1b.2.1.2.2.2.2.2 then
 bif decide (List.length s3+List.length ([(44:Int)]:LI)≤lim) then
 a5l x1b.2.1∧(
 ∀ (r2:LI),r2=a1C x1b.2.1→(
 wfR (.one (.fr 5 yU r2))→(
 bif decide (List.length (s3++([(44:Int)]:LI))+List.length r2≤lim) then
 (wfD a3N (((s3++([(44:Int)]:LI))++r2),x1b,())→b31 (fun (x2:LI)=>wfD a6L (x2,())→(
 kr x2)) ((s3++([(44:Int)]:LI))++r2) x1b)
 else False)))
 else False
 else
 (wfD a3N (s3,x1b,())→b31 (fun (x2:LI)=>wfD a6L (x2,())→(
 kr x2)) s3 x1b)
def c8h (k:Ex→St→Prop) (v:l6 a3O):Prop:=b32 (d3u k) v.1 v.2.1
theorem e0A (k:Ex→St→Prop):∀ v:l6 a3O,ex tb (j8 a5n) b8Q (at' (g6 Tryz.f15) [1,1,1,1]) [1,1,1,1] (mkD 128 a3O v) (wk 128 c1x k)=c8h k v
 | (s3,x1b,())=>by kernel_rfl
def c71:Pce:=fun st k=>ckD 128 a3O st fun v=>wfD a3O v→c8h k v
theorem e0J:j5 Tryz.prog (at' (g6 Tryz.f15) [1,1,1,1]) c71:=
 (j5.wk (N:=128) (ds:=a3O) (dx:=c1x) (l3 o0 j9 a0b (c78) (at' (g6 Tryz.f15) [1,1,1,1]) [1,1,1,1] rfl (g9 a2j [1,1,1,1]))).mono fun st k h=>l4 h fun v hv hw=>Eq.mpr (e0A k v) (hv hw)
def b8R:q8:=([1,1,1,1],c71)::b8Q
theorem c79:g7 Tryz.prog (g6 Tryz.f15) b8R:=g7.cons e0J (c78)
def a3P:List LS:=[.b 1 8 [],.o 3 29 5 yU,.c 8 tyX]
def a6N:List LS:=[.v 2 yB]
def c1y:DX:=⟨none,some a6N,[]⟩
def d3v (k:Ex→St→Prop) (x2:LI):Prop:=wfD a6N (x2,())→k .ret (mkD 128 a6N (x2,()))
def b33 (kr:LI→Prop) (s3:LI) (x1b:tEx):Prop:=
 bif x1b.1.2.2.2.2.2 then
 a5l x1b.1∧(
 ∀ (r1:LI),r1=a1C x1b.1→(
 wfR (.one (.fr 5 yU r1))→(
 bif decide (List.length s3+List.length r1≤lim) then
 (wfD a3O ((s3++r1),x1b,())→b32 (fun (x2:LI)=>wfD a6M (x2,())→(
 kr x2)) (s3++r1) x1b)
 else False)))
 else
 (wfD a3O (s3,x1b,())→b32 (fun (x2:LI)=>wfD a6M (x2,())→(
 kr x2)) s3 x1b)
def c8i (k:Ex→St→Prop) (v:l6 a3P):Prop:=b33 (d3v k) v.1 v.2.1
theorem e0B (k:Ex→St→Prop):∀ v:l6 a3P,ex tb (j8 a5n) b8R (at' (g6 Tryz.f15) [1,1,1]) [1,1,1] (mkD 128 a3P v) (wk 128 c1y k)=c8i k v
 | (s3,x1b,())=>by kernel_rfl
def c72:Pce:=fun st k=>ckD 128 a3P st fun v=>wfD a3P v→c8i k v
theorem e0K:j5 Tryz.prog (at' (g6 Tryz.f15) [1,1,1]) c72:=
 (j5.wk (N:=128) (ds:=a3P) (dx:=c1y) (l3 o0 j9 a0b (c79) (at' (g6 Tryz.f15) [1,1,1]) [1,1,1] rfl (g9 a2j [1,1,1]))).mono fun st k h=>l4 h fun v hv hw=>Eq.mpr (e0B k v) (hv hw)
def c7U:q8:=([1,1,1],c72)::b8R
theorem e0r:g7 Tryz.prog (g6 Tryz.f15) c7U:=g7.cons e0K (c79)
def c1z (x0:tEx) (K:Res→List Cell→Prop):Prop:=
 bif x0.2.2.1 then
 bif decide (List.length ([]:LI)+List.length ([(37:Int)]:LI)≤lim) then
 (wfD a3P ((([]:LI)++([(37:Int)]:LI)),x0,())→b33 (fun (x2:LI)=>wfD a6N (x2,())→(
 K (.one (.v yB x2)) [])) (([]:LI)++([(37:Int)]:LI)) x0)
 else False
 else
 (wfD a3P (([]:LI),x0,())→b33 (fun (x2:LI)=>wfD a6N (x2,())→(
 K (.one (.v yB x2)) [])) ([]:LI) x0)
def b6v:List AS:=[.v tyX]
def b6x (s:LI) (i:Int) (x:ExD):Prop:=i=0∧0<x.2.2.2.1.length∧0≤x.2.2.2.2.2.2.1∧x.2.2.2.2.2.2.1≤9999∧(s.length:Int)+x.2.2.2.2.2.2.1≤lim
def b6w (s:LI) (i:Int) (x:ExD):LI×ExD:=(s++List.replicate x.2.2.2.2.2.2.1.toNat (rd (0:Int) x.2.2.2.1 0),x)
theorem c8j (kx1:LI→ExD→Prop) (x:ExD) (hn0:0<x.2.2.2.1.length) (h9:x.2.2.2.2.2.2.1≤9999) :
  ∀ (n i m:Nat) (s:LI),x.2.2.2.2.2.2.1=((i+m:Nat):Int)→m<n→s.length+m≤lim→kx1 (s++List.replicate m (rd (0:Int) x.2.2.2.1 0)) x→b0D kx1 n s (i:Int) x
 | 0,i,m,s,_,hn,_,_=>absurd hn (Nat.not_lt_zero _)
 | n+1,i,m,s,he,hn,hl,hx=>by
  intro _
  unfold b34
  rw [he]
  refine brn (fun hlt=>C1 (by omega) ?_) (fun hge=>?_)
  ·cases m with
   | zero=>exact absurd hlt (by omega)
   | succ m=>
    rw [wrap_i64 (by omega) (by omega),show (i:Int)+1=((i+1:Nat):Int) by omega]
    refine C1 (by simp only [List.length_cons,List.length_nil]; omega) ?_
    refine c8j kx1 x hn0 h9 n (i+1) m _ (by rw [he]; omega) (by omega) (by simp only [List.length_append,List.length_cons,List.length_nil]; omega) ?_
    rw [List.append_assoc]
    exact hx
  ·have:m=0:=by omega
   subst this
   rw [List.replicate_zero,List.append_nil] at hx
   exact hx
theorem c3x (kx1:LI→ExD→Prop) (s:LI) (i:Int) (x:ExD) (hp:b6x s i x) (hx:∀ q:LI×ExD,q=b6w s i x→kx1 q.1 q.2):∃ m,b0D kx1 m s i x:=by
 obtain ⟨rfl,h0,h1,h9,hl⟩:=hp
 refine ⟨x.2.2.2.2.2.2.1.toNat+1,c8j kx1 x h0 h9 _ 0 x.2.2.2.2.2.2.1.toNat s (by omega) (by omega) (by omega) ?_⟩
 exact hx _ rfl
def a3y (s3:LI) (x1b:tEx):Prop:=
 bif (!decide (x1b.2.2.2.2.2.2.1=(0:Int))) then
 (List.length s3+List.length ([(32:Int)]:LI)≤lim)∧(
 c6b x1b.2.2.2.2.2.2.1∧(
 let r4:LI:=a3k x1b.2.2.2.2.2.2.1
 (List.length (s3++([(32:Int)]:LI))+List.length r4≤lim)))
 else
 True
def a3x (s3:LI) (x1b:tEx):LI×tEx:=
 bif (!decide (x1b.2.2.2.2.2.2.1=(0:Int))) then
 let r4:LI:=a3k x1b.2.2.2.2.2.2.1
 (((s3++([(32:Int)]:LI))++r4),x1b)
 else
 (s3,x1b)
theorem b2n (kn:LI→tEx→Prop) (s3:LI) (x1b:tEx) (hp:a3y s3 x1b) (hn:∀ q:LI×tEx,q=a3x s3 x1b→kn q.1 q.2):b3X kn s3 x1b:=
 have h:=hn; br1 hp h (fun _ hp h=>as1 hp fun hp=>an1 hp fun hp=>al (as0 hp (h _ rfl)))
 fun _ hp h=>h _ rfl
def a3A (s3:LI) (x100:Bool) (x1b:tEx):Prop:=
 bif x100 then
 (0≤(0:Int)∧(0:Int)<(List.length x1b.2.2.2.1:Int))∧(
 (List.length s3+List.length ([(rd (0:Int) x1b.2.2.2.1 (0:Int)),(32:Int)]:LI)≤lim)∧(
 a5l x1b.2.2.2.2.1∧(
 let r3:LI:=a1C x1b.2.2.2.2.1
 (List.length (s3++([(rd (0:Int) x1b.2.2.2.1 (0:Int)),(32:Int)]:LI))+List.length r3≤lim))))
 else
 (List.length s3+List.length x1b.2.2.2.1≤lim)∧(
 bif (!decide (x1b.2.2.2.2.2.1=(0:Int))) then
 (List.length (s3++x1b.2.2.2.1)+List.length ([(32:Int),x1b.2.2.2.2.2.1]:LI)≤lim)∧(
 a3y ((s3++x1b.2.2.2.1)++([(32:Int),x1b.2.2.2.2.2.1]:LI)) x1b)
 else
 a3y (s3++x1b.2.2.2.1) x1b)
def a3z (s3:LI) (x100:Bool) (x1b:tEx):LI×tEx:=
 bif x100 then
 let r3:LI:=a1C x1b.2.2.2.2.1
 (((s3++([(rd (0:Int) x1b.2.2.2.1 (0:Int)),(32:Int)]:LI))++r3),x1b)
 else
 bif (!decide (x1b.2.2.2.2.2.1=(0:Int))) then
 let q1n:LI×tEx:=a3x ((s3++x1b.2.2.2.1)++([(32:Int),x1b.2.2.2.2.2.1]:LI)) x1b
 let s3:LI:=q1n.1
 let x1b:tEx:=q1n.2
 (s3,x1b)
 else
 let q1n:LI×tEx:=a3x (s3++x1b.2.2.2.1) x1b
 let s3:LI:=q1n.1
 let x1b:tEx:=q1n.2
 (s3,x1b)
theorem b2o (kn:LI→tEx→Prop) (s3:LI) (x100:Bool) (x1b:tEx) (hp:a3A s3 x100 x1b) (hn:∀ q:LI×tEx,q=a3z s3 x100 x1b→kn q.1 q.2):b3Y kn s3 x100 x1b:=
 have h:=hn; br1 hp h (fun _ hp h=>as1 hp fun hp=>as1 hp fun hp=>an1 hp fun hp=>al (as0 hp (h _ rfl)))
 fun _ hp h=>as1 hp fun hp=>br1 hp h (fun _ hp h=>as1 hp fun hp=>fun _=>b2n _ _ _ hp (al (h _ rfl)))
 fun _ hp h=>fun _=>b2n _ _ _ hp (al (h _ rfl))
def a3B (s3:LI) (x40:LI) (x64:Bool) (x1b:tEx):Prop:=
 bif x64 then
 b6x s3 (0:Int) x1b
 else
 bif (decide (x40=([115]:LI))) then
 (List.length s3+List.length ([(115:Int),(47:Int)]:LI)≤lim)∧(
 (List.length (s3++([(115:Int),(47:Int)]:LI))+List.length x1b.2.2.2.2.2.2.2.1≤lim)∧(
 (List.length ((s3++([(115:Int),(47:Int)]:LI))++x1b.2.2.2.2.2.2.2.1)+List.length ([(47:Int)]:LI)≤lim)∧(
 (List.length (((s3++([(115:Int),(47:Int)]:LI))++x1b.2.2.2.2.2.2.2.1)++([(47:Int)]:LI))+List.length x1b.2.2.2.2.2.2.2.2.1≤lim)∧(
 bif x1b.2.2.2.2.2.2.2.2.2 then
 (List.length ((((s3++([(115:Int),(47:Int)]:LI))++x1b.2.2.2.2.2.2.2.1)++([(47:Int)]:LI))++x1b.2.2.2.2.2.2.2.2.1)+List.length ([(47:Int),(103:Int)]:LI)≤lim)
 else
 True))))
 else
 bif (decide (x40=([116]:LI))) then
 a3A s3 (decide (x40=([116]:LI))) x1b
 else
 a3A s3 (decide (x40=([109]:LI))) x1b
def a0w (s3:LI) (x40:LI) (x64:Bool) (x1b:tEx):LI×tEx:=
 bif x64 then
 let q0x1:LI×tEx:=b6w s3 (0:Int) x1b
 let s3:LI:=q0x1.1
 let x1b:tEx:=q0x1.2
 (s3,x1b)
 else
 bif (decide (x40=([115]:LI))) then
 bif x1b.2.2.2.2.2.2.2.2.2 then
 ((((((s3++([(115:Int),(47:Int)]:LI))++x1b.2.2.2.2.2.2.2.1)++([(47:Int)]:LI))++x1b.2.2.2.2.2.2.2.2.1)++([(47:Int),(103:Int)]:LI)),x1b)
 else
 (((((s3++([(115:Int),(47:Int)]:LI))++x1b.2.2.2.2.2.2.2.1)++([(47:Int)]:LI))++x1b.2.2.2.2.2.2.2.2.1),x1b)
 else
 bif (decide (x40=([116]:LI))) then
 let q2n:LI×tEx:=a3z s3 (decide (x40=([116]:LI))) x1b
 let s3:LI:=q2n.1
 let x1b:tEx:=q2n.2
 (s3,x1b)
 else
 let q2n:LI×tEx:=a3z s3 (decide (x40=([109]:LI))) x1b
 let s3:LI:=q2n.1
 let x1b:tEx:=q2n.2
 (s3,x1b)
theorem b2p (kn:LI→tEx→Prop) (s3:LI) (x40:LI) (x64:Bool) (x1b:tEx) (hp:a3B s3 x40 x64 x1b) (hn:∀ q:LI×tEx,q=a0w s3 x40 x64 x1b→kn q.1 q.2):b3Z kn s3 x40 x64 x1b:=
 have h:=hn; br1 hp h (fun _ hp h=>fun _=>c3x _ _ _ _ hp (al (h _ rfl)))
 fun _ hp h=>br1 hp h (fun _ hp h=>as1 hp fun hp=>as1 hp fun hp=>as1 hp fun hp=>as1 hp fun hp=>br1 hp h (fun _ hp h=>as0 hp (h _ rfl))
 fun _ hp h=>h _ rfl)
 fun _ hp h=>br1 hp h (fun _ hp h=>fun _=>b2o _ _ _ _ hp (al (h _ rfl)))
 fun _ hp h=>fun _=>b2o _ _ _ _ hp (al (h _ rfl))
def a6F (s3:LI) (x1b:tEx):Prop:=
 a5m s3
def a3C (s3:LI) (x1b:tEx):LI:=
 let r5:tEx×Int:=a2K s3
 bif (!decide (r5.2=(0:Int))) then
 (([]:LI))
 else
 let r6:Bool:=b0I x1b r5.1
 bif (!r6) then
 (([]:LI))
 else
 (s3)
theorem b2q (kr:LI→Prop) (s3:LI) (x1b:tEx) (hp:a6F s3 x1b) (hr:∀ q:LI,q=a3C s3 x1b→kr q):b30 kr s3 x1b:=
 have h:=hr; ⟨hp,al (br0 h (fun _ h=>h _ rfl)
 fun _ h=>al (br0 h (fun _ h=>h _ rfl)
 fun _ h=>h _ rfl))⟩
def a3E (s3:LI) (x1b:tEx):Prop:=
 bif (decide (x1b.2.2.2.2.2.2.1<(0:Int))) then
 True
 else
 bif (decide ((9999:Int)<x1b.2.2.2.2.2.2.1)) then
 True
 else
 bif (decide (x1b.2.2.2.1=([62]:LI))) then
 a3B s3 x1b.2.2.2.1 (decide (x1b.2.2.2.1=([62]:LI))) x1b∧(
 let q3n:LI×tEx:=a0w s3 x1b.2.2.2.1 (decide (x1b.2.2.2.1=([62]:LI))) x1b
 let s3:LI:=q3n.1
 let x1b:tEx:=q3n.2
 a6F s3 x1b)
 else
 a3B s3 x1b.2.2.2.1 (decide (x1b.2.2.2.1=([60]:LI))) x1b∧(
 let q3n:LI×tEx:=a0w s3 x1b.2.2.2.1 (decide (x1b.2.2.2.1=([60]:LI))) x1b
 let s3:LI:=q3n.1
 let x1b:tEx:=q3n.2
 a6F s3 x1b)
def a3D (s3:LI) (x1b:tEx):LI:=
 bif (decide (x1b.2.2.2.2.2.2.1<(0:Int))) then
 (([]:LI))
 else
 bif (decide ((9999:Int)<x1b.2.2.2.2.2.2.1)) then
 (([]:LI))
 else
 bif (decide (x1b.2.2.2.1=([62]:LI))) then
 let q3n:LI×tEx:=a0w s3 x1b.2.2.2.1 (decide (x1b.2.2.2.1=([62]:LI))) x1b
 let s3:LI:=q3n.1
 let x1b:tEx:=q3n.2
 let q4r:LI:=a3C s3 x1b
 let x2:LI:=q4r
 (x2)
 else
 let q3n:LI×tEx:=a0w s3 x1b.2.2.2.1 (decide (x1b.2.2.2.1=([60]:LI))) x1b
 let s3:LI:=q3n.1
 let x1b:tEx:=q3n.2
 let q4r:LI:=a3C s3 x1b
 let x2:LI:=q4r
 (x2)
theorem b2r (kr:LI→Prop) (s3:LI) (x1b:tEx) (hp:a3E s3 x1b) (hr:∀ q:LI,q=a3D s3 x1b→kr q):b31 kr s3 x1b:=
 have h:=hr; br1 hp h (fun _ hp h=>h _ rfl)
 fun _ hp h=>br1 hp h (fun _ hp h=>h _ rfl)
 fun _ hp h=>br1 hp h (fun _ hp h=>fun _=>b2p _ _ _ _ _ hp.1 (have hp:=hp.2; al (fun _=>b2q _ _ _ hp (al (h _ rfl)))))
 fun _ hp h=>fun _=>b2p _ _ _ _ _ hp.1 (have hp:=hp.2; al (fun _=>b2q _ _ _ hp (al (h _ rfl))))
def a3G (s3:LI) (x1b:tEx):Prop:=
 bif x1b.2.1.2.2.2.2.2 then
 (List.length s3+List.length ([(44:Int)]:LI)≤lim)∧(
 a5l x1b.2.1∧(
 let r2:LI:=a1C x1b.2.1
 (List.length (s3++([(44:Int)]:LI))+List.length r2≤lim)∧(
 a3E ((s3++([(44:Int)]:LI))++r2) x1b)))
 else
 a3E s3 x1b
def a3F (s3:LI) (x1b:tEx):LI:=
 bif x1b.2.1.2.2.2.2.2 then
 let r2:LI:=a1C x1b.2.1
 let q5r:LI:=a3D ((s3++([(44:Int)]:LI))++r2) x1b
 let x2:LI:=q5r
 (x2)
 else
 let q5r:LI:=a3D s3 x1b
 let x2:LI:=q5r
 (x2)
theorem b2s (kr:LI→Prop) (s3:LI) (x1b:tEx) (hp:a3G s3 x1b) (hr:∀ q:LI,q=a3F s3 x1b→kr q):b32 kr s3 x1b:=
 have h:=hr; br1 hp h (fun _ hp h=>as1 hp fun hp=>an1 hp fun hp=>al (as1 hp fun hp=>fun _=>b2r _ _ _ hp (al (h _ rfl))))
 fun _ hp h=>fun _=>b2r _ _ _ hp (al (h _ rfl))
def a3I (s3:LI) (x1b:tEx):Prop:=
 bif x1b.1.2.2.2.2.2 then
 a5l x1b.1∧(
 let r1:LI:=a1C x1b.1
 (List.length s3+List.length r1≤lim)∧(
 a3G (s3++r1) x1b))
 else
 a3G s3 x1b
def a3H (s3:LI) (x1b:tEx):LI:=
 bif x1b.1.2.2.2.2.2 then
 let r1:LI:=a1C x1b.1
 let q6r:LI:=a3F (s3++r1) x1b
 let x2:LI:=q6r
 (x2)
 else
 let q6r:LI:=a3F s3 x1b
 let x2:LI:=q6r
 (x2)
theorem b2t (kr:LI→Prop) (s3:LI) (x1b:tEx) (hp:a3I s3 x1b) (hr:∀ q:LI,q=a3H s3 x1b→kr q):b33 kr s3 x1b:=
 have h:=hr; br1 hp h (fun _ hp h=>an1 hp fun hp=>al (as1 hp fun hp=>fun _=>b2s _ _ _ hp (al (h _ rfl))))
 fun _ hp h=>fun _=>b2s _ _ _ hp (al (h _ rfl))
def b6y (x0:tEx):Prop:=
 bif x0.2.2.1 then
 (List.length ([]:LI)+List.length ([(37:Int)]:LI)≤lim)∧(
 a3I (([]:LI)++([(37:Int)]:LI)) x0)
 else
 a3I ([]:LI) x0
def b2m (x0:tEx):LI:=
 bif x0.2.2.1 then
 let q7r:LI:=a3H (([]:LI)++([(37:Int)]:LI)) x0
 let x2:LI:=q7r
 x2
 else
 let q7r:LI:=a3H ([]:LI) x0
 let x2:LI:=q7r
 x2
theorem e0u (x0:tEx) (K:Res→List Cell→Prop) (_:wfA b6v (x0,())) (hp:b6y x0) (h:∀ r:LI,r=b2m x0→K (.one (.v yB r)) []):c1z x0 K:=
 br1 hp h (fun _ hp h=>as1 hp fun hp=>fun _=>b2t _ _ _ hp (al (h _ rfl)))
 fun _ hp h=>fun _=>b2t _ _ _ hp (al (h _ rfl))
def e5L (v:j3 b6v) (K:Res→List Cell→Prop):Prop:=b6y v.1∧∀ r:LI,r=b2m v.1→K (.one (.v yB r)) []
def d5P:App:=specW b6v e5L
theorem e0C (K:Res→List Cell→Prop):∀ v:j3 b6v,q7 tb (j8 a5n) c7U Tryz.f15 [true] (mkA b6v v) K=c1z v.1 K
 | (x0,())=>by kernel_rfl
theorem e0s:g8 Tryz.prog 15 d5P:=
 g8.specW (l9 ((l8 o0 j9 a0b (e0r) (f:=15) (fn:=Tryz.f15) (by kernel_rfl) (by kernel_rfl) a2j [true])) fun v K hw h=>(e0C K v).mpr (e0u v.1 K hw h.1 h.2))
end Go.VE
namespace Go.VE
open Go
def bdR (x:ExD):LI:=if x.2.2.2.1=[62]∨x.2.2.2.1=[60] then List.replicate x.2.2.2.2.2.2.1.toNat (rd (0:Int) x.2.2.2.1 0)
 else if x.2.2.2.1=[115] then 115::47::(x.2.2.2.2.2.2.2.1++(47::(x.2.2.2.2.2.2.2.2.1++(if x.2.2.2.2.2.2.2.2.2=true then [47,103] else []))))
 else if x.2.2.2.1=[116]∨x.2.2.2.1=[109] then rd (0:Int) x.2.2.2.1 0::32::adS x.2.2.2.2.1
 else x.2.2.2.1++(rS x++(if x.2.2.2.2.2.2.1=0 then [] else 32::dec x.2.2.2.2.2.2.1.toNat))
def rfS (x:ExD):LI:=(if x.2.2.1=true then [37] else [])++((if x.1.2.2.2.2.2=true then adS x.1 else [])++((if x.2.1.2.2.2.2.2=true then 44::adS x.2.1 else [])++bdR x))
section
variable (x:ExD)
theorem jr4 (out:LI) (ho:out.length≤lim):a6F out x∧a3C out x=chk x out:=by
 obtain ⟨p,f⟩:=b9n out ho
 refine ⟨p,?_⟩
 unfold a3C chk
 simp only [f]
 cases hp:a0Z out with
 | inl y=>
  simp only [toB]
  have e:b0I x y=a5t x y:=by
   rw [Bool.eq_iff_iff,e38,b9r]
  rw [e]
  cases a5t x y <;> rfl
 | inr e=>rcases b28 hp with rfl | rfl <;> rfl
theorem jr1 (h0:0≤x.2.2.2.2.2.2.1) (h9:x.2.2.2.2.2.2.1≤9999) (out:LI) (ho:out.length+20≤lim) :
  a3y out x∧a3x out x=(out++(if x.2.2.2.2.2.2.1=0 then [] else 32::dec x.2.2.2.2.2.2.1.toNat),x):=by
 unfold a3y a3x a3k
 have hdl:=a0I x.2.2.2.2.2.2.1.toNat
 by_cases c:x.2.2.2.2.2.2.1=0
 ·rw [decide_eq_true c,if_pos c,List.append_nil]
  exact ⟨trivial,rfl⟩
 ·rw [decide_eq_false c,if_neg c]
  refine ⟨⟨by simp only [List.length_cons,List.length_nil]; omega,⟨10,h0,by omega,by omega,by omega⟩,by simp only [List.length_append,List.length_cons,List.length_nil]; omega⟩,?_⟩
  show (out++[32]++dec _,x)=_
  rw [List.append_assoc]; rfl
theorem jr3 (h0:0≤x.2.2.2.2.2.2.1) (h9:x.2.2.2.2.2.2.1≤9999) (out:LI) (ho:out.length+szX x+20000≤lim) (fl:Bool) (hfl:fl=(decide (x.2.2.2.1=[62]) || decide (x.2.2.2.1=[60]))) :
  a3B out x.2.2.2.1 fl x∧a0w out x.2.2.2.1 fl x=(out++bdR x,x):=by
 have hlim:lim=1099511627776:=rfl
 have hz:x.2.2.2.1.length+x.2.2.2.2.1.2.2.2.1.length+x.2.2.2.2.2.2.2.1.length+x.2.2.2.2.2.2.2.2.1.length≤szX x:=by unfold szX; omega
 unfold a3B a0w bdR
 by_cases c:x.2.2.2.1=[62]∨x.2.2.2.1=[60]
 ·rw [show fl=true by rw [hfl]; rcases c with h | h <;> simp [h],if_pos c]
  have:x.2.2.2.1.length=1:=by rcases c with h | h <;> rw [h] <;> rfl
  exact ⟨⟨rfl,by omega,h0,h9,by omega⟩,rfl⟩
 rw [show fl=false by rw [hfl]; simp at c; simp [c],if_neg c]
 by_cases c1:x.2.2.2.1=[115]
 ·rw [decide_eq_true c1,if_pos c1]
  refine ⟨⟨by simp only [List.length_cons,List.length_nil]; omega,by simp only [List.length_append,List.length_cons,List.length_nil]; omega,by simp only [List.length_append,List.length_cons,List.length_nil]; omega,by simp only [List.length_append,List.length_cons,List.length_nil]; omega,?_⟩,?_⟩
  ·refine brb (fun _=>?_) (fun _=>trivial)
   simp only [List.length_append,List.length_cons,List.length_nil]; omega
  ·cases x.2.2.2.2.2.2.2.2.2 <;> simp
 rw [decide_eq_false c1,if_neg c1]
 have j2:∀ f2:Bool,f2=(decide (x.2.2.2.1=[116]) || decide (x.2.2.2.1=[109]))→a3A out f2 x∧a3z out f2 x=(out++(if x.2.2.2.1=[116]∨x.2.2.2.1=[109] then rd (0:Int) x.2.2.2.1 0::32::adS x.2.2.2.2.1
   else x.2.2.2.1++(rS x++(if x.2.2.2.2.2.2.1=0 then [] else 32::dec x.2.2.2.2.2.2.1.toNat))),x):=by
  intro f2 hf2
  unfold a3A a3z
  by_cases c2:x.2.2.2.1=[116]∨x.2.2.2.1=[109]
  ·rw [show f2=true by rw [hf2]; rcases c2 with h | h <;> simp [h],if_pos c2]
   have:x.2.2.2.1.length=1:=by rcases c2 with h | h <;> rw [h] <;> rfl
   obtain ⟨sp,sf⟩:=b43 x.2.2.2.2.1 (by omega)
   have:=V4 x.2.2.2.2.1
   simp only [sf,cond_true]
   refine ⟨⟨by omega,by simp only [List.length_cons,List.length_nil]; omega,sp,by simp only [List.length_append,List.length_cons,List.length_nil]; omega⟩,?_⟩
   simp
  ·rw [show f2=false by rw [hf2]; simp at c2; simp [c2],if_neg c2]
   unfold rS
   by_cases c3:x.2.2.2.2.2.1=0
   ·rw [decide_eq_true c3,if_pos c3]
    have j:=jr1 x h0 h9 (out++x.2.2.2.1) (by rw [List.length_append]; omega)
    refine ⟨⟨by omega,j.1⟩,?_⟩
    simp [j.2]
   ·rw [decide_eq_false c3,if_neg c3]
    have j:=jr1 x h0 h9 ((out++x.2.2.2.1)++[32,x.2.2.2.2.2.1]) (by simp only [List.length_append,List.length_cons,List.length_nil]; omega)
    refine ⟨⟨by omega,by simp only [List.length_append,List.length_cons,List.length_nil]; omega,j.1⟩,?_⟩
    simp only [cond_false,Bool.not_false,cond_true,j.2]
    simp
 by_cases c2:x.2.2.2.1=[116]
 ·rw [decide_eq_true c2]
  have j:=j2 true (by rw [decide_eq_true c2]; rfl)
  exact ⟨j.1,j.2⟩
 ·rw [decide_eq_false c2]
  have j:=j2 (decide (x.2.2.2.1=[109])) (by rw [decide_eq_false c2]; rfl)
  exact ⟨j.1,j.2⟩
theorem e6U:(rS x).length≤2:=by
 unfold rS
 split <;> simp
theorem d1U (h0:0≤x.2.2.2.2.2.2.1) (h9:x.2.2.2.2.2.2.1≤9999):(bdR x).length≤szX x+10050:=by
 have hz:x.2.2.2.1.length+x.2.2.2.2.1.2.2.2.1.length+x.2.2.2.2.2.2.2.1.length+x.2.2.2.2.2.2.2.2.1.length≤szX x:=by unfold szX; omega
 have h1:=V4 x.2.2.2.2.1
 have h2:=a0I x.2.2.2.2.2.2.1.toNat
 have h3:=e6U x
 unfold bdR
 repeat' split
 all_goals ((try simp only [List.length_append,List.length_cons,List.length_nil,List.length_replicate]); omega)
theorem jr5 (out:LI) (ho:out.length+2 * szX x+30000≤lim):a3E out x∧a3D out x=if x.2.2.2.2.2.2.1<0∨9999<x.2.2.2.2.2.2.1 then [] else chk x (out++bdR x):=by
 unfold a3E a3D
 by_cases h0:x.2.2.2.2.2.2.1<0
 ·rw [decide_eq_true h0,if_pos (.inl h0)]; exact ⟨trivial,rfl⟩
 rw [decide_eq_false h0]
 by_cases h9:9999<x.2.2.2.2.2.2.1
 ·rw [decide_eq_true h9,if_pos (.inr h9)]; exact ⟨trivial,rfl⟩
 rw [decide_eq_false h9,if_neg (by omega)]
 have hb:=d1U x (by omega) (by omega)
 have k:=jr4 x (out++bdR x) (by rw [List.length_append]; omega)
 by_cases c:x.2.2.2.1=[62]
 ·have j:=jr3 x (by omega) (by omega) out (by omega) true (by rw [decide_eq_true c]; rfl)
  rw [decide_eq_true c]
  simp only [cond_true,cond_false,j.2]
  exact ⟨⟨j.1,k.1⟩,k.2⟩
 ·have j:=jr3 x (by omega) (by omega) out (by omega) (decide (x.2.2.2.1=[60])) (by rw [decide_eq_false c]; rfl)
  rw [decide_eq_false c]
  simp only [cond_false,j.2]
  exact ⟨⟨j.1,k.1⟩,k.2⟩
theorem d4p (hx:3 * szX x+40000≤lim):b6y x∧b2m x=if x.2.2.2.2.2.2.1<0∨9999<x.2.2.2.2.2.2.1 then [] else chk x (rfS x):=by
 have hz:x.1.2.2.2.1.length+x.2.1.2.2.2.1.length≤szX x:=by unfold szX; omega
 have h1:=V4 x.1
 have h2:=V4 x.2.1
 obtain ⟨sp1,sf1⟩:=b43 x.1 (by omega)
 obtain ⟨sp2,sf2⟩:=b43 x.2.1 (by omega)
 have j6:∀ out:LI,out.length+x.2.1.2.2.2.1.length+2 * szX x+30050≤lim→a3G out x∧a3F out x=if x.2.2.2.2.2.2.1<0∨9999<x.2.2.2.2.2.2.1 then [] else chk x (out++((if x.2.1.2.2.2.2.2=true then 44::adS x.2.1 else [])++bdR x)):=by
  intro out ho
  unfold a3G a3F
  simp only [sf2]
  cases x.2.1.2.2.2.2.2
  ·have j:=jr5 x out (by omega)
   exact ⟨j.1,by simpa using j.2⟩
  ·have j:=jr5 x ((out++[44])++adS x.2.1) (by simp only [List.length_append,List.length_cons,List.length_nil]; omega)
   refine ⟨⟨by simp only [List.length_cons,List.length_nil]; omega,sp2,by simp only [List.length_append,List.length_cons,List.length_nil]; omega,j.1⟩,?_⟩
   simpa using j.2
 have j7:∀ out:LI,out.length≤1→a3I out x∧a3H out x=if x.2.2.2.2.2.2.1<0∨9999<x.2.2.2.2.2.2.1 then [] else chk x (out++((if x.1.2.2.2.2.2=true then adS x.1 else [])++((if x.2.1.2.2.2.2.2=true then 44::adS x.2.1 else [])++bdR x))):=by
  intro out ho
  unfold a3I a3H
  simp only [sf1]
  cases x.1.2.2.2.2.2
  ·have j:=j6 out (by omega)
   exact ⟨j.1,by simpa using j.2⟩
  ·have j:=j6 (out++adS x.1) (by rw [List.length_append]; omega)
   refine ⟨⟨sp1,by omega,j.1⟩,?_⟩
   simpa using j.2
 unfold b6y b2m rfS
 cases x.2.2.1
 ·have j:=j7 [] (by simp)
  exact ⟨j.1,by simpa using j.2⟩
 ·have j:=j7 [37] (by simp)
  exact ⟨⟨by simp only [List.length_cons,List.length_nil]; omega,j.1⟩,by simpa using j.2⟩
end
end Go.VE
namespace Go.VE
theorem a5y:∀ xs:List Int,bulk (.sl (.int .u8)) xs=xs.length+1:=by
 intro xs
 show (xs.map (bulk (.int .u8))).sum+1=_
 congr 1
 induction xs with
 | nil=>rfl
 | cons x xs ih=>rw [List.map_cons,List.sum_cons,ih,List.length_cons]; show 1+xs.length=_; omega
end Go.VE
namespace Go.VE
set_option maxRecDepth 20000
open Go Go.Proofs
def c4P:List (Nat×App):=[]
theorem c4Q:GOk Tryz.prog (j8 c4P):=GOk.nil
def b5F (t0:LI) (at1:Int) (K:Res→List Cell→Prop):Prop:=
 bif (decide ((0:Int)≤at1)) then
 K (.one (.v .bool (decide (at1≤(List.length t0:Int))))) []
 else
 K (.one (.v .bool false)) []
def a9M:List AS:=[.v yB,.v yI]
def a7R (t0:LI) (at1:Int):Bool:=
 bif (decide ((0:Int)≤at1)) then
 (decide (at1≤(List.length t0:Int)))
 else
 false
theorem d2p (t0:LI) (at1:Int) (K:Res→List Cell→Prop) (_:wfA a9M (t0,at1,())) (h:∀ r:Bool,r=a7R t0 at1→K (.one (.v .bool r)) []):b5F t0 at1 K:=
 br0 h (fun _ h=>h _ rfl)
 fun _ h=>h _ rfl
def d7c (v:j3 a9M) (K:Res→List Cell→Prop):Prop:=∀ r:Bool,r=a7R v.1 v.2.1→K (.one (.v .bool r)) []
def c4R:App:=specW a9M d7c
theorem d2q (K:Res→List Cell→Prop):∀ v:j3 a9M,q7 tb (j8 c4P) [] Tryz.f68 [true] (mkA a9M v) K=b5F v.1 v.2.1 K
 | (t0,at1,())=>by kernel_rfl
theorem d2o:g8 Tryz.prog 68 c4R:=
 g8.specW (l9 ((l8 o0 j9 c4Q (g7.nil) (f:=68) (fn:=Tryz.f68) (by kernel_rfl) (by kernel_rfl) (by kernel_rfl) [true])) fun v K hw h=>(d2q K v).mpr (d2p v.1 v.2.1 K hw h))
end Go.VE
namespace Go.VE
open Go Go.Proofs
def e4Y:List AS:=[]
def d45:App:=specW e4Y fun _ _=>False
theorem d7r:g8 Tryz.prog 129 d45:=g8.never
def d46 (xs:LI) (c:Int):Int:=(List.count c xs:Int)
def d47:App:=specW Z3 fun v K=>∀ r:Int,r=d46 v.1 v.2.1→K (.one (.v yI r)) []
theorem d7s:g8 Tryz.prog 130 d47:=
 c3a (fn:=Tryz.f130) (by kernel_rfl) (by kernel_rfl) (by kernel_rfl) (by kernel_rfl) (by kernel_rfl)
def e6L:List AS:=[]
def d6H:App:=specW e6L fun _ _=>False
theorem e3A:g8 Tryz.prog 131 d6H:=g8.never
end Go.VE
namespace Go.VE
set_option maxRecDepth 20000
open Go Go.Proofs
def d0V:List (Nat×App):=[(129,d45),(130,d47),(131,d6H)]
theorem c2G:GOk Tryz.prog (j8 d0V):=GOk.cons d7r (GOk.cons d7s (GOk.cons e3A (GOk.nil)))
theorem d01:o8 (g6 Tryz.f69)=true:=by kernel_rfl
def U9:List LS:=[.v 0 yB,.v 1 yB,.v 5 yI]
def b4R:DX:=⟨none,none,[]⟩
def b9m (Y:LI→LI→Int→Prop)  (s0:LI) (sep1:LI) (n5:Int):Prop:=
 False
def b9l:Nat→LI→LI→Int→Prop
 | 0,_,_,_=>False
 | n+1,s0,sep1,n5=>wfD U9 (s0,sep1,n5,())→b9m (b9l  n)  s0 sep1 n5
def d0Y:Pce:=ex tb (j8 d0V) [] (at' (g6 Tryz.f69) [0,0,1,1,1,1]) [0,0,1,1,1,1]
def d0Z (k:Ex→St→Prop) (n:Nat) (v:l6 U9):Prop:=b9l  n v.1 v.2.1 v.2.2.1
theorem e3C (k:Ex→St→Prop) (Y:l6 U9→Prop):∀ v:l6 U9,d0Y (mkD 35 U9 v) (lpK 35 U9 b4R k Y)=b9m (fun s0 sep1 n5=>Y (s0,sep1,n5,()))  v.1 v.2.1 v.2.2.1
 | (s0,sep1,n5,())=>by kernel_rfl
theorem d02 (k:Ex→St→Prop):∀ (n:Nat) (v:l6 U9),lpD 35 U9 b4R d0Y k n v=d0Z k n v
 | 0,(s0,sep1,n5,())=>rfl
 | n+1,(s0,sep1,n5,())=>congrArg (fun Z:Prop=>wfD U9 (s0,sep1,n5,())→Z) ((e3C k _ (s0,sep1,n5,())).trans (congrArg (fun Y=>b9m Y  s0 sep1 n5) (funext fun s0=>funext fun sep1=>funext fun n5=>d02 k n (s0,sep1,n5,()))))
def d0X:Pce:=fun st k=>ckD 35 U9 st fun v=>wfD U9 v→∃ n,d0Z k n v
theorem e3F:j5 Tryz.prog (at' (g6 Tryz.f69) [0,1,1,1,1]) d0X:=
 (j5.loop (l3 o0 j9 c2G (g7.nil) (at' (g6 Tryz.f69) [0,0,1,1,1,1]) [0,0,1,1,1,1] rfl (g9 d01 [0,0,1,1,1,1])) 35 U9 b4R).mono fun st k h=>l4 h fun v hv hw=>(hv hw).elim fun n hn=>⟨n,Eq.mpr (d02 k n v) hn⟩
def d0U:q8:=([0,1,1,1,1],d0X)::[]
theorem e3B:g7 Tryz.prog (g6 Tryz.f69) d0U:=g7.cons e3F (g7.nil)
def b4S (s0:LI) (sep1:LI) (K:Res→List Cell→Prop):Prop:=
 bif (decide ((List.length sep1:Int)=(0:Int))) then
 False
 else
 bif (decide ((List.length sep1:Int)=(1:Int))) then
 bif decide (0≤(0:Int)∧(0:Int)<(List.length sep1:Int)) then
 ∀ (r1:Int),r1=d46 s0 (rd (0:Int) sep1 (0:Int))→(
 wI r1→(
 K (.one (.v yI r1)) []))
 else False
 else
 (wfD U9 (s0,sep1,(0:Int),())→∃ n,b9l  n s0 sep1 (0:Int))
def b7n:List AS:=[.v yB,.v yB]
def a8B (_ sep:LI):Prop:=sep.length=1
def b2M (s sep:LI):Int:=(List.count (rd (0:Int) sep 0) s:Int)
theorem e3D (s sep:LI) (K:Res→List Cell→Prop) (_:wfA b7n (s,sep,())) (hp:a8B s sep) (h:∀ r:Int,r=b2M s sep→K (.one (.v yI r)) []):b4S s sep K:=by
 unfold a8B at hp
 unfold b4S
 exact brn (fun h0=>by omega) (fun _=>brn (fun _=>C1 (by omega) fun r hr _=>h r hr) (fun h1=>absurd (by omega) h1))
def e6M (v:j3 b7n) (K:Res→List Cell→Prop):Prop:=a8B v.1 v.2.1∧∀ r:Int,r=b2M v.1 v.2.1→K (.one (.v yI r)) []
def d0W:App:=specW b7n e6M
theorem e3E (K:Res→List Cell→Prop):∀ v:j3 b7n,q7 tb (j8 d0V) d0U Tryz.f69 [true] (mkA b7n v) K=b4S v.1 v.2.1 K
 | (s0,sep1,())=>by kernel_rfl
theorem d00:g8 Tryz.prog 69 d0W:=
 g8.specW (l9 ((l8 o0 j9 c2G (e3B) (f:=69) (fn:=Tryz.f69) (by kernel_rfl) (by kernel_rfl) d01 [true])) fun v K hw h=>(e3E K v).mpr (e3D v.1 v.2.1 K hw h.1 h.2))
def c4Y:List (Nat×App):=[(68,c4R),(69,d0W)]
theorem c4Z:GOk Tryz.prog (j8 c4Y):=GOk.cons d2o (GOk.cons d00 (GOk.nil))
def b5I (t0:LI) (at1:Int) (K:Res→List Cell→Prop):Prop:=
 ∀ (r1:Bool),r1=a7R t0 at1→(
 wB r1→(
 bif (!r1) then
 K (.tup [.v yI (0:Int),.v yI (2:Int)]) []
 else
 bif decide (0≤at1∧at1≤(List.length t0:Int)) then
 a8B (List.take (Int.toNat at1) t0) ([(10:Int)]:LI)∧(
 ∀ (r2:Int),r2=b2M (List.take (Int.toNat at1) t0) ([(10:Int)]:LI)→(
 wI r2→(
 K (.tup [.v yI r2,.v yI (0:Int)]) [])))
 else False))
def a9R:List AS:=[.v yB,.v yI]
def N4 (t0:LI) (at1:Int):Prop:=
 let r1:Bool:=a7R t0 at1
 bif (!r1) then
 True
 else
 (0≤at1∧at1≤(List.length t0:Int))∧(
 a8B (List.take (Int.toNat at1) t0) ([(10:Int)]:LI))
def G4 (t0:LI) (at1:Int):Int×Int:=
 let r1:Bool:=a7R t0 at1
 bif (!r1) then
 ((0:Int),(2:Int))
 else
 let r2:Int:=b2M (List.take (Int.toNat at1) t0) ([(10:Int)]:LI)
 (r2,(0:Int))
theorem d2x (t0:LI) (at1:Int) (K:Res→List Cell→Prop) (_:wfA a9R (t0,at1,())) (hp:N4 t0 at1) (h:∀ r:Int×Int,r=G4 t0 at1→K (.tup [.v yI r.1,.v yI r.2]) []):b5I t0 at1 K:=
 al (br1 hp h (fun _ hp h=>h _ rfl)
 fun _ hp h=>as1 hp fun hp=>⟨hp,al (h _ rfl)⟩)
def d7f (v:j3 a9R) (K:Res→List Cell→Prop):Prop:=N4 v.1 v.2.1∧∀ r:Int×Int,r=G4 v.1 v.2.1→K (.tup [.v yI r.1,.v yI r.2]) []
def b8b:App:=specW a9R d7f
theorem d2y (K:Res→List Cell→Prop):∀ v:j3 a9R,q7 tb (j8 c4Y) [] Tryz.f24 [true,true] (mkA a9R v) K=b5I v.1 v.2.1 K
 | (t0,at1,())=>by kernel_rfl
theorem c0e:g8 Tryz.prog 24 b8b:=
 g8.specW (l9 ((l8 o0 j9 c4Z (g7.nil) (f:=24) (fn:=Tryz.f24) (by kernel_rfl) (by kernel_rfl) (by kernel_rfl) [true,true])) fun v K hw h=>(d2y K v).mpr (d2x v.1 v.2.1 K hw h.1 h.2))
theorem e4U (t:LI) (p:Int):N4 t p:=by
 unfold N4 a7R a8B
 dsimp only
 by_cases h1:0≤p <;> by_cases h2:p≤t.length <;> simp [h1,h2]
def d6I:List (Nat×App):=[(69,d0W)]
theorem d4k:GOk Tryz.prog (j8 d6I):=GOk.cons d00 (GOk.nil)
def c2H (t0:LI) (K:Res→List Cell→Prop):Prop:=
 a8B t0 ([(10:Int)]:LI)∧(
 ∀ (r1:Int),r1=b2M t0 ([(10:Int)]:LI)→(
 wI r1→(
 K (.one (.v yI (IntKind.wrap .i64 (r1+(1:Int))))) [])))
def b7o:List AS:=[.v yB]
def a0R (t0:LI):Prop:=
 a8B t0 ([(10:Int)]:LI)
def Z0 (t0:LI):Int:=
 let r1:Int:=b2M t0 ([(10:Int)]:LI)
 (IntKind.wrap .i64 (r1+(1:Int)))
theorem e3G (t0:LI) (K:Res→List Cell→Prop) (_:wfA b7o (t0,())) (hp:a0R t0) (h:∀ r:Int,r=Z0 t0→K (.one (.v yI r)) []):c2H t0 K:=
 ⟨hp,al (h _ rfl)⟩
def e6N (v:j3 b7o) (K:Res→List Cell→Prop):Prop:=a0R v.1∧∀ r:Int,r=Z0 v.1→K (.one (.v yI r)) []
def b7p:App:=specW b7o e6N
theorem e3H (K:Res→List Cell→Prop):∀ v:j3 b7o,q7 tb (j8 d6I) [] Tryz.f28 [true] (mkA b7o v) K=c2H v.1 K
 | (t0,())=>by kernel_rfl
theorem b4T:g8 Tryz.prog 28 b7p:=
 g8.specW (l9 ((l8 o0 j9 d4k (g7.nil) (f:=28) (fn:=Tryz.f28) (by kernel_rfl) (by kernel_rfl) (by kernel_rfl) [true])) fun v K hw h=>(e3H K v).mpr (e3G v.1 K hw h.1 h.2))
end Go.VE
namespace Go.VE
open Go Go.Proofs
def d3H (xs:LI) (c:Int):Int:=a2X xs c
def e6c:App:=specW Z3 fun v K=>∀ r:Int,r=d3H v.1 v.2.1→K (.one (.v yI r)) []
theorem e6d:g8 Tryz.prog 222 e6c:=
 b1y (fn:=Tryz.f222) (by kernel_rfl) (by kernel_rfl) (by kernel_rfl) (by kernel_rfl) (by kernel_rfl)
end Go.VE
namespace Go.VE
set_option maxRecDepth 20000
open Go Go.Proofs
def d55:List (Nat×App):=[(222,e6c)]
theorem d3D:GOk Tryz.prog (j8 d55):=GOk.cons e6d (GOk.nil)
def c1K (b0:LI) (c1:Int) (K:Res→List Cell→Prop):Prop:=
 ∀ (r1:Int),r1=d3H b0 c1→(
 wI r1→(
 K (.one (.v yI r1)) []))
def b6K:List AS:=[.v yB,.v yU]
def a2L (b0:LI) (c1:Int):Int:=
 let r1:Int:=d3H b0 c1
 r1
theorem e1j (b0:LI) (c1:Int) (K:Res→List Cell→Prop) (_:wfA b6K (b0,c1,())) (h:∀ r:Int,r=a2L b0 c1→K (.one (.v yI r)) []):c1K b0 c1 K:=
 al (h _ rfl)
def e52 (v:j3 b6K) (K:Res→List Cell→Prop):Prop:=∀ r:Int,r=a2L v.1 v.2.1→K (.one (.v yI r)) []
def b6L:App:=specW b6K e52
theorem e1k (K:Res→List Cell→Prop):∀ v:j3 b6K,q7 tb (j8 d55) [] Tryz.f189 [true] (mkA b6K v) K=c1K v.1 v.2.1 K
 | (b0,c1,())=>by kernel_rfl
theorem b4d:g8 Tryz.prog 189 b6L:=
 g8.specW (l9 ((l8 o0 j9 d3D (g7.nil) (f:=189) (fn:=Tryz.f189) (by kernel_rfl) (by kernel_rfl) (by kernel_rfl) [true])) fun v K hw h=>(e1k K v).mpr (e1j v.1 v.2.1 K hw h))
end Go.VE
namespace Go.VE
open Go Go.Proofs
def d7g:List AS:=[]
def c40:App:=specW d7g fun _ _=>False
theorem d2z:g8 Tryz.prog 206 c40:=g8.never
def e6a:List AS:=[]
def d6a:App:=specW e6a fun _ _=>False
theorem e1x:g8 Tryz.prog 207 d6a:=g8.never
end Go.VE
namespace Go.VE
set_option maxRecDepth 20000
open Go Go.Proofs
def c2r:List (Nat×App):=[(28,b7p),(189,b6L),(206,c40),(207,d6a)]
theorem b4D:GOk Tryz.prog (j8 c2r):=GOk.cons b4T (GOk.cons b4d (GOk.cons d2z (GOk.cons e1x (GOk.nil))))
theorem b9h:o8 (g6 Tryz.f167)=true:=by kernel_rfl
def Q4:List LS:=[.b 9 72 [],.v 12 yI,.v 13 yI,.c 72 tyA]
def Q5:List LS:=[.v 10 yI,.v 11 yI]
def c2s:DX:=⟨none,some Q5,[]⟩
def d39 (k:Ex→St→Prop) (x10:Int) (x11:Int):Prop:=wfD Q5 (x10,x11,())→k .ret (mkD 127 Q5 (x10,x11,()))
def a1d (kr:Int→Int→Prop) (last12:Int) (l13:Int) (a9b:tAd):Prop:=
 bif (decide (l13<(0:Int))) then
 bif (decide (a9b.2.2.2.2.1≤(0:Int))) then
 kr (0:Int) (231:Int)
 else
 bif (decide (last12<l13)) then
 bif (decide ((0:Int)≤a9b.2.2.2.2.1)) then
 kr (0:Int) (231:Int)
 else
 bif (decide (last12<a9b.2.2.2.2.1)) then
 bif (decide ((0:Int)≤l13)) then
 kr (0:Int) (231:Int)
 else
 bif (decide ((IntKind.wrap .i64 (l13+a9b.2.2.2.2.1))<(0:Int))) then
 kr (0:Int) (231:Int)
 else
 bif (decide (last12<(IntKind.wrap .i64 (l13+a9b.2.2.2.2.1)))) then
 kr (0:Int) (231:Int)
 else
 kr (IntKind.wrap .i64 (l13+a9b.2.2.2.2.1)) (0:Int)
 else
 bif (decide ((IntKind.wrap .i64 (l13+a9b.2.2.2.2.1))<(0:Int))) then
 kr (0:Int) (231:Int)
 else
 bif (decide (last12<(IntKind.wrap .i64 (l13+a9b.2.2.2.2.1)))) then
 kr (0:Int) (231:Int)
 else
 kr (IntKind.wrap .i64 (l13+a9b.2.2.2.2.1)) (0:Int)
 else
 bif (decide (last12<a9b.2.2.2.2.1)) then
 bif (decide ((0:Int)≤l13)) then
 kr (0:Int) (231:Int)
 else
 bif (decide ((IntKind.wrap .i64 (l13+a9b.2.2.2.2.1))<(0:Int))) then
 kr (0:Int) (231:Int)
 else
 bif (decide (last12<(IntKind.wrap .i64 (l13+a9b.2.2.2.2.1)))) then
 kr (0:Int) (231:Int)
 else
 kr (IntKind.wrap .i64 (l13+a9b.2.2.2.2.1)) (0:Int)
 else
 bif (decide ((IntKind.wrap .i64 (l13+a9b.2.2.2.2.1))<(0:Int))) then
 kr (0:Int) (231:Int)
 else
 bif (decide (last12<(IntKind.wrap .i64 (l13+a9b.2.2.2.2.1)))) then
 kr (0:Int) (231:Int)
 else
 kr (IntKind.wrap .i64 (l13+a9b.2.2.2.2.1)) (0:Int)
 else
 bif (decide (last12<l13)) then
 bif (decide ((0:Int)≤a9b.2.2.2.2.1)) then
 kr (0:Int) (231:Int)
 else
 bif (decide (last12<a9b.2.2.2.2.1)) then
 bif (decide ((0:Int)≤l13)) then
 kr (0:Int) (231:Int)
 else
 bif (decide ((IntKind.wrap .i64 (l13+a9b.2.2.2.2.1))<(0:Int))) then
 kr (0:Int) (231:Int)
 else
 bif (decide (last12<(IntKind.wrap .i64 (l13+a9b.2.2.2.2.1)))) then
 kr (0:Int) (231:Int)
 else
 kr (IntKind.wrap .i64 (l13+a9b.2.2.2.2.1)) (0:Int)
 else
 bif (decide ((IntKind.wrap .i64 (l13+a9b.2.2.2.2.1))<(0:Int))) then
 kr (0:Int) (231:Int)
 else
 bif (decide (last12<(IntKind.wrap .i64 (l13+a9b.2.2.2.2.1)))) then
 kr (0:Int) (231:Int)
 else
 kr (IntKind.wrap .i64 (l13+a9b.2.2.2.2.1)) (0:Int)
 else
 bif (decide (last12<a9b.2.2.2.2.1)) then
 bif (decide ((0:Int)≤l13)) then
 kr (0:Int) (231:Int)
 else
 bif (decide ((IntKind.wrap .i64 (l13+a9b.2.2.2.2.1))<(0:Int))) then
 kr (0:Int) (231:Int)
 else
 bif (decide (last12<(IntKind.wrap .i64 (l13+a9b.2.2.2.2.1)))) then
 kr (0:Int) (231:Int)
 else
 kr (IntKind.wrap .i64 (l13+a9b.2.2.2.2.1)) (0:Int)
 else
 bif (decide ((IntKind.wrap .i64 (l13+a9b.2.2.2.2.1))<(0:Int))) then
 kr (0:Int) (231:Int)
 else
 bif (decide (last12<(IntKind.wrap .i64 (l13+a9b.2.2.2.2.1)))) then
 kr (0:Int) (231:Int)
 else
 kr (IntKind.wrap .i64 (l13+a9b.2.2.2.2.1)) (0:Int)
def d0r (k:Ex→St→Prop) (v:l6 Q4):Prop:=a1d (d39 k) v.1 v.2.1 v.2.2.1
theorem e20 (k:Ex→St→Prop):∀ v:l6 Q4,ex tb (j8 c2r) [] (at' (g6 Tryz.f167) [1,1,1,1,1,1]) [1,1,1,1,1,1] (mkD 127 Q4 v) (wk 127 c2s k)=d0r k v
 | (last12,l13,a9b,())=>by kernel_rfl
def d0o:Pce:=fun st k=>ckD 127 Q4 st fun v=>wfD Q4 v→d0r k v
theorem e23:j5 Tryz.prog (at' (g6 Tryz.f167) [1,1,1,1,1,1]) d0o:=
 (j5.wk (N:=127) (ds:=Q4) (dx:=c2s) (l3 o0 j9 b4D (g7.nil) (at' (g6 Tryz.f167) [1,1,1,1,1,1]) [1,1,1,1,1,1] rfl (g9 b9h [1,1,1,1,1,1]))).mono fun st k h=>l4 h fun v hv hw=>Eq.mpr (e20 k v) (hv hw)
def b9g:q8:=([1,1,1,1,1,1],d0o)::[]
theorem d0q:g7 Tryz.prog (g6 Tryz.f167) b9g:=g7.cons e23 (g7.nil)
def a1e:List LS:=[.v 0 yB,.v 1 yI,.v 3 yB,.b 9 72 [],.v 12 yI,.v 13 yI,.v 74 .bool,.c 72 tyA]
def a2v:List LS:=[.b 9 72 [],.v 12 yI,.v 13 yI,.c 72 tyA]
def c2t:DX:=⟨some a2v,none,[]⟩
def d4a (k:Ex→St→Prop) (last12:Int) (l13:Int) (a9b:tAd):Prop:=wfD a2v (last12,l13,a9b,())→k .nrm (mkD 127 a2v (last12,l13,a9b,()))
def a8e (kn:Int→Int→tAd→Prop) (t0:LI) (now1:Int) (hunt3:LI) (last12:Int) (l13:Int) (x74:Bool) (a9b:tAd):Prop:=
 bif x74 then
 False
 else
 kn last12 l13 a9b
def d0s (k:Ex→St→Prop) (v:l6 a1e):Prop:=a8e (d4a k) v.1 v.2.1 v.2.2.1 v.2.2.2.1 v.2.2.2.2.1 v.2.2.2.2.2.1 v.2.2.2.2.2.2.1
theorem e21 (k:Ex→St→Prop):∀ v:l6 a1e,ex tb (j8 c2r) b9g (at' (g6 Tryz.f167) [1,1,1,1,1,1,1,0,1,0,1,1,1,1,1]) [1,1,1,1,1,1,1,0,1,0,1,1,1,1,1] (mkD 127 a1e v) (wk 127 c2t k)=d0s k v
 | (t0,now1,hunt3,last12,l13,x74,a9b,())=>by kernel_rfl
def d0p:Pce:=fun st k=>ckD 127 a1e st fun v=>wfD a1e v→d0s k v
theorem e24:j5 Tryz.prog (at' (g6 Tryz.f167) [1,1,1,1,1,1,1,0,1,0,1,1,1,1,1]) d0p:=
 (j5.wk (N:=127) (ds:=a1e) (dx:=c2t) (l3 o0 j9 b4D (d0q) (at' (g6 Tryz.f167) [1,1,1,1,1,1,1,0,1,0,1,1,1,1,1]) [1,1,1,1,1,1,1,0,1,0,1,1,1,1,1] rfl (g9 b9h [1,1,1,1,1,1,1,0,1,0,1,1,1,1,1]))).mono fun st k h=>l4 h fun v hv hw=>Eq.mpr (e21 k v) (hv hw)
def d0n:q8:=([1,1,1,1,1,1,1,0,1,0,1,1,1,1,1],d0p)::b9g
theorem e2X:g7 Tryz.prog (g6 Tryz.f167) d0n:=g7.cons e24 (d0q)
def c2u (t0:LI) (now1:Int) (m2:(Unit×Int)) (hunt3:LI) (a4:tAd) (K:Res→List Cell→Prop):Prop:=
 a0R t0∧(
 ∀ (r1:Int),r1=Z0 t0→(
 wI r1→(
 bif (decide (now1<(1:Int))) then
 K (.tup [.v yI (0:Int),.v yI (2:Int)]) []
 else
 bif (decide (r1<now1)) then
 K (.tup [.v yI (0:Int),.v yI (2:Int)]) []
 else
 bif a4.2.2.2.2.2 then
 ∀ (r2:Int),r2=a2L ([(110:Int),(46:Int),(36:Int),(39:Int),(47:Int),(63:Int),(0:Int)]:LI) a4.1→(
 wI r2→(
 bif (decide (r2<(0:Int))) then
 K (.tup [.v yI (0:Int),.v yI (2:Int)]) []
 else
 bif (!a4.2.2.2.2.2) then
 K (.tup [.v yI now1,.v yI (0:Int)]) []
 else
 bif (decide (a4.1=(110:Int))) then
 (wfD Q4 (r1,a4.2.1,a4,())→a1d (fun (x10:Int) (x11:Int)=>wfD Q5 (x10,x11,())→(
 K (.tup [.v yI x10,.v yI x11]) [])) r1 a4.2.1 a4)
 else
 bif (decide (a4.1=(36:Int))) then
 (wfD Q4 (r1,r1,a4,())→a1d (fun (x10:Int) (x11:Int)=>wfD Q5 (x10,x11,())→(
 K (.tup [.v yI x10,.v yI x11]) [])) r1 r1 a4)
 else
 bif (decide (a4.1=(39:Int))) then
 False
 else
 bif (decide (a4.1=(47:Int))) then
 (wfD a1e (t0,now1,hunt3,r1,now1,(decide (a4.1=(47:Int))),a4,())→a8e (fun (last12:Int) (l13:Int) (a9b:tAd)=>wfD a2v (last12,l13,a9b,())→(
 (wfD Q4 (last12,l13,a9b,())→a1d (fun (x10:Int) (x11:Int)=>wfD Q5 (x10,x11,())→(
 K (.tup [.v yI x10,.v yI x11]) [])) last12 l13 a9b))) t0 now1 hunt3 r1 now1 (decide (a4.1=(47:Int))) a4)
 else
 (wfD a1e (t0,now1,hunt3,r1,now1,(decide (a4.1=(63:Int))),a4,())→a8e (fun (last12:Int) (l13:Int) (a9b:tAd)=>wfD a2v (last12,l13,a9b,())→(
 (wfD Q4 (last12,l13,a9b,())→a1d (fun (x10:Int) (x11:Int)=>wfD Q5 (x10,x11,())→(
 K (.tup [.v yI x10,.v yI x11]) [])) last12 l13 a9b))) t0 now1 hunt3 r1 now1 (decide (a4.1=(63:Int))) a4)))
 else
 bif (!a4.2.2.2.2.2) then
 K (.tup [.v yI now1,.v yI (0:Int)]) []
 else
 bif (decide (a4.1=(110:Int))) then
 (wfD Q4 (r1,a4.2.1,a4,())→a1d (fun (x10:Int) (x11:Int)=>wfD Q5 (x10,x11,())→(
 K (.tup [.v yI x10,.v yI x11]) [])) r1 a4.2.1 a4)
 else
 bif (decide (a4.1=(36:Int))) then
 (wfD Q4 (r1,r1,a4,())→a1d (fun (x10:Int) (x11:Int)=>wfD Q5 (x10,x11,())→(
 K (.tup [.v yI x10,.v yI x11]) [])) r1 r1 a4)
 else
 bif (decide (a4.1=(39:Int))) then
 False
 else
 bif (decide (a4.1=(47:Int))) then
 (wfD a1e (t0,now1,hunt3,r1,now1,(decide (a4.1=(47:Int))),a4,())→a8e (fun (last12:Int) (l13:Int) (a9b:tAd)=>wfD a2v (last12,l13,a9b,())→(
 (wfD Q4 (last12,l13,a9b,())→a1d (fun (x10:Int) (x11:Int)=>wfD Q5 (x10,x11,())→(
 K (.tup [.v yI x10,.v yI x11]) [])) last12 l13 a9b))) t0 now1 hunt3 r1 now1 (decide (a4.1=(47:Int))) a4)
 else
 (wfD a1e (t0,now1,hunt3,r1,now1,(decide (a4.1=(63:Int))),a4,())→a8e (fun (last12:Int) (l13:Int) (a9b:tAd)=>wfD a2v (last12,l13,a9b,())→(
 (wfD Q4 (last12,l13,a9b,())→a1d (fun (x10:Int) (x11:Int)=>wfD Q5 (x10,x11,())→(
 K (.tup [.v yI x10,.v yI x11]) [])) last12 l13 a9b))) t0 now1 hunt3 r1 now1 (decide (a4.1=(63:Int))) a4))))
def b67:List AS:=[.v yB,.v yI,.v (.st (.pair (.arr 26 yI) yI)),.v yB,.v tyA]
def Q3 (last12:Int) (l13:Int) (a9b:tAd):Int×Int:=
 bif (decide (l13<(0:Int))) then
 bif (decide (a9b.2.2.2.2.1≤(0:Int))) then
 ((0:Int),(231:Int))
 else
 bif (decide (last12<l13)) then
 bif (decide ((0:Int)≤a9b.2.2.2.2.1)) then
 ((0:Int),(231:Int))
 else
 bif (decide (last12<a9b.2.2.2.2.1)) then
 bif (decide ((0:Int)≤l13)) then
 ((0:Int),(231:Int))
 else
 bif (decide ((IntKind.wrap .i64 (l13+a9b.2.2.2.2.1))<(0:Int))) then
 ((0:Int),(231:Int))
 else
 bif (decide (last12<(IntKind.wrap .i64 (l13+a9b.2.2.2.2.1)))) then
 ((0:Int),(231:Int))
 else
 ((IntKind.wrap .i64 (l13+a9b.2.2.2.2.1)),(0:Int))
 else
 bif (decide ((IntKind.wrap .i64 (l13+a9b.2.2.2.2.1))<(0:Int))) then
 ((0:Int),(231:Int))
 else
 bif (decide (last12<(IntKind.wrap .i64 (l13+a9b.2.2.2.2.1)))) then
 ((0:Int),(231:Int))
 else
 ((IntKind.wrap .i64 (l13+a9b.2.2.2.2.1)),(0:Int))
 else
 bif (decide (last12<a9b.2.2.2.2.1)) then
 bif (decide ((0:Int)≤l13)) then
 ((0:Int),(231:Int))
 else
 bif (decide ((IntKind.wrap .i64 (l13+a9b.2.2.2.2.1))<(0:Int))) then
 ((0:Int),(231:Int))
 else
 bif (decide (last12<(IntKind.wrap .i64 (l13+a9b.2.2.2.2.1)))) then
 ((0:Int),(231:Int))
 else
 ((IntKind.wrap .i64 (l13+a9b.2.2.2.2.1)),(0:Int))
 else
 bif (decide ((IntKind.wrap .i64 (l13+a9b.2.2.2.2.1))<(0:Int))) then
 ((0:Int),(231:Int))
 else
 bif (decide (last12<(IntKind.wrap .i64 (l13+a9b.2.2.2.2.1)))) then
 ((0:Int),(231:Int))
 else
 ((IntKind.wrap .i64 (l13+a9b.2.2.2.2.1)),(0:Int))
 else
 bif (decide (last12<l13)) then
 bif (decide ((0:Int)≤a9b.2.2.2.2.1)) then
 ((0:Int),(231:Int))
 else
 bif (decide (last12<a9b.2.2.2.2.1)) then
 bif (decide ((0:Int)≤l13)) then
 ((0:Int),(231:Int))
 else
 bif (decide ((IntKind.wrap .i64 (l13+a9b.2.2.2.2.1))<(0:Int))) then
 ((0:Int),(231:Int))
 else
 bif (decide (last12<(IntKind.wrap .i64 (l13+a9b.2.2.2.2.1)))) then
 ((0:Int),(231:Int))
 else
 ((IntKind.wrap .i64 (l13+a9b.2.2.2.2.1)),(0:Int))
 else
 bif (decide ((IntKind.wrap .i64 (l13+a9b.2.2.2.2.1))<(0:Int))) then
 ((0:Int),(231:Int))
 else
 bif (decide (last12<(IntKind.wrap .i64 (l13+a9b.2.2.2.2.1)))) then
 ((0:Int),(231:Int))
 else
 ((IntKind.wrap .i64 (l13+a9b.2.2.2.2.1)),(0:Int))
 else
 bif (decide (last12<a9b.2.2.2.2.1)) then
 bif (decide ((0:Int)≤l13)) then
 ((0:Int),(231:Int))
 else
 bif (decide ((IntKind.wrap .i64 (l13+a9b.2.2.2.2.1))<(0:Int))) then
 ((0:Int),(231:Int))
 else
 bif (decide (last12<(IntKind.wrap .i64 (l13+a9b.2.2.2.2.1)))) then
 ((0:Int),(231:Int))
 else
 ((IntKind.wrap .i64 (l13+a9b.2.2.2.2.1)),(0:Int))
 else
 bif (decide ((IntKind.wrap .i64 (l13+a9b.2.2.2.2.1))<(0:Int))) then
 ((0:Int),(231:Int))
 else
 bif (decide (last12<(IntKind.wrap .i64 (l13+a9b.2.2.2.2.1)))) then
 ((0:Int),(231:Int))
 else
 ((IntKind.wrap .i64 (l13+a9b.2.2.2.2.1)),(0:Int))
theorem N9 (kr:Int→Int→Prop) (last12:Int) (l13:Int) (a9b:tAd) (hr:∀ q:Int×Int,q=Q3 last12 l13 a9b→kr q.1 q.2):a1d kr last12 l13 a9b:=
 have h:=hr; br0 h (fun _ h=>br0 h (fun _ h=>h _ rfl)
 fun _ h=>br0 h (fun _ h=>br0 h (fun _ h=>h _ rfl)
 fun _ h=>br0 h (fun _ h=>br0 h (fun _ h=>h _ rfl)
 fun _ h=>br0 h (fun _ h=>h _ rfl)
 fun _ h=>br0 h (fun _ h=>h _ rfl)
 fun _ h=>h _ rfl)
 fun _ h=>br0 h (fun _ h=>h _ rfl)
 fun _ h=>br0 h (fun _ h=>h _ rfl)
 fun _ h=>h _ rfl)
 fun _ h=>br0 h (fun _ h=>br0 h (fun _ h=>h _ rfl)
 fun _ h=>br0 h (fun _ h=>h _ rfl)
 fun _ h=>br0 h (fun _ h=>h _ rfl)
 fun _ h=>h _ rfl)
 fun _ h=>br0 h (fun _ h=>h _ rfl)
 fun _ h=>br0 h (fun _ h=>h _ rfl)
 fun _ h=>h _ rfl)
 fun _ h=>br0 h (fun _ h=>br0 h (fun _ h=>h _ rfl)
 fun _ h=>br0 h (fun _ h=>br0 h (fun _ h=>h _ rfl)
 fun _ h=>br0 h (fun _ h=>h _ rfl)
 fun _ h=>br0 h (fun _ h=>h _ rfl)
 fun _ h=>h _ rfl)
 fun _ h=>br0 h (fun _ h=>h _ rfl)
 fun _ h=>br0 h (fun _ h=>h _ rfl)
 fun _ h=>h _ rfl)
 fun _ h=>br0 h (fun _ h=>br0 h (fun _ h=>h _ rfl)
 fun _ h=>br0 h (fun _ h=>h _ rfl)
 fun _ h=>br0 h (fun _ h=>h _ rfl)
 fun _ h=>h _ rfl)
 fun _ h=>br0 h (fun _ h=>h _ rfl)
 fun _ h=>br0 h (fun _ h=>h _ rfl)
 fun _ h=>h _ rfl
def a4g (t0:LI) (now1:Int) (hunt3:LI) (last12:Int) (l13:Int) (x74:Bool) (a9b:tAd):Prop:=
 bif x74 then
 False
 else
 True
def a4f (t0:LI) (now1:Int) (hunt3:LI) (last12:Int) (l13:Int) (x74:Bool) (a9b:tAd):Int×Int×tAd:=
 bif x74 then
 default
 else
 (last12,l13,a9b)
theorem a4W (kn:Int→Int→tAd→Prop) (t0:LI) (now1:Int) (hunt3:LI) (last12:Int) (l13:Int) (x74:Bool) (a9b:tAd) (hp:a4g t0 now1 hunt3 last12 l13 x74 a9b) (hn:∀ q:Int×Int×tAd,q=a4f t0 now1 hunt3 last12 l13 x74 a9b→kn q.1 q.2.1 q.2.2):a8e kn t0 now1 hunt3 last12 l13 x74 a9b:=
 have h:=hn; br1 hp h (fun _ hp h=>hp.elim)
 fun _ hp h=>h _ rfl
def b2K (t0:LI) (now1:Int) (m2:(Unit×Int)) (hunt3:LI) (a4:tAd):Prop:=
 a0R t0∧(
 let r1:Int:=Z0 t0
 bif (decide (now1<(1:Int))) then
 True
 else
 bif (decide (r1<now1)) then
 True
 else
 bif a4.2.2.2.2.2 then
 let r2:Int:=a2L ([(110:Int),(46:Int),(36:Int),(39:Int),(47:Int),(63:Int),(0:Int)]:LI) a4.1
 bif (decide (r2<(0:Int))) then
 True
 else
 bif (!a4.2.2.2.2.2) then
 True
 else
 bif (decide (a4.1=(110:Int))) then
 True
 else
 bif (decide (a4.1=(36:Int))) then
 True
 else
 bif (decide (a4.1=(39:Int))) then
 False
 else
 bif (decide (a4.1=(47:Int))) then
 a4g t0 now1 hunt3 r1 now1 (decide (a4.1=(47:Int))) a4
 else
 a4g t0 now1 hunt3 r1 now1 (decide (a4.1=(63:Int))) a4
 else
 bif (!a4.2.2.2.2.2) then
 True
 else
 bif (decide (a4.1=(110:Int))) then
 True
 else
 bif (decide (a4.1=(36:Int))) then
 True
 else
 bif (decide (a4.1=(39:Int))) then
 False
 else
 bif (decide (a4.1=(47:Int))) then
 a4g t0 now1 hunt3 r1 now1 (decide (a4.1=(47:Int))) a4
 else
 a4g t0 now1 hunt3 r1 now1 (decide (a4.1=(63:Int))) a4)
def c2q (t0:LI) (now1:Int) (m2:(Unit×Int)) (hunt3:LI) (a4:tAd):Int×Int:=
 let r1:Int:=Z0 t0
 bif (decide (now1<(1:Int))) then
 ((0:Int),(2:Int))
 else
 bif (decide (r1<now1)) then
 ((0:Int),(2:Int))
 else
 bif a4.2.2.2.2.2 then
 let r2:Int:=a2L ([(110:Int),(46:Int),(36:Int),(39:Int),(47:Int),(63:Int),(0:Int)]:LI) a4.1
 bif (decide (r2<(0:Int))) then
 ((0:Int),(2:Int))
 else
 bif (!a4.2.2.2.2.2) then
 (now1,(0:Int))
 else
 bif (decide (a4.1=(110:Int))) then
 let q0r:Int×Int:=Q3 r1 a4.2.1 a4
 let x10:Int:=q0r.1
 let x11:Int:=q0r.2
 (x10,x11)
 else
 bif (decide (a4.1=(36:Int))) then
 let q0r:Int×Int:=Q3 r1 r1 a4
 let x10:Int:=q0r.1
 let x11:Int:=q0r.2
 (x10,x11)
 else
 bif (decide (a4.1=(39:Int))) then
 default
 else
 bif (decide (a4.1=(47:Int))) then
 let q1n:Int×Int×tAd:=a4f t0 now1 hunt3 r1 now1 (decide (a4.1=(47:Int))) a4
 let last12:Int:=q1n.1
 let l13:Int:=q1n.2.1
 let a9b:tAd:=q1n.2.2
 let q0r:Int×Int:=Q3 last12 l13 a9b
 let x10:Int:=q0r.1
 let x11:Int:=q0r.2
 (x10,x11)
 else
 let q1n:Int×Int×tAd:=a4f t0 now1 hunt3 r1 now1 (decide (a4.1=(63:Int))) a4
 let last12:Int:=q1n.1
 let l13:Int:=q1n.2.1
 let a9b:tAd:=q1n.2.2
 let q0r:Int×Int:=Q3 last12 l13 a9b
 let x10:Int:=q0r.1
 let x11:Int:=q0r.2
 (x10,x11)
 else
 bif (!a4.2.2.2.2.2) then
 (now1,(0:Int))
 else
 bif (decide (a4.1=(110:Int))) then
 let q0r:Int×Int:=Q3 r1 a4.2.1 a4
 let x10:Int:=q0r.1
 let x11:Int:=q0r.2
 (x10,x11)
 else
 bif (decide (a4.1=(36:Int))) then
 let q0r:Int×Int:=Q3 r1 r1 a4
 let x10:Int:=q0r.1
 let x11:Int:=q0r.2
 (x10,x11)
 else
 bif (decide (a4.1=(39:Int))) then
 default
 else
 bif (decide (a4.1=(47:Int))) then
 let q1n:Int×Int×tAd:=a4f t0 now1 hunt3 r1 now1 (decide (a4.1=(47:Int))) a4
 let last12:Int:=q1n.1
 let l13:Int:=q1n.2.1
 let a9b:tAd:=q1n.2.2
 let q0r:Int×Int:=Q3 last12 l13 a9b
 let x10:Int:=q0r.1
 let x11:Int:=q0r.2
 (x10,x11)
 else
 let q1n:Int×Int×tAd:=a4f t0 now1 hunt3 r1 now1 (decide (a4.1=(63:Int))) a4
 let last12:Int:=q1n.1
 let l13:Int:=q1n.2.1
 let a9b:tAd:=q1n.2.2
 let q0r:Int×Int:=Q3 last12 l13 a9b
 let x10:Int:=q0r.1
 let x11:Int:=q0r.2
 (x10,x11)
theorem e2Z (t0:LI) (now1:Int) (m2:(Unit×Int)) (hunt3:LI) (a4:tAd) (K:Res→List Cell→Prop) (_:wfA b67 (t0,now1,m2,hunt3,a4,())) (hp:b2K t0 now1 m2 hunt3 a4) (h:∀ r:Int×Int,r=c2q t0 now1 m2 hunt3 a4→K (.tup [.v yI r.1,.v yI r.2]) []):c2u t0 now1 m2 hunt3 a4 K:=
 an1 hp fun hp=>al (br1 hp h (fun _ hp h=>h _ rfl)
 fun _ hp h=>br1 hp h (fun _ hp h=>h _ rfl)
 fun _ hp h=>br1 hp h (fun _ hp h=>al (br1 hp h (fun _ hp h=>h _ rfl)
 fun _ hp h=>br1 hp h (fun _ hp h=>h _ rfl)
 fun _ hp h=>br1 hp h (fun _ hp h=>fun _=>N9 _ _ _ _ (al (h _ rfl)))
 fun _ hp h=>br1 hp h (fun _ hp h=>fun _=>N9 _ _ _ _ (al (h _ rfl)))
 fun _ hp h=>br1 hp h (fun _ hp h=>hp.elim)
 fun _ hp h=>br1 hp h (fun _ hp h=>fun _=>a4W _ _ _ _ _ _ _ _ hp (al (fun _=>N9 _ _ _ _ (al (h _ rfl)))))
 fun _ hp h=>fun _=>a4W _ _ _ _ _ _ _ _ hp (al (fun _=>N9 _ _ _ _ (al (h _ rfl))))))
 fun _ hp h=>br1 hp h (fun _ hp h=>h _ rfl)
 fun _ hp h=>br1 hp h (fun _ hp h=>fun _=>N9 _ _ _ _ (al (h _ rfl)))
 fun _ hp h=>br1 hp h (fun _ hp h=>fun _=>N9 _ _ _ _ (al (h _ rfl)))
 fun _ hp h=>br1 hp h (fun _ hp h=>hp.elim)
 fun _ hp h=>br1 hp h (fun _ hp h=>fun _=>a4W _ _ _ _ _ _ _ _ hp (al (fun _=>N9 _ _ _ _ (al (h _ rfl)))))
 fun _ hp h=>fun _=>a4W _ _ _ _ _ _ _ _ hp (al (fun _=>N9 _ _ _ _ (al (h _ rfl)))))
def e6s (v:j3 b67) (K:Res→List Cell→Prop):Prop:=b2K v.1 v.2.1 v.2.2.1 v.2.2.2.1 v.2.2.2.2.1∧∀ r:Int×Int,r=c2q v.1 v.2.1 v.2.2.1 v.2.2.2.1 v.2.2.2.2.1→K (.tup [.v yI r.1,.v yI r.2]) []
def d6p:App:=specW b67 e6s
theorem e22 (K:Res→List Cell→Prop):∀ v:j3 b67,q7 tb (j8 c2r) d0n Tryz.f167 [true,true] (mkA b67 v) K=c2u v.1 v.2.1 v.2.2.1 v.2.2.2.1 v.2.2.2.2.1 K
 | (t0,now1,m2,hunt3,a4,())=>by kernel_rfl
theorem e2Y:g8 Tryz.prog 167 d6p:=
 g8.specW (l9 ((l8 o0 j9 b4D (e2X) (f:=167) (fn:=Tryz.f167) (by kernel_rfl) (by kernel_rfl) b9h [true,true])) fun v K hw h=>(e22 K v).mpr (e2Z v.1 v.2.1 v.2.2.1 v.2.2.2.1 v.2.2.2.2.1 K hw h.1 h.2))
def d5Q:List (Nat×App):=[(167,d6p)]
theorem d3w:GOk Tryz.prog (j8 d5Q):=GOk.cons e2Y (GOk.nil)
def c1A (w0:tWk) (a1:tAd) (K:Res→List Cell→Prop):Prop:=
 b2K w0.1 w0.2.2.1 w0.2.2.2.2.1 w0.2.2.2.2.2.2.1 a1∧(
 ∀ (r1:Int×Int),r1=c2q w0.1 w0.2.2.1 w0.2.2.2.2.1 w0.2.2.2.2.2.2.1 a1→(
 wfR (.tup [.v yI r1.1,.v yI r1.2])→(
 K (.tup [.v yI r1.1,.v yI r1.2]) [⟨.st (.pair yB (.pair yI (.pair yI (.pair yI (.pair (.st (.pair (.arr 26 yI) yI)) (.pair tyB (.pair yB (.pair tyX (.pair yI yI))))))))),w0⟩])))
def b6z:List AS:=[.r none tyW,.v tyA]
def b2u (w0:tWk) (a1:tAd):Prop:=
 b2K w0.1 w0.2.2.1 w0.2.2.2.2.1 w0.2.2.2.2.2.2.1 a1
def b0F (w0:tWk) (a1:tAd):Int×Int:=
 let r1:Int×Int:=c2q w0.1 w0.2.2.1 w0.2.2.2.2.1 w0.2.2.2.2.2.2.1 a1
 (r1.1,r1.2)
theorem e0M (w0:tWk) (a1:tAd) (K:Res→List Cell→Prop) (_:wfA b6z (w0,a1,())) (hp:b2u w0 a1) (h:∀ r:Int×Int,r=b0F w0 a1→K (.tup [.v yI r.1,.v yI r.2]) [⟨.st (.pair yB (.pair yI (.pair yI (.pair yI (.pair (.st (.pair (.arr 26 yI) yI)) (.pair tyB (.pair yB (.pair tyX (.pair yI yI))))))))),w0⟩]):c1A w0 a1 K:=
 ⟨hp,al (h _ rfl)⟩
def e5M (v:j3 b6z) (K:Res→List Cell→Prop):Prop:=b2u v.1 v.2.1∧∀ r:Int×Int,r=b0F v.1 v.2.1→K (.tup [.v yI r.1,.v yI r.2]) [⟨.st (.pair yB (.pair yI (.pair yI (.pair yI (.pair (.st (.pair (.arr 26 yI) yI)) (.pair tyB (.pair yB (.pair tyX (.pair yI yI))))))))),v.1⟩]
def d5R:App:=specW b6z e5M
theorem e0N (K:Res→List Cell→Prop):∀ v:j3 b6z,q7 tb (j8 d5Q) [] Tryz.f115 [true,true] (mkA b6z v) K=c1A v.1 v.2.1 K
 | (w0,a1,())=>by kernel_rfl
theorem e0L:g8 Tryz.prog 115 d5R:=
 g8.specW (l9 ((l8 o0 j9 d3w (g7.nil) (f:=115) (fn:=Tryz.f115) (by kernel_rfl) (by kernel_rfl) (by kernel_rfl) [true,true])) fun v K hw h=>(e0N K v).mpr (e0M v.1 v.2.1 K hw h.1 h.2))
def b57:List (Nat×App):=[(115,d5R)]
theorem a8T:GOk Tryz.prog (j8 b57):=GOk.cons e0L (GOk.nil)
theorem b3s:o8 (g6 Tryz.f62)=true:=by kernel_rfl
def P4:List LS:=[.b 0 7 [],.v 92 .bool,.c 7 tyW]
def P5:List LS:=[.c 7 tyW]
def c0R:DX:=⟨some P5,none,[]⟩
def d21 (k:Ex→St→Prop) (w0b:tWk):Prop:=wfD P5 (w0b,())→k .nrm (mkD 129 P5 (w0b,()))
def a03 (kn:tWk→Prop) (x92:Bool) (w0b:tWk):Prop:=
 bif x92 then
 bif (decide ((0:Int)<w0b.2.2.2.2.2.2.2.1.2.2.2.2.2.2.1)) then
 (
 (
 kn (w0b.1,w0b.2.1,w0b.2.2.1,w0b.2.2.2.1,w0b.2.2.2.2.1,w0b.2.2.2.2.2.1,w0b.2.2.2.2.2.2.1,w0b.2.2.2.2.2.2.2.1,w0b.2.2.2.2.2.2.2.2.2,(mn (IntKind.wrap .i64 ((IntKind.wrap .i64 (w0b.2.2.2.2.2.2.2.2.2+w0b.2.2.2.2.2.2.2.1.2.2.2.2.2.2.1)) - (1:Int))) w0b.2.2.2.1)))∧(
 kn (w0b.1,w0b.2.1,w0b.2.2.1,w0b.2.2.2.1,w0b.2.2.2.2.1,w0b.2.2.2.2.2.1,w0b.2.2.2.2.2.2.1,w0b.2.2.2.2.2.2.2.1,w0b.2.2.2.2.2.2.2.2.2,(mn (IntKind.wrap .i64 ((IntKind.wrap .i64 (w0b.2.2.2.2.2.2.2.2.2+w0b.2.2.2.2.2.2.2.1.2.2.2.2.2.2.1)) - (1:Int))) w0b.2.2.2.1)))∧True)∧(
 (
 kn (w0b.1,w0b.2.1,w0b.2.2.1,w0b.2.2.2.1,w0b.2.2.2.2.1,w0b.2.2.2.2.2.1,w0b.2.2.2.2.2.2.1,w0b.2.2.2.2.2.2.2.1,w0b.2.2.2.2.2.2.2.2.2,(mn (IntKind.wrap .i64 ((IntKind.wrap .i64 (w0b.2.2.2.2.2.2.2.2.2+w0b.2.2.2.2.2.2.2.1.2.2.2.2.2.2.1)) - (1:Int))) w0b.2.2.2.1)))∧(
 kn (w0b.1,w0b.2.1,w0b.2.2.1,w0b.2.2.2.1,w0b.2.2.2.2.1,w0b.2.2.2.2.2.1,w0b.2.2.2.2.2.2.1,w0b.2.2.2.2.2.2.2.1,w0b.2.2.2.2.2.2.2.2.2,(mn (IntKind.wrap .i64 ((IntKind.wrap .i64 (w0b.2.2.2.2.2.2.2.2.2+w0b.2.2.2.2.2.2.2.1.2.2.2.2.2.2.1)) - (1:Int))) w0b.2.2.2.1)))∧True)∧(
 (
 kn (w0b.1,w0b.2.1,w0b.2.2.1,w0b.2.2.2.1,w0b.2.2.2.2.1,w0b.2.2.2.2.2.1,w0b.2.2.2.2.2.2.1,w0b.2.2.2.2.2.2.2.1,w0b.2.2.2.2.2.2.2.2.2,(mn (IntKind.wrap .i64 ((IntKind.wrap .i64 (w0b.2.2.2.2.2.2.2.2.2+w0b.2.2.2.2.2.2.2.1.2.2.2.2.2.2.1)) - (1:Int))) w0b.2.2.2.1)))∧(
 kn (w0b.1,w0b.2.1,w0b.2.2.1,w0b.2.2.2.1,w0b.2.2.2.2.1,w0b.2.2.2.2.2.1,w0b.2.2.2.2.2.2.1,w0b.2.2.2.2.2.2.2.1,w0b.2.2.2.2.2.2.2.2.2,(mn (IntKind.wrap .i64 ((IntKind.wrap .i64 (w0b.2.2.2.2.2.2.2.2.2+w0b.2.2.2.2.2.2.2.1.2.2.2.2.2.2.1)) - (1:Int))) w0b.2.2.2.1)))∧True)∧True
 else
 kn w0b
 else
 kn w0b
def c6j (k:Ex→St→Prop) (v:l6 P4):Prop:=a03 (d21 k) v.1 v.2.1
theorem d8Q (k:Ex→St→Prop):∀ v:l6 P4,ex tb (j8 b57) [] (at' (g6 Tryz.f62) [1,0,1,0,1,1,1]) [1,0,1,0,1,1,1] (mkD 129 P4 v) (wk 129 c0R k)=c6j k v
 | (x92,w0b,())=>by kernel_rfl
def c6e:Pce:=fun st k=>ckD 129 P4 st fun v=>wfD P4 v→c6j k v
theorem d8U:j5 Tryz.prog (at' (g6 Tryz.f62) [1,0,1,0,1,1,1]) c6e:=
 (j5.wk (N:=129) (ds:=P4) (dx:=c0R) (l3 o0 j9 a8T (g7.nil) (at' (g6 Tryz.f62) [1,0,1,0,1,1,1]) [1,0,1,0,1,1,1] rfl (g9 b3s [1,0,1,0,1,1,1]))).mono fun st k h=>l4 h fun v hv hw=>Eq.mpr (d8Q k v) (hv hw)
def b8r:q8:=([1,0,1,0,1,1,1],c6e)::[]
theorem c6h:g7 Tryz.prog (g6 Tryz.f62) b8r:=g7.cons d8U (g7.nil)
def P6:List LS:=[.c 7 tyW]
def P7:List LS:=[.v 2 yI,.c 7 tyW]
def c0S:DX:=⟨none,some P7,[]⟩
def d22 (k:Ex→St→Prop) (x2:Int) (w0b:tWk):Prop:=wfD P7 (x2,w0b,())→k .ret (mkD 129 P7 (x2,w0b,()))
def a04 (kr:Int→tWk→Prop) (w0b:tWk):Prop:=
 kr (0:Int) w0b
def c6k (k:Ex→St→Prop) (v:l6 P6):Prop:=a04 (d22 k) v.1
theorem d8R (k:Ex→St→Prop):∀ v:l6 P6,ex tb (j8 b57) b8r (at' (g6 Tryz.f62) [1,1,1,1]) [1,1,1,1] (mkD 129 P6 v) (wk 129 c0S k)=c6k k v
 | (w0b,())=>by kernel_rfl
def c6f:Pce:=fun st k=>ckD 129 P6 st fun v=>wfD P6 v→c6k k v
theorem d8V:j5 Tryz.prog (at' (g6 Tryz.f62) [1,1,1,1]) c6f:=
 (j5.wk (N:=129) (ds:=P6) (dx:=c0S) (l3 o0 j9 a8T (c6h) (at' (g6 Tryz.f62) [1,1,1,1]) [1,1,1,1] rfl (g9 b3s [1,1,1,1]))).mono fun st k h=>l4 h fun v hv hw=>Eq.mpr (d8R k v) (hv hw)
def b8s:q8:=([1,1,1,1],c6f)::b8r
theorem c6i:g7 Tryz.prog (g6 Tryz.f62) b8s:=g7.cons d8V (c6h)
def a2e:List LS:=[.b 0 7 [],.c 7 tyW]
def a4J:List LS:=[.v 2 yI,.c 7 tyW]
def c0T:DX:=⟨none,some a4J,[]⟩
def d23 (k:Ex→St→Prop) (x2:Int) (w0b:tWk):Prop:=wfD a4J (x2,w0b,())→k .ret (mkD 129 a4J (x2,w0b,()))
def b0g (kr:Int→tWk→Prop) (w0b:tWk):Prop:=
 bif (decide (w0b.2.2.2.2.2.2.2.2.2<w0b.2.2.2.2.2.2.2.2.1)) then
 kr (231:Int) w0b
 else
 bif (decide (w0b.2.2.2.2.2.2.2.2.1=(0:Int))) then
 bif (!decide (w0b.2.2.2.2.2.2.2.1.2.2.2.1=([112,117]:LI))) then
 kr (231:Int) w0b
 else
 bif (decide (w0b.2.2.2.2.2.2.2.1.2.2.2.1=([100]:LI))) then
 (wfD P4 ((decide (w0b.2.2.2.2.2.2.2.1.2.2.2.1=([100]:LI))),w0b,())→a03 (fun (w0b:tWk)=>wfD P5 (w0b,())→(
 (wfD P6 (w0b,())→a04 (fun (x2:Int) (w0b:tWk)=>wfD P7 (x2,w0b,())→(
 kr x2 w0b)) w0b))) (decide (w0b.2.2.2.2.2.2.2.1.2.2.2.1=([100]:LI))) w0b)
 else
 bif (decide (w0b.2.2.2.2.2.2.2.1.2.2.2.1=([121]:LI))) then
 (wfD P4 ((decide (w0b.2.2.2.2.2.2.2.1.2.2.2.1=([121]:LI))),w0b,())→a03 (fun (w0b:tWk)=>wfD P5 (w0b,())→(
 (wfD P6 (w0b,())→a04 (fun (x2:Int) (w0b:tWk)=>wfD P7 (x2,w0b,())→(
 kr x2 w0b)) w0b))) (decide (w0b.2.2.2.2.2.2.2.1.2.2.2.1=([121]:LI))) w0b)
 else
 bif (decide (w0b.2.2.2.2.2.2.2.1.2.2.2.1=([106]:LI))) then
 (wfD P4 ((decide (w0b.2.2.2.2.2.2.2.1.2.2.2.1=([106]:LI))),w0b,())→a03 (fun (w0b:tWk)=>wfD P5 (w0b,())→(
 (wfD P6 (w0b,())→a04 (fun (x2:Int) (w0b:tWk)=>wfD P7 (x2,w0b,())→(
 kr x2 w0b)) w0b))) (decide (w0b.2.2.2.2.2.2.2.1.2.2.2.1=([106]:LI))) w0b)
 else
 (wfD P4 ((decide (w0b.2.2.2.2.2.2.2.1.2.2.2.1=([106,33]:LI))),w0b,())→a03 (fun (w0b:tWk)=>wfD P5 (w0b,())→(
 (wfD P6 (w0b,())→a04 (fun (x2:Int) (w0b:tWk)=>wfD P7 (x2,w0b,())→(
 kr x2 w0b)) w0b))) (decide (w0b.2.2.2.2.2.2.2.1.2.2.2.1=([106,33]:LI))) w0b)
 else
 bif (decide (w0b.2.2.2.2.2.2.2.1.2.2.2.1=([100]:LI))) then
 (wfD P4 ((decide (w0b.2.2.2.2.2.2.2.1.2.2.2.1=([100]:LI))),w0b,())→a03 (fun (w0b:tWk)=>wfD P5 (w0b,())→(
 (wfD P6 (w0b,())→a04 (fun (x2:Int) (w0b:tWk)=>wfD P7 (x2,w0b,())→(
 kr x2 w0b)) w0b))) (decide (w0b.2.2.2.2.2.2.2.1.2.2.2.1=([100]:LI))) w0b)
 else
 bif (decide (w0b.2.2.2.2.2.2.2.1.2.2.2.1=([121]:LI))) then
 (wfD P4 ((decide (w0b.2.2.2.2.2.2.2.1.2.2.2.1=([121]:LI))),w0b,())→a03 (fun (w0b:tWk)=>wfD P5 (w0b,())→(
 (wfD P6 (w0b,())→a04 (fun (x2:Int) (w0b:tWk)=>wfD P7 (x2,w0b,())→(
 kr x2 w0b)) w0b))) (decide (w0b.2.2.2.2.2.2.2.1.2.2.2.1=([121]:LI))) w0b)
 else
 bif (decide (w0b.2.2.2.2.2.2.2.1.2.2.2.1=([106]:LI))) then
 (wfD P4 ((decide (w0b.2.2.2.2.2.2.2.1.2.2.2.1=([106]:LI))),w0b,())→a03 (fun (w0b:tWk)=>wfD P5 (w0b,())→(
 (wfD P6 (w0b,())→a04 (fun (x2:Int) (w0b:tWk)=>wfD P7 (x2,w0b,())→(
 kr x2 w0b)) w0b))) (decide (w0b.2.2.2.2.2.2.2.1.2.2.2.1=([106]:LI))) w0b)
 else
 (wfD P4 ((decide (w0b.2.2.2.2.2.2.2.1.2.2.2.1=([106,33]:LI))),w0b,())→a03 (fun (w0b:tWk)=>wfD P5 (w0b,())→(
 (wfD P6 (w0b,())→a04 (fun (x2:Int) (w0b:tWk)=>wfD P7 (x2,w0b,())→(
 kr x2 w0b)) w0b))) (decide (w0b.2.2.2.2.2.2.2.1.2.2.2.1=([106,33]:LI))) w0b)
def c6l (k:Ex→St→Prop) (v:l6 a2e):Prop:=b0g (d23 k) v.1
theorem d8S (k:Ex→St→Prop):∀ v:l6 a2e,ex tb (j8 b57) b8s (at' (g6 Tryz.f62) [1,1]) [1,1] (mkD 129 a2e v) (wk 129 c0T k)=c6l k v
 | (w0b,())=>by kernel_rfl
def c6g:Pce:=fun st k=>ckD 129 a2e st fun v=>wfD a2e v→c6l k v
theorem d8W:j5 Tryz.prog (at' (g6 Tryz.f62) [1,1]) c6g:=
 (j5.wk (N:=129) (ds:=a2e) (dx:=c0T) (l3 o0 j9 a8T (c6i) (at' (g6 Tryz.f62) [1,1]) [1,1] rfl (g9 b3s [1,1]))).mono fun st k h=>l4 h fun v hv hw=>Eq.mpr (d8S k v) (hv hw)
def c6d:q8:=([1,1],c6g)::b8s
theorem d8N:g7 Tryz.prog (g6 Tryz.f62) c6d:=g7.cons d8W (c6i)
def c0U (w0:tWk) (K:Res→List Cell→Prop):Prop:=
 bif w0.2.2.2.2.2.2.2.1.2.2.1 then
 (wfD a2e ((w0.1,w0.2.1,w0.2.2.1,w0.2.2.2.1,w0.2.2.2.2.1,w0.2.2.2.2.2.1,w0.2.2.2.2.2.2.1,w0.2.2.2.2.2.2.2.1,(1:Int),w0.2.2.2.1),())→b0g (fun (x2:Int) (w0b:tWk)=>wfD a4J (x2,w0b,())→(
 K (.one (.v yI x2)) [⟨.st (.pair yB (.pair yI (.pair yI (.pair yI (.pair (.st (.pair (.arr 26 yI) yI)) (.pair tyB (.pair yB (.pair tyX (.pair yI yI))))))))),w0b⟩])) (w0.1,w0.2.1,w0.2.2.1,w0.2.2.2.1,w0.2.2.2.2.1,w0.2.2.2.2.2.1,w0.2.2.2.2.2.2.1,w0.2.2.2.2.2.2.2.1,(1:Int),w0.2.2.2.1))
 else
 b2u w0 w0.2.2.2.2.2.2.2.1.1∧(
 ∀ (r1:Int×Int),r1=b0F w0 w0.2.2.2.2.2.2.2.1.1→(
 wfR (.tup [.v yI r1.1,.v yI r1.2])→(
 bif (!decide (r1.2=(0:Int))) then
 K (.one (.v yI r1.2)) [⟨.st (.pair yB (.pair yI (.pair yI (.pair yI (.pair (.st (.pair (.arr 26 yI) yI)) (.pair tyB (.pair yB (.pair tyX (.pair yI yI))))))))),w0⟩]
 else
 bif w0.2.2.2.2.2.2.2.1.2.1.2.2.2.2.2 then
 b2u (w0.1,w0.2.1,w0.2.2.1,w0.2.2.2.1,w0.2.2.2.2.1,w0.2.2.2.2.2.1,w0.2.2.2.2.2.2.1,w0.2.2.2.2.2.2.2.1,r1.1,r1.1) w0.2.2.2.2.2.2.2.1.2.1∧(
 ∀ (r2:Int×Int),r2=b0F (w0.1,w0.2.1,w0.2.2.1,w0.2.2.2.1,w0.2.2.2.2.1,w0.2.2.2.2.2.1,w0.2.2.2.2.2.2.1,w0.2.2.2.2.2.2.2.1,r1.1,r1.1) w0.2.2.2.2.2.2.2.1.2.1→(
 wfR (.tup [.v yI r2.1,.v yI r2.2])→(
 bif (!decide (r2.2=(0:Int))) then
 K (.one (.v yI r2.2)) [⟨.st (.pair yB (.pair yI (.pair yI (.pair yI (.pair (.st (.pair (.arr 26 yI) yI)) (.pair tyB (.pair yB (.pair tyX (.pair yI yI))))))))),(w0.1,w0.2.1,w0.2.2.1,w0.2.2.2.1,w0.2.2.2.2.1,w0.2.2.2.2.2.1,w0.2.2.2.2.2.2.1,w0.2.2.2.2.2.2.2.1,r1.1,r2.1)⟩]
 else
 (wfD a2e ((w0.1,w0.2.1,w0.2.2.1,w0.2.2.2.1,w0.2.2.2.2.1,w0.2.2.2.2.2.1,w0.2.2.2.2.2.2.1,w0.2.2.2.2.2.2.2.1,r1.1,r2.1),())→b0g (fun (x2:Int) (w0b:tWk)=>wfD a4J (x2,w0b,())→(
 K (.one (.v yI x2)) [⟨.st (.pair yB (.pair yI (.pair yI (.pair yI (.pair (.st (.pair (.arr 26 yI) yI)) (.pair tyB (.pair yB (.pair tyX (.pair yI yI))))))))),w0b⟩])) (w0.1,w0.2.1,w0.2.2.1,w0.2.2.2.1,w0.2.2.2.2.1,w0.2.2.2.2.2.1,w0.2.2.2.2.2.2.1,w0.2.2.2.2.2.2.2.1,r1.1,r2.1)))))
 else
 (wfD a2e ((w0.1,w0.2.1,w0.2.2.1,w0.2.2.2.1,w0.2.2.2.2.1,w0.2.2.2.2.2.1,w0.2.2.2.2.2.2.1,w0.2.2.2.2.2.2.2.1,r1.1,r1.1),())→b0g (fun (x2:Int) (w0b:tWk)=>wfD a4J (x2,w0b,())→(
 K (.one (.v yI x2)) [⟨.st (.pair yB (.pair yI (.pair yI (.pair yI (.pair (.st (.pair (.arr 26 yI) yI)) (.pair tyB (.pair yB (.pair tyX (.pair yI yI))))))))),w0b⟩])) (w0.1,w0.2.1,w0.2.2.1,w0.2.2.2.1,w0.2.2.2.2.1,w0.2.2.2.2.2.1,w0.2.2.2.2.2.2.1,w0.2.2.2.2.2.2.2.1,r1.1,r1.1)))))
def b56:List AS:=[.r none tyW]
def P2 (x92:Bool) (w0b:tWk):tWk:=
 bif x92 then
 bif (decide ((0:Int)<w0b.2.2.2.2.2.2.2.1.2.2.2.2.2.2.1)) then
 ((w0b.1,w0b.2.1,w0b.2.2.1,w0b.2.2.2.1,w0b.2.2.2.2.1,w0b.2.2.2.2.2.1,w0b.2.2.2.2.2.2.1,w0b.2.2.2.2.2.2.2.1,w0b.2.2.2.2.2.2.2.2.2,(mn (IntKind.wrap .i64 ((IntKind.wrap .i64 (w0b.2.2.2.2.2.2.2.2.2+w0b.2.2.2.2.2.2.2.1.2.2.2.2.2.2.1)) - (1:Int))) w0b.2.2.2.1)))
 else
 (w0b)
 else
 (w0b)
theorem N7 (kn:tWk→Prop) (x92:Bool) (w0b:tWk) (hn:∀ q:tWk,q=P2 x92 w0b→kn q):a03 kn x92 w0b:=
 have h:=hn; br0 h (fun _ h=>br0 h (fun _ h=>⟨⟨h _ rfl,
 h _ rfl,trivial⟩,
 ⟨h _ rfl,
 h _ rfl,trivial⟩,
 ⟨h _ rfl,
 h _ rfl,trivial⟩,trivial⟩)
 fun _ h=>h _ rfl)
 fun _ h=>h _ rfl
def P3 (w0b:tWk):Int×tWk:=
 ((0:Int),w0b)
theorem N8 (kr:Int→tWk→Prop) (w0b:tWk) (hr:∀ q:Int×tWk,q=P3 w0b→kr q.1 q.2):a04 kr w0b:=
 have h:=hr; h _ rfl
def a6i (w0b:tWk):Int×tWk:=
 bif (decide (w0b.2.2.2.2.2.2.2.2.2<w0b.2.2.2.2.2.2.2.2.1)) then
 ((231:Int),w0b)
 else
 bif (decide (w0b.2.2.2.2.2.2.2.2.1=(0:Int))) then
 bif (!decide (w0b.2.2.2.2.2.2.2.1.2.2.2.1=([112,117]:LI))) then
 ((231:Int),w0b)
 else
 bif (decide (w0b.2.2.2.2.2.2.2.1.2.2.2.1=([100]:LI))) then
 let q0n:tWk:=P2 (decide (w0b.2.2.2.2.2.2.2.1.2.2.2.1=([100]:LI))) w0b
 let w0b:tWk:=q0n
 let q1r:Int×tWk:=P3 w0b
 let x2:Int:=q1r.1
 let w0b:tWk:=q1r.2
 (x2,w0b)
 else
 bif (decide (w0b.2.2.2.2.2.2.2.1.2.2.2.1=([121]:LI))) then
 let q0n:tWk:=P2 (decide (w0b.2.2.2.2.2.2.2.1.2.2.2.1=([121]:LI))) w0b
 let w0b:tWk:=q0n
 let q1r:Int×tWk:=P3 w0b
 let x2:Int:=q1r.1
 let w0b:tWk:=q1r.2
 (x2,w0b)
 else
 bif (decide (w0b.2.2.2.2.2.2.2.1.2.2.2.1=([106]:LI))) then
 let q0n:tWk:=P2 (decide (w0b.2.2.2.2.2.2.2.1.2.2.2.1=([106]:LI))) w0b
 let w0b:tWk:=q0n
 let q1r:Int×tWk:=P3 w0b
 let x2:Int:=q1r.1
 let w0b:tWk:=q1r.2
 (x2,w0b)
 else
 let q0n:tWk:=P2 (decide (w0b.2.2.2.2.2.2.2.1.2.2.2.1=([106,33]:LI))) w0b
 let w0b:tWk:=q0n
 let q1r:Int×tWk:=P3 w0b
 let x2:Int:=q1r.1
 let w0b:tWk:=q1r.2
 (x2,w0b)
 else
 bif (decide (w0b.2.2.2.2.2.2.2.1.2.2.2.1=([100]:LI))) then
 let q0n:tWk:=P2 (decide (w0b.2.2.2.2.2.2.2.1.2.2.2.1=([100]:LI))) w0b
 let w0b:tWk:=q0n
 let q1r:Int×tWk:=P3 w0b
 let x2:Int:=q1r.1
 let w0b:tWk:=q1r.2
 (x2,w0b)
 else
 bif (decide (w0b.2.2.2.2.2.2.2.1.2.2.2.1=([121]:LI))) then
 let q0n:tWk:=P2 (decide (w0b.2.2.2.2.2.2.2.1.2.2.2.1=([121]:LI))) w0b
 let w0b:tWk:=q0n
 let q1r:Int×tWk:=P3 w0b
 let x2:Int:=q1r.1
 let w0b:tWk:=q1r.2
 (x2,w0b)
 else
 bif (decide (w0b.2.2.2.2.2.2.2.1.2.2.2.1=([106]:LI))) then
 let q0n:tWk:=P2 (decide (w0b.2.2.2.2.2.2.2.1.2.2.2.1=([106]:LI))) w0b
 let w0b:tWk:=q0n
 let q1r:Int×tWk:=P3 w0b
 let x2:Int:=q1r.1
 let w0b:tWk:=q1r.2
 (x2,w0b)
 else
 let q0n:tWk:=P2 (decide (w0b.2.2.2.2.2.2.2.1.2.2.2.1=([106,33]:LI))) w0b
 let w0b:tWk:=q0n
 let q1r:Int×tWk:=P3 w0b
 let x2:Int:=q1r.1
 let w0b:tWk:=q1r.2
 (x2,w0b)
theorem a7Z (kr:Int→tWk→Prop) (w0b:tWk) (hr:∀ q:Int×tWk,q=a6i w0b→kr q.1 q.2):b0g kr w0b:=
 have h:=hr; br0 h (fun _ h=>h _ rfl)
 fun _ h=>br0 h (fun _ h=>br0 h (fun _ h=>h _ rfl)
 fun _ h=>br0 h (fun _ h=>fun _=>N7 _ _ _ (al (fun _=>N8 _ _ (al (h _ rfl)))))
 fun _ h=>br0 h (fun _ h=>fun _=>N7 _ _ _ (al (fun _=>N8 _ _ (al (h _ rfl)))))
 fun _ h=>br0 h (fun _ h=>fun _=>N7 _ _ _ (al (fun _=>N8 _ _ (al (h _ rfl)))))
 fun _ h=>fun _=>N7 _ _ _ (al (fun _=>N8 _ _ (al (h _ rfl)))))
 fun _ h=>br0 h (fun _ h=>fun _=>N7 _ _ _ (al (fun _=>N8 _ _ (al (h _ rfl)))))
 fun _ h=>br0 h (fun _ h=>fun _=>N7 _ _ _ (al (fun _=>N8 _ _ (al (h _ rfl)))))
 fun _ h=>br0 h (fun _ h=>fun _=>N7 _ _ _ (al (fun _=>N8 _ _ (al (h _ rfl)))))
 fun _ h=>fun _=>N7 _ _ _ (al (fun _=>N8 _ _ (al (h _ rfl))))
def b58 (w0:tWk):Prop:=
 bif w0.2.2.2.2.2.2.2.1.2.2.1 then
 True
 else
 b2u w0 w0.2.2.2.2.2.2.2.1.1∧(
 let r1:Int×Int:=b0F w0 w0.2.2.2.2.2.2.2.1.1
 bif (!decide (r1.2=(0:Int))) then
 True
 else
 bif w0.2.2.2.2.2.2.2.1.2.1.2.2.2.2.2 then
 b2u (w0.1,w0.2.1,w0.2.2.1,w0.2.2.2.1,w0.2.2.2.2.1,w0.2.2.2.2.2.1,w0.2.2.2.2.2.2.1,w0.2.2.2.2.2.2.2.1,r1.1,r1.1) w0.2.2.2.2.2.2.2.1.2.1
 else
 True)
def b19 (w0:tWk):Int×tWk:=
 bif w0.2.2.2.2.2.2.2.1.2.2.1 then
 let q2r:Int×tWk:=a6i (w0.1,w0.2.1,w0.2.2.1,w0.2.2.2.1,w0.2.2.2.2.1,w0.2.2.2.2.2.1,w0.2.2.2.2.2.2.1,w0.2.2.2.2.2.2.2.1,(1:Int),w0.2.2.2.1)
 let x2:Int:=q2r.1
 let w0b:tWk:=q2r.2
 (x2,w0b)
 else
 let r1:Int×Int:=b0F w0 w0.2.2.2.2.2.2.2.1.1
 bif (!decide (r1.2=(0:Int))) then
 (r1.2,w0)
 else
 bif w0.2.2.2.2.2.2.2.1.2.1.2.2.2.2.2 then
 let r2:Int×Int:=b0F (w0.1,w0.2.1,w0.2.2.1,w0.2.2.2.1,w0.2.2.2.2.1,w0.2.2.2.2.2.1,w0.2.2.2.2.2.2.1,w0.2.2.2.2.2.2.2.1,r1.1,r1.1) w0.2.2.2.2.2.2.2.1.2.1
 bif (!decide (r2.2=(0:Int))) then
 (r2.2,(w0.1,w0.2.1,w0.2.2.1,w0.2.2.2.1,w0.2.2.2.2.1,w0.2.2.2.2.2.1,w0.2.2.2.2.2.2.1,w0.2.2.2.2.2.2.2.1,r1.1,r2.1))
 else
 let q2r:Int×tWk:=a6i (w0.1,w0.2.1,w0.2.2.1,w0.2.2.2.1,w0.2.2.2.2.1,w0.2.2.2.2.2.1,w0.2.2.2.2.2.2.1,w0.2.2.2.2.2.2.2.1,r1.1,r2.1)
 let x2:Int:=q2r.1
 let w0b:tWk:=q2r.2
 (x2,w0b)
 else
 let q2r:Int×tWk:=a6i (w0.1,w0.2.1,w0.2.2.1,w0.2.2.2.1,w0.2.2.2.2.1,w0.2.2.2.2.2.1,w0.2.2.2.2.2.2.1,w0.2.2.2.2.2.2.2.1,r1.1,r1.1)
 let x2:Int:=q2r.1
 let w0b:tWk:=q2r.2
 (x2,w0b)
theorem d8P (w0:tWk) (K:Res→List Cell→Prop) (_:wfA b56 (w0,())) (hp:b58 w0) (h:∀ r:Int×tWk,r=b19 w0→K (.one (.v yI r.1)) [⟨.st (.pair yB (.pair yI (.pair yI (.pair yI (.pair (.st (.pair (.arr 26 yI) yI)) (.pair tyB (.pair yB (.pair tyX (.pair yI yI))))))))),r.2⟩]):c0U w0 K:=
 br1 hp h (fun _ hp h=>fun _=>a7Z _ _ (al (h _ rfl)))
 fun _ hp h=>an1 hp fun hp=>al (br1 hp h (fun _ hp h=>h _ rfl)
 fun _ hp h=>br1 hp h (fun _ hp h=>⟨hp,al (br0 h (fun _ h=>h _ rfl)
 fun _ h=>fun _=>a7Z _ _ (al (h _ rfl)))⟩)
 fun _ hp h=>fun _=>a7Z _ _ (al (h _ rfl)))
def e5m (v:j3 b56) (K:Res→List Cell→Prop):Prop:=b58 v.1∧∀ r:Int×tWk,r=b19 v.1→K (.one (.v yI r.1)) [⟨.st (.pair yB (.pair yI (.pair yI (.pair yI (.pair (.st (.pair (.arr 26 yI) yI)) (.pair tyB (.pair yB (.pair tyX (.pair yI yI))))))))),r.2⟩]
def d5u:App:=specW b56 e5m
theorem d8T (K:Res→List Cell→Prop):∀ v:j3 b56,q7 tb (j8 b57) c6d Tryz.f62 [true] (mkA b56 v) K=c0U v.1 K
 | (w0,())=>by kernel_rfl
theorem d8O:g8 Tryz.prog 62 d5u:=
 g8.specW (l9 ((l8 o0 j9 a8T (d8N) (f:=62) (fn:=Tryz.f62) (by kernel_rfl) (by kernel_rfl) b3s [true])) fun v K hw h=>(d8T K v).mpr (d8P v.1 K hw h.1 h.2))
def d05:List (Nat×App):=[(189,b6L)]
theorem c2I:GOk Tryz.prog (j8 d05):=GOk.cons b4d (GOk.nil)
theorem d1c:o8 (g6 Tryz.f168)=true:=by kernel_rfl
def V0:List LS:=[.v 0 yB,.v 1 yI,.v 6 yI]
def a89:List LS:=[.v 4 yI,.v 5 yI]
def a7o:List LS:=[.v 6 yI]
def b4V:DX:=⟨none,some a89,[(0,a7o)]⟩
def b4X (k:Ex→St→Prop) (x4:Int) (x5:Int):Prop:=wfD a89 (x4,x5,())→k .ret (mkD 25 a89 (x4,x5,()))
def b1b (k:Ex→St→Prop) (at6:Int):Prop:=wfD a7o (at6,())→k (.exit 0) (mkD 25 a7o (at6,()))
def b1a (Y:LI→Int→Int→Prop) (kr:Int→Int→Prop) (kx0:Int→Prop) (t0:LI) (line1:Int) (at6:Int):Prop:=
 bif (decide ((0:Int)<line1)) then
 bif decide (0≤at6∧at6≤(List.length t0:Int)) then
 ∀ (r1:Int),r1=a2L (List.drop (Int.toNat at6) t0) (10:Int)→(
 wI r1→(
 bif (decide (r1<(0:Int))) then
 kr (0:Int) (2:Int)
 else
 Y t0 (IntKind.wrap .i64 (line1 - (1:Int))) (IntKind.wrap .i64 (at6+(IntKind.wrap .i64 (r1+(1:Int)))))))
 else False
 else
 kx0 at6
def b4U (kr:Int→Int→Prop) (kx0:Int→Prop):Nat→LI→Int→Int→Prop
 | 0,_,_,_=>False
 | n+1,t0,line1,at6=>wfD V0 (t0,line1,at6,())→b1a (b4U kr kx0 n) kr kx0 t0 line1 at6
def d08:Pce:=ex tb (j8 d05) [] (at' (g6 Tryz.f168) [0,0,0,1,1,1]) [0,0,0,1,1,1]
def d09 (k:Ex→St→Prop) (n:Nat) (v:l6 V0):Prop:=b4U (b4X k) (b1b k) n v.1 v.2.1 v.2.2.1
theorem e3J (k:Ex→St→Prop) (Y:l6 V0→Prop):∀ v:l6 V0,d08 (mkD 25 V0 v) (lpK 25 V0 b4V k Y)=b1a (fun t0 line1 at6=>Y (t0,line1,at6,())) (b4X k) (b1b k) v.1 v.2.1 v.2.2.1
 | (t0,line1,at6,())=>by kernel_rfl
theorem d1d (k:Ex→St→Prop):∀ (n:Nat) (v:l6 V0),lpD 25 V0 b4V d08 k n v=d09 k n v
 | 0,(t0,line1,at6,())=>rfl
 | n+1,(t0,line1,at6,())=>congrArg (fun Z:Prop=>wfD V0 (t0,line1,at6,())→Z) ((e3J k _ (t0,line1,at6,())).trans (congrArg (fun Y=>b1a Y (b4X k) (b1b k) t0 line1 at6) (funext fun t0=>funext fun line1=>funext fun at6=>d1d k n (t0,line1,at6,()))))
def d07:Pce:=fun st k=>ckD 25 V0 st fun v=>wfD V0 v→∃ n,d09 k n v
theorem e3M:j5 Tryz.prog (at' (g6 Tryz.f168) [0,0,1,1,1]) d07:=
 (j5.loop (l3 o0 j9 c2I (g7.nil) (at' (g6 Tryz.f168) [0,0,0,1,1,1]) [0,0,0,1,1,1] rfl (g9 d1c [0,0,0,1,1,1])) 25 V0 b4V).mono fun st k h=>l4 h fun v hv hw=>(hv hw).elim fun n hn=>⟨n,Eq.mpr (d1d k n v) hn⟩
def d03:q8:=([0,0,1,1,1],d07)::[]
theorem e3I:g7 Tryz.prog (g6 Tryz.f168) d03:=g7.cons e3M (g7.nil)
def b4W (t0:LI) (line1:Int) (K:Res→List Cell→Prop):Prop:=
 bif (decide (line1<(0:Int))) then
 K (.tup [.v yI (0:Int),.v yI (2:Int)]) []
 else
 (wfD V0 (t0,line1,(0:Int),())→∃ n,b4U (fun (x4:Int) (x5:Int)=>wfD a89 (x4,x5,())→(
 K (.tup [.v yI x4,.v yI x5]) [])) (fun (at6:Int)=>wfD a7o (at6,())→(
 K (.tup [.v yI at6,.v yI (0:Int)]) [])) n t0 line1 (0:Int))
def b7q:List AS:=[.v yB,.v yI]
def a0h (t:LI):Nat→Nat→Option Nat
 | 0,p=>some p
 | n+1,p=>if a2X (t.drop p) 10<0 then none else a0h t n (p+(a2X (t.drop p) 10).toNat+1)
def E8 (t:LI) (line:Int):Int×Int:=
 if line<0 then (0,2) else match a0h t line.toNat 0 with
 | some p=>((p:Int),0)
 | none=>(0,2)
theorem b22 (xs:LI) (c:Int):-1≤a2X xs c∧a2X xs c<xs.length∨xs=[]∧a2X xs c = -1:=by
 unfold a2X
 split
 ·rename_i h; have:=List.idxOf_lt_length_of_mem h; omega
 ·cases xs with
  | nil=>exact .inr ⟨rfl,rfl⟩
  | cons a l=>left; simp only [List.length_cons]; omega
theorem d1a (kr:Int→Int→Prop) (kx0:Int→Prop) (t:LI) (ht:t.length≤9223372036854775807):∀ (n m p:Nat),n≤9223372036854775807→p≤t.length→n<m→
  (a0h t n p=none→kr 0 2)→(∀ q,a0h t n p=some q→kx0 (q:Int))→b4U kr kx0 m t (n:Int) (p:Int)
 | _,0,_,_,_,h,_,_=>absurd h (Nat.not_lt_zero _)
 | 0,m+1,p,_,_,_,_,h2=>by
  intro _
  unfold b1a
  exact brn (fun h=>absurd h (by omega)) (fun _=>h2 p rfl)
 | n+1,m+1,p,hn,hp,hm,h1,h2=>by
  intro _
  unfold b1a
  refine brn (fun _=>C1 (by omega) fun r hr _=>?_) (fun h=>absurd (by omega) h)
  have hr:r=a2X (t.drop p) 10:=by rw [hr]; simp [a2L,d3H]
  have hb:=b22 (t.drop p) 10
  rw [List.length_drop] at hb
  rw [← hr] at hb
  refine brn (fun h=>h1 ?_) (fun h=>?_)
  ·unfold a0h; rw [← hr,if_pos h]
  ·have hd:r<(t.length:Int) - p:=by
    rcases hb with hb | ⟨_,hb⟩ <;> omega
   rw [wrap_i64 (n:=r+1) (by omega) (by omega),wrap_i64 (by omega) (by omega),wrap_i64 (by omega) (by omega)]
   have e1:((n+1:Nat):Int) - 1=(n:Int):=by omega
   have e2:(p:Int)+(r+1)=((p+r.toNat+1:Nat):Int):=by omega
   rw [e1,e2]
   have e3:a0h t (n+1) p=a0h t n (p+r.toNat+1):=by conv=>lhs; unfold a0h; rw [← hr,if_neg h]
   exact d1a kr kx0 t ht n m (p+r.toNat+1) (by omega) (by omega) (by omega) (fun hh=>h1 (by rw [e3]; exact hh)) (fun q hh=>h2 q (by rw [e3]; exact hh))
theorem e3K (t:LI) (line:Int) (K:Res→List Cell→Prop) (hw:wfA b7q (t,line,())) (h:∀ r:Int×Int,r=E8 t line→K (.tup [.v yI r.1,.v yI r.2]) []):b4W t line K:=by
 have ht:t.length≤9223372036854775807:=hw.1.1
 have hl:line≤9223372036854775807:=hw.2.1.2
 unfold b4W
 refine brn (fun hn=>h (0,2) (by unfold E8; rw [if_pos hn])) (fun hn _=>?_)
 refine ⟨line.toNat+1,?_⟩
 have e:line=(line.toNat:Int):=by omega
 have key:=fun kr kx0 h1 h2=>d1a kr kx0 t ht line.toNat (line.toNat+1) 0 (by omega) (Nat.zero_le _) (Nat.lt_succ_self _) h1 h2
 rw [← e] at key
 refine key _ _ (fun hg _=>h (0,2) ?_) (fun q hg _=>h ((q:Int),0) ?_)
 ·unfold E8; rw [if_neg hn,hg]
 ·unfold E8; rw [if_neg hn,hg]
def e6O (v:j3 b7q) (K:Res→List Cell→Prop):Prop:=∀ r:Int×Int,r=E8 v.1 v.2.1→K (.tup [.v yI r.1,.v yI r.2]) []
def d06:App:=specW b7q e6O
theorem e3L (K:Res→List Cell→Prop):∀ v:j3 b7q,q7 tb (j8 d05) d03 Tryz.f168 [true,true] (mkA b7q v) K=b4W v.1 v.2.1 K
 | (t0,line1,())=>by kernel_rfl
theorem d1b:g8 Tryz.prog 168 d06:=
 g8.specW (l9 ((l8 o0 j9 c2I (e3I) (f:=168) (fn:=Tryz.f168) (by kernel_rfl) (by kernel_rfl) d1c [true,true])) fun v K hw h=>(e3L K v).mpr (e3K v.1 v.2.1 K hw h))
theorem b1T (t:LI):∀ (n p q:Nat),p≤t.length→a0h t n p=some q→q≤t.length
 | 0,p,q,hp,h=>by simp only [a0h,Option.some.injEq] at h; omega
 | n+1,p,q,hp,h=>by
  unfold a0h at h
  have hb:=b22 (t.drop p) 10
  rw [List.length_drop] at hb
  split at h
  ·cases h
  ·exact b1T t n _ q (by rcases hb with hb | ⟨_,hb⟩ <;> omega) h
theorem d04 (t:LI) (n:Int):0≤(E8 t n).1∧(E8 t n).1≤t.length:=by
 unfold E8
 split
 ·simp
 ·split
  ·rename_i q hq; have:=b1T t _ 0 q (Nat.zero_le _) hq; simp only; omega
  ·simp
def c4J:List (Nat×App):=[(189,b6L)]
theorem c4K:GOk Tryz.prog (j8 c4J):=GOk.cons b4d (GOk.nil)
def b5D (t0:LI) (at1:Int) (K:Res→List Cell→Prop):Prop:=
 bif decide (0≤at1∧at1≤(List.length t0:Int)) then
 ∀ (r1:Int),r1=a2L (List.drop (Int.toNat at1) t0) (10:Int)→(
 wI r1→(
 bif (decide ((0:Int)≤r1)) then
 K (.one (.v yI (IntKind.wrap .i64 (at1+r1)))) []
 else
 K (.one (.v yI (List.length t0:Int))) []))
 else False
def a9J:List AS:=[.v yB,.v yI]
def b8a (t0:LI) (at1:Int):Prop:=
 (0≤at1∧at1≤(List.length t0:Int))
def a27 (t0:LI) (at1:Int):Int:=
 let r1:Int:=a2L (List.drop (Int.toNat at1) t0) (10:Int)
 bif (decide ((0:Int)≤r1)) then
 (IntKind.wrap .i64 (at1+r1))
 else
 (List.length t0:Int)
theorem d2j (t0:LI) (at1:Int) (K:Res→List Cell→Prop) (_:wfA a9J (t0,at1,())) (hp:b8a t0 at1) (h:∀ r:Int,r=a27 t0 at1→K (.one (.v yI r)) []):b5D t0 at1 K:=
 as0 hp (al (br0 h (fun _ h=>h _ rfl)
 fun _ h=>h _ rfl))
def d7a (v:j3 a9J) (K:Res→List Cell→Prop):Prop:=b8a v.1 v.2.1∧∀ r:Int,r=a27 v.1 v.2.1→K (.one (.v yI r)) []
def c4L:App:=specW a9J d7a
theorem d2k (K:Res→List Cell→Prop):∀ v:j3 a9J,q7 tb (j8 c4J) [] Tryz.f169 [true] (mkA a9J v) K=b5D v.1 v.2.1 K
 | (t0,at1,())=>by kernel_rfl
theorem d2i:g8 Tryz.prog 169 c4L:=
 g8.specW (l9 ((l8 o0 j9 c4K (g7.nil) (f:=169) (fn:=Tryz.f169) (by kernel_rfl) (by kernel_rfl) (by kernel_rfl) [true])) fun v K hw h=>(d2k K v).mpr (d2j v.1 v.2.1 K hw h.1 h.2))
def d1f:List (Nat×App):=[(168,d06),(169,c4L)]
theorem c2J:GOk Tryz.prog (j8 d1f):=GOk.cons d1b (GOk.cons d2i (GOk.nil))
theorem d1m:o8 (g6 Tryz.f116)=true:=by kernel_rfl
def V1:List LS:=[.v 0 yB,.v 6 yI,.v 8 yI,.v 9 yI]
def a9a:List LS:=[.v 4 yI,.v 5 yI]
def a7p:List LS:=[.v 6 yI,.v 8 yI]
def b4Y:DX:=⟨none,some a9a,[(0,a7p)]⟩
def b40 (k:Ex→St→Prop) (x4:Int) (x5:Int):Prop:=wfD a9a (x4,x5,())→k .ret (mkD 45 a9a (x4,x5,()))
def b1e (k:Ex→St→Prop) (from6:Int) (to8:Int):Prop:=wfD a7p (from6,to8,())→k (.exit 0) (mkD 45 a7p (from6,to8,()))
def b1d (Y:LI→Int→Int→Int→Prop) (kr:Int→Int→Prop) (kx0:Int→Int→Prop) (t0:LI) (from6:Int) (to8:Int) (i9:Int):Prop:=
 bif (decide (i9<to8)) then
 bif decide (0≤i9∧i9<(List.length t0:Int)) then
 bif (!decide ((rd (0:Int) t0 i9)=(32:Int))) then
 bif decide (0≤i9∧i9<(List.length t0:Int)) then
 bif (!decide ((rd (0:Int) t0 i9)=(9:Int))) then
 kr i9 (0:Int)
 else
 Y t0 from6 to8 (IntKind.wrap .i64 (i9+(1:Int)))
 else False
 else
 Y t0 from6 to8 (IntKind.wrap .i64 (i9+(1:Int)))
 else False
 else
 kx0 from6 to8
def b1c (kr:Int→Int→Prop) (kx0:Int→Int→Prop):Nat→LI→Int→Int→Int→Prop
 | 0,_,_,_,_=>False
 | n+1,t0,from6,to8,i9=>wfD V1 (t0,from6,to8,i9,())→b1d (b1c kr kx0 n) kr kx0 t0 from6 to8 i9
def d1i:Pce:=ex tb (j8 d1f) [] (at' (g6 Tryz.f116) [0,0,1,0,1,1,1,1]) [0,0,1,0,1,1,1,1]
def d1j (k:Ex→St→Prop) (n:Nat) (v:l6 V1):Prop:=b1c (b40 k) (b1e k) n v.1 v.2.1 v.2.2.1 v.2.2.2.1
theorem e3O (k:Ex→St→Prop) (Y:l6 V1→Prop):∀ v:l6 V1,d1i (mkD 45 V1 v) (lpK 45 V1 b4Y k Y)=b1d (fun t0 from6 to8 i9=>Y (t0,from6,to8,i9,())) (b40 k) (b1e k) v.1 v.2.1 v.2.2.1 v.2.2.2.1
 | (t0,from6,to8,i9,())=>by kernel_rfl
theorem d1n (k:Ex→St→Prop):∀ (n:Nat) (v:l6 V1),lpD 45 V1 b4Y d1i k n v=d1j k n v
 | 0,(t0,from6,to8,i9,())=>rfl
 | n+1,(t0,from6,to8,i9,())=>congrArg (fun Z:Prop=>wfD V1 (t0,from6,to8,i9,())→Z) ((e3O k _ (t0,from6,to8,i9,())).trans (congrArg (fun Y=>b1d Y (b40 k) (b1e k) t0 from6 to8 i9) (funext fun t0=>funext fun from6=>funext fun to8=>funext fun i9=>d1n k n (t0,from6,to8,i9,()))))
def d1h:Pce:=fun st k=>ckD 45 V1 st fun v=>wfD V1 v→∃ n,d1j k n v
theorem e3R:j5 Tryz.prog (at' (g6 Tryz.f116) [0,1,0,1,1,1,1]) d1h:=
 (j5.loop (l3 o0 j9 c2J (g7.nil) (at' (g6 Tryz.f116) [0,0,1,0,1,1,1,1]) [0,0,1,0,1,1,1,1] rfl (g9 d1m [0,0,1,0,1,1,1,1])) 45 V1 b4Y).mono fun st k h=>l4 h fun v hv hw=>(hv hw).elim fun n hn=>⟨n,Eq.mpr (d1n k n v) hn⟩
def d1e:q8:=([0,1,0,1,1,1,1],d1h)::[]
theorem e3N:g7 Tryz.prog (g6 Tryz.f116) d1e:=g7.cons e3R (g7.nil)
def b4Z (t0:LI) (line1:Int) (K:Res→List Cell→Prop):Prop:=
 ∀ (r1:Int×Int),r1=E8 t0 line1→(
 wfR (.tup [.v yI r1.1,.v yI r1.2])→(
 bif (!decide (r1.2=(0:Int))) then
 K (.tup [.v yI (0:Int),.v yI r1.2]) []
 else
 b8a t0 r1.1∧(
 ∀ (r2:Int),r2=a27 t0 r1.1→(
 wI r2→(
 (wfD V1 (t0,r1.1,r2,r1.1,())→∃ n,b1c (fun (x4:Int) (x5:Int)=>wfD a9a (x4,x5,())→(
 K (.tup [.v yI x4,.v yI x5]) [])) (fun (from6:Int) (to8:Int)=>wfD a7p (from6,to8,())→(
 K (.tup [.v yI (mx from6 (IntKind.wrap .i64 (to8 - (1:Int)))),.v yI (0:Int)]) [])) n t0 r1.1 r2 r1.1))))))
def b7r:List AS:=[.v yB,.v yI]
def a8E (t:LI):Nat→Nat→Option Nat
 | 0,_=>none
 | m+1,i=>if rd (0:Int) t (i:Int)=32∨rd (0:Int) t (i:Int)=9 then a8E t m (i+1) else some i
theorem b9z (t:LI) (ht:t.length≤9223372036854775807) (p:Int) (h0:0≤p) (h1:p≤t.length):p≤a27 t p∧a27 t p≤t.length:=by
 unfold a27
 have hb:=b22 (t.drop p.toNat) 10
 rw [List.length_drop] at hb
 have e:a2L (List.drop p.toNat t) 10=a2X (t.drop p.toNat) 10:=rfl
 dsimp only
 rw [e]
 generalize a2X (t.drop p.toNat) 10=q at hb
 by_cases hc:0≤q
 ·rw [decide_eq_true hc,cond_true]
  rw [wrap_i64 (by rcases hb with hb | hb <;> omega) (by rcases hb with hb | hb <;> omega)]
  rcases hb with hb | hb <;> omega
 ·rw [decide_eq_false hc,cond_false]; omega
def a4k (t:LI) (line:Int):Int×Int:=
 if (E8 t line).2=0 then
 match a8E t (a27 t (E8 t line).1 - (E8 t line).1).toNat (E8 t line).1.toNat with
 | some i=>((i:Int),0)
 | none=>(mx (E8 t line).1 (IntKind.wrap .i64 (a27 t (E8 t line).1 - 1)),0)
 else (0,(E8 t line).2)
theorem d1k (kr:Int→Int→Prop) (kx0:Int→Int→Prop) (t:LI) (p e:Int) (hl:t.length≤9223372036854775807) (he:e≤t.length):∀ (n m i:Nat),m<n→(e - i).toNat=m→0≤e→
  (∀ j,a8E t m i=some j→kr (j:Int) 0)→(a8E t m i=none→kx0 p e)→b1c kr kx0 n t p e (i:Int)
 | 0,m,i,h,_,_,_,_=>absurd h (Nat.not_lt_zero _)
 | n+1,0,i,h,hm,h0,h1,h2=>by
  intro _
  unfold b1d
  exact brn (fun hlt=>absurd hm (by omega)) (fun _=>h2 rfl)
 | n+1,m+1,i,h,hm,h0,h1,h2=>by
  intro _
  unfold b1d
  have next:(rd (0:Int) t (i:Int)=32∨rd (0:Int) t (i:Int)=9)→b1c kr kx0 n t p e (IntKind.wrap .i64 ((i:Int)+1)):=fun hc=>by
   rw [wrap_i64 (by omega) (by omega),show (i:Int)+1=((i+1:Nat):Int) by omega]
   have e1:a8E t (m+1) i=a8E t m (i+1):=by rw [a8E,if_pos hc]
   exact d1k kr kx0 t p e hl he n m (i+1) (by omega) (by omega) h0 (fun j hj=>h1 j (by rw [e1]; exact hj)) (fun hj=>h2 (by rw [e1]; exact hj))
  refine brn (fun hlt=>C1 ⟨by omega,by omega⟩ ?_) (fun hge=>absurd hm (by omega))
  refine brx (fun c1=>C1 ⟨by omega,by omega⟩ (brx (fun c2=>?_) (fun c2=>next (.inr (by omega))))) (fun c1=>next (.inl (by omega)))
  exact h1 i (by rw [a8E,if_neg (by omega)])
theorem e3P (t:LI) (line:Int) (K:Res→List Cell→Prop) (hw:wfA b7r (t,line,())) (h:∀ r:Int×Int,r=a4k t line→K (.tup [.v yI r.1,.v yI r.2]) []):b4Z t line K:=by
 have ht:t.length≤9223372036854775807:=hw.1.1
 unfold b4Z
 intro r1 h1 _
 subst h1
 have hs:=d04 t line
 refine brx (fun hn=>h (_,_) (by unfold a4k; rw [if_neg hn])) (fun hn=>?_)
 refine ⟨hs,fun r2 h2 _=>?_⟩
 have hn:(E8 t line).2=0:=by omega
 have hr:=b9z t ht _ hs.1 hs.2
 rw [← h2] at hr
 intro _
 have key:=fun kr kx0 h1 h2=>d1k kr kx0 t (E8 t line).1 r2 ht hr.2 ((r2 - (E8 t line).1).toNat+1) (r2 - (E8 t line).1).toNat (E8 t line).1.toNat (Nat.lt_succ_self _) (by omega) (by omega) h1 h2
 rw [Int.toNat_of_nonneg hs.1] at key
 refine ⟨_,key _ _ (fun j hj _=>h ((j:Int),0) ?_) (fun hj _=>h (_,0) ?_)⟩
 ·unfold a4k; rw [if_pos hn,← h2,hj]
 ·unfold a4k; rw [if_pos hn,← h2,hj]; rfl
def e6P (v:j3 b7r) (K:Res→List Cell→Prop):Prop:=∀ r:Int×Int,r=a4k v.1 v.2.1→K (.tup [.v yI r.1,.v yI r.2]) []
def d1g:App:=specW b7r e6P
theorem e3Q (K:Res→List Cell→Prop):∀ v:j3 b7r,q7 tb (j8 d1f) d1e Tryz.f116 [true,true] (mkA b7r v) K=b4Z v.1 v.2.1 K
 | (t0,line1,())=>by kernel_rfl
theorem d1l:g8 Tryz.prog 116 d1g:=
 g8.specW (l9 ((l8 o0 j9 c2J (e3N) (f:=116) (fn:=Tryz.f116) (by kernel_rfl) (by kernel_rfl) d1m [true,true])) fun v K hw h=>(e3Q K v).mpr (e3P v.1 v.2.1 K hw h))
def d6q:List (Nat×App):=[(168,d06)]
theorem d4b:GOk Tryz.prog (j8 d6q):=GOk.cons d1b (GOk.nil)
def c2v (t0:LI) (from1:Int) (to2:Int) (K:Res→List Cell→Prop):Prop:=
 ∀ (r1:Int×Int),r1=E8 t0 from1→(
 wfR (.tup [.v yI r1.1,.v yI r1.2])→(
 ∀ (r2:Int×Int),r2=E8 t0 to2→(
 wfR (.tup [.v yI r2.1,.v yI r2.2])→(
 bif (!decide (r1.2=(0:Int))) then
 K (.tup [.v (.st (.pair yI (.pair yI (.pair .bool .bool)))) ((0:Int),(0:Int),false,false),.v yI (2:Int)]) []
 else
 bif (!decide (r2.2=(0:Int))) then
 K (.tup [.v (.st (.pair yI (.pair yI (.pair .bool .bool)))) ((0:Int),(0:Int),false,false),.v yI (2:Int)]) []
 else
 bif (decide (to2<from1)) then
 K (.tup [.v (.st (.pair yI (.pair yI (.pair .bool .bool)))) ((0:Int),(0:Int),false,false),.v yI (2:Int)]) []
 else
 ∀ (r3:Int×Int),r3=E8 t0 (IntKind.wrap .i64 (to2+(1:Int)))→(
 wfR (.tup [.v yI r3.1,.v yI r3.2])→(
 bif (decide (r3.2=(0:Int))) then
 K (.tup [.v (.st (.pair yI (.pair yI (.pair .bool .bool)))) (r1.1,r3.1,true,false),.v yI (0:Int)]) []
 else
 bif (decide ((0:Int)<from1)) then
 K (.tup [.v (.st (.pair yI (.pair yI (.pair .bool .bool)))) ((IntKind.wrap .i64 (r1.1 - (1:Int))),(List.length t0:Int),true,true),.v yI (0:Int)]) []
 else
 K (.tup [.v (.st (.pair yI (.pair yI (.pair .bool .bool)))) ((0:Int),(List.length t0:Int),true,false),.v yI (0:Int)]) []))))))
def b68:List AS:=[.v yB,.v yI,.v yI]
def a7g (t0:LI) (from1:Int) (to2:Int):(Int×Int×Bool×Bool)×Int:=
 let r1:Int×Int:=E8 t0 from1
 let r2:Int×Int:=E8 t0 to2
 bif (!decide (r1.2=(0:Int))) then
 (((0:Int),(0:Int),false,false),(2:Int))
 else
 bif (!decide (r2.2=(0:Int))) then
 (((0:Int),(0:Int),false,false),(2:Int))
 else
 bif (decide (to2<from1)) then
 (((0:Int),(0:Int),false,false),(2:Int))
 else
 let r3:Int×Int:=E8 t0 (IntKind.wrap .i64 (to2+(1:Int)))
 bif (decide (r3.2=(0:Int))) then
 ((r1.1,r3.1,true,false),(0:Int))
 else
 bif (decide ((0:Int)<from1)) then
 (((IntKind.wrap .i64 (r1.1 - (1:Int))),(List.length t0:Int),true,true),(0:Int))
 else
 (((0:Int),(List.length t0:Int),true,false),(0:Int))
theorem e25 (t0:LI) (from1:Int) (to2:Int) (K:Res→List Cell→Prop) (_:wfA b68 (t0,from1,to2,())) (h:∀ r:(Int×Int×Bool×Bool)×Int,r=a7g t0 from1 to2→K (.tup [.v (.st (.pair yI (.pair yI (.pair .bool .bool)))) r.1,.v yI r.2]) []):c2v t0 from1 to2 K:=
 al (al (br0 h (fun _ h=>h _ rfl)
 fun _ h=>br0 h (fun _ h=>h _ rfl)
 fun _ h=>br0 h (fun _ h=>h _ rfl)
 fun _ h=>al (br0 h (fun _ h=>h _ rfl)
 fun _ h=>br0 h (fun _ h=>h _ rfl)
 fun _ h=>h _ rfl)))
def e6t (v:j3 b68) (K:Res→List Cell→Prop):Prop:=∀ r:(Int×Int×Bool×Bool)×Int,r=a7g v.1 v.2.1 v.2.2.1→K (.tup [.v (.st (.pair yI (.pair yI (.pair .bool .bool)))) r.1,.v yI r.2]) []
def d0t:App:=specW b68 e6t
theorem e26 (K:Res→List Cell→Prop):∀ v:j3 b68,q7 tb (j8 d6q) [] Tryz.f170 [true,true] (mkA b68 v) K=c2v v.1 v.2.1 v.2.2.1 K
 | (t0,from1,to2,())=>by kernel_rfl
theorem d0u:g8 Tryz.prog 170 d0t:=
 g8.specW (l9 ((l8 o0 j9 d4b (g7.nil) (f:=170) (fn:=Tryz.f170) (by kernel_rfl) (by kernel_rfl) (by kernel_rfl) [true,true])) fun v K hw h=>(e26 K v).mpr (e25 v.1 v.2.1 v.2.2.1 K hw h))
def d6r:List (Nat×App):=[]
theorem d4c:GOk Tryz.prog (j8 d6r):=GOk.nil
def c2w (t0:LI) (at1:Int) (count2:Int) (low3:Int) (K:Res→List Cell→Prop):Prop:=
 bif (decide (at1<(0:Int))) then
 K (.one (.v .bool true)) []
 else
 bif (decide ((List.length t0:Int)<at1)) then
 K (.one (.v .bool true)) []
 else
 bif (decide (count2<low3)) then
 K (.one (.v .bool true)) []
 else
 K (.one (.v .bool (decide ((9999:Int)<count2)))) []
def b69:List AS:=[.v yB,.v yI,.v yI,.v yI]
def a8x (t0:LI) (at1:Int) (count2:Int) (low3:Int):Bool:=
 bif (decide (at1<(0:Int))) then
 true
 else
 bif (decide ((List.length t0:Int)<at1)) then
 true
 else
 bif (decide (count2<low3)) then
 true
 else
 (decide ((9999:Int)<count2))
theorem e28 (t0:LI) (at1:Int) (count2:Int) (low3:Int) (K:Res→List Cell→Prop) (_:wfA b69 (t0,at1,count2,low3,())) (h:∀ r:Bool,r=a8x t0 at1 count2 low3→K (.one (.v .bool r)) []):c2w t0 at1 count2 low3 K:=
 br0 h (fun _ h=>h _ rfl)
 fun _ h=>br0 h (fun _ h=>h _ rfl)
 fun _ h=>br0 h (fun _ h=>h _ rfl)
 fun _ h=>h _ rfl
def e6u (v:j3 b69) (K:Res→List Cell→Prop):Prop:=∀ r:Bool,r=a8x v.1 v.2.1 v.2.2.1 v.2.2.2.1→K (.one (.v .bool r)) []
def d6s:App:=specW b69 e6u
theorem e29 (K:Res→List Cell→Prop):∀ v:j3 b69,q7 tb (j8 d6r) [] Tryz.f209 [true] (mkA b69 v) K=c2w v.1 v.2.1 v.2.2.1 v.2.2.2.1 K
 | (t0,at1,count2,low3,())=>by kernel_rfl
theorem e27:g8 Tryz.prog 209 d6s:=
 g8.specW (l9 ((l8 o0 j9 d4c (g7.nil) (f:=209) (fn:=Tryz.f209) (by kernel_rfl) (by kernel_rfl) (by kernel_rfl) [true])) fun v K hw h=>(e29 K v).mpr (e28 v.1 v.2.1 v.2.2.1 v.2.2.2.1 K hw h))
def c2x:List (Nat×App):=[(24,b8b),(28,b7p),(170,d0t)]
theorem b4E:GOk Tryz.prog (j8 c2x):=GOk.cons c0e (GOk.cons b4T (GOk.cons d0u (GOk.nil)))
theorem b9j:o8 (g6 Tryz.f210)=true:=by kernel_rfl
def U7:List LS:=[.v 0 yB,.b 5 40 [],.v 9 yI,.v 15 yI,.v 18 yI,.o 85 685 3 yI,.v 86 yI,.v 87 yI,.c 40 (.st (.pair yI (.pair yI (.pair .bool .bool))))]
def a7i:List LS:=[.v 9 yI,.v 18 yI]
def b4H:DX:=⟨none,none,[(0,a7i)]⟩
def b06 (k:Ex→St→Prop) (a9:Int) (found18:Int):Prop:=wfD a7i (a9,found18,())→k (.exit 0) (mkD 120 a7i (a9,found18,()))
def b4G (Y:LI→Int→Int→Int→LI→Int→Int→(Int×Int×Bool×Bool)→Prop) (kx0:Int→Int→Prop) (t0:LI) (a9:Int) (here15:Int) (found18:Int) (x85:LI) (x86:Int) (x87:Int) (rv5b:(Int×Int×Bool×Bool)):Prop:=
 bif (decide (x87<x86)) then
 bif decide (0≤x87∧x87<(List.length x85:Int)) then
 ∀ (r6:(Int×Int×Bool×Bool)×Int),r6=a7g t0 a9 (rd (0:Int) x85 x87)→(
 wfR (.tup [.v (.st (.pair yI (.pair yI (.pair .bool .bool)))) r6.1,.v yI r6.2])→(
 bif (!decide (r6.2=(0:Int))) then
 Y t0 a9 here15 found18 x85 x86 (IntKind.wrap .i64 (x87+(1:Int))) rv5b
 else
 bif (!eqT (.pair yI (.pair yI (.pair .bool .bool))) r6.1 rv5b) then
 Y t0 a9 here15 found18 x85 x86 (IntKind.wrap .i64 (x87+(1:Int))) rv5b
 else
 bif (decide ((0:Int)≤found18)) then
 bif (decide (here15≤found18)) then
 Y t0 a9 here15 found18 x85 x86 (IntKind.wrap .i64 (x87+(1:Int))) rv5b
 else
 Y t0 a9 here15 (rd (0:Int) x85 x87) x85 x86 (IntKind.wrap .i64 (x87+(1:Int))) rv5b
 else
 Y t0 a9 here15 (rd (0:Int) x85 x87) x85 x86 (IntKind.wrap .i64 (x87+(1:Int))) rv5b))
 else False
 else
 kx0 a9 found18
def a8f (kx0:Int→Int→Prop):Nat→LI→Int→Int→Int→LI→Int→Int→(Int×Int×Bool×Bool)→Prop
 | 0,_,_,_,_,_,_,_,_=>False
 | n+1,t0,a9,here15,found18,x85,x86,x87,rv5b=>wfD U7 (t0,a9,here15,found18,x85,x86,x87,rv5b,())→b4G (a8f kx0 n) kx0 t0 a9 here15 found18 x85 x86 x87 rv5b
def d0z:Pce:=ex tb (j8 c2x) [] (at' (g6 Tryz.f210) [0,0,1,0,1,1,1,1,1,1,1,1,1]) [0,0,1,0,1,1,1,1,1,1,1,1,1]
def d0A (k:Ex→St→Prop) (n:Nat) (v:l6 U7):Prop:=a8f (b06 k) n v.1 v.2.1 v.2.2.1 v.2.2.2.1 v.2.2.2.2.1 v.2.2.2.2.2.1 v.2.2.2.2.2.2.1 v.2.2.2.2.2.2.2.1
theorem e3c (k:Ex→St→Prop) (Y:l6 U7→Prop):∀ v:l6 U7,d0z (mkD 120 U7 v) (lpK 120 U7 b4H k Y)=b4G (fun t0 a9 here15 found18 x85 x86 x87 rv5b=>Y (t0,a9,here15,found18,x85,x86,x87,rv5b,())) (b06 k) v.1 v.2.1 v.2.2.1 v.2.2.2.1 v.2.2.2.2.1 v.2.2.2.2.2.1 v.2.2.2.2.2.2.1 v.2.2.2.2.2.2.2.1
 | (t0,a9,here15,found18,x85,x86,x87,rv5b,())=>by kernel_rfl
theorem d0D (k:Ex→St→Prop):∀ (n:Nat) (v:l6 U7),lpD 120 U7 b4H d0z k n v=d0A k n v
 | 0,(t0,a9,here15,found18,x85,x86,x87,rv5b,())=>rfl
 | n+1,(t0,a9,here15,found18,x85,x86,x87,rv5b,())=>congrArg (fun Z:Prop=>wfD U7 (t0,a9,here15,found18,x85,x86,x87,rv5b,())→Z) ((e3c k _ (t0,a9,here15,found18,x85,x86,x87,rv5b,())).trans (congrArg (fun Y=>b4G Y (b06 k) t0 a9 here15 found18 x85 x86 x87 rv5b) (funext fun t0=>funext fun a9=>funext fun here15=>funext fun found18=>funext fun x85=>funext fun x86=>funext fun x87=>funext fun rv5b=>d0D k n (t0,a9,here15,found18,x85,x86,x87,rv5b,()))))
def d0w:Pce:=fun st k=>ckD 120 U7 st fun v=>wfD U7 v→∃ n,d0A k n v
theorem e3g:j5 Tryz.prog (at' (g6 Tryz.f210) [0,1,0,1,1,1,1,1,1,1,1,1]) d0w:=
 (j5.loop (l3 o0 j9 b4E (g7.nil) (at' (g6 Tryz.f210) [0,0,1,0,1,1,1,1,1,1,1,1,1]) [0,0,1,0,1,1,1,1,1,1,1,1,1] rfl (g9 b9j [0,0,1,0,1,1,1,1,1,1,1,1,1])) 120 U7 b4H).mono fun st k h=>l4 h fun v hv hw=>(hv hw).elim fun n hn=>⟨n,Eq.mpr (d0D k n v) hn⟩
def b9i:q8:=([0,1,0,1,1,1,1,1,1,1,1,1],d0w)::[]
theorem d0y:g7 Tryz.prog (g6 Tryz.f210) b9i:=g7.cons e3g (g7.nil)
def a4h:List LS:=[.v 0 yB,.v 1 yI,.b 5 40 [],.v 9 yI,.c 40 (.st (.pair yI (.pair yI (.pair .bool .bool))))]
def a7j:List LS:=[.v 6 yI,.v 7 yI,.v 8 .bool]
def c2y:DX:=⟨none,some a7j,[]⟩
def d4d (k:Ex→St→Prop) (x6:Int) (x7:Int) (x8:Bool):Prop:=wfD a7j (x6,x7,x8,())→k .ret (mkD 120 a7j (x6,x7,x8,()))
def b4F (kr:Int→Int→Bool→Prop) (t0:LI) (at1:Int) (a9:Int) (rv5b:(Int×Int×Bool×Bool)):Prop:=
 N4 t0 rv5b.2.1∧(
 ∀ (r3:Int×Int),r3=G4 t0 rv5b.2.1→(
 wfR (.tup [.v yI r3.1,.v yI r3.2])→(
 N4 t0 at1∧(
 ∀ (r4:Int×Int),r4=G4 t0 at1→(
 wfR (.tup [.v yI r4.1,.v yI r4.2])→(
 a0R t0∧(
 ∀ (r5:Int),r5=Z0 t0→(
 wI r5→(
 (wfD U7 (t0,a9,r4.1,(-1:Int),([(IntKind.wrap .i64 (r3.1 - (1:Int))),(IntKind.wrap .i64 (r5 - (1:Int)))]:LI),(List.length ([(IntKind.wrap .i64 (r3.1 - (1:Int))),(IntKind.wrap .i64 (r5 - (1:Int)))]:LI):Int),(0:Int),rv5b,())→∃ n,a8f (fun (a9:Int) (found18:Int)=>wfD a7i (a9,found18,())→(
 kr a9 found18 (decide ((0:Int)≤found18)))) n t0 a9 r4.1 (-1:Int) ([(IntKind.wrap .i64 (r3.1 - (1:Int))),(IntKind.wrap .i64 (r5 - (1:Int)))]:LI) (List.length ([(IntKind.wrap .i64 (r3.1 - (1:Int))),(IntKind.wrap .i64 (r5 - (1:Int)))]:LI):Int) (0:Int) rv5b))))))))))
def d0B (k:Ex→St→Prop) (v:l6 a4h):Prop:=b4F (d4d k) v.1 v.2.1 v.2.2.1 v.2.2.2.1
theorem e3e (k:Ex→St→Prop):∀ v:l6 a4h,ex tb (j8 c2x) b9i (at' (g6 Tryz.f210) [1,1,1,1,1]) [1,1,1,1,1] (mkD 120 a4h v) (wk 120 c2y k)=d0B k v
 | (t0,at1,a9,rv5b,())=>by kernel_rfl
def d0x:Pce:=fun st k=>ckD 120 a4h st fun v=>wfD a4h v→d0B k v
theorem e3h:j5 Tryz.prog (at' (g6 Tryz.f210) [1,1,1,1,1]) d0x:=
 (j5.wk (N:=120) (ds:=a4h) (dx:=c2y) (l3 o0 j9 b4E (d0y) (at' (g6 Tryz.f210) [1,1,1,1,1]) [1,1,1,1,1] rfl (g9 b9j [1,1,1,1,1]))).mono fun st k h=>l4 h fun v hv hw=>Eq.mpr (e3e k v) (hv hw)
def d0v:q8:=([1,1,1,1,1],d0x)::b9i
theorem e3a:g7 Tryz.prog (g6 Tryz.f210) d0v:=g7.cons e3h (d0y)
def c2z (t0:LI) (at1:Int) (rv2:(Int×Int×Bool×Bool)) (K:Res→List Cell→Prop):Prop:=
 N4 t0 rv2.1∧(
 ∀ (r1:Int×Int),r1=G4 t0 rv2.1→(
 wfR (.tup [.v yI r1.1,.v yI r1.2])→(
 bif (!decide (r1.2=(0:Int))) then
 K (.tup [.v yI (0:Int),.v yI (0:Int),.v .bool false]) []
 else
 bif (decide (rv2.2.1<rv2.1)) then
 K (.tup [.v yI (0:Int),.v yI (0:Int),.v .bool false]) []
 else
 bif (decide ((List.length t0:Int)<rv2.2.1)) then
 K (.tup [.v yI (0:Int),.v yI (0:Int),.v .bool false]) []
 else
 bif (!rv2.2.2.1) then
 N4 t0 (mx rv2.1 (IntKind.wrap .i64 (rv2.2.1 - (1:Int))))∧(
 ∀ (r2:Int×Int),r2=G4 t0 (mx rv2.1 (IntKind.wrap .i64 (rv2.2.1 - (1:Int))))→(
 wfR (.tup [.v yI r2.1,.v yI r2.2])→(
 K (.tup [.v yI r1.1,.v yI r2.1,.v .bool true]) [])))
 else
 bif rv2.2.2.2 then
 (wfD a4h (t0,at1,(IntKind.wrap .i64 (r1.1+(1:Int))),rv2,())→b4F (fun (x6:Int) (x7:Int) (x8:Bool)=>wfD a7j (x6,x7,x8,())→(
 K (.tup [.v yI x6,.v yI x7,.v .bool x8]) [])) t0 at1 (IntKind.wrap .i64 (r1.1+(1:Int))) rv2)
 else
 (wfD a4h (t0,at1,r1.1,rv2,())→b4F (fun (x6:Int) (x7:Int) (x8:Bool)=>wfD a7j (x6,x7,x8,())→(
 K (.tup [.v yI x6,.v yI x7,.v .bool x8]) [])) t0 at1 r1.1 rv2))))
def b7a:List AS:=[.v yB,.v yI,.v (.st (.pair yI (.pair yI (.pair .bool .bool))))]
def Z4 (t:LI) (a here:Int) (r:Int×Int×Bool×Bool) (found b:Int):Int:=
 if (a7g t a b).2=0∧eqT (.pair yI (.pair yI (.pair .bool .bool))) (a7g t a b).1 r=true∧¬ (0≤found∧here≤found) then b else found
def b7c (t:LI) (a here found:Int) (xs:LI) (n i:Int) (r:Int×Int×Bool×Bool):Prop:=n=xs.length∧i=0∧n≤1000
def b7b (t:LI) (a here found:Int) (xs:LI) (n i:Int) (r:Int×Int×Bool×Bool):Int×Int:=(a,xs.foldl (Z4 t a here r) found)
theorem d0C (kx0:Int→Int→Prop) (t:LI) (a here:Int) (xs:LI) (r:Int×Int×Bool×Bool) (hx:xs.length≤1000):∀ (m i:Nat) (found:Int),xs.length<m+i→i≤xs.length→
  kx0 a ((xs.drop i).foldl (Z4 t a here r) found)→a8f kx0 m t a here found xs (xs.length:Int) (i:Int) r
 | 0,i,found,h,h2,_=>by omega
 | m+1,i,found,h,h2,hk=>by
  intro _
  unfold b4G
  refine brn (fun hlt=>C1 ⟨by omega,by omega⟩ ?_) (fun hge=>?_)
  ·have hi:i<xs.length:=by omega
   rw [List.drop_eq_getElem_cons hi,List.foldl_cons] at hk
   rw [b42 _ _ _ hi]
   intro r6 h6 _
   subst h6
   have next:∀ f',f'=Z4 t a here r found xs[i]→a8f kx0 m t a here f' xs (xs.length:Int) (IntKind.wrap .i64 ((i:Int)+1)) r:=fun f' hf=>by
    rw [wrap_i64 (by omega) (by omega),show (i:Int)+1=((i+1:Nat):Int) by omega]
    exact d0C kx0 t a here xs r hx m (i+1) f' (by omega) (by omega) (by rw [hf]; exact hk)
   refine brx (fun c=>next _ ?_) (fun c1=>brb (fun c=>next _ ?_) (fun c2=>brn (fun c3=>brn (fun c4=>next _ ?_) (fun c4=>next _ ?_)) (fun c3=>next _ ?_)))
   ·unfold Z4; rw [if_neg (fun hh=>c hh.1)]
   ·unfold Z4; rw [if_neg (fun hh=>by rw [hh.2.1] at c; cases c)]
   ·unfold Z4; rw [if_neg (fun hh=>hh.2.2 ⟨c3,c4⟩)]
   ·unfold Z4; rw [if_pos ⟨c1,by simpa using c2,fun hh=>c4 hh.2⟩]
   ·unfold Z4; rw [if_pos ⟨c1,by simpa using c2,fun hh=>c3 hh.1⟩]
  ·have:i=xs.length:=by omega
   rw [this,List.drop_length] at hk
   exact hk
theorem c3C (kx0:Int→Int→Prop) (t:LI) (a here found:Int) (xs:LI) (n i:Int) (r:Int×Int×Bool×Bool) (hp:b7c t a here found xs n i r) (h:∀ q:Int×Int,q=b7b t a here found xs n i r→kx0 q.1 q.2):∃ m,a8f kx0 m t a here found xs n i r:=by
 obtain ⟨rfl,rfl,hx⟩:=hp
 exact ⟨xs.length+1,d0C kx0 t a here xs r (by omega) (xs.length+1) 0 found (by omega) (Nat.zero_le _) (h _ rfl)⟩
def a7h (t0:LI) (at1:Int) (a9:Int) (rv5b:(Int×Int×Bool×Bool)):Prop:=
 N4 t0 rv5b.2.1∧(
 let r3:Int×Int:=G4 t0 rv5b.2.1
 N4 t0 at1∧(
 let r4:Int×Int:=G4 t0 at1
 a0R t0∧(
 let r5:Int:=Z0 t0
 b7c t0 a9 r4.1 (-1:Int) ([(IntKind.wrap .i64 (r3.1 - (1:Int))),(IntKind.wrap .i64 (r5 - (1:Int)))]:LI) (List.length ([(IntKind.wrap .i64 (r3.1 - (1:Int))),(IntKind.wrap .i64 (r5 - (1:Int)))]:LI):Int) (0:Int) rv5b)))
def b04 (t0:LI) (at1:Int) (a9:Int) (rv5b:(Int×Int×Bool×Bool)):Int×Int×Bool:=
 let r3:Int×Int:=G4 t0 rv5b.2.1
 let r4:Int×Int:=G4 t0 at1
 let r5:Int:=Z0 t0
 let q0x0:Int×Int:=b7b t0 a9 r4.1 (-1:Int) ([(IntKind.wrap .i64 (r3.1 - (1:Int))),(IntKind.wrap .i64 (r5 - (1:Int)))]:LI) (List.length ([(IntKind.wrap .i64 (r3.1 - (1:Int))),(IntKind.wrap .i64 (r5 - (1:Int)))]:LI):Int) (0:Int) rv5b
 let a9:Int:=q0x0.1
 let found18:Int:=q0x0.2
 (a9,found18,(decide ((0:Int)≤found18)))
theorem b2L (kr:Int→Int→Bool→Prop) (t0:LI) (at1:Int) (a9:Int) (rv5b:(Int×Int×Bool×Bool)) (hp:a7h t0 at1 a9 rv5b) (hr:∀ q:Int×Int×Bool,q=b04 t0 at1 a9 rv5b→kr q.1 q.2.1 q.2.2):b4F kr t0 at1 a9 rv5b:=
 have h:=hr; an1 hp fun hp=>al (an1 hp fun hp=>al (an1 hp fun hp=>al (fun _=>c3C _ _ _ _ _ _ _ _ _ hp (al (h _ rfl)))))
def b05 (t0:LI) (at1:Int) (rv2:(Int×Int×Bool×Bool)):Prop:=
 N4 t0 rv2.1∧(
 let r1:Int×Int:=G4 t0 rv2.1
 bif (!decide (r1.2=(0:Int))) then
 True
 else
 bif (decide (rv2.2.1<rv2.1)) then
 True
 else
 bif (decide ((List.length t0:Int)<rv2.2.1)) then
 True
 else
 bif (!rv2.2.2.1) then
 N4 t0 (mx rv2.1 (IntKind.wrap .i64 (rv2.2.1 - (1:Int))))
 else
 bif rv2.2.2.2 then
 a7h t0 at1 (IntKind.wrap .i64 (r1.1+(1:Int))) rv2
 else
 a7h t0 at1 r1.1 rv2)
def Q6 (t0:LI) (at1:Int) (rv2:(Int×Int×Bool×Bool)):Int×Int×Bool:=
 let r1:Int×Int:=G4 t0 rv2.1
 bif (!decide (r1.2=(0:Int))) then
 ((0:Int),(0:Int),false)
 else
 bif (decide (rv2.2.1<rv2.1)) then
 ((0:Int),(0:Int),false)
 else
 bif (decide ((List.length t0:Int)<rv2.2.1)) then
 ((0:Int),(0:Int),false)
 else
 bif (!rv2.2.2.1) then
 let r2:Int×Int:=G4 t0 (mx rv2.1 (IntKind.wrap .i64 (rv2.2.1 - (1:Int))))
 (r1.1,r2.1,true)
 else
 bif rv2.2.2.2 then
 let q1r:Int×Int×Bool:=b04 t0 at1 (IntKind.wrap .i64 (r1.1+(1:Int))) rv2
 let x6:Int:=q1r.1
 let x7:Int:=q1r.2.1
 let x8:Bool:=q1r.2.2
 (x6,x7,x8)
 else
 let q1r:Int×Int×Bool:=b04 t0 at1 r1.1 rv2
 let x6:Int:=q1r.1
 let x7:Int:=q1r.2.1
 let x8:Bool:=q1r.2.2
 (x6,x7,x8)
theorem e3d (t0:LI) (at1:Int) (rv2:(Int×Int×Bool×Bool)) (K:Res→List Cell→Prop) (_:wfA b7a (t0,at1,rv2,())) (hp:b05 t0 at1 rv2) (h:∀ r:Int×Int×Bool,r=Q6 t0 at1 rv2→K (.tup [.v yI r.1,.v yI r.2.1,.v .bool r.2.2]) []):c2z t0 at1 rv2 K:=
 an1 hp fun hp=>al (br1 hp h (fun _ hp h=>h _ rfl)
 fun _ hp h=>br1 hp h (fun _ hp h=>h _ rfl)
 fun _ hp h=>br1 hp h (fun _ hp h=>h _ rfl)
 fun _ hp h=>br1 hp h (fun _ hp h=>⟨hp,al (h _ rfl)⟩)
 fun _ hp h=>br1 hp h (fun _ hp h=>fun _=>b2L _ _ _ _ _ hp (al (h _ rfl)))
 fun _ hp h=>fun _=>b2L _ _ _ _ _ hp (al (h _ rfl)))
def e6v (v:j3 b7a) (K:Res→List Cell→Prop):Prop:=b05 v.1 v.2.1 v.2.2.1∧∀ r:Int×Int×Bool,r=Q6 v.1 v.2.1 v.2.2.1→K (.tup [.v yI r.1,.v yI r.2.1,.v .bool r.2.2]) []
def d6t:App:=specW b7a e6v
theorem e3f (K:Res→List Cell→Prop):∀ v:j3 b7a,q7 tb (j8 c2x) d0v Tryz.f210 [true,true,true] (mkA b7a v) K=c2z v.1 v.2.1 v.2.2.1 K
 | (t0,at1,rv2,())=>by kernel_rfl
theorem e3b:g8 Tryz.prog 210 d6t:=
 g8.specW (l9 ((l8 o0 j9 b4E (e3a) (f:=210) (fn:=Tryz.f210) (by kernel_rfl) (by kernel_rfl) b9j [true,true,true])) fun v K hw h=>(e3f K v).mpr (e3d v.1 v.2.1 v.2.2.1 K hw h.1 h.2))
def d6J:List (Nat×App):=[(95,b7l),(67,b7g)]
theorem d4l:GOk Tryz.prog (j8 d6J):=GOk.cons b4Q (GOk.cons b4N (GOk.nil))
def c2K (t0:LI) (from1:Int) (to2:Int) (p3:LI) (K:Res→List Cell→Prop):Prop:=
 bif decide (0≤from1∧from1≤to2∧to2≤(List.length t0:Int)) then
 ∀ (r1:Bool),r1=a0F (slc t0 from1 to2) p3→(
 wB r1→(
 bif r1 then
 K (.one (.fr 75 (.st (.pair yI (.pair yB yB))) ([]:List ((Int×LI×LI))))) []
 else
 bif decide (0≤from1∧from1≤to2∧to2≤(List.length t0:Int)) then
 D9 (slc t0 from1 to2)∧(
 ∀ (r2:LI),r2=F7 (slc t0 from1 to2)→(
 wfR (.one (.fr 5 yU r2))→(
 D9 p3∧(
 ∀ (r3:LI),r3=F7 p3→(
 wfR (.one (.fr 5 yU r3))→(
 K (.one (.fr 75 (.st (.pair yI (.pair yB yB))) ([(from1,r2,r3)]:List ((Int×LI×LI))))) []))))))
 else False))
 else False
def b7s:List AS:=[.v yB,.v yI,.v yI,.v yB]
def b2O (t0:LI) (from1:Int) (to2:Int) (p3:LI):Prop:=
 (0≤from1∧from1≤to2∧to2≤(List.length t0:Int))∧(
 let r1:Bool:=a0F (slc t0 from1 to2) p3
 bif r1 then
 True
 else
 (0≤from1∧from1≤to2∧to2≤(List.length t0:Int))∧(
 D9 (slc t0 from1 to2)∧(
 let r2:LI:=F7 (slc t0 from1 to2)
 D9 p3)))
def b2N (t0:LI) (from1:Int) (to2:Int) (p3:LI):List ((Int×LI×LI)):=
 let r1:Bool:=a0F (slc t0 from1 to2) p3
 bif r1 then
 ([]:List ((Int×LI×LI)))
 else
 let r2:LI:=F7 (slc t0 from1 to2)
 let r3:LI:=F7 p3
 ([(from1,r2,r3)]:List ((Int×LI×LI)))
theorem e3T (t0:LI) (from1:Int) (to2:Int) (p3:LI) (K:Res→List Cell→Prop) (_:wfA b7s (t0,from1,to2,p3,())) (hp:b2O t0 from1 to2 p3) (h:∀ r:List ((Int×LI×LI)),r=b2N t0 from1 to2 p3→K (.one (.fr 75 (.st (.pair yI (.pair yB yB))) r)) []):c2K t0 from1 to2 p3 K:=
 as1 hp fun hp=>al (br1 hp h (fun _ hp h=>h _ rfl)
 fun _ hp h=>as1 hp fun hp=>an1 hp fun hp=>al (⟨hp,al (h _ rfl)⟩))
def e6Q (v:j3 b7s) (K:Res→List Cell→Prop):Prop:=b2O v.1 v.2.1 v.2.2.1 v.2.2.2.1∧∀ r:List ((Int×LI×LI)),r=b2N v.1 v.2.1 v.2.2.1 v.2.2.2.1→K (.one (.fr 75 (.st (.pair yI (.pair yB yB))) r)) []
def d6K:App:=specW b7s e6Q
theorem e3U (K:Res→List Cell→Prop):∀ v:j3 b7s,q7 tb (j8 d6J) [] Tryz.f213 [true] (mkA b7s v) K=c2K v.1 v.2.1 v.2.2.1 v.2.2.2.1 K
 | (t0,from1,to2,p3,())=>by kernel_rfl
theorem e3S:g8 Tryz.prog 213 d6K:=
 g8.specW (l9 ((l8 o0 j9 d4l (g7.nil) (f:=213) (fn:=Tryz.f213) (by kernel_rfl) (by kernel_rfl) (by kernel_rfl) [true])) fun v K hw h=>(e3U K v).mpr (e3T v.1 v.2.1 v.2.2.1 v.2.2.2.1 K hw h.1 h.2))
end Go.VE
namespace Go.VE
open Go Go.Proofs
def d48:List (Nat×App):=[]
theorem d2I:GOk Tryz.prog (j8 d48):=GOk.nil
def b3a (s0:LI) (K:Res→List Cell→Prop):Prop:=
 (
 bif decide (List.length ([]:LI)+List.length s0≤lim) then
 K (.one (.fr 5 yU (([]:LI)++s0))) []
 else False)∧(bif decide (List.length s0=0) then
 K (.one (.fr 5 yU ([]:LI))) []
 else True)
def b5N:List AS:=[.v yB]
def a8n (s:LI):Prop:=s.length≤lim
def a9W (s:LI):LI:=s
theorem d7u (s:LI) (K:Res→List Cell→Prop) (_:wfA b5N (s,())) (hp:a8n s) (h:∀ r:LI,r=a9W s→K (.one (.fr 5 yU r)) []):b3a s K:=by
 unfold b3a
 unfold a8n at hp
 refine ⟨C1 (by simpa using hp) (h _ rfl),?_⟩
 by_cases hz:s.length=0
 ·rw [decide_eq_true hz]
  exact h _ (List.eq_nil_of_length_eq_zero hz).symm
 ·rw [decide_eq_false hz]; trivial
def e4Z (v:j3 b5N) (K:Res→List Cell→Prop):Prop:=a8n v.1∧∀ r:LI,r=a9W v.1→K (.one (.fr 5 yU r)) []
def d49:App:=specW b5N e4Z
theorem d7v (K:Res→List Cell→Prop):∀ v:j3 b5N,q7 tb (j8 d48) [] Tryz.f133 [true] (mkA b5N v) K=b3a v.1 K
 | (s0,())=>by kernel_rfl
set_option maxRecDepth 20000 in
theorem d7t:g8 Tryz.prog 133 d49:=
 g8.specW (l9 ((l8 o0 j9 d2I (g7.nil) (f:=133) (fn:=Tryz.f133) (by kernel_rfl) (by kernel_rfl) (by kernel_rfl) [true])) fun v K hw h=>(d7v K v).mpr (d7u v.1 K hw h.1 h.2))
end Go.VE
namespace Go.VE
set_option maxRecDepth 20000
open Go Go.Proofs
def d1p:List (Nat×App):=[(133,d49)]
theorem c2M:GOk Tryz.prog (j8 d1p):=GOk.cons d7t (GOk.nil)
theorem d1s:o8 (g6 Tryz.f279)=true:=by kernel_rfl
def a4l:List LS:=[.b 3 24 [],.b 4 32 [],.v 6 yB,.c 24 (.st (.pair yI (.pair yI (.pair .bool .bool)))),.c 32 (.st (.pair .bool (.pair .bool yB)))]
def a7r:List LS:=[.b 4 32 [],.v 5 yI,.c 32 (.st (.pair .bool (.pair .bool yB)))]
def c2O:DX:=⟨none,some a7r,[]⟩
def d4m (k:Ex→St→Prop) (x5:Int) (x4b:(Bool×Bool×LI)):Prop:=wfD a7r (x5,x4b,())→k .ret (mkD 93 a7r (x5,x4b,()))
def b41 (kr:Int→(Bool×Bool×LI)→Prop) (text6:LI) (rv3b:(Int×Int×Bool×Bool)) (x4b:(Bool×Bool×LI)):Prop:=
 a8n text6∧(
 ∀ (r2:LI),r2=a9W text6→(
 wfR (.one (.fr 5 yU r2))→(
 bif rv3b.2.2.2 then
 bif decide (List.length r2+List.length ([(10:Int)]:LI)≤lim) then
 kr (0:Int) (true,true,(r2++([(10:Int)]:LI)))
 else False
 else
 bif (decide ((List.length r2:Int)=(0:Int))) then
 bif decide (List.length r2+List.length ([(10:Int)]:LI)≤lim) then
 kr (0:Int) (true,true,(r2++([(10:Int)]:LI)))
 else False
 else
 bif decide (0≤(IntKind.wrap .i64 ((List.length r2:Int) - (1:Int)))∧(IntKind.wrap .i64 ((List.length r2:Int) - (1:Int)))<(List.length r2:Int)) then
 bif (!decide ((rd (0:Int) r2 (IntKind.wrap .i64 ((List.length r2:Int) - (1:Int))))=(10:Int))) then
 bif decide (List.length r2+List.length ([(10:Int)]:LI)≤lim) then
 kr (0:Int) (true,true,(r2++([(10:Int)]:LI)))
 else False
 else
 kr (0:Int) (true,true,r2)
 else False)))
def d1r (k:Ex→St→Prop) (v:l6 a4l):Prop:=b41 (d4m k) v.1 v.2.1 v.2.2.1
theorem e3Y (k:Ex→St→Prop):∀ v:l6 a4l,ex tb (j8 d1p) [] (at' (g6 Tryz.f279) [1,1,1,1,1]) [1,1,1,1,1] (mkD 93 a4l v) (wk 93 c2O k)=d1r k v
 | (text6,rv3b,x4b,())=>by kernel_rfl
def d1q:Pce:=fun st k=>ckD 93 a4l st fun v=>wfD a4l v→d1r k v
theorem e30:j5 Tryz.prog (at' (g6 Tryz.f279) [1,1,1,1,1]) d1q:=
 (j5.wk (N:=93) (ds:=a4l) (dx:=c2O) (l3 o0 j9 c2M (g7.nil) (at' (g6 Tryz.f279) [1,1,1,1,1]) [1,1,1,1,1] rfl (g9 d1s [1,1,1,1,1]))).mono fun st k h=>l4 h fun v hv hw=>Eq.mpr (e3Y k v) (hv hw)
def d1o:q8:=([1,1,1,1,1],d1q)::[]
theorem e3V:g7 Tryz.prog (g6 Tryz.f279) d1o:=g7.cons e30 (g7.nil)
def c2P (t0:LI) (rv1:(Int×Int×Bool×Bool)) (K:Res→List Cell→Prop):Prop:=
 bif (decide (rv1.1<(0:Int))) then
 K (.tup [.v (.st (.pair .bool (.pair .bool yB))) (false,false,([]:LI)),.v yI (2:Int)]) []
 else
 bif (decide (rv1.2.1<rv1.1)) then
 K (.tup [.v (.st (.pair .bool (.pair .bool yB))) (false,false,([]:LI)),.v yI (2:Int)]) []
 else
 bif (decide ((List.length t0:Int)<rv1.2.1)) then
 K (.tup [.v (.st (.pair .bool (.pair .bool yB))) (false,false,([]:LI)),.v yI (2:Int)]) []
 else
 bif (!rv1.2.2.1) then
 bif decide (0≤rv1.1∧rv1.1≤rv1.2.1∧rv1.2.1≤(List.length t0:Int)) then
 a8n (slc t0 rv1.1 rv1.2.1)∧(
 ∀ (r1:LI),r1=a9W (slc t0 rv1.1 rv1.2.1)→(
 wfR (.one (.fr 5 yU r1))→(
 K (.tup [.v (.st (.pair .bool (.pair .bool yB))) (true,false,r1),.v yI (0:Int)]) [])))
 else False
 else
 bif decide (0≤rv1.1∧rv1.1≤rv1.2.1∧rv1.2.1≤(List.length t0:Int)) then
 bif rv1.2.2.2 then
 bif (decide (rv1.1=(List.length t0:Int))) then
 K (.tup [.v (.st (.pair .bool (.pair .bool yB))) (false,false,([]:LI)),.v yI (2:Int)]) []
 else
 bif decide (0≤rv1.1∧rv1.1<(List.length t0:Int)) then
 bif (!decide ((rd (0:Int) t0 rv1.1)=(10:Int))) then
 K (.tup [.v (.st (.pair .bool (.pair .bool yB))) (false,false,([]:LI)),.v yI (2:Int)]) []
 else
 bif decide (0≤(IntKind.wrap .i64 (rv1.1+(1:Int)))∧(IntKind.wrap .i64 (rv1.1+(1:Int)))≤(mx (IntKind.wrap .i64 (rv1.1+(1:Int))) rv1.2.1)∧(mx (IntKind.wrap .i64 (rv1.1+(1:Int))) rv1.2.1)≤(List.length t0:Int)) then
 (wfD a4l ((slc t0 (IntKind.wrap .i64 (rv1.1+(1:Int))) (mx (IntKind.wrap .i64 (rv1.1+(1:Int))) rv1.2.1)),rv1,(false,false,([]:LI)),())→b41 (fun (x5:Int) (x4b:(Bool×Bool×LI))=>wfD a7r (x5,x4b,())→(
 K (.tup [.v (.st (.pair .bool (.pair .bool yB))) x4b,.v yI x5]) [])) (slc t0 (IntKind.wrap .i64 (rv1.1+(1:Int))) (mx (IntKind.wrap .i64 (rv1.1+(1:Int))) rv1.2.1)) rv1 (false,false,([]:LI)))
 else False
 else False
 else
 (wfD a4l ((slc t0 rv1.1 rv1.2.1),rv1,(false,false,([]:LI)),())→b41 (fun (x5:Int) (x4b:(Bool×Bool×LI))=>wfD a7r (x5,x4b,())→(
 K (.tup [.v (.st (.pair .bool (.pair .bool yB))) x4b,.v yI x5]) [])) (slc t0 rv1.1 rv1.2.1) rv1 (false,false,([]:LI)))
 else False
def b7t:List AS:=[.v yB,.v (.st (.pair yI (.pair yI (.pair .bool .bool))))]
def a7q (text6:LI) (rv3b:(Int×Int×Bool×Bool)) (x4b:(Bool×Bool×LI)):Prop:=
 a8n text6∧(
 let r2:LI:=a9W text6
 bif rv3b.2.2.2 then
 (List.length r2+List.length ([(10:Int)]:LI)≤lim)
 else
 bif (decide ((List.length r2:Int)=(0:Int))) then
 (List.length r2+List.length ([(10:Int)]:LI)≤lim)
 else
 (0≤(IntKind.wrap .i64 ((List.length r2:Int) - (1:Int)))∧(IntKind.wrap .i64 ((List.length r2:Int) - (1:Int)))<(List.length r2:Int))∧(
 bif (!decide ((rd (0:Int) r2 (IntKind.wrap .i64 ((List.length r2:Int) - (1:Int))))=(10:Int))) then
 (List.length r2+List.length ([(10:Int)]:LI)≤lim)
 else
 True))
def b1f (text6:LI) (rv3b:(Int×Int×Bool×Bool)) (x4b:(Bool×Bool×LI)):Int×(Bool×Bool×LI):=
 let r2:LI:=a9W text6
 bif rv3b.2.2.2 then
 ((0:Int),(true,true,(r2++([(10:Int)]:LI))))
 else
 bif (decide ((List.length r2:Int)=(0:Int))) then
 ((0:Int),(true,true,(r2++([(10:Int)]:LI))))
 else
 bif (!decide ((rd (0:Int) r2 (IntKind.wrap .i64 ((List.length r2:Int) - (1:Int))))=(10:Int))) then
 ((0:Int),(true,true,(r2++([(10:Int)]:LI))))
 else
 ((0:Int),(true,true,r2))
theorem b2P (kr:Int→(Bool×Bool×LI)→Prop) (text6:LI) (rv3b:(Int×Int×Bool×Bool)) (x4b:(Bool×Bool×LI)) (hp:a7q text6 rv3b x4b) (hr:∀ q:Int×(Bool×Bool×LI),q=b1f text6 rv3b x4b→kr q.1 q.2):b41 kr text6 rv3b x4b:=
 have h:=hr; an1 hp fun hp=>al (br1 hp h (fun _ hp h=>as0 hp (h _ rfl))
 fun _ hp h=>br1 hp h (fun _ hp h=>as0 hp (h _ rfl))
 fun _ hp h=>as1 hp fun hp=>br1 hp h (fun _ hp h=>as0 hp (h _ rfl))
 fun _ hp h=>h _ rfl)
def c2N (t0:LI) (rv1:(Int×Int×Bool×Bool)):Prop:=
 bif (decide (rv1.1<(0:Int))) then
 True
 else
 bif (decide (rv1.2.1<rv1.1)) then
 True
 else
 bif (decide ((List.length t0:Int)<rv1.2.1)) then
 True
 else
 bif (!rv1.2.2.1) then
 (0≤rv1.1∧rv1.1≤rv1.2.1∧rv1.2.1≤(List.length t0:Int))∧(
 a8n (slc t0 rv1.1 rv1.2.1))
 else
 (0≤rv1.1∧rv1.1≤rv1.2.1∧rv1.2.1≤(List.length t0:Int))∧(
 bif rv1.2.2.2 then
 bif (decide (rv1.1=(List.length t0:Int))) then
 True
 else
 (0≤rv1.1∧rv1.1<(List.length t0:Int))∧(
 bif (!decide ((rd (0:Int) t0 rv1.1)=(10:Int))) then
 True
 else
 (0≤(IntKind.wrap .i64 (rv1.1+(1:Int)))∧(IntKind.wrap .i64 (rv1.1+(1:Int)))≤(mx (IntKind.wrap .i64 (rv1.1+(1:Int))) rv1.2.1)∧(mx (IntKind.wrap .i64 (rv1.1+(1:Int))) rv1.2.1)≤(List.length t0:Int))∧(
 a7q (slc t0 (IntKind.wrap .i64 (rv1.1+(1:Int))) (mx (IntKind.wrap .i64 (rv1.1+(1:Int))) rv1.2.1)) rv1 (false,false,([]:LI))))
 else
 a7q (slc t0 rv1.1 rv1.2.1) rv1 (false,false,([]:LI)))
def c2L (t0:LI) (rv1:(Int×Int×Bool×Bool)):(Bool×Bool×LI)×Int:=
 bif (decide (rv1.1<(0:Int))) then
 ((false,false,([]:LI)),(2:Int))
 else
 bif (decide (rv1.2.1<rv1.1)) then
 ((false,false,([]:LI)),(2:Int))
 else
 bif (decide ((List.length t0:Int)<rv1.2.1)) then
 ((false,false,([]:LI)),(2:Int))
 else
 bif (!rv1.2.2.1) then
 let r1:LI:=a9W (slc t0 rv1.1 rv1.2.1)
 ((true,false,r1),(0:Int))
 else
 bif rv1.2.2.2 then
 bif (decide (rv1.1=(List.length t0:Int))) then
 ((false,false,([]:LI)),(2:Int))
 else
 bif (!decide ((rd (0:Int) t0 rv1.1)=(10:Int))) then
 ((false,false,([]:LI)),(2:Int))
 else
 let q0r:Int×(Bool×Bool×LI):=b1f (slc t0 (IntKind.wrap .i64 (rv1.1+(1:Int))) (mx (IntKind.wrap .i64 (rv1.1+(1:Int))) rv1.2.1)) rv1 (false,false,([]:LI))
 let x5:Int:=q0r.1
 let x4b:(Bool×Bool×LI):=q0r.2
 (x4b,x5)
 else
 let q0r:Int×(Bool×Bool×LI):=b1f (slc t0 rv1.1 rv1.2.1) rv1 (false,false,([]:LI))
 let x5:Int:=q0r.1
 let x4b:(Bool×Bool×LI):=q0r.2
 (x4b,x5)
theorem e3X (t0:LI) (rv1:(Int×Int×Bool×Bool)) (K:Res→List Cell→Prop) (_:wfA b7t (t0,rv1,())) (hp:c2N t0 rv1) (h:∀ r:(Bool×Bool×LI)×Int,r=c2L t0 rv1→K (.tup [.v (.st (.pair .bool (.pair .bool yB))) r.1,.v yI r.2]) []):c2P t0 rv1 K:=
 br1 hp h (fun _ hp h=>h _ rfl)
 fun _ hp h=>br1 hp h (fun _ hp h=>h _ rfl)
 fun _ hp h=>br1 hp h (fun _ hp h=>h _ rfl)
 fun _ hp h=>br1 hp h (fun _ hp h=>as1 hp fun hp=>⟨hp,al (h _ rfl)⟩)
 fun _ hp h=>as1 hp fun hp=>br1 hp h (fun _ hp h=>br1 hp h (fun _ hp h=>h _ rfl)
 fun _ hp h=>as1 hp fun hp=>br1 hp h (fun _ hp h=>h _ rfl)
 fun _ hp h=>as1 hp fun hp=>fun _=>b2P _ _ _ _ hp (al (h _ rfl)))
 fun _ hp h=>fun _=>b2P _ _ _ _ hp (al (h _ rfl))
def e6R (v:j3 b7t) (K:Res→List Cell→Prop):Prop:=c2N v.1 v.2.1∧∀ r:(Bool×Bool×LI)×Int,r=c2L v.1 v.2.1→K (.tup [.v (.st (.pair .bool (.pair .bool yB))) r.1,.v yI r.2]) []
def d6L:App:=specW b7t e6R
theorem e3Z (K:Res→List Cell→Prop):∀ v:j3 b7t,q7 tb (j8 d1p) d1o Tryz.f279 [true,true] (mkA b7t v) K=c2P v.1 v.2.1 K
 | (t0,rv1,())=>by kernel_rfl
theorem e3W:g8 Tryz.prog 279 d6L:=
 g8.specW (l9 ((l8 o0 j9 c2M (e3V) (f:=279) (fn:=Tryz.f279) (by kernel_rfl) (by kernel_rfl) d1s [true,true])) fun v K hw h=>(e3Z K v).mpr (e3X v.1 v.2.1 K hw h.1 h.2))
def d6b:List (Nat×App):=[(279,d6L),(189,b6L)]
theorem d3G:GOk Tryz.prog (j8 d6b):=GOk.cons e3W (GOk.cons b4d (GOk.nil))
def c1P (j0:tJb) (K:Res→List Cell→Prop):Prop:=
 c2N j0.1 j0.2.2.1∧(
 ∀ (r1:(Bool×Bool×LI)×Int),r1=c2L j0.1 j0.2.2.1→(
 wfR (.tup [.v (.st (.pair .bool (.pair .bool yB))) r1.1,.v yI r1.2])→(
 bif j0.2.2.1.2.2.1 then
 K (.tup [.v (.st (.pair .bool (.pair .bool yB))) r1.1,.v yI (2:Int)]) []
 else
 ∀ (r2:Int),r2=a2L r1.1.2.2 (10:Int)→(
 wI r2→(
 bif (decide ((0:Int)≤r2)) then
 K (.tup [.v (.st (.pair .bool (.pair .bool yB))) r1.1,.v yI (2:Int)]) []
 else
 K (.tup [.v (.st (.pair .bool (.pair .bool yB))) r1.1,.v yI (3:Int)]) [])))))
def b6Q:List AS:=[.v tyJ]
def a8u (j0:tJb):Prop:=
 c2N j0.1 j0.2.2.1
def b0O (j0:tJb):(Bool×Bool×LI)×Int:=
 let r1:(Bool×Bool×LI)×Int:=c2L j0.1 j0.2.2.1
 bif j0.2.2.1.2.2.1 then
 (r1.1,(2:Int))
 else
 let r2:Int:=a2L r1.1.2.2 (10:Int)
 bif (decide ((0:Int)≤r2)) then
 (r1.1,(2:Int))
 else
 (r1.1,(3:Int))
theorem e1z (j0:tJb) (K:Res→List Cell→Prop) (_:wfA b6Q (j0,())) (hp:a8u j0) (h:∀ r:(Bool×Bool×LI)×Int,r=b0O j0→K (.tup [.v (.st (.pair .bool (.pair .bool yB))) r.1,.v yI r.2]) []):c1P j0 K:=
 ⟨hp,al (br0 h (fun _ h=>h _ rfl)
 fun _ h=>al (br0 h (fun _ h=>h _ rfl)
 fun _ h=>h _ rfl))⟩
def e6b (v:j3 b6Q) (K:Res→List Cell→Prop):Prop:=a8u v.1∧∀ r:(Bool×Bool×LI)×Int,r=b0O v.1→K (.tup [.v (.st (.pair .bool (.pair .bool yB))) r.1,.v yI r.2]) []
def d6c:App:=specW b6Q e6b
theorem e1A (K:Res→List Cell→Prop):∀ v:j3 b6Q,q7 tb (j8 d6b) [] Tryz.f264 [true,true] (mkA b6Q v) K=c1P v.1 K
 | (j0,())=>by kernel_rfl
theorem e1y:g8 Tryz.prog 264 d6c:=
 g8.specW (l9 ((l8 o0 j9 d3G (g7.nil) (f:=264) (fn:=Tryz.f264) (by kernel_rfl) (by kernel_rfl) (by kernel_rfl) [true,true])) fun v K hw h=>(e1A K v).mpr (e1z v.1 K hw h.1 h.2))
def d56:List (Nat×App):=[(95,b7l)]
theorem d3E:GOk Tryz.prog (j8 d56):=GOk.cons b4Q (GOk.nil)
def c1L (s0:LI) (prefix1:LI) (K:Res→List Cell→Prop):Prop:=
 bif (decide ((List.length prefix1:Int)≤(List.length s0:Int))) then
 bif decide (0≤(List.length prefix1:Int)∧(List.length prefix1:Int)≤(List.length s0:Int)) then
 ∀ (r1:Bool),r1=a0F (List.take (Int.toNat (List.length prefix1:Int)) s0) prefix1→(
 wB r1→(
 K (.one (.v .bool r1)) []))
 else False
 else
 K (.one (.v .bool false)) []
def b6M:List AS:=[.v yB,.v yB]
def b6N (s0:LI) (prefix1:LI):Prop:=
 bif (decide ((List.length prefix1:Int)≤(List.length s0:Int))) then
 (0≤(List.length prefix1:Int)∧(List.length prefix1:Int)≤(List.length s0:Int))
 else
 True
def a8s (s0:LI) (prefix1:LI):Bool:=
 bif (decide ((List.length prefix1:Int)≤(List.length s0:Int))) then
 let r1:Bool:=a0F (List.take (Int.toNat (List.length prefix1:Int)) s0) prefix1
 r1
 else
 false
theorem e1m (s0:LI) (prefix1:LI) (K:Res→List Cell→Prop) (_:wfA b6M (s0,prefix1,())) (hp:b6N s0 prefix1) (h:∀ r:Bool,r=a8s s0 prefix1→K (.one (.v .bool r)) []):c1L s0 prefix1 K:=
 br1 hp h (fun _ hp h=>as0 hp (al (h _ rfl)))
 fun _ hp h=>h _ rfl
def e53 (v:j3 b6M) (K:Res→List Cell→Prop):Prop:=b6N v.1 v.2.1∧∀ r:Bool,r=a8s v.1 v.2.1→K (.one (.v .bool r)) []
def d57:App:=specW b6M e53
theorem e1n (K:Res→List Cell→Prop):∀ v:j3 b6M,q7 tb (j8 d56) [] Tryz.f64 [true] (mkA b6M v) K=c1L v.1 v.2.1 K
 | (s0,prefix1,())=>by kernel_rfl
theorem e1l:g8 Tryz.prog 64 d57:=
 g8.specW (l9 ((l8 o0 j9 d3E (g7.nil) (f:=64) (fn:=Tryz.f64) (by kernel_rfl) (by kernel_rfl) (by kernel_rfl) [true])) fun v K hw h=>(e1n K v).mpr (e1m v.1 v.2.1 K hw h.1 h.2))
end Go.VE
