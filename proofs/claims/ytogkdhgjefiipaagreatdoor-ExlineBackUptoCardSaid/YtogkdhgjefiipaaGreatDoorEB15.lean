import Derived.Test.YtogkdhgjefiipaaGreatDoorEB14
set_option linter.unusedVariables false
set_option linter.unusedSectionVars false
set_option linter.unusedSimpArgs false
namespace Go.VE
set_option maxRecDepth 20000
open Go Go.Proofs
def q69_G:List (Nat×App):=[(24,q89_S),(28,q78_S),(170,q67_S)]
theorem q69_Gok:GOk Tryz.prog (getG q69_G):=GOk.cons q89_ok (GOk.cons q78_ok (GOk.cons q67_ok (GOk.nil)))
theorem q69_st:storesC (bodyOf Tryz.f210)=true:=by kernel_rfl
def q69_d0:List LS:=[.v 0 yB,.b 5 40 [],.v 9 yI,.v 15 yI,.v 18 yI,.o 85 685 3 yI,.v 86 yI,.v 87 yI,.c 40 (.st (.pair yI (.pair yI (.pair .bool .bool))))]
def q69_d0x0:List LS:=[.v 9 yI,.v 18 yI]
def q69_dx0:DX:=⟨none,none,[(0,q69_d0x0)]⟩
def q69_y0x0 (k:Ex→St→Prop) (a9:Int) (found18:Int):Prop:=wfD q69_d0x0 (a9,found18,())→k (.exit 0) (mkD 120 q69_d0x0 (a9,found18,()))
def q69_T0 (Y:LI→Int→Int→Int→LI→Int→Int→(Int×Int×Bool×Bool)→Prop) (kx0:Int→Int→Prop) (t0:LI) (a9:Int) (here15:Int) (found18:Int) (x85:LI) (x86:Int) (x87:Int) (rv5b:(Int×Int×Bool×Bool)):Prop:=
 bif (decide (x87<x86)) then
 bif decide (0≤x87∧x87<(List.length x85:Int)) then
 ∀ (r6:(Int×Int×Bool×Bool)×Int),r6=q67_F t0 a9 (rd (0:Int) x85 x87)→(
 wfR (.tup [.v (.st (.pair yI (.pair yI (.pair .bool .bool)))) r6.1,.v yI r6.2])→(
 bif (!decide (r6.2=(0:Int))) then
 Y t0 a9 here15 found18 x85 x86 (IntKind.wrap .i64 (x87+(1:Int))) rv5b
 else
 bif (!eqT (.pair yI (.pair yI (.pair .bool .bool))) r6.1 rv5b) then
 Y t0 a9 here15 found18 x85 x86 (IntKind.wrap .i64 (x87+(1:Int))) rv5b
 else
 bif (decide ((0:Int)≤found18)) then
 bif (decide (here15≤found18)) then
 Y t0 a9 here15 found18 x85 x86 (IntKind.wrap .i64 (x87+(1:Int))) rv5b
 else
 Y t0 a9 here15 (rd (0:Int) x85 x87) x85 x86 (IntKind.wrap .i64 (x87+(1:Int))) rv5b
 else
 Y t0 a9 here15 (rd (0:Int) x85 x87) x85 x86 (IntKind.wrap .i64 (x87+(1:Int))) rv5b))
 else False
 else
 kx0 a9 found18
def q69_L0 (kx0:Int→Int→Prop):Nat→LI→Int→Int→Int→LI→Int→Int→(Int×Int×Bool×Bool)→Prop
  | 0,_,_,_,_,_,_,_,_=>False
  | n+1,t0,a9,here15,found18,x85,x86,x87,rv5b=>wfD q69_d0 (t0,a9,here15,found18,x85,x86,x87,rv5b,())→q69_T0 (q69_L0 kx0 n) kx0 t0 a9 here15 found18 x85 x86 x87 rv5b
def q69_c0:Pce:=ex tb (getG q69_G) [] (at' (bodyOf Tryz.f210) [0,0,1,0,1,1,1,1,1,1,1,1,1]) [0,0,1,0,1,1,1,1,1,1,1,1,1]
def q69_g0 (k:Ex→St→Prop) (n:Nat) (v:vals q69_d0):Prop:=q69_L0 (q69_y0x0 k) n v.1 v.2.1 v.2.2.1 v.2.2.2.1 v.2.2.2.2.1 v.2.2.2.2.2.1 v.2.2.2.2.2.2.1 v.2.2.2.2.2.2.2.1
theorem q69_s0 (k:Ex→St→Prop) (Y:vals q69_d0→Prop):∀ v:vals q69_d0,q69_c0 (mkD 120 q69_d0 v) (lpK 120 q69_d0 q69_dx0 k Y)=q69_T0 (fun t0 a9 here15 found18 x85 x86 x87 rv5b=>Y (t0,a9,here15,found18,x85,x86,x87,rv5b,())) (q69_y0x0 k) v.1 v.2.1 v.2.2.1 v.2.2.2.1 v.2.2.2.2.1 v.2.2.2.2.2.1 v.2.2.2.2.2.2.1 v.2.2.2.2.2.2.2.1
  | (t0,a9,here15,found18,x85,x86,x87,rv5b,())=>by kernel_rfl
theorem q69_v0 (k:Ex→St→Prop):∀ (n:Nat) (v:vals q69_d0),lpD 120 q69_d0 q69_dx0 q69_c0 k n v=q69_g0 k n v
  | 0,(t0,a9,here15,found18,x85,x86,x87,rv5b,())=>rfl
  | n+1,(t0,a9,here15,found18,x85,x86,x87,rv5b,())=>congrArg (fun Z:Prop=>wfD q69_d0 (t0,a9,here15,found18,x85,x86,x87,rv5b,())→Z) ((q69_s0 k _ (t0,a9,here15,found18,x85,x86,x87,rv5b,())).trans (congrArg (fun Y=>q69_T0 Y (q69_y0x0 k) t0 a9 here15 found18 x85 x86 x87 rv5b) (funext fun t0=>funext fun a9=>funext fun here15=>funext fun found18=>funext fun x85=>funext fun x86=>funext fun x87=>funext fun rv5b=>q69_v0 k n (t0,a9,here15,found18,x85,x86,x87,rv5b,()))))
def q69_X0:Pce:=fun st k=>ckD 120 q69_d0 st fun v=>wfD q69_d0 v→∃ n,q69_g0 k n v
theorem q69_x0:SemOk Tryz.prog (at' (bodyOf Tryz.f210) [0,1,0,1,1,1,1,1,1,1,1,1]) q69_X0:=
  (SemOk.loop (ex_sound tb_M tb_ok q69_Gok (LabsOk.nil) (at' (bodyOf Tryz.f210) [0,0,1,0,1,1,1,1,1,1,1,1,1]) [0,0,1,0,1,1,1,1,1,1,1,1,1] rfl (storesC_at q69_st [0,0,1,0,1,1,1,1,1,1,1,1,1])) 120 q69_d0 q69_dx0).mono fun st k h=>ckD_mono h fun v hv hw=>(hv hw).elim fun n hn=>⟨n,Eq.mpr (q69_v0 k n v) hn⟩
def q69_B0:Labs:=([0,1,0,1,1,1,1,1,1,1,1,1],q69_X0)::[]
theorem q69_b0:LabsOk Tryz.prog (bodyOf Tryz.f210) q69_B0:=LabsOk.cons q69_x0 (LabsOk.nil)
def q69_d1:List LS:=[.v 0 yB,.v 1 yI,.b 5 40 [],.v 9 yI,.c 40 (.st (.pair yI (.pair yI (.pair .bool .bool))))]
def q69_d1r:List LS:=[.v 6 yI,.v 7 yI,.v 8 .bool]
def q69_dx1:DX:=⟨none,some q69_d1r,[]⟩
def q69_y1r (k:Ex→St→Prop) (x6:Int) (x7:Int) (x8:Bool):Prop:=wfD q69_d1r (x6,x7,x8,())→k .ret (mkD 120 q69_d1r (x6,x7,x8,()))
def q69_J1 (kr:Int→Int→Bool→Prop) (t0:LI) (at1:Int) (a9:Int) (rv5b:(Int×Int×Bool×Bool)):Prop:=
 q89_P t0 rv5b.2.1∧(
 ∀ (r3:Int×Int),r3=q89_F t0 rv5b.2.1→(
 wfR (.tup [.v yI r3.1,.v yI r3.2])→(
 q89_P t0 at1∧(
 ∀ (r4:Int×Int),r4=q89_F t0 at1→(
 wfR (.tup [.v yI r4.1,.v yI r4.2])→(
 q78_P t0∧(
 ∀ (r5:Int),r5=q78_F t0→(
 wI r5→(
 (wfD q69_d0 (t0,a9,r4.1,(-1:Int),([(IntKind.wrap .i64 (r3.1 - (1:Int))),(IntKind.wrap .i64 (r5 - (1:Int)))]:LI),(List.length ([(IntKind.wrap .i64 (r3.1 - (1:Int))),(IntKind.wrap .i64 (r5 - (1:Int)))]:LI):Int),(0:Int),rv5b,())→∃ n,q69_L0 (fun (a9:Int) (found18:Int)=>wfD q69_d0x0 (a9,found18,())→(
 kr a9 found18 (decide ((0:Int)≤found18)))) n t0 a9 r4.1 (-1:Int) ([(IntKind.wrap .i64 (r3.1 - (1:Int))),(IntKind.wrap .i64 (r5 - (1:Int)))]:LI) (List.length ([(IntKind.wrap .i64 (r3.1 - (1:Int))),(IntKind.wrap .i64 (r5 - (1:Int)))]:LI):Int) (0:Int) rv5b))))))))))
def q69_g1 (k:Ex→St→Prop) (v:vals q69_d1):Prop:=q69_J1 (q69_y1r k) v.1 v.2.1 v.2.2.1 v.2.2.2.1
theorem q69_v1 (k:Ex→St→Prop):∀ v:vals q69_d1,ex tb (getG q69_G) q69_B0 (at' (bodyOf Tryz.f210) [1,1,1,1,1]) [1,1,1,1,1] (mkD 120 q69_d1 v) (wk 120 q69_dx1 k)=q69_g1 k v
  | (t0,at1,a9,rv5b,())=>by kernel_rfl
def q69_X1:Pce:=fun st k=>ckD 120 q69_d1 st fun v=>wfD q69_d1 v→q69_g1 k v
theorem q69_x1:SemOk Tryz.prog (at' (bodyOf Tryz.f210) [1,1,1,1,1]) q69_X1:=
  (SemOk.wk (N:=120) (ds:=q69_d1) (dx:=q69_dx1) (ex_sound tb_M tb_ok q69_Gok (q69_b0) (at' (bodyOf Tryz.f210) [1,1,1,1,1]) [1,1,1,1,1] rfl (storesC_at q69_st [1,1,1,1,1]))).mono fun st k h=>ckD_mono h fun v hv hw=>Eq.mpr (q69_v1 k v) (hv hw)
def q69_B1:Labs:=([1,1,1,1,1],q69_X1)::q69_B0
theorem q69_b1:LabsOk Tryz.prog (bodyOf Tryz.f210) q69_B1:=LabsOk.cons q69_x1 (q69_b0)
def q69_raw (t0:LI) (at1:Int) (rv2:(Int×Int×Bool×Bool)) (K:Res→List Cell→Prop):Prop:=
 q89_P t0 rv2.1∧(
 ∀ (r1:Int×Int),r1=q89_F t0 rv2.1→(
 wfR (.tup [.v yI r1.1,.v yI r1.2])→(
 bif (!decide (r1.2=(0:Int))) then
 K (.tup [.v yI (0:Int),.v yI (0:Int),.v .bool false]) []
 else
 bif (decide (rv2.2.1<rv2.1)) then
 K (.tup [.v yI (0:Int),.v yI (0:Int),.v .bool false]) []
 else
 bif (decide ((List.length t0:Int)<rv2.2.1)) then
 K (.tup [.v yI (0:Int),.v yI (0:Int),.v .bool false]) []
 else
 bif (!rv2.2.2.1) then
 q89_P t0 (mx rv2.1 (IntKind.wrap .i64 (rv2.2.1 - (1:Int))))∧(
 ∀ (r2:Int×Int),r2=q89_F t0 (mx rv2.1 (IntKind.wrap .i64 (rv2.2.1 - (1:Int))))→(
 wfR (.tup [.v yI r2.1,.v yI r2.2])→(
 K (.tup [.v yI r1.1,.v yI r2.1,.v .bool true]) [])))
 else
 bif rv2.2.2.2 then
 (wfD q69_d1 (t0,at1,(IntKind.wrap .i64 (r1.1+(1:Int))),rv2,())→q69_J1 (fun (x6:Int) (x7:Int) (x8:Bool)=>wfD q69_d1r (x6,x7,x8,())→(
 K (.tup [.v yI x6,.v yI x7,.v .bool x8]) [])) t0 at1 (IntKind.wrap .i64 (r1.1+(1:Int))) rv2)
 else
 (wfD q69_d1 (t0,at1,r1.1,rv2,())→q69_J1 (fun (x6:Int) (x7:Int) (x8:Bool)=>wfD q69_d1r (x6,x7,x8,())→(
 K (.tup [.v yI x6,.v yI x7,.v .bool x8]) [])) t0 at1 r1.1 rv2))))
def q69_A:List AS:=[.v yB,.v yI,.v (.st (.pair yI (.pair yI (.pair .bool .bool))))]
def spanStep (t:LI) (a here:Int) (r:Int×Int×Bool×Bool) (found b:Int):Int:=
  if (q67_F t a b).2=0∧eqT (.pair yI (.pair yI (.pair .bool .bool))) (q67_F t a b).1 r=true∧¬ (0≤found∧here≤found) then b else found
def q69_L0_P (t:LI) (a here found:Int) (xs:LI) (n i:Int) (r:Int×Int×Bool×Bool):Prop:=n=xs.length∧i=0∧n≤1000
def q69_L0_F (t:LI) (a here found:Int) (xs:LI) (n i:Int) (r:Int×Int×Bool×Bool):Int×Int:=(a,xs.foldl (spanStep t a here r) found)
theorem q69_l0 (kx0:Int→Int→Prop) (t:LI) (a here:Int) (xs:LI) (r:Int×Int×Bool×Bool) (hx:xs.length≤1000):∀ (m i:Nat) (found:Int),xs.length<m+i→i≤xs.length→
    kx0 a ((xs.drop i).foldl (spanStep t a here r) found)→q69_L0 kx0 m t a here found xs (xs.length:Int) (i:Int) r
  | 0,i,found,h,h2,_=>by omega
  | m+1,i,found,h,h2,hk=>by
    intro _
    unfold q69_T0
    refine brn (fun hlt=>asrt ⟨by omega,by omega⟩ ?_) (fun hge=>?_)
    · have hi:i<xs.length:=by omega
      rw [List.drop_eq_getElem_cons hi,List.foldl_cons] at hk
      rw [rd_nat _ _ _ hi]
      intro r6 h6 _
      subst h6
      have next:∀ f',f'=spanStep t a here r found xs[i]→q69_L0 kx0 m t a here f' xs (xs.length:Int) (IntKind.wrap .i64 ((i:Int)+1)) r:=fun f' hf=>by
        rw [wrap_i64 (by omega) (by omega),show (i:Int)+1=((i+1:Nat):Int) by omega]
        exact q69_l0 kx0 t a here xs r hx m (i+1) f' (by omega) (by omega) (by rw [hf]; exact hk)
      refine brx (fun c=>next _ ?_) (fun c1=>brb (fun c=>next _ ?_) (fun c2=>brn (fun c3=>brn (fun c4=>next _ ?_) (fun c4=>next _ ?_)) (fun c3=>next _ ?_)))
      · unfold spanStep; rw [if_neg (fun hh=>c hh.1)]
      · unfold spanStep; rw [if_neg (fun hh=>by rw [hh.2.1] at c; cases c)]
      · unfold spanStep; rw [if_neg (fun hh=>hh.2.2 ⟨c3,c4⟩)]
      · unfold spanStep; rw [if_pos ⟨c1,by simpa using c2,fun hh=>c4 hh.2⟩]
      · unfold spanStep; rw [if_pos ⟨c1,by simpa using c2,fun hh=>c3 hh.1⟩]
    · have:i=xs.length:=by omega
      rw [this,List.drop_length] at hk
      exact hk
theorem q69_L0_sp (kx0:Int→Int→Prop) (t:LI) (a here found:Int) (xs:LI) (n i:Int) (r:Int×Int×Bool×Bool) (hp:q69_L0_P t a here found xs n i r) (h:∀ q:Int×Int,q=q69_L0_F t a here found xs n i r→kx0 q.1 q.2):∃ m,q69_L0 kx0 m t a here found xs n i r:=by
  obtain ⟨rfl,rfl,hx⟩:=hp
  exact ⟨xs.length+1,q69_l0 kx0 t a here xs r (by omega) (xs.length+1) 0 found (by omega) (Nat.zero_le _) (h _ rfl)⟩

def q69_J1_P (t0:LI) (at1:Int) (a9:Int) (rv5b:(Int×Int×Bool×Bool)):Prop:=
 q89_P t0 rv5b.2.1∧(
 let r3:Int×Int:=q89_F t0 rv5b.2.1
 q89_P t0 at1∧(
 let r4:Int×Int:=q89_F t0 at1
 q78_P t0∧(
 let r5:Int:=q78_F t0
 q69_L0_P t0 a9 r4.1 (-1:Int) ([(IntKind.wrap .i64 (r3.1 - (1:Int))),(IntKind.wrap .i64 (r5 - (1:Int)))]:LI) (List.length ([(IntKind.wrap .i64 (r3.1 - (1:Int))),(IntKind.wrap .i64 (r5 - (1:Int)))]:LI):Int) (0:Int) rv5b)))
def q69_J1_F (t0:LI) (at1:Int) (a9:Int) (rv5b:(Int×Int×Bool×Bool)):Int×Int×Bool:=
 let r3:Int×Int:=q89_F t0 rv5b.2.1
 let r4:Int×Int:=q89_F t0 at1
 let r5:Int:=q78_F t0
 let q0x0:Int×Int:=q69_L0_F t0 a9 r4.1 (-1:Int) ([(IntKind.wrap .i64 (r3.1 - (1:Int))),(IntKind.wrap .i64 (r5 - (1:Int)))]:LI) (List.length ([(IntKind.wrap .i64 (r3.1 - (1:Int))),(IntKind.wrap .i64 (r5 - (1:Int)))]:LI):Int) (0:Int) rv5b
 let a9:Int:=q0x0.1
 let found18:Int:=q0x0.2
 (a9,found18,(decide ((0:Int)≤found18)))
theorem q69_J1_sp (kr:Int→Int→Bool→Prop) (t0:LI) (at1:Int) (a9:Int) (rv5b:(Int×Int×Bool×Bool)) (hp:q69_J1_P t0 at1 a9 rv5b) (hr:∀ q:Int×Int×Bool,q=q69_J1_F t0 at1 a9 rv5b→kr q.1 q.2.1 q.2.2):q69_J1 kr t0 at1 a9 rv5b:=
 have h:=hr; an1 hp fun hp=>al (an1 hp fun hp=>al (an1 hp fun hp=>al (fun _=>q69_L0_sp _ _ _ _ _ _ _ _ _ hp (al (h _ rfl)))))
def q69_P (t0:LI) (at1:Int) (rv2:(Int×Int×Bool×Bool)):Prop:=
 q89_P t0 rv2.1∧(
 let r1:Int×Int:=q89_F t0 rv2.1
 bif (!decide (r1.2=(0:Int))) then
 True
 else
 bif (decide (rv2.2.1<rv2.1)) then
 True
 else
 bif (decide ((List.length t0:Int)<rv2.2.1)) then
 True
 else
 bif (!rv2.2.2.1) then
 q89_P t0 (mx rv2.1 (IntKind.wrap .i64 (rv2.2.1 - (1:Int))))
 else
 bif rv2.2.2.2 then
 q69_J1_P t0 at1 (IntKind.wrap .i64 (r1.1+(1:Int))) rv2
 else
 q69_J1_P t0 at1 r1.1 rv2)
def q69_F (t0:LI) (at1:Int) (rv2:(Int×Int×Bool×Bool)):Int×Int×Bool:=
 let r1:Int×Int:=q89_F t0 rv2.1
 bif (!decide (r1.2=(0:Int))) then
 ((0:Int),(0:Int),false)
 else
 bif (decide (rv2.2.1<rv2.1)) then
 ((0:Int),(0:Int),false)
 else
 bif (decide ((List.length t0:Int)<rv2.2.1)) then
 ((0:Int),(0:Int),false)
 else
 bif (!rv2.2.2.1) then
 let r2:Int×Int:=q89_F t0 (mx rv2.1 (IntKind.wrap .i64 (rv2.2.1 - (1:Int))))
 (r1.1,r2.1,true)
 else
 bif rv2.2.2.2 then
 let q1r:Int×Int×Bool:=q69_J1_F t0 at1 (IntKind.wrap .i64 (r1.1+(1:Int))) rv2
 let x6:Int:=q1r.1
 let x7:Int:=q1r.2.1
 let x8:Bool:=q1r.2.2
 (x6,x7,x8)
 else
 let q1r:Int×Int×Bool:=q69_J1_F t0 at1 r1.1 rv2
 let x6:Int:=q1r.1
 let x7:Int:=q1r.2.1
 let x8:Bool:=q1r.2.2
 (x6,x7,x8)
theorem q69_sp (t0:LI) (at1:Int) (rv2:(Int×Int×Bool×Bool)) (K:Res→List Cell→Prop) (_:wfA q69_A (t0,at1,rv2,())) (hp:q69_P t0 at1 rv2) (h:∀ r:Int×Int×Bool,r=q69_F t0 at1 rv2→K (.tup [.v yI r.1,.v yI r.2.1,.v .bool r.2.2]) []):q69_raw t0 at1 rv2 K:=
 an1 hp fun hp=>al (br1 hp h (fun _ hp h=>h _ rfl)
 fun _ hp h=>br1 hp h (fun _ hp h=>h _ rfl)
 fun _ hp h=>br1 hp h (fun _ hp h=>h _ rfl)
 fun _ hp h=>br1 hp h (fun _ hp h=>⟨hp,al (h _ rfl)⟩)
 fun _ hp h=>br1 hp h (fun _ hp h=>fun _=>q69_J1_sp _ _ _ _ _ hp (al (h _ rfl)))
 fun _ hp h=>fun _=>q69_J1_sp _ _ _ _ _ hp (al (h _ rfl)))
def q69_C (v:valsA q69_A) (K:Res→List Cell→Prop):Prop:=q69_P v.1 v.2.1 v.2.2.1∧∀ r:Int×Int×Bool,r=q69_F v.1 v.2.1 v.2.2.1→K (.tup [.v yI r.1,.v yI r.2.1,.v .bool r.2.2]) []
def q69_S:App:=specW q69_A q69_C
theorem q69_wv (K:Res→List Cell→Prop):∀ v:valsA q69_A,runF tb (getG q69_G) q69_B1 Tryz.f210 [true,true,true] (mkA q69_A v) K=q69_raw v.1 v.2.1 v.2.2.1 K
  | (t0,at1,rv2,())=>by kernel_rfl
theorem q69_ok:AppOk Tryz.prog 210 q69_S:=
  AppOk.specW (spec_ok ((runF_ok tb_M tb_ok q69_Gok (q69_b1) (f:=210) (fn:=Tryz.f210) (by kernel_rfl) (by kernel_rfl) q69_st [true,true,true])) fun v K hw h=>(q69_wv K v).mpr (q69_sp v.1 v.2.1 v.2.2.1 K hw h.1 h.2))

def q81_G:List (Nat×App):=[(95,q74_S),(67,q71_S)]
theorem q81_Gok:GOk Tryz.prog (getG q81_G):=GOk.cons q74_ok (GOk.cons q71_ok (GOk.nil))
def q81_raw (t0:LI) (from1:Int) (to2:Int) (p3:LI) (K:Res→List Cell→Prop):Prop:=
 bif decide (0≤from1∧from1≤to2∧to2≤(List.length t0:Int)) then
 ∀ (r1:Bool),r1=q74_F (slc t0 from1 to2) p3→(
 wB r1→(
 bif r1 then
 K (.one (.fr 75 (.st (.pair yI (.pair yB yB))) ([]:List ((Int×LI×LI))))) []
 else
 bif decide (0≤from1∧from1≤to2∧to2≤(List.length t0:Int)) then
 q71_P (slc t0 from1 to2)∧(
 ∀ (r2:LI),r2=q71_F (slc t0 from1 to2)→(
 wfR (.one (.fr 5 yU r2))→(
 q71_P p3∧(
 ∀ (r3:LI),r3=q71_F p3→(
 wfR (.one (.fr 5 yU r3))→(
 K (.one (.fr 75 (.st (.pair yI (.pair yB yB))) ([(from1,r2,r3)]:List ((Int×LI×LI))))) []))))))
 else False))
 else False
def q81_A:List AS:=[.v yB,.v yI,.v yI,.v yB]

def q81_P (t0:LI) (from1:Int) (to2:Int) (p3:LI):Prop:=
 (0≤from1∧from1≤to2∧to2≤(List.length t0:Int))∧(
 let r1:Bool:=q74_F (slc t0 from1 to2) p3
 bif r1 then
 True
 else
 (0≤from1∧from1≤to2∧to2≤(List.length t0:Int))∧(
 q71_P (slc t0 from1 to2)∧(
 let r2:LI:=q71_F (slc t0 from1 to2)
 q71_P p3)))
def q81_F (t0:LI) (from1:Int) (to2:Int) (p3:LI):List ((Int×LI×LI)):=
 let r1:Bool:=q74_F (slc t0 from1 to2) p3
 bif r1 then
 ([]:List ((Int×LI×LI)))
 else
 let r2:LI:=q71_F (slc t0 from1 to2)
 let r3:LI:=q71_F p3
 ([(from1,r2,r3)]:List ((Int×LI×LI)))
theorem q81_sp (t0:LI) (from1:Int) (to2:Int) (p3:LI) (K:Res→List Cell→Prop) (_:wfA q81_A (t0,from1,to2,p3,())) (hp:q81_P t0 from1 to2 p3) (h:∀ r:List ((Int×LI×LI)),r=q81_F t0 from1 to2 p3→K (.one (.fr 75 (.st (.pair yI (.pair yB yB))) r)) []):q81_raw t0 from1 to2 p3 K:=
 as1 hp fun hp=>al (br1 hp h (fun _ hp h=>h _ rfl)
 fun _ hp h=>as1 hp fun hp=>an1 hp fun hp=>al (⟨hp,al (h _ rfl)⟩))
def q81_C (v:valsA q81_A) (K:Res→List Cell→Prop):Prop:=q81_P v.1 v.2.1 v.2.2.1 v.2.2.2.1∧∀ r:List ((Int×LI×LI)),r=q81_F v.1 v.2.1 v.2.2.1 v.2.2.2.1→K (.one (.fr 75 (.st (.pair yI (.pair yB yB))) r)) []
def q81_S:App:=specW q81_A q81_C
theorem q81_wv (K:Res→List Cell→Prop):∀ v:valsA q81_A,runF tb (getG q81_G) [] Tryz.f213 [true] (mkA q81_A v) K=q81_raw v.1 v.2.1 v.2.2.1 v.2.2.2.1 K
  | (t0,from1,to2,p3,())=>by kernel_rfl
theorem q81_ok:AppOk Tryz.prog 213 q81_S:=
  AppOk.specW (spec_ok ((runF_ok tb_M tb_ok q81_Gok (LabsOk.nil) (f:=213) (fn:=Tryz.f213) (by kernel_rfl) (by kernel_rfl) (by kernel_rfl) [true])) fun v K hw h=>(q81_wv K v).mpr (q81_sp v.1 v.2.1 v.2.2.1 v.2.2.2.1 K hw h.1 h.2))

end Go.VE
namespace Go.VE
open Go Go.Proofs
def q14_G:List (Nat×App):=[]
theorem q14_Gok:GOk Tryz.prog (getG q14_G):=GOk.nil
def q14_raw (s0:LI) (K:Res→List Cell→Prop):Prop:=
 (
 bif decide (List.length ([]:LI)+List.length s0≤lim) then
 K (.one (.fr 5 yU (([]:LI)++s0))) []
 else False)∧(bif decide (List.length s0=0) then
 K (.one (.fr 5 yU ([]:LI))) []
 else True)
def q14_A:List AS:=[.v yB]
def q14_P (s:LI):Prop:=s.length≤lim
def q14_F (s:LI):LI:=s
theorem q14_sp (s:LI) (K:Res→List Cell→Prop) (_:wfA q14_A (s,())) (hp:q14_P s) (h:∀ r:LI,r=q14_F s→K (.one (.fr 5 yU r)) []):q14_raw s K:=by
  unfold q14_raw
  unfold q14_P at hp
  refine ⟨asrt (by simpa using hp) (h _ rfl),?_⟩
  by_cases hz:s.length=0
  · rw [decide_eq_true hz]
    exact h _ (List.eq_nil_of_length_eq_zero hz).symm
  · rw [decide_eq_false hz]; trivial

def q14_C (v:valsA q14_A) (K:Res→List Cell→Prop):Prop:=q14_P v.1∧∀ r:LI,r=q14_F v.1→K (.one (.fr 5 yU r)) []
def q14_S:App:=specW q14_A q14_C
theorem q14_wv (K:Res→List Cell→Prop):∀ v:valsA q14_A,runF tb (getG q14_G) [] Tryz.f133 [true] (mkA q14_A v) K=q14_raw v.1 K
  | (s0,())=>by kernel_rfl
set_option maxRecDepth 20000 in
theorem q14_ok:AppOk Tryz.prog 133 q14_S:=
  AppOk.specW (spec_ok ((runF_ok tb_M tb_ok q14_Gok (LabsOk.nil) (f:=133) (fn:=Tryz.f133) (by kernel_rfl) (by kernel_rfl) (by kernel_rfl) [true])) fun v K hw h=>(q14_wv K v).mpr (q14_sp v.1 K hw h.1 h.2))

end Go.VE
namespace Go.VE
set_option maxRecDepth 20000
open Go Go.Proofs
def q82_G:List (Nat×App):=[(133,q14_S)]
theorem q82_Gok:GOk Tryz.prog (getG q82_G):=GOk.cons q14_ok (GOk.nil)
theorem q82_st:storesC (bodyOf Tryz.f279)=true:=by kernel_rfl
def q82_d0:List LS:=[.b 3 24 [],.b 4 32 [],.v 6 yB,.c 24 (.st (.pair yI (.pair yI (.pair .bool .bool)))),.c 32 (.st (.pair .bool (.pair .bool yB)))]
def q82_d0r:List LS:=[.b 4 32 [],.v 5 yI,.c 32 (.st (.pair .bool (.pair .bool yB)))]
def q82_dx0:DX:=⟨none,some q82_d0r,[]⟩
def q82_y0r (k:Ex→St→Prop) (x5:Int) (x4b:(Bool×Bool×LI)):Prop:=wfD q82_d0r (x5,x4b,())→k .ret (mkD 93 q82_d0r (x5,x4b,()))
def q82_J0 (kr:Int→(Bool×Bool×LI)→Prop) (text6:LI) (rv3b:(Int×Int×Bool×Bool)) (x4b:(Bool×Bool×LI)):Prop:=
 q14_P text6∧(
 ∀ (r2:LI),r2=q14_F text6→(
 wfR (.one (.fr 5 yU r2))→(
 bif rv3b.2.2.2 then
 bif decide (List.length r2+List.length ([(10:Int)]:LI)≤lim) then
 kr (0:Int) (true,true,(r2++([(10:Int)]:LI)))
 else False
 else
 bif (decide ((List.length r2:Int)=(0:Int))) then
 bif decide (List.length r2+List.length ([(10:Int)]:LI)≤lim) then
 kr (0:Int) (true,true,(r2++([(10:Int)]:LI)))
 else False
 else
 bif decide (0≤(IntKind.wrap .i64 ((List.length r2:Int) - (1:Int)))∧(IntKind.wrap .i64 ((List.length r2:Int) - (1:Int)))<(List.length r2:Int)) then
 bif (!decide ((rd (0:Int) r2 (IntKind.wrap .i64 ((List.length r2:Int) - (1:Int))))=(10:Int))) then
 bif decide (List.length r2+List.length ([(10:Int)]:LI)≤lim) then
 kr (0:Int) (true,true,(r2++([(10:Int)]:LI)))
 else False
 else
 kr (0:Int) (true,true,r2)
 else False)))
def q82_g0 (k:Ex→St→Prop) (v:vals q82_d0):Prop:=q82_J0 (q82_y0r k) v.1 v.2.1 v.2.2.1
theorem q82_v0 (k:Ex→St→Prop):∀ v:vals q82_d0,ex tb (getG q82_G) [] (at' (bodyOf Tryz.f279) [1,1,1,1,1]) [1,1,1,1,1] (mkD 93 q82_d0 v) (wk 93 q82_dx0 k)=q82_g0 k v
  | (text6,rv3b,x4b,())=>by kernel_rfl
def q82_X0:Pce:=fun st k=>ckD 93 q82_d0 st fun v=>wfD q82_d0 v→q82_g0 k v
theorem q82_x0:SemOk Tryz.prog (at' (bodyOf Tryz.f279) [1,1,1,1,1]) q82_X0:=
  (SemOk.wk (N:=93) (ds:=q82_d0) (dx:=q82_dx0) (ex_sound tb_M tb_ok q82_Gok (LabsOk.nil) (at' (bodyOf Tryz.f279) [1,1,1,1,1]) [1,1,1,1,1] rfl (storesC_at q82_st [1,1,1,1,1]))).mono fun st k h=>ckD_mono h fun v hv hw=>Eq.mpr (q82_v0 k v) (hv hw)
def q82_B0:Labs:=([1,1,1,1,1],q82_X0)::[]
theorem q82_b0:LabsOk Tryz.prog (bodyOf Tryz.f279) q82_B0:=LabsOk.cons q82_x0 (LabsOk.nil)
def q82_raw (t0:LI) (rv1:(Int×Int×Bool×Bool)) (K:Res→List Cell→Prop):Prop:=
 bif (decide (rv1.1<(0:Int))) then
 K (.tup [.v (.st (.pair .bool (.pair .bool yB))) (false,false,([]:LI)),.v yI (2:Int)]) []
 else
 bif (decide (rv1.2.1<rv1.1)) then
 K (.tup [.v (.st (.pair .bool (.pair .bool yB))) (false,false,([]:LI)),.v yI (2:Int)]) []
 else
 bif (decide ((List.length t0:Int)<rv1.2.1)) then
 K (.tup [.v (.st (.pair .bool (.pair .bool yB))) (false,false,([]:LI)),.v yI (2:Int)]) []
 else
 bif (!rv1.2.2.1) then
 bif decide (0≤rv1.1∧rv1.1≤rv1.2.1∧rv1.2.1≤(List.length t0:Int)) then
 q14_P (slc t0 rv1.1 rv1.2.1)∧(
 ∀ (r1:LI),r1=q14_F (slc t0 rv1.1 rv1.2.1)→(
 wfR (.one (.fr 5 yU r1))→(
 K (.tup [.v (.st (.pair .bool (.pair .bool yB))) (true,false,r1),.v yI (0:Int)]) [])))
 else False
 else
 bif decide (0≤rv1.1∧rv1.1≤rv1.2.1∧rv1.2.1≤(List.length t0:Int)) then
 bif rv1.2.2.2 then
 bif (decide (rv1.1=(List.length t0:Int))) then
 K (.tup [.v (.st (.pair .bool (.pair .bool yB))) (false,false,([]:LI)),.v yI (2:Int)]) []
 else
 bif decide (0≤rv1.1∧rv1.1<(List.length t0:Int)) then
 bif (!decide ((rd (0:Int) t0 rv1.1)=(10:Int))) then
 K (.tup [.v (.st (.pair .bool (.pair .bool yB))) (false,false,([]:LI)),.v yI (2:Int)]) []
 else
 bif decide (0≤(IntKind.wrap .i64 (rv1.1+(1:Int)))∧(IntKind.wrap .i64 (rv1.1+(1:Int)))≤(mx (IntKind.wrap .i64 (rv1.1+(1:Int))) rv1.2.1)∧(mx (IntKind.wrap .i64 (rv1.1+(1:Int))) rv1.2.1)≤(List.length t0:Int)) then
 (wfD q82_d0 ((slc t0 (IntKind.wrap .i64 (rv1.1+(1:Int))) (mx (IntKind.wrap .i64 (rv1.1+(1:Int))) rv1.2.1)),rv1,(false,false,([]:LI)),())→q82_J0 (fun (x5:Int) (x4b:(Bool×Bool×LI))=>wfD q82_d0r (x5,x4b,())→(
 K (.tup [.v (.st (.pair .bool (.pair .bool yB))) x4b,.v yI x5]) [])) (slc t0 (IntKind.wrap .i64 (rv1.1+(1:Int))) (mx (IntKind.wrap .i64 (rv1.1+(1:Int))) rv1.2.1)) rv1 (false,false,([]:LI)))
 else False
 else False
 else
 (wfD q82_d0 ((slc t0 rv1.1 rv1.2.1),rv1,(false,false,([]:LI)),())→q82_J0 (fun (x5:Int) (x4b:(Bool×Bool×LI))=>wfD q82_d0r (x5,x4b,())→(
 K (.tup [.v (.st (.pair .bool (.pair .bool yB))) x4b,.v yI x5]) [])) (slc t0 rv1.1 rv1.2.1) rv1 (false,false,([]:LI)))
 else False
def q82_A:List AS:=[.v yB,.v (.st (.pair yI (.pair yI (.pair .bool .bool))))]

def q82_J0_P (text6:LI) (rv3b:(Int×Int×Bool×Bool)) (x4b:(Bool×Bool×LI)):Prop:=
 q14_P text6∧(
 let r2:LI:=q14_F text6
 bif rv3b.2.2.2 then
 (List.length r2+List.length ([(10:Int)]:LI)≤lim)
 else
 bif (decide ((List.length r2:Int)=(0:Int))) then
 (List.length r2+List.length ([(10:Int)]:LI)≤lim)
 else
 (0≤(IntKind.wrap .i64 ((List.length r2:Int) - (1:Int)))∧(IntKind.wrap .i64 ((List.length r2:Int) - (1:Int)))<(List.length r2:Int))∧(
 bif (!decide ((rd (0:Int) r2 (IntKind.wrap .i64 ((List.length r2:Int) - (1:Int))))=(10:Int))) then
 (List.length r2+List.length ([(10:Int)]:LI)≤lim)
 else
 True))
def q82_J0_F (text6:LI) (rv3b:(Int×Int×Bool×Bool)) (x4b:(Bool×Bool×LI)):Int×(Bool×Bool×LI):=
 let r2:LI:=q14_F text6
 bif rv3b.2.2.2 then
 ((0:Int),(true,true,(r2++([(10:Int)]:LI))))
 else
 bif (decide ((List.length r2:Int)=(0:Int))) then
 ((0:Int),(true,true,(r2++([(10:Int)]:LI))))
 else
 bif (!decide ((rd (0:Int) r2 (IntKind.wrap .i64 ((List.length r2:Int) - (1:Int))))=(10:Int))) then
 ((0:Int),(true,true,(r2++([(10:Int)]:LI))))
 else
 ((0:Int),(true,true,r2))
theorem q82_J0_sp (kr:Int→(Bool×Bool×LI)→Prop) (text6:LI) (rv3b:(Int×Int×Bool×Bool)) (x4b:(Bool×Bool×LI)) (hp:q82_J0_P text6 rv3b x4b) (hr:∀ q:Int×(Bool×Bool×LI),q=q82_J0_F text6 rv3b x4b→kr q.1 q.2):q82_J0 kr text6 rv3b x4b:=
 have h:=hr; an1 hp fun hp=>al (br1 hp h (fun _ hp h=>as0 hp (h _ rfl))
 fun _ hp h=>br1 hp h (fun _ hp h=>as0 hp (h _ rfl))
 fun _ hp h=>as1 hp fun hp=>br1 hp h (fun _ hp h=>as0 hp (h _ rfl))
 fun _ hp h=>h _ rfl)
def q82_P (t0:LI) (rv1:(Int×Int×Bool×Bool)):Prop:=
 bif (decide (rv1.1<(0:Int))) then
 True
 else
 bif (decide (rv1.2.1<rv1.1)) then
 True
 else
 bif (decide ((List.length t0:Int)<rv1.2.1)) then
 True
 else
 bif (!rv1.2.2.1) then
 (0≤rv1.1∧rv1.1≤rv1.2.1∧rv1.2.1≤(List.length t0:Int))∧(
 q14_P (slc t0 rv1.1 rv1.2.1))
 else
 (0≤rv1.1∧rv1.1≤rv1.2.1∧rv1.2.1≤(List.length t0:Int))∧(
 bif rv1.2.2.2 then
 bif (decide (rv1.1=(List.length t0:Int))) then
 True
 else
 (0≤rv1.1∧rv1.1<(List.length t0:Int))∧(
 bif (!decide ((rd (0:Int) t0 rv1.1)=(10:Int))) then
 True
 else
 (0≤(IntKind.wrap .i64 (rv1.1+(1:Int)))∧(IntKind.wrap .i64 (rv1.1+(1:Int)))≤(mx (IntKind.wrap .i64 (rv1.1+(1:Int))) rv1.2.1)∧(mx (IntKind.wrap .i64 (rv1.1+(1:Int))) rv1.2.1)≤(List.length t0:Int))∧(
 q82_J0_P (slc t0 (IntKind.wrap .i64 (rv1.1+(1:Int))) (mx (IntKind.wrap .i64 (rv1.1+(1:Int))) rv1.2.1)) rv1 (false,false,([]:LI))))
 else
 q82_J0_P (slc t0 rv1.1 rv1.2.1) rv1 (false,false,([]:LI)))
def q82_F (t0:LI) (rv1:(Int×Int×Bool×Bool)):(Bool×Bool×LI)×Int:=
 bif (decide (rv1.1<(0:Int))) then
 ((false,false,([]:LI)),(2:Int))
 else
 bif (decide (rv1.2.1<rv1.1)) then
 ((false,false,([]:LI)),(2:Int))
 else
 bif (decide ((List.length t0:Int)<rv1.2.1)) then
 ((false,false,([]:LI)),(2:Int))
 else
 bif (!rv1.2.2.1) then
 let r1:LI:=q14_F (slc t0 rv1.1 rv1.2.1)
 ((true,false,r1),(0:Int))
 else
 bif rv1.2.2.2 then
 bif (decide (rv1.1=(List.length t0:Int))) then
 ((false,false,([]:LI)),(2:Int))
 else
 bif (!decide ((rd (0:Int) t0 rv1.1)=(10:Int))) then
 ((false,false,([]:LI)),(2:Int))
 else
 let q0r:Int×(Bool×Bool×LI):=q82_J0_F (slc t0 (IntKind.wrap .i64 (rv1.1+(1:Int))) (mx (IntKind.wrap .i64 (rv1.1+(1:Int))) rv1.2.1)) rv1 (false,false,([]:LI))
 let x5:Int:=q0r.1
 let x4b:(Bool×Bool×LI):=q0r.2
 (x4b,x5)
 else
 let q0r:Int×(Bool×Bool×LI):=q82_J0_F (slc t0 rv1.1 rv1.2.1) rv1 (false,false,([]:LI))
 let x5:Int:=q0r.1
 let x4b:(Bool×Bool×LI):=q0r.2
 (x4b,x5)
theorem q82_sp (t0:LI) (rv1:(Int×Int×Bool×Bool)) (K:Res→List Cell→Prop) (_:wfA q82_A (t0,rv1,())) (hp:q82_P t0 rv1) (h:∀ r:(Bool×Bool×LI)×Int,r=q82_F t0 rv1→K (.tup [.v (.st (.pair .bool (.pair .bool yB))) r.1,.v yI r.2]) []):q82_raw t0 rv1 K:=
 br1 hp h (fun _ hp h=>h _ rfl)
 fun _ hp h=>br1 hp h (fun _ hp h=>h _ rfl)
 fun _ hp h=>br1 hp h (fun _ hp h=>h _ rfl)
 fun _ hp h=>br1 hp h (fun _ hp h=>as1 hp fun hp=>⟨hp,al (h _ rfl)⟩)
 fun _ hp h=>as1 hp fun hp=>br1 hp h (fun _ hp h=>br1 hp h (fun _ hp h=>h _ rfl)
 fun _ hp h=>as1 hp fun hp=>br1 hp h (fun _ hp h=>h _ rfl)
 fun _ hp h=>as1 hp fun hp=>fun _=>q82_J0_sp _ _ _ _ hp (al (h _ rfl)))
 fun _ hp h=>fun _=>q82_J0_sp _ _ _ _ hp (al (h _ rfl))
def q82_C (v:valsA q82_A) (K:Res→List Cell→Prop):Prop:=q82_P v.1 v.2.1∧∀ r:(Bool×Bool×LI)×Int,r=q82_F v.1 v.2.1→K (.tup [.v (.st (.pair .bool (.pair .bool yB))) r.1,.v yI r.2]) []
def q82_S:App:=specW q82_A q82_C
theorem q82_wv (K:Res→List Cell→Prop):∀ v:valsA q82_A,runF tb (getG q82_G) q82_B0 Tryz.f279 [true,true] (mkA q82_A v) K=q82_raw v.1 v.2.1 K
  | (t0,rv1,())=>by kernel_rfl
theorem q82_ok:AppOk Tryz.prog 279 q82_S:=
  AppOk.specW (spec_ok ((runF_ok tb_M tb_ok q82_Gok (q82_b0) (f:=279) (fn:=Tryz.f279) (by kernel_rfl) (by kernel_rfl) q82_st [true,true])) fun v K hw h=>(q82_wv K v).mpr (q82_sp v.1 v.2.1 K hw h.1 h.2))

def q53_G:List (Nat×App):=[(279,q82_S),(189,q47_S)]
theorem q53_Gok:GOk Tryz.prog (getG q53_G):=GOk.cons q82_ok (GOk.cons q47_ok (GOk.nil))
def q53_raw (j0:tJb) (K:Res→List Cell→Prop):Prop:=
 q82_P j0.1 j0.2.2.1∧(
 ∀ (r1:(Bool×Bool×LI)×Int),r1=q82_F j0.1 j0.2.2.1→(
 wfR (.tup [.v (.st (.pair .bool (.pair .bool yB))) r1.1,.v yI r1.2])→(
 bif j0.2.2.1.2.2.1 then
 K (.tup [.v (.st (.pair .bool (.pair .bool yB))) r1.1,.v yI (2:Int)]) []
 else
 ∀ (r2:Int),r2=q47_F r1.1.2.2 (10:Int)→(
 wI r2→(
 bif (decide ((0:Int)≤r2)) then
 K (.tup [.v (.st (.pair .bool (.pair .bool yB))) r1.1,.v yI (2:Int)]) []
 else
 K (.tup [.v (.st (.pair .bool (.pair .bool yB))) r1.1,.v yI (3:Int)]) [])))))
def q53_A:List AS:=[.v tyJ]

def q53_P (j0:tJb):Prop:=
 q82_P j0.1 j0.2.2.1
def q53_F (j0:tJb):(Bool×Bool×LI)×Int:=
 let r1:(Bool×Bool×LI)×Int:=q82_F j0.1 j0.2.2.1
 bif j0.2.2.1.2.2.1 then
 (r1.1,(2:Int))
 else
 let r2:Int:=q47_F r1.1.2.2 (10:Int)
 bif (decide ((0:Int)≤r2)) then
 (r1.1,(2:Int))
 else
 (r1.1,(3:Int))
theorem q53_sp (j0:tJb) (K:Res→List Cell→Prop) (_:wfA q53_A (j0,())) (hp:q53_P j0) (h:∀ r:(Bool×Bool×LI)×Int,r=q53_F j0→K (.tup [.v (.st (.pair .bool (.pair .bool yB))) r.1,.v yI r.2]) []):q53_raw j0 K:=
 ⟨hp,al (br0 h (fun _ h=>h _ rfl)
 fun _ h=>al (br0 h (fun _ h=>h _ rfl)
 fun _ h=>h _ rfl))⟩
def q53_C (v:valsA q53_A) (K:Res→List Cell→Prop):Prop:=q53_P v.1∧∀ r:(Bool×Bool×LI)×Int,r=q53_F v.1→K (.tup [.v (.st (.pair .bool (.pair .bool yB))) r.1,.v yI r.2]) []
def q53_S:App:=specW q53_A q53_C
theorem q53_wv (K:Res→List Cell→Prop):∀ v:valsA q53_A,runF tb (getG q53_G) [] Tryz.f264 [true,true] (mkA q53_A v) K=q53_raw v.1 K
  | (j0,())=>by kernel_rfl
theorem q53_ok:AppOk Tryz.prog 264 q53_S:=
  AppOk.specW (spec_ok ((runF_ok tb_M tb_ok q53_Gok (LabsOk.nil) (f:=264) (fn:=Tryz.f264) (by kernel_rfl) (by kernel_rfl) (by kernel_rfl) [true,true])) fun v K hw h=>(q53_wv K v).mpr (q53_sp v.1 K hw h.1 h.2))

def q48_G:List (Nat×App):=[(95,q74_S)]
theorem q48_Gok:GOk Tryz.prog (getG q48_G):=GOk.cons q74_ok (GOk.nil)
def q48_raw (s0:LI) (prefix1:LI) (K:Res→List Cell→Prop):Prop:=
 bif (decide ((List.length prefix1:Int)≤(List.length s0:Int))) then
 bif decide (0≤(List.length prefix1:Int)∧(List.length prefix1:Int)≤(List.length s0:Int)) then
 ∀ (r1:Bool),r1=q74_F (List.take (Int.toNat (List.length prefix1:Int)) s0) prefix1→(
 wB r1→(
 K (.one (.v .bool r1)) []))
 else False
 else
 K (.one (.v .bool false)) []
def q48_A:List AS:=[.v yB,.v yB]

def q48_P (s0:LI) (prefix1:LI):Prop:=
 bif (decide ((List.length prefix1:Int)≤(List.length s0:Int))) then
 (0≤(List.length prefix1:Int)∧(List.length prefix1:Int)≤(List.length s0:Int))
 else
 True
def q48_F (s0:LI) (prefix1:LI):Bool:=
 bif (decide ((List.length prefix1:Int)≤(List.length s0:Int))) then
 let r1:Bool:=q74_F (List.take (Int.toNat (List.length prefix1:Int)) s0) prefix1
 r1
 else
 false
theorem q48_sp (s0:LI) (prefix1:LI) (K:Res→List Cell→Prop) (_:wfA q48_A (s0,prefix1,())) (hp:q48_P s0 prefix1) (h:∀ r:Bool,r=q48_F s0 prefix1→K (.one (.v .bool r)) []):q48_raw s0 prefix1 K:=
 br1 hp h (fun _ hp h=>as0 hp (al (h _ rfl)))
 fun _ hp h=>h _ rfl
def q48_C (v:valsA q48_A) (K:Res→List Cell→Prop):Prop:=q48_P v.1 v.2.1∧∀ r:Bool,r=q48_F v.1 v.2.1→K (.one (.v .bool r)) []
def q48_S:App:=specW q48_A q48_C
theorem q48_wv (K:Res→List Cell→Prop):∀ v:valsA q48_A,runF tb (getG q48_G) [] Tryz.f64 [true] (mkA q48_A v) K=q48_raw v.1 v.2.1 K
  | (s0,prefix1,())=>by kernel_rfl
theorem q48_ok:AppOk Tryz.prog 64 q48_S:=
  AppOk.specW (spec_ok ((runF_ok tb_M tb_ok q48_Gok (LabsOk.nil) (f:=64) (fn:=Tryz.f64) (by kernel_rfl) (by kernel_rfl) (by kernel_rfl) [true])) fun v K hw h=>(q48_wv K v).mpr (q48_sp v.1 v.2.1 K hw h.1 h.2))

end Go.VE
