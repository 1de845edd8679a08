import Derived.Test.YtogkdhgjefiipaaGreatDoorEQ12
import Derived.WalkSmall
import Derived.Recover
import Derived.OrdersHeld
set_option linter.unusedVariables false
set_option linter.unusedSectionVars false
set_option linter.unusedSimpArgs false
namespace Go.VE
open Go Go.Proofs
set_option maxRecDepth 100000 in
theorem parse_idle (p q:Addr) (w:World) :
    CallsD Tryz.prog 38 #[.pointer (some p),.pointer (some q)] .returning w fun e u' w'=>e=.returned (.tuple #[])∧u'=.returning∧w'=w:=by
  refine callsD_of_wpS (c:=(Tryz.f38.body.getD .skip)) Tryz.func38 rfl fun c₀ cs hu=>?_
  show (Code.seq (Code.region 0 _ false) _).wpS _ _ _ _ _
  refine wpS_seq (wpS_region ?_)
  simp [wpOpsS,List.range,List.range.loop,Region.wanted,execOp,go_sem,recoverD,hu,Tryz.ntmps38,Exit.thenS,Oper.upon,Act.eval,Act.put]
  show (Code.seq (Code.region 1 _ false) _).wpS _ _ _ _ _
  refine wpS_seq (wpS_region ?_)
  simp [wpOpsS,List.range,List.range.loop,Region.wanted,execOp,go_sem,recoverD,hu,Tryz.ntmps38,Exit.thenS,Oper.upon,Act.eval,Act.put]
  refine wpS_cond (t:=false) (by simp [Act.eval,Array.replicate]) ?_
  simp only [Bool.false_eq_true,if_false]
  refine wpS_of_wp (wp_skip ?_)
  cases c₀
  simp_all [bodyPostS,results,Tryz.results38]
theorem gs_ne {a:Array Value} {i j:Nat} {v d:Value} (h:i≠j):(a.setIfInBounds i v).getD j d=a.getD j d:=by
  simp [Array.getD_eq_getD_getElem?,Array.getElem?_setIfInBounds,h]
theorem gs_eq {a:Array Value} {i:Nat} {v d:Value} (h:i<a.size):(a.setIfInBounds i v).getD i d=v:=by
  simp [Array.getD_eq_getD_getElem?,Array.getElem?_setIfInBounds,h]
abbrev adrT:Ty:=.st (.pair yU (.pair yI (.pair yU (.pair yB (.pair yI .bool)))))
abbrev exT:Ty:=.st (.pair adrT (.pair adrT (.pair .bool (.pair .str (.pair adrT (.pair yU (.pair yI (.pair yB (.pair yB .bool)))))))))
theorem bd27 (w:World):(Instr.build 27 #[]).run Tryz.prog w=.ok (zeroV exT) w:=by kernel_rfl
theorem store_whole {P:Program} {tb:Tab} {t:Nat} {ti:TI} (hs:TySem P tb t ti) {I:Nat→Prop} {w:World} {x:ti.ty.den} {v:Value} (hr:RepV I w ti.ty x v) {b:Nat} {cs:Array Value} {e:Nat} {fr:Nat×Nat}
    (hh:w.heap[b]?=some (.cells cs e fr)) (hn:NoFr fr cs.size) (hsz:cs.size=ti.ty.cells):(Instr.storeAt t (.pointer (some ⟨b,0,none⟩)) v).run P w=.ok () (w.setRow b v.cells):=by
  have hyl:v.cells.toList.length=ti.ty.cells:=hr.list.len
  have hst:=run_storeCells_fr (P:=P) b 0 e fr v.cells.toList 0 cs w hh (by omega) hr.list.oneCell hn
  have hl:cs.toList.drop (0+0+v.cells.toList.length)=[]:=List.drop_eq_nil_of_le (by simp only [Array.length_toList] at hyl ⊢; omega)
  rw [hl] at hst
  simp only [Nat.add_zero,List.take_zero,List.nil_append,List.append_nil,Array.toArray_toList] at hst
  have hz:v.cells.size=ti.ty.cells:=by rw [← Array.length_toList,hyl]
  simp [Instr.storeAt,Instr.sureAddr,storeVar,sizeOf_run hs,hz,hst]

set_option maxRecDepth 100000 in
theorem parse_r5 {bx be r:Nat} {n:Int} {tm:Array Value} (hs:tm.size=19) (h0:tm.getD 0 undef=.pointer (some ⟨bx,0,none⟩)) (h1:tm.getD 1 undef=.pointer (some ⟨be,0,none⟩)) (h3:tm.getD 3 undef=.pointer (some ⟨r,0,none⟩))
    {w:World} (hr:w.heap[r]?=some (.cells #[.int .i64 n] 85 (0,0))) {cx ce:Array Value} {fx fe:Nat×Nat} (hx:w.heap[bx]?=some (.cells cx 27 fx)) (hnx:NoFr fx cx.size) (hzx:cx.size=exT.cells)
    (he:w.heap[be]?=some (.cells ce 30 fe)) (hne:NoFr fe ce.size) (hze:ce.size=1) (hrx:r≠bx) (hre:r≠be) (hxe:bx≠be) (hin:inR .i64 n) :
    (at' (bodyOf Tryz.f38) [1,1,0,1,1]).wp Tryz.prog (fun e a w'=>e=.normal∧a.defers=[]∧w'=((w.drew.setRow bx (zeroV exT).cells).setRow be #[.int .i64 n])) ⟨tm,[]⟩ w:=by
  show (Code.region 5 _ true).wp _ _ _ _
  refine wp_region_held (S:=fun w'=>w'.heap[r]?=some (.cells #[.int .i64 n] 85 (0,0))) tb_M ?_
  refine wpAnyH_take (i:=0) (v:=zeroV exT) rfl (by kernel_rfl) (by kernel_rfl) (by kernel_rfl) (fun c a w h=>by cases h.1) ?_ hr ?_
  · refine .inl ⟨by simp [Region.wanted],fun w' _=>?_⟩
    simp [execOp,bd27]
  refine wpAnyH_take (i:=1) (v:=.pointer (some ⟨r,0,none⟩)) rfl (by kernel_rfl) (by kernel_rfl) (by kernel_rfl) (fun c a w h=>by cases h.1) ?_ hr ?_
  · refine .inl ⟨by simp [Region.wanted],fun w' _=>?_⟩
    have e3:(tm.setIfInBounds 16 (zeroV exT)).getD 3 undef=.pointer (some ⟨r,0,none⟩):=by rw [gs_ne (by omega),h3]
    have hfa:(Instr.fieldAt 85 (.pointer (some ⟨r,0,none⟩)) 0).run Tryz.prog w'=.ok (.pointer (some ⟨r,0,none⟩)) w':=by kernel_rfl
    simp [execOp,Act.eval,Act.put,e3,hfa]
  refine wpAnyH_take (i:=2) (v:=.int .i64 n) rfl (by kernel_rfl) (by kernel_rfl) (by kernel_rfl) (fun c a w h=>by cases h.1) ?_ hr ?_
  · refine .inl ⟨by simp [Region.wanted],fun w' hw'=>?_⟩
    have e17:((tm.setIfInBounds 16 (zeroV exT)).setIfInBounds 17 (.pointer (some ⟨r,0,none⟩))).getD 17 undef=.pointer (some ⟨r,0,none⟩):=gs_eq (by simp [hs])
    have hl:∃ v,(loadVar 30 ⟨r,0,none⟩).run Tryz.prog w'=.ok v w'∧RepV (fun _=>False) w' yI n v:=
      load_run (tb:=tb) tb_ok (t:=30) (ti:=⟨.int .i64,0,[],8⟩) rfl ⟨[.int .i64 n],⟨hin,rfl⟩,fun j u hj=>by
        match j with
        | 0=>simp at hj; subst hj; simp [World.cell?,show w'.heap[r]?=_ from hw']
        | j+1=>simp at hj⟩
    obtain ⟨v,hv1,hv2⟩:=hl
    obtain ⟨_,rfl⟩:=RepV.int_eq hv2
    simp [execOp,Act.eval,Act.put,e17,Instr.loadAt,Instr.sureAddr,hv1]
  refine wpAnyH_all (rs:=[3]) (by kernel_rfl) (by simp) (fun i hi=>?_)
  obtain rfl:i=3:=by simpa using hi
  have f0:(((tm.setIfInBounds 16 (zeroV exT)).setIfInBounds 17 (.pointer (some ⟨r,0,none⟩))).setIfInBounds 18 (.int .i64 n)).getD 0 undef=.pointer (some ⟨bx,0,none⟩):=by rw [gs_ne (by omega),gs_ne (by omega),gs_ne (by omega),h0]
  have f16:(((tm.setIfInBounds 16 (zeroV exT)).setIfInBounds 17 (.pointer (some ⟨r,0,none⟩))).setIfInBounds 18 (.int .i64 n)).getD 16 undef=zeroV exT:=by rw [gs_ne (by omega),gs_ne (by omega),gs_eq (by omega)]
  have f1:(((tm.setIfInBounds 16 (zeroV exT)).setIfInBounds 17 (.pointer (some ⟨r,0,none⟩))).setIfInBounds 18 (.int .i64 n)).getD 1 undef=.pointer (some ⟨be,0,none⟩):=by rw [gs_ne (by omega),gs_ne (by omega),gs_ne (by omega),h1]
  have f18:(((tm.setIfInBounds 16 (zeroV exT)).setIfInBounds 17 (.pointer (some ⟨r,0,none⟩))).setIfInBounds 18 (.int .i64 n)).getD 18 undef=.int .i64 n:=gs_eq (by simp [hs])
  have s3:=store_whole (P:=Tryz.prog) (tb:=tb) (w:=w.drew) ty_27 (I:=fun _=>False) (RepV.zero _ _ exT) (b:=bx) hx hnx hzx
  have s4:=store_whole (P:=Tryz.prog) (tb:=tb) (w:=w.drew.setRow bx (zeroV exT).cells) ty_30 (I:=fun _=>False) (x:=n) (v:=.int .i64 n) (RepV.of_one rfl ⟨hin,rfl⟩) (b:=be) (cs:=ce) (e:=30) (fr:=fe)
    ((setRow_other _ bx be _ (Ne.symm hxe)).trans he) hne hze
  simp only [wpOp]
  simp [Region.wanted,Oper.wp,execOp,Act.eval,Act.put,f0,f16,s3,Oper.upon]
  refine .inl ⟨(setRow_other _ bx r _ hrx).trans hr,?_⟩
  refine wpAnyH_all (rs:=[4]) (by kernel_rfl) (by simp) (fun i hi=>?_)
  obtain rfl:i=4:=by simpa using hi
  simp only [wpOp]
  simp [Region.wanted,Oper.wp,execOp,Act.eval,Act.put,f1,f18,s4,Oper.upon]
  refine .inl ⟨(setRow_other _ be r _ hre).trans ((setRow_other _ bx r _ hrx).trans hr),?_⟩
  exact wpAnyH_done (by kernel_rfl) ⟨rfl,rfl,rfl⟩ _
theorem z85 (w:World):(zeroValue 85).run Tryz.prog w=.ok (.agg #[.int .i64 0]) w:=by kernel_rfl
theorem ta85 (v:Value) (w:World):(Instr.typeAssert (.iface 85 v) 20 85 true).run Tryz.prog w=.ok (.tuple #[v,.bool true]) w:=by kernel_rfl
def caught (w:World) (bx be:Nat) (n:Int):World:=((w.alloc (.cells #[.int .i64 n] 85)).drew.setRow bx (zeroV exT).cells).setRow be #[.int .i64 n]
set_option maxRecDepth 100000 in
theorem parse_catch {bx be:Nat} {n:Int} {w:World} {cx ce:Array Value} {fx fe:Nat×Nat} (hx:w.heap[bx]?=some (.cells cx 27 fx)) (hnx:NoFr fx cx.size) (hzx:cx.size=exT.cells)
    (he:w.heap[be]?=some (.cells ce 30 fe)) (hne:NoFr fe ce.size) (hze:ce.size=1) (hxe:bx≠be) (hin:inR .i64 n) :
    CallsD Tryz.prog 38 #[.pointer (some ⟨bx,0,none⟩),.pointer (some ⟨be,0,none⟩)] (.panicking [{ v:=Glob.pan n,recovered:=false }]) w fun e u' w'=>
      e=.returned (.tuple #[])∧u'=.panicking [{ v:=Glob.pan n,recovered:=true }]∧w'=caught w bx be n:=by
  have hlx:bx<w.heap.size:=by
    rcases Nat.lt_or_ge bx w.heap.size with h | h
    · exact h
    · rw [Array.getElem?_eq_none h] at hx; cases hx
  have hle:be<w.heap.size:=by
    rcases Nat.lt_or_ge be w.heap.size with h | h
    · exact h
    · rw [Array.getElem?_eq_none h] at he; cases he
  refine callsD_of_wpS (c:=(Tryz.f38.body.getD .skip)) Tryz.func38 rfl fun c₀ cs hu=>?_
  show (Code.seq (Code.region 0 _ false) _).wpS _ _ _ _ _
  refine wpS_seq (wpS_region ?_)
  simp [wpOpsS,List.range,List.range.loop,Region.wanted,execOp,go_sem,recoverD,hu,Tryz.ntmps38,Exit.thenS,Oper.upon,Act.eval,Act.put]
  show (Code.seq (Code.region 1 _ false) _).wpS _ _ _ _ _
  refine wpS_seq (wpS_region ?_)
  simp [wpOpsS,List.range,List.range.loop,Region.wanted,execOp,go_sem,hu,Tryz.ntmps38,Exit.thenS,Oper.upon,Act.eval,Act.put,Glob.pan]
  refine wpS_cond (t:=true) (by simp [Act.eval,Array.replicate]) ?_
  simp only [if_true]
  show (Code.seq (Code.region 2 _ false) _).wpS _ _ _ _ _
  refine wpS_seq (wpS_region ?_)
  simp [wpOpsS,List.range,List.range.loop,Region.wanted,execOp,go_sem,hu,Tryz.ntmps38,Exit.thenS,Oper.upon,Act.eval,Act.put,z85,ta85,Instr.alloc]
  show (Code.seq (Code.seq (Code.region 3 _ false) _) _).wpS _ _ _ _ _
  refine wpS_seq (wpS_seq (wpS_region ?_))
  simp [wpOpsS,List.range,List.range.loop,Region.wanted,execOp,go_sem,hu,Tryz.ntmps38,Exit.thenS,Oper.upon,Act.eval,Act.put]
  refine wpS_cond (t:=false) (by simp [Act.eval,Array.replicate]) ?_
  simp only [Bool.false_eq_true,if_false]
  refine wpS_of_wp (wp_skip ?_)
  simp only [Exit.thenS]
  refine wpS_of_wp (wp_mono (parse_r5 (r:=w.heap.size) (by simp) (by simp) (by simp) (by simp) (heap_alloc_new w _) ((heap_alloc_old w _ hlx).trans hx) hnx hzx ((heap_alloc_old w _ hle).trans he) hne hze (by omega) (by omega) hxe hin) ?_)
  rintro e a w' ⟨rfl,hd,rfl⟩
  simp [bodyPostS,results,Tryz.results38,hd]
  rfl
abbrev exZ:ExD:=((0,0,0,[],0,false),(0,0,0,[],0,false),false,[],(0,0,0,[],0,false),0,0,[],[],false)
def q75_P (s:LI):Prop:=q69_P s exZ 0∧∀ n,q69_F s exZ 0=.inr n→inR .i64 n
def q75_F (s:LI):ExD×Int:=match q69_F s exZ 0 with
  | .inl r=>(r.1,r.2.1)
  | .inr n=>(exZ,n)
def q75_A:List AS:=[.v yB]
def q75_C (v:valsA q75_A) (K:Res→List Cell→Prop):Prop:=q75_P v.1∧∀ r:ExD×Int,r=q75_F v.1→K (.tup [.v exT r.1,.v yI r.2]) []
def q75_S:App:=specW q75_A q75_C

theorem getL_allno:∀ {l:List Slot},(∀ x∈l,x=.no)→∀ i,getL l i=.no
  | [],_,0=>rfl
  | [],_,_+1=>rfl
  | x::l,h,0=>h x List.mem_cons_self
  | x::l,h,i+1=>getL_allno (l:=l) (fun y hy=>h y (List.mem_cons_of_mem _ hy)) i
theorem Since.deep {w w2 w':World} {F F':Nat→Prop} (h:Since w2 w' F) (h1:w2.os=w.os) (h2:w2.tape=w.tape) (h3:w2.output=w.output) (hs:w.heap.size≤w2.heap.size)
    (ho:∀ k,k<w.heap.size→w2.heap[k]?=w.heap[k]?) (hF:∀ k,F k→w.heap.size≤k):Since w w' F':=by
  have hb:∀ k,k<w.heap.size→w'.heap[k]?=w.heap[k]?:=fun k hk=>(h.block k (by omega) fun hf=>by have:=hF k hf; omega).trans (ho k hk)
  exact ⟨h.os.trans h1,h.tape.trans h2,h.output.trans h3,by have:=h.size; omega,fun k hk _=>hb k hk,shp_old hb⟩

theorem parse_results {I:Nat→Prop} {tm:Array Value} {w:World} {bx be:Nat} {x:ExD} {n:Int} (h2:tm.getD 2 undef=.pointer (some ⟨bx,0,none⟩)) (h3:tm.getD 3 undef=.pointer (some ⟨be,0,none⟩))
    (hx:Lies I w bx 0 exT x) (he:Lies I w be 0 yI n):∃ v1 v2,(results Tryz.f13 tm).run Tryz.prog w=.ok (.tuple #[v1,v2]) w∧RepV I w exT x v1∧RepV I w yI n v2:=by
  obtain ⟨v1,e1,r1⟩:=load_run (w:=w) (tb:=tb) tb_ok (t:=27) (ti:=⟨exT,0,[],288⟩) rfl hx
  obtain ⟨v2,e2,r2⟩:=load_run (w:=w) (tb:=tb) tb_ok (t:=30) (ti:=⟨.int .i64,0,[],8⟩) rfl he
  refine ⟨v1,v2,?_,r1,r2⟩
  rw [results_eq]
  rw [show Tryz.f13.results=#[.cell 2 27,.cell 3 30] from rfl]
  simp [resSem,h2,h3,asAddr,e1,e2]

set_option maxRecDepth 100000 in
theorem q75_spec (s:LI) {Ok:Res→List Cell→Prop} (hP:q75_P s) (hw:wfA q75_A (s,())) (hK:Ok (.tup [.v exT (q75_F s).1,.v yI (q75_F s).2]) []) :
    CallSpec Tryz.prog 13 (mkA q75_A (s,())) Ok:=by
  intro I w vs bs hI hg ha
  have hlen:=ha.length
  obtain ⟨v,rfl⟩:∃ a,vs=[a]:=by
    match vs,hlen with
    | [a],_=>exact ⟨a,rfl⟩
  obtain ⟨hv,hbs⟩:=ha
  obtain rfl:bs=[]:=by
    cases bs with
    | nil=>rfl
    | cons b bs=>exact hbs.elim
  have hin0:inR .i64 0:=by unfold inR; decide
  let w1:=w.alloc (.cells (zeroV exT).cells 27)
  let w2:=w1.alloc (.cells #[.int .i64 0] 30)
  have hs1:w1.heap.size=w.heap.size+1:=by simp [w1]
  have hs2:w2.heap.size=w.heap.size+2:=by simp [w2,hs1]
  have hold:∀ k,k<w.heap.size→w2.heap[k]?=w.heap[k]?:=fun k hk=>(heap_alloc_old w1 _ (by omega)).trans (heap_alloc_old w _ hk)
  have hbx:w2.heap[w.heap.size]?=some (.cells (zeroV exT).cells 27):=(heap_alloc_old w1 _ (by omega)).trans (heap_alloc_new w _)
  have hbe:w2.heap[w.heap.size+1]?=some (.cells #[.int .i64 0] 30):=by rw [← hs1]; exact heap_alloc_new w1 _
  have ho1:w2.os=w.os:=rfl
  have ho2:w2.tape=w.tape:=rfl
  have ho3:w2.output=w.output:=rfl
  have hkeep:Keeps I I w w2:=⟨fun _ h=>h,fun b hb=>hold b (hI b hb)⟩
  have ha2:ArgsRel I w2 (mkA q69_A (s,exZ,0,())) [v,.pointer (some ⟨w.heap.size,0,none⟩),.pointer (some ⟨w.heap.size+1,0,none⟩)] [w.heap.size,w.heap.size+1]:=by
    refine ⟨hv.keep hkeep,rfl,fun h=>by have:=hI _ h; omega,by omega,by simp,⟨_,27,hbx,(RepV.zero _ _ exT).list⟩,rfl,fun h=>by have:=hI _ h; omega,by omega,by simp,⟨_,30,hbe,⟨hin0,rfl⟩⟩,trivial⟩
  have hrest:∀ (tm:Array Value) (ds:List Deferred) (Q:Exit→Act→World→Prop),tm.size=27→tm.getD 0 undef=v→tm.getD 2 undef=.pointer (some ⟨w.heap.size,0,none⟩)→tm.getD 3 undef=.pointer (some ⟨w.heap.size+1,0,none⟩)→
      (∀ e tm' w',e=.normal∨e=.ret→∀ v',(results Tryz.f13 tm').run Tryz.prog w'=.ok v' w'→Behind I w [] [] Ok v' w'→Q e ⟨tm',ds⟩ w')→
      (∀ n tm' w',q69_F s exZ 0=.inr n→Since w2 w' (fun b=>b∈[w.heap.size,w.heap.size+1])→tm'.getD 2 undef=.pointer (some ⟨w.heap.size,0,none⟩)→tm'.getD 3 undef=.pointer (some ⟨w.heap.size+1,0,none⟩)→
        Q (.panic [{ v:=Glob.pan n,recovered:=false }]) ⟨tm',ds⟩ w')→(at' (bodyOf Tryz.f13) [1,1]).wp Tryz.prog Q ⟨tm,ds⟩ w2:=by
    intro tm ds Q hs h0 h2 h3 hQ hPn
    refine runR_ok (tb:=tb) (fn:=Tryz.f13) (ws:=[true,true]) (ps:=[(2,15),(3,23)])
      (ts:=[.v yB s,.no,.box 15 [],.box 23 [],.no,.no,.no,.no,.no,.no,.no,.no,.no,.no,.no,.no,.no,.no,.no,.no,.no,.no,.no,.no,.no,.no,.no])
      (args:=mkA q69_A (s,exZ,0,()))
      (K:=fun r _=>(∃ q,q69_F s exZ 0=.inl q∧r=.tup [.v exT q.1,.v yI q.2.1])∨∃ n,q69_F s exZ 0=.inr n∧r=.pan n)
      tb_ok (ex_sound tb_M tb_ok q69_Gok LabsOk.nil (at' (bodyOf Tryz.f13) [1,1]) [1,1] rfl (by kernel_rfl)) ?_ (I:=I) (w:=w2) (fun b hb=>by have:=hI b hb; omega) (Glob.keep hkeep hg) ha2 hs ?_ ?_ ?_
    · exact (q69_walk s exZ 0 _).mpr (q69_sp s exZ 0 _ (ArgsRel.wf _ _ ha2) hP.1 (fun r hr=>.inl ⟨r,hr,rfl⟩) (fun n hn=>.inr ⟨n,hn,rfl⟩))
    · intro i
      match i with
      | 0=>exact .inr ⟨0,rfl,h0⟩
      | 1=>exact .inl rfl
      | 2=>exact .inr ⟨1,rfl,h2⟩
      | 3=>exact .inr ⟨2,rfl,h3⟩
      | i+4=>exact .inl (getL_allno (l:=[.no,.no,.no,.no,.no,.no,.no,.no,.no,.no,.no,.no,.no,.no,.no,.no,.no,.no,.no,.no,.no,.no,.no]) (by simp) i)
    · intro e tm' w' he v' hr hb
      refine hQ e tm' w' he v' hr ?_
      obtain ⟨res,outs,J,fb,hk,hsn,hJ,hfb,hres,houts⟩:=hb
      have hnw:∀ b,Nw w2 [w.heap.size,w.heap.size+1] (refsOf (mkA q69_A (s,exZ,0,())) [w.heap.size,w.heap.size+1]) b→Nw w [] [] b:=fun b hb=>.inl (by
        rcases hb with h | ⟨h,_⟩
        · omega
        · simp at h; omega)
      refine ⟨res,[],J,fb,?_,hsn.deep rfl rfl rfl (by omega) hold (fun k hk=>by simp at hk; omega),fun b hb=>⟨hnw b (hJ b hb).1,(hJ b hb).2⟩,fun i b hb=>⟨hnw b (hfb i b hb).1,(hfb i b hb).2⟩,hres,trivial⟩
      rcases hk with ⟨q,hq,rfl⟩ | ⟨n,_,rfl⟩
      · have hF:q75_F s=(q.1,q.2.1):=by unfold q75_F; rw [hq]
        rw [hF] at hK; exact hK
      · exact hres.elim
    · intro n tm' w' hk hsn hpin
      rcases hk with ⟨q,_,h⟩ | ⟨n',hn,h⟩
      · cases h
      · injection h with h; subst h
        exact hPn n tm' w' hn hsn (hpin 2 15 _ (by simp) rfl) (hpin 3 23 _ (by simp) rfl)
  refine calls_of_wp_defers (c:=(Tryz.f13.body.getD .skip)) Tryz.func13 rfl ?_
  show (Code.seq (Code.region 0 _ false) (Code.seq (Code.region 1 _ false) (at' (bodyOf Tryz.f13) [1,1]))).wp _ _ _ _
  generalize at' (bodyOf Tryz.f13) [1,1]=REST at hrest ⊢
  have z27:(zeroValue 27).run Tryz.prog w=.ok (zeroV exT) w:=zero_run ty_27 w
  have z30:(zeroValue 30).run Tryz.prog w1=.ok (.int .i64 0) w1:=zero_run ty_30 w1
  refine wp_seq (wp_region ?_)
  simp [wpOps,List.range,List.range.loop,Oper.wp,Region.wanted,execOp,go_sem,Oper.upon,Act.eval,Act.put,Tryz.ntmps13,Instr.alloc,Exit.then]
  refine .inl (.inl ?_)
  show (Code.seq (Code.region 1 _ false) REST).wp _ _ _ w2
  clear_value w2 w1
  refine wp_seq (wp_region ?_)
  have mk:∀ (w:World) (a b:Value),(Instr.makeFunc (.func 38) #[] #[a,b]).run Tryz.prog w=.ok (.func (.func 38) #[] #[a,b]) w:=fun _ _ _=>rfl
  simp [wpOps,List.range,List.range.loop,Oper.wp,Region.wanted,execOp,go_sem,Oper.upon,Act.eval,Act.put,Exit.then,mk]
  try refine .inl (.inl ?_)
  refine hrest _ _ _ ?_ ?_ ?_ ?_ ?_ ?_
  · simp
  · simp
  · simp
  · simp
  · intro e tm' w' he v' hr hb
    have hl:Leaves Tryz.prog Tryz.f13 tm' (fun e w'=>Ends I w [] (refsOf (mkA q75_A (s,())) []) Ok e w') [{ target:=.fn (.func 38) #[.pointer (some ⟨w.heap.size,0,none⟩),.pointer (some ⟨w.heap.size+1,0,none⟩)],args:=#[] }] .returning w':=by
      refine leaves_cons (f:=38) (args:=#[.pointer (some ⟨w.heap.size,0,none⟩),.pointer (some ⟨w.heap.size+1,0,none⟩)]) (by simp) (by simp [go_sem]) ((parse_idle _ _ w').mono ?_)
      rintro e u' w'' ⟨rfl,rfl,rfl⟩
      exact ⟨v',hr,.inl ⟨v',rfl,hb⟩⟩
    rcases he with rfl | rfl
    · exact hl
    · exact hl
  · intro n tm' w' hn hsn h2 h3
    obtain ⟨cx,fx,gx,zx,nx⟩:=hsn.shape w.heap.size _ 27 _ hbx rfl (.inl rfl)
    obtain ⟨ce,fe,ge,ze,ne⟩:=hsn.shape (w.heap.size+1) _ 30 _ hbe rfl (.inl rfl)
    have hin:=hP.2 n hn
    show Leaves Tryz.prog Tryz.f13 tm' (fun e w'=>Ends I w [] (refsOf (mkA q75_A (s,())) []) Ok e w') [{ target:=.fn (.func 38) #[.pointer (some ⟨w.heap.size,0,none⟩),.pointer (some ⟨w.heap.size+1,0,none⟩)],args:=#[] }] (.panicking [{ v:=Glob.pan n,recovered:=false }]) w'
    refine leaves_cons (f:=38) (args:=#[.pointer (some ⟨w.heap.size,0,none⟩),.pointer (some ⟨w.heap.size+1,0,none⟩)]) (by simp) (by simp [go_sem])
      ((parse_catch gx nx (zx.trans rfl) ge ne (ze.trans rfl) (by omega) hin).mono ?_)
    rintro e u' w'' ⟨rfl,rfl,rfl⟩
    show Leaves Tryz.prog Tryz.f13 tm' (fun e w'=>Ends I w [] (refsOf (mkA q75_A (s,())) []) Ok e w') [] .returning (caught w' w.heap.size (w.heap.size+1) n)
    have hsz:=hsn.size
    have q1:((w'.alloc (.cells #[.int .i64 n] 85)).drew).heap[w.heap.size]?=some (.cells cx 27 fx):=(heap_alloc_old w' _ (by omega)).trans gx
    have q2:(((w'.alloc (.cells #[.int .i64 n] 85)).drew).setRow w.heap.size (zeroV exT).cells).heap[w.heap.size+1]?=some (.cells ce 30 fe):=(setRow_other _ _ _ _ (by omega)).trans ((heap_alloc_old w' _ (by omega)).trans ge)
    have c1:(caught w' w.heap.size (w.heap.size+1) n).heap[w.heap.size]?=some (.cells (zeroV exT).cells 27 fx):=(setRow_other _ _ _ _ (by omega)).trans (setRow_heap _ _ _ _ _ _ q1)
    have c2:(caught w' w.heap.size (w.heap.size+1) n).heap[w.heap.size+1]?=some (.cells #[.int .i64 n] 30 fe):=setRow_heap _ _ _ _ _ _ q2
    have hcold:∀ k,k<w.heap.size→(caught w' w.heap.size (w.heap.size+1) n).heap[k]?=w.heap[k]?:=fun k hk=>
      (setRow_other _ _ _ _ (by omega)).trans ((setRow_other _ _ _ _ (by omega)).trans ((heap_alloc_old w' _ (by omega)).trans ((hsn.block k (by omega) (by simp; omega)).trans (hold k hk))))
    obtain ⟨v1,v2,hres,r1,r2⟩:=parse_results (I:=orP I fun _=>False) (w:=caught w' w.heap.size (w.heap.size+1) n) (x:=exZ) (n:=n) h2 h3
      ⟨_,(RepV.zero _ _ exT).list,fun j u hj=>by rw [Nat.zero_add]; simp only [World.cell?,c1]; rw [Array.getElem?_toList] at hj; exact hj⟩
      ⟨_,⟨hin,rfl⟩,fun j u hj=>by rw [Nat.zero_add]; simp only [World.cell?,c2]; simpa using hj⟩
    refine ⟨_,hres,.inl ⟨_,rfl,_,[],fun _=>False,[none,none],hK,?_,fun b hb=>hb.elim,fun i b hb=>?_,?_,trivial⟩⟩
    · exact ⟨hsn.os.trans ho1,hsn.tape.trans ho2,hsn.output.trans ho3,by
          show w.heap.size≤(caught w' w.heap.size (w.heap.size+1) n).heap.size
          have:(caught w' w.heap.size (w.heap.size+1) n).heap.size=w'.heap.size+1:=by simp [caught]
          omega,fun k hk _=>hcold k hk,shp_old hcold⟩
    · match i with
      | 0=>cases hb
      | 1=>cases hb
      | i+2=>cases hb
    · have hF:q75_F s=(exZ,n):=by unfold q75_F; rw [hn]
      rw [hF]
      refine ⟨_,rfl,rfl,rfl,fun i x u b hx hu hb=>?_⟩
      match i with
      | 0=>cases hx; cases hu; cases hb; exact ⟨rfl,r1⟩
      | 1=>cases hx; cases hu; cases hb; exact ⟨rfl,r2⟩
      | i+2=>cases hx
theorem q75_ok:AppOk Tryz.prog 13 q75_S:=by
  refine AppOk.specW fun ags K hs=>?_
  obtain ⟨v,rfl,hP,hK⟩:=rdA_of _ ags _ hs
  obtain ⟨s,⟨⟩⟩:=v
  exact Meets.when (p:=wfA q75_A (s,())) (fun I w vs bs ha=>ArgsRel.wf _ _ ha) fun hw=>.inl ⟨enters_of Tryz.func13 (by kernel_rfl),q75_spec s hP hw (hK _ rfl)⟩

end Go.VE
namespace Go.VE
def bk (l:LI):LI:=l.drop (bls l)
def tk (b:Int):LI→Bool×LI
  | []=>(false,[])
  | c::r=>if c=b then (true,r) else (false,c::r)
def rg (dg:Bool) (l:LI):Int×LI:=match bk l with
  | []=>(0,[])
  | c::r=>if c=0∨q95_F c=false∨(isDg c=true∧dg=false) then (0,c::r) else (c,r)
def cnM (l:LI):Rd Int:=if isDg ((bk l).headD 0)=true then (if cnt 0 (bk l)=0 then .inr 240 else .inl (cnt 0 (bk l),(bk l).drop (dgs (bk l)))) else .inl (0,bk l)
def ptM (l:LI):Rd (LI×Bool):=if clo l 47<l.length then .inl ((l.take (clo l 47),true),l.drop (clo l 47+1)) else if alo l=true then .inr 240 else .inl ((l,false),[])
def gvM (l:LI):Rd Adr:=match adM (bk l) with
  | .inr e=>.inr e
  | .inl (a,r)=>if a.2.2.2.2.2=true then .inl (a,r) else .inr 240

def pos (s l:LI):LI×Int:=(s,(s.length:Int) - l.length)
def toS {α:Type} (s:LI):Rd α→(α×(LI×Int))⊕Int
  | .inl (a,r)=>.inl (a,pos s r)
  | .inr e=>.inr e
theorem bk_suf (l:LI):bk l <:+ l:=List.drop_suffix _ _
theorem bk_len (l:LI):(bk l).length=l.length - bls l:=List.length_drop
section
variable {s l:LI}
theorem pos_nat (h:l <:+ s):pos s l=(s,((s.length - l.length:Nat):Int)):=by
  have:=suf_len h
  unfold pos
  rw [show ((s.length:Int) - l.length)=((s.length - l.length:Nat):Int) by omega]
theorem pos_drop (h:l <:+ s):(pos s l).1.drop (pos s l).2.toNat=l:=by
  rw [pos_nat h]; exact drop_suf h
theorem blanks_s (h:l <:+ s):q19_P (pos s l)∧q19_F (pos s l)=pos s (bk l):=by
  have h1:=suf_len h
  have h2:=bls_le l
  refine ⟨⟨show 0≤(s.length:Int) - l.length by omega,show (s.length:Int) - l.length≤s.length by omega⟩,?_⟩
  unfold q19_F
  rw [pos_drop h]
  show (s,(s.length:Int) - l.length+(bls l:Int))=(s,(s.length:Int) - (bk l).length)
  rw [bk_len]
  congr 1
  omega
theorem ended_s (h:l <:+ s):q22_F (pos s l)=decide (l=[]):=by
  have h1:=suf_len h
  show decide ((s.length:Int)≤(s.length:Int) - l.length)=_
  cases l with
  | nil=>simp
  | cons c r=>rw [decide_eq_false (by simp only [List.length_cons]; omega),decide_eq_false (by simp)]
theorem next_s (h:l <:+ s):q28_P (pos s l)∧q28_F (pos s l)=l.headD 0:=by
  have h1:=suf_len h
  have:=exNext s (s.length - l.length) (by omega)
  rw [drop_suf h] at this
  rw [pos_nat h]; exact this
theorem takes_s (h:l <:+ s) (hs:s.length≤lim) (b:Int):q23_P (pos s l) b∧q23_F (pos s l) b=((tk b l).1,pos s (tk b l).2):=by
  have h1:=suf_len h
  have:=exTakes s (s.length - l.length) b (by omega) hs
  rw [drop_suf h] at this
  refine ⟨by rw [pos_nat h]; exact this.1,?_⟩
  rw [pos_nat h,this.2]
  cases l with
  | nil=>exact (congrArg (Prod.mk false) (pos_nat h)).symm
  | cons c r=>
    simp only [List.length_cons] at h1
    unfold tk
    dsimp only
    split
    · show (true,_)=(true,pos s r)
      unfold pos
      rw [List.length_cons,show ((s.length - (r.length+1)+1:Nat):Int)=(s.length:Int) - r.length by omega]
    · exact (congrArg (Prod.mk false) (pos_nat h)).symm
theorem tk_cons (b c:Int) (r:LI):tk b (c::r)=if c=b then (true,r) else (false,c::r):=rfl
theorem tk_suf (b:Int) (l:LI):(tk b l).2 <:+ l:=by
  cases l with
  | nil=>exact List.suffix_refl _
  | cons c r=>
    rw [tk_cons]
    split
    · exact List.suffix_cons _ _
    · exact List.suffix_refl _
theorem end_s (h:l <:+ s):q36_P (pos s l)∧q36_F (pos s l)=if bk l=[] then .inl (pos s []) else .inr 240:=by
  obtain ⟨hp,hf⟩:=blanks_s h
  refine ⟨hp,?_⟩
  unfold q36_F
  rw [hf]
  dsimp only
  rw [ended_s ((bk_suf l).trans h)]
  by_cases c:bk l=[]
  · rw [c]; rfl
  · rw [if_neg c,decide_eq_false c]; rfl
theorem address_s (h:l <:+ s) (hs:s.length≤lim):q16_P (pos s l)∧q16_F (pos s l)=toS s (adM l):=by
  have h1:=suf_len h
  have hlim:lim=1099511627776:=rfl
  obtain ⟨hp,hf⟩:=address_eq l (by omega)
  have hd:=pos_drop h
  refine ⟨⟨⟨show 0≤(s.length:Int) - l.length by omega,show (s.length:Int) - l.length≤s.length by omega⟩,by rw [hd]; exact hp⟩,?_⟩
  unfold q16_F
  rw [hd,hf]
  cases ha:adM l with
  | inr e=>
    have:=adM_err _ ha
    subst this; rfl
  | inl p=>
    obtain ⟨a,r⟩:=p
    have h2:=suf_len (adM_suf l ha)
    show Sum.inl (a,(s,IntKind.wrap .i64 ((s.length:Int) - l.length+((l.length:Int) - r.length))))=Sum.inl (a,(s,(s.length:Int) - r.length))
    rw [wrap_i64 (by omega) (by omega),show (s.length:Int) - l.length+((l.length:Int) - r.length)=(s.length:Int) - r.length by omega]
theorem digit_s (b:Int):q74_F b=isDg b:=exDigit b
theorem register_s (h:l <:+ s) (hs:s.length≤lim) (dg:Bool):q10_P (pos s l) dg∧q10_F (pos s l) dg=((rg dg l).1,pos s (rg dg l).2):=by
  have hlim:lim=1099511627776:=rfl
  obtain ⟨hp,hf⟩:=blanks_s h
  have hb:=(bk_suf l).trans h
  have h1:=suf_len hb
  obtain ⟨np,nf⟩:=next_s hb
  unfold q10_P q10_F rg
  simp only [hf,nf,digit_s]
  refine ⟨⟨hp,np⟩,?_⟩
  cases hbk:bk l with
  | nil=>rfl
  | cons c r=>
    rw [hbk] at h1
    simp only [List.length_cons] at h1
    have hw:(((pos s (c::r)).1,IntKind.wrap .i64 ((pos s (c::r)).2+1)):LI×Int)=pos s r:=by
      show (s,IntKind.wrap .i64 ((s.length:Int) - (c::r).length+1))=(s,(s.length:Int) - r.length)
      rw [List.length_cons,wrap_i64 (by omega) (by omega),show (s.length:Int) - ((r.length+1:Nat):Int)+1=(s.length:Int) - r.length by omega]
    rw [show (c::r).headD 0=c from rfl]
    dsimp only
    rw [hw]
    by_cases c0:c=0
    · rw [decide_eq_true c0,if_pos (.inl c0)]; rfl
    · rw [decide_eq_false c0]
      cases hv:q95_F c
      · rw [if_pos (.inr (.inl rfl))]; rfl
      · cases hg:isDg c
        · rw [if_neg (by simp [c0])]; rfl
        · cases dg
          · rw [if_pos (by simp)]; rfl
          · rw [if_neg (by simp [c0])]; rfl
theorem rg_suf (dg:Bool) (l:LI):(rg dg l).2 <:+ l:=by
  have h:=bk_suf l
  unfold rg
  split
  · exact List.nil_suffix
  · rename_i c r hb
    rw [hb] at h
    split
    · exact h
    · exact (List.suffix_cons _ _).trans h
theorem count_s (h:l <:+ s) (hs:s.length≤lim):q24_P (pos s l)∧q24_F (pos s l)=toS s (cnM l):=by
  have hlim:lim=1099511627776:=rfl
  obtain ⟨hp,hf⟩:=blanks_s h
  have hb:=(bk_suf l).trans h
  have h1:=suf_len hb
  obtain ⟨np,nf⟩:=next_s hb
  have hd:=pos_drop hb
  have hdl:=dgs_le (bk l)
  unfold q24_P q24_F cnM
  simp only [hf,nf,digit_s]
  refine ⟨⟨hp,np,?_⟩,?_⟩
  · refine brb (fun _=>trivial) (fun _=>⟨by omega,by omega,show 0≤(s.length:Int) - (bk l).length by omega,show (s.length:Int) - (bk l).length≤s.length by omega,hs⟩)
  · cases hg:isDg ((bk l).headD 0)
    · rfl
    · rw [if_pos rfl]
      unfold q24_L0_F
      dsimp only
      rw [hd]
      by_cases c0:cnt 0 (bk l)=0
      · rw [decide_eq_true c0,if_pos c0]; rfl
      · rw [decide_eq_false c0,if_neg c0]
        show Sum.inl (_,(s,(s.length:Int) - (bk l).length+(dgs (bk l):Int)))=Sum.inl (_,(s,(s.length:Int) - ((bk l).drop (dgs (bk l))).length))
        rw [List.length_drop,show (s.length:Int) - (bk l).length+(dgs (bk l):Int)=(s.length:Int) - (((bk l).length - dgs (bk l):Nat):Int) by omega]
theorem cnM_suf {l:LI} {n:Int} {r:LI} (h:cnM l=.inl (n,r)):r <:+ l:=by
  unfold cnM at h
  split at h
  · split at h
    · cases h
    · cases h; exact (List.drop_suffix _ _).trans (bk_suf l)
  · cases h; exact bk_suf l
end
end Go.VE
namespace Go.VE
abbrev exB (a b:Adr) (w:Bool):ExD:=(a,b,w,[],adr0,0,0,[],[],false)
def rpM (a b:Adr) (w:Bool) (l:LI):Rd ExD:=match tk 47 l with
  | (false,_)=>.inr 240
  | (true,r)=>match ptM r with
    | .inr e=>.inr e
    | .inl ((_,false),_)=>.inr 240
    | .inl ((old,true),t)=>match ptM t with
      | .inr e=>.inr e
      | .inl ((new,true),u)=>.inl ((a,b,w,[115],adr0,0,0,old,new,(tk 103 u).1),(tk 103 u).2)
      | .inl ((new,false),u)=>.inl ((a,b,w,[115],adr0,0,0,old,new,false),u)
def cmM (a b:Adr) (w:Bool):LI→Rd ExD
  | []=>.inr 240
  | c::r=>
    if c=100∨c=121 then (match cnM (rg false r).2 with
      | .inl (n,t)=>.inl ((a,b,w,[c],adr0,(rg false r).1,n,[],[],false),t)
      | .inr e=>.inr e)
    else if c=112 then (match tk 117 r with
      | (false,_)=>.inr 240
      | (true,r)=>.inl ((a,b,w,if (tk 33 r).1=true then [112,117,33] else [112,117],adr0,(rg true (tk 33 r).2).1,0,[],[],false),(rg true (tk 33 r).2).2))
    else if c=106 then (match cnM (tk 33 r).2 with
      | .inl (n,t)=>.inl ((a,b,w,if (tk 33 r).1=true then [106,33] else [106],adr0,0,n,[],[],false),t)
      | .inr e=>.inr e)
    else if c=62∨c=60 then .inl ((a,b,w,[c],adr0,0,if 9999<1+(reps c r:Int) then 9999 else 1+(reps c r:Int),[],[],false),r.drop (reps c r))
    else if c=99 then (match tk 111 r with
      | (false,_)=>.inr 240
      | (true,r)=>match gvM r with
        | .inl (d,t)=>.inl ((a,b,w,[116],d,0,0,[],[],false),t)
        | .inr e=>.inr e)
    else if c=116∨c=109 then (match gvM r with
      | .inl (d,t)=>.inl ((a,b,w,[c],d,0,0,[],[],false),t)
      | .inr e=>.inr e)
    else if c=115 then rpM a b w r
    else .inr 240
theorem cmM_cons (a b:Adr) (w:Bool) (c:Int) (r:LI):cmM a b w (c::r) =
    if c=100∨c=121 then (match cnM (rg false r).2 with
      | .inl (n,t)=>.inl ((a,b,w,[c],adr0,(rg false r).1,n,[],[],false),t)
      | .inr e=>.inr e)
    else if c=112 then (match tk 117 r with
      | (false,_)=>.inr 240
      | (true,r)=>.inl ((a,b,w,if (tk 33 r).1=true then [112,117,33] else [112,117],adr0,(rg true (tk 33 r).2).1,0,[],[],false),(rg true (tk 33 r).2).2))
    else if c=106 then (match cnM (tk 33 r).2 with
      | .inl (n,t)=>.inl ((a,b,w,if (tk 33 r).1=true then [106,33] else [106],adr0,0,n,[],[],false),t)
      | .inr e=>.inr e)
    else if c=62∨c=60 then .inl ((a,b,w,[c],adr0,0,if 9999<1+(reps c r:Int) then 9999 else 1+(reps c r:Int),[],[],false),r.drop (reps c r))
    else if c=99 then (match tk 111 r with
      | (false,_)=>.inr 240
      | (true,r)=>match gvM r with
        | .inl (d,t)=>.inl ((a,b,w,[116],d,0,0,[],[],false),t)
        | .inr e=>.inr e)
    else if c=116∨c=109 then (match gvM r with
      | .inl (d,t)=>.inl ((a,b,w,[c],d,0,0,[],[],false),t)
      | .inr e=>.inr e)
    else if c=115 then rpM a b w r
    else .inr 240:=rfl
def toC (s:LI):Rd ExD→((LI×Int)×ExD)⊕Int
  | .inl (x,r)=>.inl (pos s r,x)
  | .inr e=>.inr e
theorem idE {α β:Type} (z:(α×β)⊕Int):Sum.elim (fun q:α×β=>(Sum.inl (q.1,q.2):(α×β)⊕Int)) (fun q=>Sum.inr q) z=z:=by cases z <;> rfl
section
variable {s l:LI}
theorem given_s (h:l <:+ s) (hs:s.length≤lim):q25_P (pos s l)∧q25_F (pos s l)=toS s (gvM l):=by
  obtain ⟨hp,hf⟩:=blanks_s h
  obtain ⟨ap,af⟩:=address_s ((bk_suf l).trans h) hs
  unfold q25_P q25_F gvM
  simp only [hf,af]
  refine ⟨⟨hp,ap⟩,?_⟩
  rcases adM (bk l) with ⟨a,r⟩ | e
  · obtain ⟨a1,a2,a3,a4,a5,g⟩:=a
    cases g <;> rfl
  · rfl
theorem gvM_suf {l:LI} {a:Adr} {r:LI} (h:gvM l=.inl (a,r)):r <:+ l:=by
  unfold gvM at h
  split at h
  · cases h
  · rename_i b t hb
    split at h
    · cases h; exact (adM_suf _ hb).trans (bk_suf l)
    · cases h
theorem ptM_suf {l:LI} {a:LI×Bool} {r:LI} (h:ptM l=.inl (a,r)):r <:+ l:=by
  unfold ptM at h
  split at h
  · cases h; exact List.drop_suffix _ _
  · split at h
    · cases h
    · cases h; exact List.nil_suffix
theorem part_s (h:l <:+ s) (hs:s.length≤lim):q29_P (pos s l)∧q29_F (pos s l)=(match ptM l with | .inl ((t,b),r)=>.inl (t,b,pos s r) | .inr e=>.inr e):=by
  have hlim:lim=1099511627776:=rfl
  have h1:=suf_len h
  have hd:=pos_drop h
  have hc:=clo_le l 47
  have lp:q29_L1_P (pos s l).2 (pos s l):=⟨rfl,show 0≤(s.length:Int) - l.length by omega,show (s.length:Int) - l.length≤s.length by omega,hs⟩
  unfold q29_P q29_F q29_L1_F ptM
  rw [hd]
  by_cases h2:clo l 47<l.length
  · rw [if_pos h2,if_pos h2]
    refine ⟨⟨lp,trivial⟩,?_⟩
    show Sum.inl (_,true,(s,(s.length:Int) - l.length+(clo l 47:Int)+1))=Sum.inl (_,true,(s,(s.length:Int) - (l.drop (clo l 47+1)).length))
    rw [List.length_drop,show (s.length:Int) - l.length+(clo l 47:Int)+1=(s.length:Int) - ((l.length - (clo l 47+1):Nat):Int) by omega]
  · rw [if_neg h2,if_neg h2]
    cases ha:alo l
    · refine ⟨⟨lp,⟨show 0≤(s.length:Int) - l.length by omega,show (s.length:Int) - l.length≤s.length by omega⟩,?_⟩,?_⟩
      · show (((pos s l).1.drop (pos s l).2.toNat).length≤lim); rw [hd]; omega
      · show Sum.inl ((pos s l).1.drop (pos s l).2.toNat,false,(s,(s.length:Int)))=Sum.inl (l,false,(s,(s.length:Int) - (([]:LI).length:Int)))
        rw [hd]; simp
    · exact ⟨⟨lp,trivial⟩,rfl⟩
theorem replacing_s (h:l <:+ s) (hs:s.length≤lim) (a b:Adr) (w:Bool):q8_P (pos s l) (exB a b w)∧q8_F (pos s l) (exB a b w)=toC s (rpM a b w l):=by
  obtain ⟨tp,tf⟩:=takes_s h hs 47
  have ht:=(tk_suf 47 l).trans h
  obtain ⟨pp,pf⟩:=part_s ht hs
  -- the second part
  have two:∀ (old:LI) (t:LI),t <:+ s→q8_J0_P old (pos s t) (a,b,w,[115],adr0,0,0,[],[],false)∧
      q8_J0_F old (pos s t) (a,b,w,[115],adr0,0,0,[],[],false)=toC s (match ptM t with
      | .inr e=>.inr e
      | .inl ((new,true),u)=>.inl ((a,b,w,[115],adr0,0,0,old,new,(tk 103 u).1),(tk 103 u).2)
      | .inl ((new,false),u)=>.inl ((a,b,w,[115],adr0,0,0,old,new,false),u)):=by
    intro old t ht
    obtain ⟨qp,qf⟩:=part_s ht hs
    unfold q8_J0_P q8_J0_F
    rw [qf]
    cases hq:ptM t with
    | inr e=>exact ⟨⟨qp,trivial⟩,rfl⟩
    | inl q=>
      obtain ⟨⟨new,ok⟩,u⟩:=q
      cases ok
      · exact ⟨⟨qp,trivial⟩,rfl⟩
      · obtain ⟨gp,gf⟩:=takes_s ((ptM_suf hq).trans ht) hs 103
        refine ⟨⟨qp,gp⟩,?_⟩
        simp only [Sum.elim_inl,gf,cond_true]
        rfl
  have one:q8_J1_P (pos s (tk 47 l).2) (a,b,w,[115],adr0,0,0,[],[],false)∧
      q8_J1_F (pos s (tk 47 l).2) (a,b,w,[115],adr0,0,0,[],[],false)=toC s (match ptM (tk 47 l).2 with
    | .inr e=>.inr e
    | .inl ((_,false),_)=>.inr 240
    | .inl ((old,true),t)=>match ptM t with
      | .inr e=>.inr e
      | .inl ((new,true),u)=>.inl ((a,b,w,[115],adr0,0,0,old,new,(tk 103 u).1),(tk 103 u).2)
      | .inl ((new,false),u)=>.inl ((a,b,w,[115],adr0,0,0,old,new,false),u)):=by
    unfold q8_J1_P q8_J1_F
    rw [pf]
    cases hq:ptM (tk 47 l).2 with
    | inr e=>exact ⟨⟨pp,trivial⟩,rfl⟩
    | inl q=>
      obtain ⟨⟨old,ok⟩,t⟩:=q
      cases ok
      · exact ⟨⟨pp,trivial⟩,rfl⟩
      · obtain ⟨gp,gf⟩:=two old t ((ptM_suf hq).trans ht)
        refine ⟨⟨pp,gp⟩,?_⟩
        simp only [Sum.elim_inl,gf,Bool.not_true,cond_false]
        rcases ptM t with ⟨⟨new,ok⟩,u⟩ | e
        · cases ok <;> rfl
        · rfl
  unfold q8_P q8_F rpM
  rw [tf]
  cases hk:tk 47 l with
  | mk ok r=>
    rw [hk] at one
    cases ok
    · exact ⟨⟨tp,trivial⟩,rfl⟩
    · refine ⟨⟨tp,one.1⟩,?_⟩
      show Sum.elim (fun q:(LI×Int)×ExD=>Sum.inl (q.1,q.2)) (fun q=>Sum.inr q) (q8_J1_F (pos s r) (a,b,w,[115],adr0,0,0,[],[],false))=_
      rw [idE,one.2]
theorem command_s (c:Int) (r:LI) (h:c::r <:+ s) (hs:s.length≤lim) (a b:Adr) (w:Bool):q17_P (pos s (c::r)) (exB a b w)∧q17_F (pos s (c::r)) (exB a b w)=toC s (cmM a b w (c::r)):=by
  have hlim:lim=1099511627776:=rfl
  have h1:=suf_len h
  simp only [List.length_cons] at h1
  have hr:r <:+ s:=(List.suffix_cons _ _).trans h
  obtain ⟨np,nf⟩:=next_s h
  have hw:(((pos s (c::r)).1,IntKind.wrap .i64 ((pos s (c::r)).2+1)):LI×Int)=pos s r:=by
    show (s,IntKind.wrap .i64 ((s.length:Int) - (c::r).length+1))=(s,(s.length:Int) - r.length)
    rw [List.length_cons,wrap_i64 (by omega) (by omega),show (s.length:Int) - ((r.length+1:Nat):Int)+1=(s.length:Int) - r.length by omega]
  have J4:q17_J4_P c c (decide (c=100) || decide (c=121)) (pos s r) (exB a b w)∧q17_J4_F c c (decide (c=100) || decide (c=121)) (pos s r) (exB a b w)=toC s (cmM a b w (c::r)):=by
    rw [cmM_cons]
    unfold q17_J4_P q17_J4_F
    by_cases cd:c=100∨c=121
    · rw [if_pos cd,show (decide (c=100) || decide (c=121))=true by rcases cd with h | h <;> simp [h]]
      obtain ⟨rp,rf⟩:=register_s hr hs false
      obtain ⟨cp,cf⟩:=count_s ((rg_suf false r).trans hr) hs
      simp only [rf,cf,cond_true]
      refine ⟨⟨rp,cp⟩,?_⟩
      rcases cnM (rg false r).2 with ⟨n,t⟩ | e <;> rfl
    have cd1:¬ c=100:=fun h=>cd (.inl h)
    have cd2:¬ c=121:=fun h=>cd (.inr h)
    rw [if_neg cd,show (decide (c=100) || decide (c=121))=false by simp [cd1,cd2]]
    by_cases c2:c=112
    · rw [if_pos c2,decide_eq_true c2]
      obtain ⟨tp,tf⟩:=takes_s hr hs 117
      have ht:=(tk_suf 117 r).trans hr
      have j0:q17_J0_P (pos s (tk 117 r).2) (exB a b w)∧q17_J0_F (pos s (tk 117 r).2) (exB a b w)=(pos s (rg true (tk 33 (tk 117 r).2).2).2,(a,b,w,if (tk 33 (tk 117 r).2).1=true then [112,117,33] else [112,117],adr0,(rg true (tk 33 (tk 117 r).2).2).1,0,[],[],false)):=by
        obtain ⟨qp,qf⟩:=takes_s ht hs 33
        obtain ⟨rp,rf⟩:=register_s ((tk_suf 33 _).trans ht) hs true
        unfold q17_J0_P q17_J0_F
        simp only [qf,rf]
        cases (tk 33 (tk 117 r).2).1
        · exact ⟨⟨qp,rp⟩,rfl⟩
        · exact ⟨⟨qp,rp⟩,rfl⟩
      simp only [tf,cond_true,cond_false]
      rcases hk:tk 117 r with ⟨ok,t⟩
      rw [hk] at j0
      cases ok
      · exact ⟨⟨tp,trivial⟩,rfl⟩
      · refine ⟨⟨tp,j0.1⟩,?_⟩
        simp only [j0.2,Bool.not_true,cond_false]
        rfl
    rw [if_neg c2,decide_eq_false c2]
    by_cases c3:c=106
    · rw [if_pos c3,decide_eq_true c3]
      obtain ⟨tp,tf⟩:=takes_s hr hs 33
      obtain ⟨cp,cf⟩:=count_s ((tk_suf 33 r).trans hr) hs
      simp only [tf,cf,cond_true,cond_false]
      refine ⟨⟨tp,brb (fun _=>cp) (fun _=>cp)⟩,?_⟩
      cases (tk 33 r).1
      · rcases cnM (tk 33 r).2 with ⟨n,t⟩ | e <;> rfl
      · rcases cnM (tk 33 r).2 with ⟨n,t⟩ | e <;> rfl
    rw [if_neg c3,decide_eq_false c3]
    have J3:q17_J3_P c c (decide (c=62) || decide (c=60)) (pos s r) (exB a b w)∧q17_J3_F c c (decide (c=62) || decide (c=60)) (pos s r) (exB a b w)=toC s (if c=62∨c=60 then .inl ((a,b,w,[c],adr0,0,if 9999<1+(reps c r:Int) then 9999 else 1+(reps c r:Int),[],[],false),r.drop (reps c r))
    else if c=99 then (match tk 111 r with
      | (false,_)=>.inr 240
      | (true,r)=>match gvM r with
        | .inl (d,t)=>.inl ((a,b,w,[116],d,0,0,[],[],false),t)
        | .inr e=>.inr e)
    else if c=116∨c=109 then (match gvM r with
      | .inl (d,t)=>.inl ((a,b,w,[c],d,0,0,[],[],false),t)
      | .inr e=>.inr e)
    else if c=115 then rpM a b w r
    else .inr 240):=by
      unfold q17_J3_P q17_J3_F
      by_cases c4:c=62∨c=60
      · rw [if_pos c4,show (decide (c=62) || decide (c=60))=true by rcases c4 with h | h <;> simp [h]]
        have hrl:=reps_le c r
        have hd:=pos_drop hr
        refine ⟨⟨show 0≤(s.length:Int) - r.length by omega,show (s.length:Int) - r.length≤s.length by omega,hs,show (0:Int)≤1 by omega,show (1:Int)≤9999 by omega⟩,?_⟩
        unfold q17_L1_F
        rw [hd]
        show Sum.inl ((s,(s.length:Int) - r.length+(reps c r:Int)),_)=Sum.inl ((s,(s.length:Int) - (r.drop (reps c r)).length),_)
        rw [List.length_drop,show (s.length:Int) - r.length+(reps c r:Int)=(s.length:Int) - ((r.length - reps c r:Nat):Int) by omega]
        rfl
      have c41:¬ c=62:=fun h=>c4 (.inl h)
      have c42:¬ c=60:=fun h=>c4 (.inr h)
      rw [if_neg c4,show (decide (c=62) || decide (c=60))=false by simp [c41,c42]]
      by_cases c5:c=99
      · rw [if_pos c5,decide_eq_true c5]
        obtain ⟨tp,tf⟩:=takes_s hr hs 111
        obtain ⟨gp,gf⟩:=given_s ((tk_suf 111 r).trans hr) hs
        simp only [tf,gf,cond_true,cond_false]
        rcases hk:tk 111 r with ⟨ok,t⟩
        rw [hk] at gp gf
        cases ok
        · exact ⟨⟨tp,trivial⟩,rfl⟩
        · refine ⟨⟨tp,gp⟩,?_⟩
          simp only [Bool.not_true,cond_false]
          rcases gvM t with ⟨d,u⟩ | e <;> rfl
      rw [if_neg c5,decide_eq_false c5]
      have J2:q17_J2_P c c (decide (c=116) || decide (c=109)) (pos s r) (exB a b w)∧q17_J2_F c c (decide (c=116) || decide (c=109)) (pos s r) (exB a b w)=toC s (if c=116∨c=109 then (match gvM r with
      | .inl (d,t)=>.inl ((a,b,w,[c],d,0,0,[],[],false),t)
      | .inr e=>.inr e)
    else if c=115 then rpM a b w r
    else .inr 240):=by
        unfold q17_J2_P q17_J2_F
        by_cases c6:c=116∨c=109
        · rw [if_pos c6,show (decide (c=116) || decide (c=109))=true by rcases c6 with h | h <;> simp [h]]
          obtain ⟨gp,gf⟩:=given_s hr hs
          rw [gf]
          refine ⟨gp,?_⟩
          rcases gvM r with ⟨d,u⟩ | e <;> rfl
        have c61:¬ c=116:=fun h=>c6 (.inl h)
        have c62:¬ c=109:=fun h=>c6 (.inr h)
        rw [if_neg c6,show (decide (c=116) || decide (c=109))=false by simp [c61,c62]]
        by_cases c7:c=115
        · rw [if_pos c7,decide_eq_true c7]
          obtain ⟨gp,gf⟩:=replacing_s hr hs a b w
          rw [gf]
          refine ⟨gp,?_⟩
          rcases rpM a b w r with ⟨d,u⟩ | e <;> rfl
        rw [if_neg c7,decide_eq_false c7]
        exact ⟨trivial,rfl⟩
      by_cases c6:c=116
      · rw [decide_eq_true c6] at J2 ⊢
        exact ⟨J2.1,(idE _).trans J2.2⟩
      · rw [decide_eq_false c6,Bool.false_or] at J2
        rw [decide_eq_false c6]
        exact ⟨J2.1,(idE _).trans J2.2⟩
    by_cases c4:c=62
    · rw [decide_eq_true c4] at J3 ⊢
      exact ⟨J3.1,(idE _).trans J3.2⟩
    · rw [decide_eq_false c4,Bool.false_or] at J3
      rw [decide_eq_false c4]
      exact ⟨J3.1,(idE _).trans J3.2⟩
  unfold q17_P q17_F
  simp only [nf,hw,List.headD_cons]
  by_cases c1:c=100
  · subst c1
    exact ⟨⟨np,J4.1⟩,(idE _).trans J4.2⟩
  · have e:decide (c=100)=false:=decide_eq_false c1
    rw [e,Bool.false_or] at J4
    refine ⟨⟨np,?_⟩,?_⟩
    · exact brn (fun h=>absurd h c1) (fun _=>J4.1)
    · refine Eq.trans ?_ J4.2
      by_cases c2:c=100
      · exact absurd c2 c1
      · rw [cfalse (by exact decide_eq_false c2)]
        exact idE _
end
end Go.VE
namespace Go.VE
def hereM (a:Adr):Adr:=if a.2.2.2.2.2=true then a else (46,0,0,[],0,true)
def spM (l:LI):Rd (Bool×Adr×Adr×Bool):=match tk 37 l with
  | (true,r)=>.inl ((true,adr0,adr0,true),r)
  | (false,_)=>match adM l with
    | .inr e=>.inr e
    | .inl (a,r)=>match tk 44 (bk r) with
      | (true,t)=>(match adM (bk t) with
        | .inr e=>.inr e
        | .inl (b,u)=>.inl ((true,hereM a,hereM b,false),u))
      | (false,_)=>.inl ((a.2.2.2.2.2,a,adr0,false),r)
def bhM (g:Bool) (a b:Adr) (w:Bool) (l:LI):Rd ExD:=if l=[] then (if g=true then .inl (exB a b w,[]) else .inr 240) else cmM a b w l
def enM:Rd ExD→ExD⊕Int
  | .inr e=>.inr e
  | .inl (x,t)=>if bk t=[] then .inl x else .inr 240
def parM (s:LI):ExD⊕Int:=match spM (bk s) with
  | .inr e=>.inr e
  | .inl ((g,a,b,w),r)=>enM (bhM g a b w (bk r))
theorem here_eq (a:Adr):q85_F a=hereM a:=by
  obtain ⟨a1,a2,a3,a4,a5,g⟩:=a
  cases g <;> rfl
section
variable {s l:LI}
theorem spM_suf {l:LI} {p:Bool×Adr×Adr×Bool} {r:LI} (h:spM l=.inl (p,r)):r <:+ l:=by
  unfold spM at h
  have ht:=tk_suf 37 l
  rcases hk:tk 37 l with ⟨ok,t⟩
  rw [hk] at h ht
  cases ok
  · dsimp only at h
    rcases ha:adM l with ⟨a,t2⟩ | e
    · rw [ha] at h
      dsimp only at h
      have h2:=adM_suf _ ha
      have h3:=(tk_suf 44 (bk t2)).trans ((bk_suf t2).trans h2)
      rcases hk2:tk 44 (bk t2) with ⟨ok2,t3⟩
      rw [hk2] at h h3
      cases ok2
      · cases h; exact h2
      · dsimp only at h
        rcases hb:adM (bk t3) with ⟨b,u⟩ | e
        · rw [hb] at h; cases h
          exact (adM_suf _ hb).trans ((bk_suf t3).trans h3)
        · rw [hb] at h; cases h
    · rw [ha] at h; cases h
  · cases h; exact ht
theorem span_s (h:l <:+ s) (hs:s.length≤lim):q27_P (pos s l) exZ∧q27_F (pos s l) exZ=(match spM l with
    | .inl ((g,a,b,w),r)=>.inl (g,pos s r,exB a b w)
    | .inr e=>.inr e):=by
  obtain ⟨tp,tf⟩:=takes_s h hs 37
  unfold q27_P q27_F spM
  simp only [tf]
  rcases hk:tk 37 l with ⟨ok,t⟩
  have hkl:ok=false→t=l:=by
    intro ho
    cases l with
    | nil=>cases hk; rfl
    | cons c r=>
      rw [tk_cons] at hk
      split at hk
      · cases hk; cases ho
      · cases hk; rfl
  cases ok
  · obtain rfl:=hkl rfl
    obtain ⟨ap,af⟩:=address_s h hs
    simp only [cond_false,af]
    rcases ha:adM t with ⟨a,r⟩ | e
    · have hr:=(adM_suf _ ha).trans h
      obtain ⟨bp,bf⟩:=blanks_s hr
      have hb:=(bk_suf r).trans hr
      obtain ⟨tp2,tf2⟩:=takes_s hb hs 44
      simp only [toS,Sum.elim_inl,bf,tf2,here_eq]
      rcases hk2:tk 44 (bk r) with ⟨ok2,t3⟩
      have h3:=(tk_suf 44 (bk r)).trans hb
      rw [hk2] at h3
      cases ok2
      · exact ⟨⟨tp,ap,bp,tp2,trivial⟩,rfl⟩
      · obtain ⟨bp2,bf2⟩:=blanks_s h3
        obtain ⟨ap2,af2⟩:=address_s ((bk_suf t3).trans h3) hs
        simp only [cond_true,bf2,af2]
        refine ⟨⟨tp,ap,bp,tp2,bp2,ap2⟩,?_⟩
        rcases adM (bk t3) with ⟨b,u⟩ | e <;> rfl
    · exact ⟨⟨tp,ap,trivial⟩,rfl⟩
  · exact ⟨⟨tp,trivial⟩,rfl⟩
end
theorem cmM_suf {a b:Adr} {w:Bool} {l:LI} {x:ExD} {t:LI} (h:cmM a b w l=.inl (x,t)):t <:+ l:=by
  cases l with
  | nil=>cases h
  | cons c r=>
    refine List.IsSuffix.trans ?_ (List.suffix_cons c r)
    rw [cmM_cons] at h
    split at h
    · split at h
      · rename_i hc; cases h; exact (cnM_suf hc).trans (rg_suf _ _)
      · cases h
    · split at h
      · have:=tk_suf 117 r
        split at h
        · cases h
        · rename_i hk
          rw [hk] at this
          cases h; exact ((rg_suf _ _).trans (tk_suf 33 _)).trans this
      · split at h
        · split at h
          · rename_i hc; cases h; exact (cnM_suf hc).trans (tk_suf _ _)
          · cases h
        · split at h
          · cases h; exact List.drop_suffix _ _
          · split at h
            · have:=tk_suf 111 r
              split at h
              · cases h
              · rename_i hk
                rw [hk] at this
                split at h
                · rename_i hg; cases h; exact (gvM_suf hg).trans this
                · cases h
            · split at h
              · split at h
                · rename_i hg; cases h; exact gvM_suf hg
                · cases h
              · split at h
                · unfold rpM at h
                  have:=tk_suf 47 r
                  split at h
                  · cases h
                  · rename_i hk
                    rw [hk] at this
                    split at h
                    · cases h
                    · cases h
                    · rename_i hp
                      have h2:=(ptM_suf hp).trans this
                      split at h
                      · cases h
                      · rename_i hp2; cases h; exact (tk_suf _ _).trans ((ptM_suf hp2).trans h2)
                      · rename_i hp2; cases h; exact (ptM_suf hp2).trans h2
                · cases h
theorem parse0_s (s:LI) (hs:s.length≤lim):q69_P s exZ 0∧q69_F s exZ 0=(match parM s with | .inl x=>.inl (x,0,x,0) | .inr e=>.inr e):=by
  have h0:((s,(0:Int)):LI×Int)=pos s s:=by unfold pos; rw [Int.sub_self]
  have hss:=List.suffix_refl s
  obtain ⟨bp,bf⟩:=blanks_s hss
  have hb:=bk_suf s
  obtain ⟨sp,sf⟩:=span_s hb hs
  unfold q69_P q69_F parM
  simp only [h0,bf,sf]
  rcases hsp:spM (bk s) with ⟨⟨g,a,b,w⟩,r⟩ | e
  · have hr:=(spM_suf hsp).trans hb
    obtain ⟨bp2,bf2⟩:=blanks_s hr
    have hr2:=(bk_suf r).trans hr
    simp only [Sum.elim_inl,bf2,ended_s hr2]
    unfold bhM
    cases hl:bk r with
    | nil=>
      rw [hl] at hr2
      obtain ⟨ep,ef⟩:=end_s hr2
      rw [if_pos rfl,show (!decide (([]:LI)=[]))=false from rfl]
      simp only [cond_false,ef]
      rw [if_pos (show bk ([]:LI)=[] from rfl)]
      cases g
      · exact ⟨⟨bp,sp,bp2,trivial⟩,rfl⟩
      · exact ⟨⟨bp,sp,bp2,ep⟩,rfl⟩
    | cons c t=>
      rw [hl] at hr2
      obtain ⟨cp,cf⟩:=command_s c t hr2 hs a b w
      rw [if_neg (by simp),show (!decide (c::t=[]))=true by simp]
      simp only [cond_true,cf]
      rcases hc:cmM a b w (c::t) with ⟨x,u⟩ | e
      · have hu:=(cmM_suf hc).trans hr2
        obtain ⟨ep,ef⟩:=end_s hu
        simp only [toC,Sum.elim_inl,ef,enM]
        refine ⟨⟨bp,sp,bp2,cp,ep⟩,?_⟩
        by_cases hk:bk u=[]
        · rw [if_pos hk,if_pos hk]; rfl
        · rw [if_neg hk,if_neg hk]; rfl
      · exact ⟨⟨bp,sp,bp2,cp,trivial⟩,rfl⟩
  · exact ⟨⟨bp,sp,trivial⟩,rfl⟩
end Go.VE
namespace Go.VE
set_option maxRecDepth 20000
open Go Go.Proofs
def q56_G:List (Nat×App):=[]
theorem q56_Gok:GOk Tryz.prog (getG q56_G):=GOk.nil
theorem q56_st:storesC (bodyOf Tryz.f33)=true:=by kernel_rfl
def q56_d0:List LS:=[.v 0 yB,.v 1 yI]
def q56_d0x0:List LS:=[.v 1 yI]
def q56_dx0:DX:=⟨none,none,[(0,q56_d0x0)]⟩
def q56_y0x0 (k:Ex→St→Prop) (at1:Int):Prop:=wfD q56_d0x0 (at1,())→k (.exit 0) (mkD 26 q56_d0x0 (at1,()))
def q56_T0 (Y:LI→Int→Prop) (kx0:Int→Prop) (s0:LI) (at1:Int):Prop:=
 bif (decide (at1<(List.length s0:Int))) then
 bif decide (0≤at1∧at1<(List.length s0:Int)) then
 bif (decide ((rd (0:Int) s0 at1)=(32:Int))) then
 Y s0 (IntKind.wrap .i64 (at1+(1:Int)))
 else
 bif decide (0≤at1∧at1<(List.length s0:Int)) then
 bif (decide ((rd (0:Int) s0 at1)=(9:Int))) then
 Y s0 (IntKind.wrap .i64 (at1+(1:Int)))
 else
 kx0 at1
 else False
 else False
 else
 kx0 at1
def q56_L0 (kx0:Int→Prop):Nat→LI→Int→Prop
  | 0,_,_=>False
  | n+1,s0,at1=>wfD q56_d0 (s0,at1,())→q56_T0 (q56_L0 kx0 n) kx0 s0 at1
def q56_c0:Pce:=ex tb (getG q56_G) [] (at' (bodyOf Tryz.f33) [0,0,0,1]) [0,0,0,1]
def q56_g0 (k:Ex→St→Prop) (n:Nat) (v:vals q56_d0):Prop:=q56_L0 (q56_y0x0 k) n v.1 v.2.1
theorem q56_s0 (k:Ex→St→Prop) (Y:vals q56_d0→Prop):∀ v:vals q56_d0,q56_c0 (mkD 26 q56_d0 v) (lpK 26 q56_d0 q56_dx0 k Y)=q56_T0 (fun s0 at1=>Y (s0,at1,())) (q56_y0x0 k) v.1 v.2.1
  | (s0,at1,())=>by kernel_rfl
theorem q56_v0 (k:Ex→St→Prop):∀ (n:Nat) (v:vals q56_d0),lpD 26 q56_d0 q56_dx0 q56_c0 k n v=q56_g0 k n v
  | 0,(s0,at1,())=>rfl
  | n+1,(s0,at1,())=>congrArg (fun Z:Prop=>wfD q56_d0 (s0,at1,())→Z) ((q56_s0 k _ (s0,at1,())).trans (congrArg (fun Y=>q56_T0 Y (q56_y0x0 k) s0 at1) (funext fun s0=>funext fun at1=>q56_v0 k n (s0,at1,()))))
def q56_X0:Pce:=fun st k=>ckD 26 q56_d0 st fun v=>wfD q56_d0 v→∃ n,q56_g0 k n v
theorem q56_x0:SemOk Tryz.prog (at' (bodyOf Tryz.f33) [0,0,1]) q56_X0:=
  (SemOk.loop (ex_sound tb_M tb_ok q56_Gok (LabsOk.nil) (at' (bodyOf Tryz.f33) [0,0,0,1]) [0,0,0,1] rfl (storesC_at q56_st [0,0,0,1])) 26 q56_d0 q56_dx0).mono fun st k h=>ckD_mono h fun v hv hw=>(hv hw).elim fun n hn=>⟨n,Eq.mpr (q56_v0 k n v) hn⟩
def q56_B0:Labs:=([0,0,1],q56_X0)::[]
theorem q56_b0:LabsOk Tryz.prog (bodyOf Tryz.f33) q56_B0:=LabsOk.cons q56_x0 (LabsOk.nil)
def q56_raw (s0:LI) (at1:Int) (K:Res→List Cell→Prop):Prop:=
 (wfD q56_d0 (s0,at1,())→∃ n,q56_L0 (fun (at1:Int)=>wfD q56_d0x0 (at1,())→(
 K (.one (.v yI at1)) [])) n s0 at1)
def q56_A:List AS:=[.v yB,.v yI]
def q56_P (s:LI) (at1:Int):Prop:=0≤at1∧at1≤s.length
def q56_F (s:LI) (at1:Int):Int:=at1+(bls (s.drop at1.toNat):Int)
theorem q56_l0 (kx0:Int→Prop) (s:LI) (hs:s.length≤9223372036854775807):∀ (n i:Nat),s.length<n+i→i≤s.length→kx0 ((i+bls (s.drop i):Nat):Int)→q56_L0 kx0 n s (i:Int)
  | 0,i,hn,hi,h=>absurd hn (by omega)
  | n+1,i,hn,hi,h=>by
    intro _
    unfold q56_T0
    refine brn (fun hlt=>asrt (by omega) ?_) (fun hge=>?_)
    · have hi':i<s.length:=by omega
      rw [rd_drop hi',wrap_i64 (by omega) (by omega),show (i:Int)+1=((i+1:Nat):Int) by omega]
      rw [dropc hi',bls_cons] at h
      have go:(s[i]=32∨s[i]=9)→q56_L0 kx0 n s ((i+1:Nat):Int):=fun hb=>by
        rw [if_pos hb] at h
        exact q56_l0 kx0 s hs n (i+1) (by omega) (by omega) (by rw [show i+1+bls (s.drop (i+1))=i+(bls (s.drop (i+1))+1) by omega]; exact h)
      refine brn (fun h32=>go (.inl h32)) (fun h32=>asrt (by omega) (brn (fun h9=>go (.inr h9)) (fun h9=>?_)))
      rw [if_neg (fun hb=>hb.elim h32 h9)] at h; exact h
    · rw [List.drop_eq_nil_of_le (by omega)] at h; exact h
theorem q56_sp (s0:LI) (at1:Int) (K:Res→List Cell→Prop) (hw:wfA q56_A (s0,at1,())) (hp:q56_P s0 at1) (h:∀ r:Int,r=q56_F s0 at1→K (.one (.v yI r)) []):q56_raw s0 at1 K:=by
  have hs:s0.length≤9223372036854775807:=hw.1.1
  obtain ⟨i,rfl⟩:=Int.eq_ofNat_of_zero_le hp.1
  intro _
  exact ⟨s0.length+1,q56_l0 _ s0 hs _ i (by omega) (by have:=hp.2; omega) (fun _=>h _ (by unfold q56_F; rw [Int.toNat_natCast]; omega))⟩

def q56_C (v:valsA q56_A) (K:Res→List Cell→Prop):Prop:=q56_P v.1 v.2.1∧∀ r:Int,r=q56_F v.1 v.2.1→K (.one (.v yI r)) []
def q56_S:App:=specW q56_A q56_C
theorem q56_wv (K:Res→List Cell→Prop):∀ v:valsA q56_A,runF tb (getG q56_G) q56_B0 Tryz.f33 [true] (mkA q56_A v) K=q56_raw v.1 v.2.1 K
  | (s0,at1,())=>by kernel_rfl
theorem q56_ok:AppOk Tryz.prog 33 q56_S:=
  AppOk.specW (spec_ok ((runF_ok tb_M tb_ok q56_Gok (q56_b0) (f:=33) (fn:=Tryz.f33) (by kernel_rfl) (by kernel_rfl) q56_st [true])) fun v K hw h=>(q56_wv K v).mpr (q56_sp v.1 v.2.1 K hw h.1 h.2))

def q20_G:List (Nat×App):=[(33,q56_S),(36,q42_S)]
theorem q20_Gok:GOk Tryz.prog (getG q20_G):=GOk.cons q56_ok (GOk.cons q42_ok (GOk.nil))
theorem q20_st:storesC (bodyOf Tryz.f32)=true:=by kernel_rfl
def q20_d0:List LS:=[.b 2 16 [],.v 5 yI,.v 7 yI,.b 9 72 [],.c 16 tyX,.c 72 tyX]
def q20_d0r:List LS:=[.b 2 16 [],.v 3 yI,.v 4 yI,.c 16 tyX]
def q20_dx0:DX:=⟨none,some q20_d0r,[]⟩
def q20_y0r (k:Ex→St→Prop) (x3:Int) (x4:Int) (x2b:tEx):Prop:=wfD q20_d0r (x3,x4,x2b,())→k .ret (mkD 95 q20_d0r (x3,x4,x2b,()))
def q20_J0 (kr:Int→Int→tEx→Prop) (at5:Int) (n7:Int) (x2b:tEx) (x9b:tEx):Prop:=
 bif (!x9b.2.1.2.2.2.2.2) then
 kr (IntKind.wrap .i64 (at5+n7)) (0:Int) (x9b.1,((46:Int),(0:Int),(0:Int),([]:LI),(0:Int),true),x9b.2.2.1,x9b.2.2.2.1,x9b.2.2.2.2.1,x9b.2.2.2.2.2.1,x9b.2.2.2.2.2.2.1,x9b.2.2.2.2.2.2.2.1,x9b.2.2.2.2.2.2.2.2.1,x9b.2.2.2.2.2.2.2.2.2)
 else
 kr (IntKind.wrap .i64 (at5+n7)) (0:Int) x9b
def q20_g0 (k:Ex→St→Prop) (v:vals q20_d0):Prop:=q20_J0 (q20_y0r k) v.1 v.2.1 v.2.2.1 v.2.2.2.1
theorem q20_v0 (k:Ex→St→Prop):∀ v:vals q20_d0,ex tb (getG q20_G) [] (at' (bodyOf Tryz.f32) [1,1,1,1,1,1,1,1,1,1,1,1,1,1]) [1,1,1,1,1,1,1,1,1,1,1,1,1,1] (mkD 95 q20_d0 v) (wk 95 q20_dx0 k)=q20_g0 k v
  | (at5,n7,x2b,x9b,())=>by kernel_rfl
def q20_X0:Pce:=fun st k=>ckD 95 q20_d0 st fun v=>wfD q20_d0 v→q20_g0 k v
theorem q20_x0:SemOk Tryz.prog (at' (bodyOf Tryz.f32) [1,1,1,1,1,1,1,1,1,1,1,1,1,1]) q20_X0:=
  (SemOk.wk (N:=95) (ds:=q20_d0) (dx:=q20_dx0) (ex_sound tb_M tb_ok q20_Gok (LabsOk.nil) (at' (bodyOf Tryz.f32) [1,1,1,1,1,1,1,1,1,1,1,1,1,1]) [1,1,1,1,1,1,1,1,1,1,1,1,1,1] rfl (storesC_at q20_st [1,1,1,1,1,1,1,1,1,1,1,1,1,1]))).mono fun st k h=>ckD_mono h fun v hv hw=>Eq.mpr (q20_v0 k v) (hv hw)
def q20_B0:Labs:=([1,1,1,1,1,1,1,1,1,1,1,1,1,1],q20_X0)::[]
theorem q20_b0:LabsOk Tryz.prog (bodyOf Tryz.f32) q20_B0:=LabsOk.cons q20_x0 (LabsOk.nil)
def q20_raw (s0:LI) (K:Res→List Cell→Prop):Prop:=
 q56_P s0 (0:Int)∧(
 ∀ (r1:Int),r1=q56_F s0 (0:Int)→(
 wI r1→(
 bif (decide (r1<(List.length s0:Int))) then
 bif decide (0≤r1∧r1<(List.length s0:Int)) then
 bif (decide ((rd (0:Int) s0 r1)=(37:Int))) then
 K (.tup [.v tyX (zA,zA,true,([]:LI),zA,(0:Int),(0:Int),([]:LI),([]:LI),false),.v yI (IntKind.wrap .i64 (r1+(1:Int))),.v yI (0:Int)]) []
 else
 bif decide (0≤r1∧r1≤(List.length s0:Int)) then
 q42_P (List.drop (Int.toNat r1) s0)∧(
 ∀ (r2:tAd×Int×Int),r2=q42_F (List.drop (Int.toNat r1) s0)→(
 wfR (.tup [.v tyA r2.1,.v yI r2.2.1,.v yI r2.2.2])→(
 bif (!decide (r2.2.2=(0:Int))) then
 K (.tup [.v tyX zX,.v yI (0:Int),.v yI r2.2.2]) []
 else
 q56_P s0 (IntKind.wrap .i64 (r1+r2.2.1))∧(
 ∀ (r3:Int),r3=q56_F s0 (IntKind.wrap .i64 (r1+r2.2.1))→(
 wI r3→(
 bif (decide ((List.length s0:Int)≤r3)) then
 K (.tup [.v tyX (r2.1,zA,false,([]:LI),zA,(0:Int),(0:Int),([]:LI),([]:LI),false),.v yI (IntKind.wrap .i64 (r1+r2.2.1)),.v yI (0:Int)]) []
 else
 bif decide (0≤r3∧r3<(List.length s0:Int)) then
 bif (!decide ((rd (0:Int) s0 r3)=(44:Int))) then
 K (.tup [.v tyX (r2.1,zA,false,([]:LI),zA,(0:Int),(0:Int),([]:LI),([]:LI),false),.v yI (IntKind.wrap .i64 (r1+r2.2.1)),.v yI (0:Int)]) []
 else
 q56_P s0 (IntKind.wrap .i64 (r3+(1:Int)))∧(
 ∀ (r4:Int),r4=q56_F s0 (IntKind.wrap .i64 (r3+(1:Int)))→(
 wI r4→(
 bif decide (0≤r4∧r4≤(List.length s0:Int)) then
 q42_P (List.drop (Int.toNat r4) s0)∧(
 ∀ (r5:tAd×Int×Int),r5=q42_F (List.drop (Int.toNat r4) s0)→(
 wfR (.tup [.v tyA r5.1,.v yI r5.2.1,.v yI r5.2.2])→(
 bif (!decide (r5.2.2=(0:Int))) then
 K (.tup [.v tyX zX,.v yI (0:Int),.v yI r5.2.2]) []
 else
 bif (!r2.1.2.2.2.2.2) then
 (wfD q20_d0 (r4,r5.2.1,zX,(((46:Int),(0:Int),(0:Int),([]:LI),(0:Int),true),r5.1,false,([]:LI),zA,(0:Int),(0:Int),([]:LI),([]:LI),false),())→q20_J0 (fun (x3:Int) (x4:Int) (x2b:tEx)=>wfD q20_d0r (x3,x4,x2b,())→(
 K (.tup [.v tyX x2b,.v yI x3,.v yI x4]) [])) r4 r5.2.1 zX (((46:Int),(0:Int),(0:Int),([]:LI),(0:Int),true),r5.1,false,([]:LI),zA,(0:Int),(0:Int),([]:LI),([]:LI),false))
 else
 (wfD q20_d0 (r4,r5.2.1,zX,(r2.1,r5.1,false,([]:LI),zA,(0:Int),(0:Int),([]:LI),([]:LI),false),())→q20_J0 (fun (x3:Int) (x4:Int) (x2b:tEx)=>wfD q20_d0r (x3,x4,x2b,())→(
 K (.tup [.v tyX x2b,.v yI x3,.v yI x4]) [])) r4 r5.2.1 zX (r2.1,r5.1,false,([]:LI),zA,(0:Int),(0:Int),([]:LI),([]:LI),false)))))
 else False)))
 else False))))))
 else False
 else False
 else
 bif decide (0≤r1∧r1≤(List.length s0:Int)) then
 q42_P (List.drop (Int.toNat r1) s0)∧(
 ∀ (r6:tAd×Int×Int),r6=q42_F (List.drop (Int.toNat r1) s0)→(
 wfR (.tup [.v tyA r6.1,.v yI r6.2.1,.v yI r6.2.2])→(
 bif (!decide (r6.2.2=(0:Int))) then
 K (.tup [.v tyX zX,.v yI (0:Int),.v yI r6.2.2]) []
 else
 q56_P s0 (IntKind.wrap .i64 (r1+r6.2.1))∧(
 ∀ (r7:Int),r7=q56_F s0 (IntKind.wrap .i64 (r1+r6.2.1))→(
 wI r7→(
 bif (decide ((List.length s0:Int)≤r7)) then
 K (.tup [.v tyX (r6.1,zA,false,([]:LI),zA,(0:Int),(0:Int),([]:LI),([]:LI),false),.v yI (IntKind.wrap .i64 (r1+r6.2.1)),.v yI (0:Int)]) []
 else
 bif decide (0≤r7∧r7<(List.length s0:Int)) then
 bif (!decide ((rd (0:Int) s0 r7)=(44:Int))) then
 K (.tup [.v tyX (r6.1,zA,false,([]:LI),zA,(0:Int),(0:Int),([]:LI),([]:LI),false),.v yI (IntKind.wrap .i64 (r1+r6.2.1)),.v yI (0:Int)]) []
 else
 q56_P s0 (IntKind.wrap .i64 (r7+(1:Int)))∧(
 ∀ (r8:Int),r8=q56_F s0 (IntKind.wrap .i64 (r7+(1:Int)))→(
 wI r8→(
 bif decide (0≤r8∧r8≤(List.length s0:Int)) then
 q42_P (List.drop (Int.toNat r8) s0)∧(
 ∀ (r9:tAd×Int×Int),r9=q42_F (List.drop (Int.toNat r8) s0)→(
 wfR (.tup [.v tyA r9.1,.v yI r9.2.1,.v yI r9.2.2])→(
 bif (!decide (r9.2.2=(0:Int))) then
 K (.tup [.v tyX zX,.v yI (0:Int),.v yI r9.2.2]) []
 else
 bif (!r6.1.2.2.2.2.2) then
 (wfD q20_d0 (r8,r9.2.1,zX,(((46:Int),(0:Int),(0:Int),([]:LI),(0:Int),true),r9.1,false,([]:LI),zA,(0:Int),(0:Int),([]:LI),([]:LI),false),())→q20_J0 (fun (x3:Int) (x4:Int) (x2b:tEx)=>wfD q20_d0r (x3,x4,x2b,())→(
 K (.tup [.v tyX x2b,.v yI x3,.v yI x4]) [])) r8 r9.2.1 zX (((46:Int),(0:Int),(0:Int),([]:LI),(0:Int),true),r9.1,false,([]:LI),zA,(0:Int),(0:Int),([]:LI),([]:LI),false))
 else
 (wfD q20_d0 (r8,r9.2.1,zX,(r6.1,r9.1,false,([]:LI),zA,(0:Int),(0:Int),([]:LI),([]:LI),false),())→q20_J0 (fun (x3:Int) (x4:Int) (x2b:tEx)=>wfD q20_d0r (x3,x4,x2b,())→(
 K (.tup [.v tyX x2b,.v yI x3,.v yI x4]) [])) r8 r9.2.1 zX (r6.1,r9.1,false,([]:LI),zA,(0:Int),(0:Int),([]:LI),([]:LI),false)))))
 else False)))
 else False))))))
 else False)))
def q20_A:List AS:=[.v yB]

def q20_J0_F (at5:Int) (n7:Int) (x2b:tEx) (x9b:tEx):Int×Int×tEx:=
 bif (!x9b.2.1.2.2.2.2.2) then
 ((IntKind.wrap .i64 (at5+n7)),(0:Int),(x9b.1,((46:Int),(0:Int),(0:Int),([]:LI),(0:Int),true),x9b.2.2.1,x9b.2.2.2.1,x9b.2.2.2.2.1,x9b.2.2.2.2.2.1,x9b.2.2.2.2.2.2.1,x9b.2.2.2.2.2.2.2.1,x9b.2.2.2.2.2.2.2.2.1,x9b.2.2.2.2.2.2.2.2.2))
 else
 ((IntKind.wrap .i64 (at5+n7)),(0:Int),x9b)
theorem q20_J0_sp (kr:Int→Int→tEx→Prop) (at5:Int) (n7:Int) (x2b:tEx) (x9b:tEx) (hr:∀ q:Int×Int×tEx,q=q20_J0_F at5 n7 x2b x9b→kr q.1 q.2.1 q.2.2):q20_J0 kr at5 n7 x2b x9b:=
 have h:=hr; br0 h (fun _ h=>h _ rfl)
 fun _ h=>h _ rfl
def q20_P (s0:LI):Prop:=
 q56_P s0 (0:Int)∧(
 let r1:Int:=q56_F s0 (0:Int)
 bif (decide (r1<(List.length s0:Int))) then
 (0≤r1∧r1<(List.length s0:Int))∧(
 bif (decide ((rd (0:Int) s0 r1)=(37:Int))) then
 True
 else
 (0≤r1∧r1≤(List.length s0:Int))∧(
 q42_P (List.drop (Int.toNat r1) s0)∧(
 let r2:tAd×Int×Int:=q42_F (List.drop (Int.toNat r1) s0)
 bif (!decide (r2.2.2=(0:Int))) then
 True
 else
 q56_P s0 (IntKind.wrap .i64 (r1+r2.2.1))∧(
 let r3:Int:=q56_F s0 (IntKind.wrap .i64 (r1+r2.2.1))
 bif (decide ((List.length s0:Int)≤r3)) then
 True
 else
 (0≤r3∧r3<(List.length s0:Int))∧(
 bif (!decide ((rd (0:Int) s0 r3)=(44:Int))) then
 True
 else
 q56_P s0 (IntKind.wrap .i64 (r3+(1:Int)))∧(
 let r4:Int:=q56_F s0 (IntKind.wrap .i64 (r3+(1:Int)))
 (0≤r4∧r4≤(List.length s0:Int))∧(
 q42_P (List.drop (Int.toNat r4) s0))))))))
 else
 (0≤r1∧r1≤(List.length s0:Int))∧(
 q42_P (List.drop (Int.toNat r1) s0)∧(
 let r6:tAd×Int×Int:=q42_F (List.drop (Int.toNat r1) s0)
 bif (!decide (r6.2.2=(0:Int))) then
 True
 else
 q56_P s0 (IntKind.wrap .i64 (r1+r6.2.1))∧(
 let r7:Int:=q56_F s0 (IntKind.wrap .i64 (r1+r6.2.1))
 bif (decide ((List.length s0:Int)≤r7)) then
 True
 else
 (0≤r7∧r7<(List.length s0:Int))∧(
 bif (!decide ((rd (0:Int) s0 r7)=(44:Int))) then
 True
 else
 q56_P s0 (IntKind.wrap .i64 (r7+(1:Int)))∧(
 let r8:Int:=q56_F s0 (IntKind.wrap .i64 (r7+(1:Int)))
 (0≤r8∧r8≤(List.length s0:Int))∧(
 q42_P (List.drop (Int.toNat r8) s0))))))))
def q20_F (s0:LI):tEx×Int×Int:=
 let r1:Int:=q56_F s0 (0:Int)
 bif (decide (r1<(List.length s0:Int))) then
 bif (decide ((rd (0:Int) s0 r1)=(37:Int))) then
 ((zA,zA,true,([]:LI),zA,(0:Int),(0:Int),([]:LI),([]:LI),false),(IntKind.wrap .i64 (r1+(1:Int))),(0:Int))
 else
 let r2:tAd×Int×Int:=q42_F (List.drop (Int.toNat r1) s0)
 bif (!decide (r2.2.2=(0:Int))) then
 (zX,(0:Int),r2.2.2)
 else
 let r3:Int:=q56_F s0 (IntKind.wrap .i64 (r1+r2.2.1))
 bif (decide ((List.length s0:Int)≤r3)) then
 ((r2.1,zA,false,([]:LI),zA,(0:Int),(0:Int),([]:LI),([]:LI),false),(IntKind.wrap .i64 (r1+r2.2.1)),(0:Int))
 else
 bif (!decide ((rd (0:Int) s0 r3)=(44:Int))) then
 ((r2.1,zA,false,([]:LI),zA,(0:Int),(0:Int),([]:LI),([]:LI),false),(IntKind.wrap .i64 (r1+r2.2.1)),(0:Int))
 else
 let r4:Int:=q56_F s0 (IntKind.wrap .i64 (r3+(1:Int)))
 let r5:tAd×Int×Int:=q42_F (List.drop (Int.toNat r4) s0)
 bif (!decide (r5.2.2=(0:Int))) then
 (zX,(0:Int),r5.2.2)
 else
 bif (!r2.1.2.2.2.2.2) then
 let q0r:Int×Int×tEx:=q20_J0_F r4 r5.2.1 zX (((46:Int),(0:Int),(0:Int),([]:LI),(0:Int),true),r5.1,false,([]:LI),zA,(0:Int),(0:Int),([]:LI),([]:LI),false)
 let x3:Int:=q0r.1
 let x4:Int:=q0r.2.1
 let x2b:tEx:=q0r.2.2
 (x2b,x3,x4)
 else
 let q0r:Int×Int×tEx:=q20_J0_F r4 r5.2.1 zX (r2.1,r5.1,false,([]:LI),zA,(0:Int),(0:Int),([]:LI),([]:LI),false)
 let x3:Int:=q0r.1
 let x4:Int:=q0r.2.1
 let x2b:tEx:=q0r.2.2
 (x2b,x3,x4)
 else
 let r6:tAd×Int×Int:=q42_F (List.drop (Int.toNat r1) s0)
 bif (!decide (r6.2.2=(0:Int))) then
 (zX,(0:Int),r6.2.2)
 else
 let r7:Int:=q56_F s0 (IntKind.wrap .i64 (r1+r6.2.1))
 bif (decide ((List.length s0:Int)≤r7)) then
 ((r6.1,zA,false,([]:LI),zA,(0:Int),(0:Int),([]:LI),([]:LI),false),(IntKind.wrap .i64 (r1+r6.2.1)),(0:Int))
 else
 bif (!decide ((rd (0:Int) s0 r7)=(44:Int))) then
 ((r6.1,zA,false,([]:LI),zA,(0:Int),(0:Int),([]:LI),([]:LI),false),(IntKind.wrap .i64 (r1+r6.2.1)),(0:Int))
 else
 let r8:Int:=q56_F s0 (IntKind.wrap .i64 (r7+(1:Int)))
 let r9:tAd×Int×Int:=q42_F (List.drop (Int.toNat r8) s0)
 bif (!decide (r9.2.2=(0:Int))) then
 (zX,(0:Int),r9.2.2)
 else
 bif (!r6.1.2.2.2.2.2) then
 let q0r:Int×Int×tEx:=q20_J0_F r8 r9.2.1 zX (((46:Int),(0:Int),(0:Int),([]:LI),(0:Int),true),r9.1,false,([]:LI),zA,(0:Int),(0:Int),([]:LI),([]:LI),false)
 let x3:Int:=q0r.1
 let x4:Int:=q0r.2.1
 let x2b:tEx:=q0r.2.2
 (x2b,x3,x4)
 else
 let q0r:Int×Int×tEx:=q20_J0_F r8 r9.2.1 zX (r6.1,r9.1,false,([]:LI),zA,(0:Int),(0:Int),([]:LI),([]:LI),false)
 let x3:Int:=q0r.1
 let x4:Int:=q0r.2.1
 let x2b:tEx:=q0r.2.2
 (x2b,x3,x4)
theorem q20_sp (s0:LI) (K:Res→List Cell→Prop) (_:wfA q20_A (s0,())) (hp:q20_P s0) (h:∀ r:tEx×Int×Int,r=q20_F s0→K (.tup [.v tyX r.1,.v yI r.2.1,.v yI r.2.2]) []):q20_raw s0 K:=
 an1 hp fun hp=>al (br1 hp h (fun _ hp h=>as1 hp fun hp=>br1 hp h (fun _ hp h=>h _ rfl)
 fun _ hp h=>as1 hp fun hp=>an1 hp fun hp=>al (br1 hp h (fun _ hp h=>h _ rfl)
 fun _ hp h=>an1 hp fun hp=>al (br1 hp h (fun _ hp h=>h _ rfl)
 fun _ hp h=>as1 hp fun hp=>br1 hp h (fun _ hp h=>h _ rfl)
 fun _ hp h=>an1 hp fun hp=>al (as1 hp fun hp=>⟨hp,al (br0 h (fun _ h=>h _ rfl)
 fun _ h=>br0 h (fun _ h=>fun _=>q20_J0_sp _ _ _ _ _ (al (h _ rfl)))
 fun _ h=>fun _=>q20_J0_sp _ _ _ _ _ (al (h _ rfl)))⟩))))
 fun _ hp h=>as1 hp fun hp=>an1 hp fun hp=>al (br1 hp h (fun _ hp h=>h _ rfl)
 fun _ hp h=>an1 hp fun hp=>al (br1 hp h (fun _ hp h=>h _ rfl)
 fun _ hp h=>as1 hp fun hp=>br1 hp h (fun _ hp h=>h _ rfl)
 fun _ hp h=>an1 hp fun hp=>al (as1 hp fun hp=>⟨hp,al (br0 h (fun _ h=>h _ rfl)
 fun _ h=>br0 h (fun _ h=>fun _=>q20_J0_sp _ _ _ _ _ (al (h _ rfl)))
 fun _ h=>fun _=>q20_J0_sp _ _ _ _ _ (al (h _ rfl)))⟩))))
def q20_C (v:valsA q20_A) (K:Res→List Cell→Prop):Prop:=q20_P v.1∧∀ r:tEx×Int×Int,r=q20_F v.1→K (.tup [.v tyX r.1,.v yI r.2.1,.v yI r.2.2]) []
def q20_S:App:=specW q20_A q20_C
theorem q20_wv (K:Res→List Cell→Prop):∀ v:valsA q20_A,runF tb (getG q20_G) q20_B0 Tryz.f32 [true,true,true] (mkA q20_A v) K=q20_raw v.1 K
  | (s0,())=>by kernel_rfl
theorem q20_ok:AppOk Tryz.prog 32 q20_S:=
  AppOk.specW (spec_ok ((runF_ok tb_M tb_ok q20_Gok (q20_b0) (f:=32) (fn:=Tryz.f32) (by kernel_rfl) (by kernel_rfl) q20_st [true,true,true])) fun v K hw h=>(q20_wv K v).mpr (q20_sp v.1 K hw h.1 h.2))

def q43_G:List (Nat×App):=[]
theorem q43_Gok:GOk Tryz.prog (getG q43_G):=GOk.nil
def q43_raw  (K:Res→List Cell→Prop):Prop:=
 K (.one (.fr 9 .str ([([112,117,33]:LI),([112,117]:LI),([99,111]:LI),([106,33]:LI),([100]:LI),([121]:LI),([106]:LI),([116]:LI),([109]:LI),([115]:LI)]:List (LI)))) []
def q43_A:List AS:=[]

def q43_F:List (LI):=
 ([([112,117,33]:LI),([112,117]:LI),([99,111]:LI),([106,33]:LI),([100]:LI),([121]:LI),([106]:LI),([116]:LI),([109]:LI),([115]:LI)]:List (LI))
theorem q43_sp  (K:Res→List Cell→Prop) (_:wfA q43_A ()) (h:∀ r:List (LI),r=q43_F→K (.one (.fr 9 .str r)) []):q43_raw  K:=
 h _ rfl
def q43_C (v:valsA q43_A) (K:Res→List Cell→Prop):Prop:=∀ r:List (LI),r=q43_F→K (.one (.fr 9 .str r)) []
def q43_S:App:=specW q43_A q43_C
theorem q43_wv (K:Res→List Cell→Prop):∀ v:valsA q43_A,runF tb (getG q43_G) [] Tryz.f73 [true] (mkA q43_A v) K=q43_raw  K
  | ()=>by kernel_rfl
theorem q43_ok:AppOk Tryz.prog 73 q43_S:=
  AppOk.specW (spec_ok ((runF_ok tb_M tb_ok q43_Gok (LabsOk.nil) (f:=73) (fn:=Tryz.f73) (by kernel_rfl) (by kernel_rfl) (by kernel_rfl) [true])) fun v K hw h=>(q43_wv K v).mpr (q43_sp  K hw h))

def q44_G:List (Nat×App):=[(73,q43_S)]
theorem q44_Gok:GOk Tryz.prog (getG q44_G):=GOk.cons q43_ok (GOk.nil)
theorem q44_st:storesC (bodyOf Tryz.f34)=true:=by kernel_rfl
def q44_d0:List LS:=[.v 0 yB,.v 4 yI]
def q44_d0x0:List LS:=[.v 0 yB,.v 4 yI]
def q44_dx0:DX:=⟨none,none,[(0,q44_d0x0)]⟩
def q44_y0x0 (k:Ex→St→Prop) (s0:LI) (n4:Int):Prop:=wfD q44_d0x0 (s0,n4,())→k (.exit 0) (mkD 81 q44_d0x0 (s0,n4,()))
def q44_T0 (Y:LI→Int→Prop) (kx0:LI→Int→Prop) (s0:LI) (n4:Int):Prop:=
 bif (decide (n4<(List.length s0:Int))) then
 bif decide (0≤n4∧n4<(List.length s0:Int)) then
 bif decide (0≤(0:Int)∧(0:Int)<(List.length s0:Int)) then
 bif (decide ((rd (0:Int) s0 n4)=(rd (0:Int) s0 (0:Int)))) then
 Y s0 (IntKind.wrap .i64 (n4+(1:Int)))
 else
 kx0 s0 n4
 else False
 else False
 else
 kx0 s0 n4
def q44_L0 (kx0:LI→Int→Prop):Nat→LI→Int→Prop
  | 0,_,_=>False
  | n+1,s0,n4=>wfD q44_d0 (s0,n4,())→q44_T0 (q44_L0 kx0 n) kx0 s0 n4
def q44_c0:Pce:=ex tb (getG q44_G) [] (at' (bodyOf Tryz.f34) [0,0,0,1,0,1,0,1]) [0,0,0,1,0,1,0,1]
def q44_g0 (k:Ex→St→Prop) (n:Nat) (v:vals q44_d0):Prop:=q44_L0 (q44_y0x0 k) n v.1 v.2.1
theorem q44_s0 (k:Ex→St→Prop) (Y:vals q44_d0→Prop):∀ v:vals q44_d0,q44_c0 (mkD 81 q44_d0 v) (lpK 81 q44_d0 q44_dx0 k Y)=q44_T0 (fun s0 n4=>Y (s0,n4,())) (q44_y0x0 k) v.1 v.2.1
  | (s0,n4,())=>by kernel_rfl
theorem q44_v0 (k:Ex→St→Prop):∀ (n:Nat) (v:vals q44_d0),lpD 81 q44_d0 q44_dx0 q44_c0 k n v=q44_g0 k n v
  | 0,(s0,n4,())=>rfl
  | n+1,(s0,n4,())=>congrArg (fun Z:Prop=>wfD q44_d0 (s0,n4,())→Z) ((q44_s0 k _ (s0,n4,())).trans (congrArg (fun Y=>q44_T0 Y (q44_y0x0 k) s0 n4) (funext fun s0=>funext fun n4=>q44_v0 k n (s0,n4,()))))
def q44_X0:Pce:=fun st k=>ckD 81 q44_d0 st fun v=>wfD q44_d0 v→∃ n,q44_g0 k n v
theorem q44_x0:SemOk Tryz.prog (at' (bodyOf Tryz.f34) [0,0,1,0,1,0,1]) q44_X0:=
  (SemOk.loop (ex_sound tb_M tb_ok q44_Gok (LabsOk.nil) (at' (bodyOf Tryz.f34) [0,0,0,1,0,1,0,1]) [0,0,0,1,0,1,0,1] rfl (storesC_at q44_st [0,0,0,1,0,1,0,1])) 81 q44_d0 q44_dx0).mono fun st k h=>ckD_mono h fun v hv hw=>(hv hw).elim fun n hn=>⟨n,Eq.mpr (q44_v0 k n v) hn⟩
def q44_B0:Labs:=([0,0,1,0,1,0,1],q44_X0)::[]
theorem q44_b0:LabsOk Tryz.prog (bodyOf Tryz.f34) q44_B0:=LabsOk.cons q44_x0 (LabsOk.nil)
def q44_d1:List LS:=[.v 0 yB,.o 5 45 9 .str,.v 6 yI]
def q44_d1r:List LS:=[.v 2 .str,.v 3 yI]
def q44_d1x2:List LS:=[]
def q44_dx1:DX:=⟨none,some q44_d1r,[(2,q44_d1x2)]⟩
def q44_y1r (k:Ex→St→Prop) (x2:LI) (x3:Int):Prop:=wfD q44_d1r (x2,x3,())→k .ret (mkD 81 q44_d1r (x2,x3,()))
def q44_y1x2 (k:Ex→St→Prop):Prop:=wfD q44_d1x2 ()→k (.exit 2) (mkD 81 q44_d1x2 ())
def q44_T1 (Y:LI→List (LI)→Int→Prop) (kr:LI→Int→Prop) (kx2:Prop) (s0:LI) (l5:List (LI)) (i6:Int):Prop:=
 bif (decide (i6<(List.length l5:Int))) then
 bif decide (0≤i6∧i6<(List.length l5:Int)) then
 bif (decide ((List.length (rd ([]:LI) l5 i6):Int)≤(List.length s0:Int))) then
 (
 bif decide (0≤i6∧i6<(List.length l5:Int)) then
 (
 bif decide (0≤(List.length (rd ([]:LI) l5 i6):Int)∧(List.length (rd ([]:LI) l5 i6):Int)≤(List.length s0:Int)) then
 bif decide (0≤i6∧i6<(List.length l5:Int)) then
 bif (decide ((List.take (Int.toNat (List.length (rd ([]:LI) l5 i6):Int)) s0)=(rd ([]:LI) l5 i6))) then
 (
 bif decide (0≤i6∧i6<(List.length l5:Int)) then
 (
 bif decide (0≤i6∧i6<(List.length l5:Int)) then
 kr (rd ([]:LI) l5 i6) (List.length (rd ([]:LI) l5 i6):Int)
 else False)∧(
 bif decide (0≤i6∧i6<(List.length l5:Int)) then
 (
 kr (rd ([]:LI) l5 i6) (List.length (rd ([]:LI) l5 i6):Int))∧(
 kr (rd ([]:LI) l5 i6) (List.length (rd ([]:LI) l5 i6):Int))∧True
 else False)∧True
 else False)∧(
 bif decide (0≤i6∧i6<(List.length l5:Int)) then
 (
 bif decide (0≤i6∧i6<(List.length l5:Int)) then
 (
 kr (rd ([]:LI) l5 i6) (List.length (rd ([]:LI) l5 i6):Int))∧(
 kr (rd ([]:LI) l5 i6) (List.length (rd ([]:LI) l5 i6):Int))∧True
 else False)∧(
 bif decide (0≤i6∧i6<(List.length l5:Int)) then
 kr (rd ([]:LI) l5 i6) (List.length (rd ([]:LI) l5 i6):Int)
 else False)∧True
 else False)∧True
 else
 Y s0 l5 (IntKind.wrap .i64 (i6+(1:Int)))
 else False
 else False)∧(
 bif decide (0≤i6∧i6<(List.length l5:Int)) then
 (
 bif decide (0≤(List.length (rd ([]:LI) l5 i6):Int)∧(List.length (rd ([]:LI) l5 i6):Int)≤(List.length s0:Int)) then
 bif (decide ((List.take (Int.toNat (List.length (rd ([]:LI) l5 i6):Int)) s0)=(rd ([]:LI) l5 i6))) then
 (
 bif decide (0≤i6∧i6<(List.length l5:Int)) then
 (
 bif decide (0≤i6∧i6<(List.length l5:Int)) then
 kr (rd ([]:LI) l5 i6) (List.length (rd ([]:LI) l5 i6):Int)
 else False)∧(
 bif decide (0≤i6∧i6<(List.length l5:Int)) then
 (
 kr (rd ([]:LI) l5 i6) (List.length (rd ([]:LI) l5 i6):Int))∧(
 kr (rd ([]:LI) l5 i6) (List.length (rd ([]:LI) l5 i6):Int))∧True
 else False)∧True
 else False)∧(
 bif decide (0≤i6∧i6<(List.length l5:Int)) then
 (
 bif decide (0≤i6∧i6<(List.length l5:Int)) then
 (
 kr (rd ([]:LI) l5 i6) (List.length (rd ([]:LI) l5 i6):Int))∧(
 kr (rd ([]:LI) l5 i6) (List.length (rd ([]:LI) l5 i6):Int))∧True
 else False)∧(
 bif decide (0≤i6∧i6<(List.length l5:Int)) then
 kr (rd ([]:LI) l5 i6) (List.length (rd ([]:LI) l5 i6):Int)
 else False)∧True
 else False)∧True
 else
 Y s0 l5 (IntKind.wrap .i64 (i6+(1:Int)))
 else False)∧(
 bif decide (0≤(List.length (rd ([]:LI) l5 i6):Int)∧(List.length (rd ([]:LI) l5 i6):Int)≤(List.length s0:Int)) then
 bif (decide ((List.take (Int.toNat (List.length (rd ([]:LI) l5 i6):Int)) s0)=(rd ([]:LI) l5 i6))) then
 (
 bif decide (0≤i6∧i6<(List.length l5:Int)) then
 (
 bif decide (0≤i6∧i6<(List.length l5:Int)) then
 kr (rd ([]:LI) l5 i6) (List.length (rd ([]:LI) l5 i6):Int)
 else False)∧(
 bif decide (0≤i6∧i6<(List.length l5:Int)) then
 (
 kr (rd ([]:LI) l5 i6) (List.length (rd ([]:LI) l5 i6):Int))∧(
 kr (rd ([]:LI) l5 i6) (List.length (rd ([]:LI) l5 i6):Int))∧True
 else False)∧True
 else False)∧(
 bif decide (0≤i6∧i6<(List.length l5:Int)) then
 (
 bif decide (0≤i6∧i6<(List.length l5:Int)) then
 (
 kr (rd ([]:LI) l5 i6) (List.length (rd ([]:LI) l5 i6):Int))∧(
 kr (rd ([]:LI) l5 i6) (List.length (rd ([]:LI) l5 i6):Int))∧True
 else False)∧(
 bif decide (0≤i6∧i6<(List.length l5:Int)) then
 kr (rd ([]:LI) l5 i6) (List.length (rd ([]:LI) l5 i6):Int)
 else False)∧True
 else False)∧True
 else
 Y s0 l5 (IntKind.wrap .i64 (i6+(1:Int)))
 else False)∧True
 else False)∧True
 else False)∧(
 bif decide (0≤i6∧i6<(List.length l5:Int)) then
 (
 bif decide (0≤i6∧i6<(List.length l5:Int)) then
 (
 bif decide (0≤(List.length (rd ([]:LI) l5 i6):Int)∧(List.length (rd ([]:LI) l5 i6):Int)≤(List.length s0:Int)) then
 bif (decide ((List.take (Int.toNat (List.length (rd ([]:LI) l5 i6):Int)) s0)=(rd ([]:LI) l5 i6))) then
 (
 bif decide (0≤i6∧i6<(List.length l5:Int)) then
 (
 bif decide (0≤i6∧i6<(List.length l5:Int)) then
 kr (rd ([]:LI) l5 i6) (List.length (rd ([]:LI) l5 i6):Int)
 else False)∧(
 bif decide (0≤i6∧i6<(List.length l5:Int)) then
 (
 kr (rd ([]:LI) l5 i6) (List.length (rd ([]:LI) l5 i6):Int))∧(
 kr (rd ([]:LI) l5 i6) (List.length (rd ([]:LI) l5 i6):Int))∧True
 else False)∧True
 else False)∧(
 bif decide (0≤i6∧i6<(List.length l5:Int)) then
 (
 bif decide (0≤i6∧i6<(List.length l5:Int)) then
 (
 kr (rd ([]:LI) l5 i6) (List.length (rd ([]:LI) l5 i6):Int))∧(
 kr (rd ([]:LI) l5 i6) (List.length (rd ([]:LI) l5 i6):Int))∧True
 else False)∧(
 bif decide (0≤i6∧i6<(List.length l5:Int)) then
 kr (rd ([]:LI) l5 i6) (List.length (rd ([]:LI) l5 i6):Int)
 else False)∧True
 else False)∧True
 else
 Y s0 l5 (IntKind.wrap .i64 (i6+(1:Int)))
 else False)∧(
 bif decide (0≤(List.length (rd ([]:LI) l5 i6):Int)∧(List.length (rd ([]:LI) l5 i6):Int)≤(List.length s0:Int)) then
 bif (decide ((List.take (Int.toNat (List.length (rd ([]:LI) l5 i6):Int)) s0)=(rd ([]:LI) l5 i6))) then
 (
 bif decide (0≤i6∧i6<(List.length l5:Int)) then
 (
 bif decide (0≤i6∧i6<(List.length l5:Int)) then
 kr (rd ([]:LI) l5 i6) (List.length (rd ([]:LI) l5 i6):Int)
 else False)∧(
 bif decide (0≤i6∧i6<(List.length l5:Int)) then
 (
 kr (rd ([]:LI) l5 i6) (List.length (rd ([]:LI) l5 i6):Int))∧(
 kr (rd ([]:LI) l5 i6) (List.length (rd ([]:LI) l5 i6):Int))∧True
 else False)∧True
 else False)∧(
 bif decide (0≤i6∧i6<(List.length l5:Int)) then
 (
 bif decide (0≤i6∧i6<(List.length l5:Int)) then
 (
 kr (rd ([]:LI) l5 i6) (List.length (rd ([]:LI) l5 i6):Int))∧(
 kr (rd ([]:LI) l5 i6) (List.length (rd ([]:LI) l5 i6):Int))∧True
 else False)∧(
 bif decide (0≤i6∧i6<(List.length l5:Int)) then
 kr (rd ([]:LI) l5 i6) (List.length (rd ([]:LI) l5 i6):Int)
 else False)∧True
 else False)∧True
 else
 Y s0 l5 (IntKind.wrap .i64 (i6+(1:Int)))
 else False)∧True
 else False)∧(
 bif decide (0≤i6∧i6<(List.length l5:Int)) then
 bif decide (0≤(List.length (rd ([]:LI) l5 i6):Int)∧(List.length (rd ([]:LI) l5 i6):Int)≤(List.length s0:Int)) then
 bif (decide ((List.take (Int.toNat (List.length (rd ([]:LI) l5 i6):Int)) s0)=(rd ([]:LI) l5 i6))) then
 (
 bif decide (0≤i6∧i6<(List.length l5:Int)) then
 (
 bif decide (0≤i6∧i6<(List.length l5:Int)) then
 kr (rd ([]:LI) l5 i6) (List.length (rd ([]:LI) l5 i6):Int)
 else False)∧(
 bif decide (0≤i6∧i6<(List.length l5:Int)) then
 (
 kr (rd ([]:LI) l5 i6) (List.length (rd ([]:LI) l5 i6):Int))∧(
 kr (rd ([]:LI) l5 i6) (List.length (rd ([]:LI) l5 i6):Int))∧True
 else False)∧True
 else False)∧(
 bif decide (0≤i6∧i6<(List.length l5:Int)) then
 (
 bif decide (0≤i6∧i6<(List.length l5:Int)) then
 (
 kr (rd ([]:LI) l5 i6) (List.length (rd ([]:LI) l5 i6):Int))∧(
 kr (rd ([]:LI) l5 i6) (List.length (rd ([]:LI) l5 i6):Int))∧True
 else False)∧(
 bif decide (0≤i6∧i6<(List.length l5:Int)) then
 kr (rd ([]:LI) l5 i6) (List.length (rd ([]:LI) l5 i6):Int)
 else False)∧True
 else False)∧True
 else
 Y s0 l5 (IntKind.wrap .i64 (i6+(1:Int)))
 else False
 else False)∧True
 else False)∧True
 else
 Y s0 l5 (IntKind.wrap .i64 (i6+(1:Int)))
 else False
 else
 kx2
def q44_L1 (kr:LI→Int→Prop) (kx2:Prop):Nat→LI→List (LI)→Int→Prop
  | 0,_,_,_=>False
  | n+1,s0,l5,i6=>wfD q44_d1 (s0,l5,i6,())→q44_T1 (q44_L1 kr kx2 n) kr kx2 s0 l5 i6
def q44_c1:Pce:=ex tb (getG q44_G) q44_B0 (at' (bodyOf Tryz.f34) [0,0,1,0,1,1,1]) [0,0,1,0,1,1,1]
def q44_g1 (k:Ex→St→Prop) (n:Nat) (v:vals q44_d1):Prop:=q44_L1 (q44_y1r k) (q44_y1x2 k) n v.1 v.2.1 v.2.2.1
theorem q44_s1 (k:Ex→St→Prop) (Y:vals q44_d1→Prop):∀ v:vals q44_d1,q44_c1 (mkD 81 q44_d1 v) (lpK 81 q44_d1 q44_dx1 k Y)=q44_T1 (fun s0 l5 i6=>Y (s0,l5,i6,())) (q44_y1r k) (q44_y1x2 k) v.1 v.2.1 v.2.2.1
  | (s0,l5,i6,())=>by kernel_rfl
theorem q44_v1 (k:Ex→St→Prop):∀ (n:Nat) (v:vals q44_d1),lpD 81 q44_d1 q44_dx1 q44_c1 k n v=q44_g1 k n v
  | 0,(s0,l5,i6,())=>rfl
  | n+1,(s0,l5,i6,())=>congrArg (fun Z:Prop=>wfD q44_d1 (s0,l5,i6,())→Z) ((q44_s1 k _ (s0,l5,i6,())).trans (congrArg (fun Y=>q44_T1 Y (q44_y1r k) (q44_y1x2 k) s0 l5 i6) (funext fun s0=>funext fun l5=>funext fun i6=>q44_v1 k n (s0,l5,i6,()))))
def q44_X1:Pce:=fun st k=>ckD 81 q44_d1 st fun v=>wfD q44_d1 v→∃ n,q44_g1 k n v
theorem q44_x1:SemOk Tryz.prog (at' (bodyOf Tryz.f34) [0,1,0,1,1,1]) q44_X1:=
  (SemOk.loop (ex_sound tb_M tb_ok q44_Gok (q44_b0) (at' (bodyOf Tryz.f34) [0,0,1,0,1,1,1]) [0,0,1,0,1,1,1] rfl (storesC_at q44_st [0,0,1,0,1,1,1])) 81 q44_d1 q44_dx1).mono fun st k h=>ckD_mono h fun v hv hw=>(hv hw).elim fun n hn=>⟨n,Eq.mpr (q44_v1 k n v) hn⟩
def q44_B1:Labs:=([0,1,0,1,1,1],q44_X1)::q44_B0
theorem q44_b1:LabsOk Tryz.prog (bodyOf Tryz.f34) q44_B1:=LabsOk.cons q44_x1 (q44_b0)
def q44_raw (s0:LI) (K:Res→List Cell→Prop):Prop:=
 bif (decide ((0:Int)<(List.length s0:Int))) then
 bif decide (0≤(0:Int)∧(0:Int)<(List.length s0:Int)) then
 bif (decide ((rd (0:Int) s0 (0:Int))=(62:Int))) then
 (wfD q44_d0 (s0,(0:Int),())→∃ n,q44_L0 (fun (s0:LI) (n4:Int)=>wfD q44_d0x0 (s0,n4,())→(
 bif decide (0≤(1:Int)∧(1:Int)≤(List.length s0:Int)) then
 K (.tup [.v .str (List.take (Int.toNat (1:Int)) s0),.v yI n4]) []
 else False)) n s0 (0:Int))
 else
 bif decide (0≤(0:Int)∧(0:Int)<(List.length s0:Int)) then
 bif (decide ((rd (0:Int) s0 (0:Int))=(60:Int))) then
 (wfD q44_d0 (s0,(0:Int),())→∃ n,q44_L0 (fun (s0:LI) (n4:Int)=>wfD q44_d0x0 (s0,n4,())→(
 bif decide (0≤(1:Int)∧(1:Int)≤(List.length s0:Int)) then
 K (.tup [.v .str (List.take (Int.toNat (1:Int)) s0),.v yI n4]) []
 else False)) n s0 (0:Int))
 else
 ∀ (r1:List (LI)),r1=q43_F→(
 wfR (.one (.fr 9 .str r1))→(
 (wfD q44_d1 (s0,r1,(0:Int),())→∃ n,q44_L1 (fun (x2:LI) (x3:Int)=>wfD q44_d1r (x2,x3,())→(
 K (.tup [.v .str x2,.v yI x3]) [])) (wfD q44_d1x2 ()→(
 K (.tup [.v .str ([]:LI),.v yI (0:Int)]) [])) n s0 r1 (0:Int))))
 else False
 else False
 else
 ∀ (r2:List (LI)),r2=q43_F→(
 wfR (.one (.fr 9 .str r2))→(
 (wfD q44_d1 (s0,r2,(0:Int),())→∃ n,q44_L1 (fun (x2:LI) (x3:Int)=>wfD q44_d1r (x2,x3,())→(
 K (.tup [.v .str x2,.v yI x3]) [])) (wfD q44_d1x2 ()→(
 K (.tup [.v .str ([]:LI),.v yI (0:Int)]) [])) n s0 r2 (0:Int))))
def q44_A:List AS:=[.v yB]
def q44_L0_P (s:LI) (i:Int):Prop:=i=0∧0<s.length∧s.length≤lim
def q44_L0_F (s:LI) (i:Int):LI×Int:=(s,(reps (rd (0:Int) s (0:Int)) s:Int))
theorem q44_l0 (kx0:LI→Int→Prop) (s:LI) (hs:s.length≤lim) (h0:0<s.length) :
    ∀ (n i:Nat),s.length<n+i→i≤s.length→kx0 s ((i+reps (rd (0:Int) s (0:Int)) (s.drop i):Nat):Int)→q44_L0 kx0 n s (i:Int)
  | 0,i,hn,hi,_=>absurd hn (by omega)
  | n+1,i,hn,hi,hx=>by
    intro _
    unfold q44_T0
    have hlim:lim=1099511627776:=rfl
    refine brb (fun hb=>?_) (fun hb=>?_)
    · have hi':i<s.length:=by have:=of_decide_eq_true hb; omega
      refine asrt (by omega) (asrt (by omega) ?_)
      rw [dropc hi',reps_cons] at hx
      rw [rd_drop hi']
      refine brb (fun hc=>?_) (fun hc=>?_)
      · rw [if_pos (of_decide_eq_true hc)] at hx
        rw [wrap_i64 (by omega) (by omega),show (i:Int)+1=((i+1:Nat):Int) by omega]
        refine q44_l0 kx0 s hs h0 n (i+1) (by omega) (by omega) ?_
        rw [show i+1+reps (rd (0:Int) s (0:Int)) (s.drop (i+1))=i+(reps (rd (0:Int) s (0:Int)) (s.drop (i+1))+1) by omega]
        exact hx
      · rw [if_neg (of_decide_eq_false hc)] at hx
        exact hx
    · have hi':s.length≤i:=by have:=of_decide_eq_false hb; omega
      rw [List.drop_eq_nil_of_le hi'] at hx
      exact hx
theorem q44_L0_sp (kx0:LI→Int→Prop) (s:LI) (i:Int) (hp:q44_L0_P s i) (hx:∀ q:LI×Int,q=q44_L0_F s i→kx0 q.1 q.2):∃ m,q44_L0 kx0 m s i:=by
  obtain ⟨rfl,h0,hs⟩:=hp
  refine ⟨s.length+1,q44_l0 kx0 s hs h0 _ 0 (by omega) (by omega) ?_⟩
  rw [List.drop_zero,Nat.zero_add]
  exact hx _ rfl
def q44_L1_P (s:LI) (l:List (LI)) (i:Int):Prop:=i=0∧l.length≤lim
def nmd (s:LI):List (LI)→Option (LI)
  | []=>none
  | x::l=>if x.length≤s.length∧s.take x.length=x then some x else nmd s l
theorem nmd_cons (s x:LI) (l:List (LI)):nmd s (x::l)=if x.length≤s.length∧s.take x.length=x then some x else nmd s l:=rfl
def q44_L1_F (s:LI) (l:List (LI)) (i:Int):(LI×Int)⊕Unit:=
 match nmd s l with
 | some x=>.inl (x,(x.length:Int))
 | none=>.inr ()
set_option maxHeartbeats 4000000 in
theorem q44_l1 (kr:LI→Int→Prop) (kx2:Prop) (s:LI) (l:List (LI)) (hl:l.length≤lim) :
    ∀ (n i:Nat),l.length<n+i→i≤l.length→(∀ x,nmd s (l.drop i)=some x→kr x (x.length:Int))→(nmd s (l.drop i)=none→kx2)→q44_L1 kr kx2 n s l (i:Int)
  | 0,i,hn,hi,_,_=>absurd hn (by omega)
  | n+1,i,hn,hi,hr,hx=>by
    intro _
    unfold q44_T1
    have hlim:lim=1099511627776:=rfl
    rcases Nat.lt_or_ge i l.length with hi' | hi'
    · have c1:decide ((i:Int)<(l.length:Int))=true:=decide_eq_true (by omega)
      have c2:decide (0≤(i:Int)∧(i:Int)<(l.length:Int))=true:=decide_eq_true (by omega)
      have e:rd ([]:LI) l (i:Int)=l[i]:=by show l.getD (i:Int).toNat []=_; rw [Int.toNat_natCast]; simp [hi']
      rw [List.drop_eq_getElem_cons hi',nmd_cons] at hr hx
      have hy:(IntKind.wrap .i64 ((i:Int)+1))=((i+1:Nat):Int):=by rw [wrap_i64 (by omega) (by omega)]; omega
      rw [hy]
      simp only [e,c1,c2,cond_true]
      clear e
      generalize l[i]=x at hr hx ⊢
      by_cases h1:x.length≤s.length
      · have c3:decide ((x.length:Int)≤(s.length:Int))=true:=decide_eq_true (by omega)
        have c4:decide (0≤(x.length:Int)∧(x.length:Int)≤(s.length:Int))=true:=decide_eq_true (by omega)
        have c5:Int.toNat (x.length:Int)=x.length:=Int.toNat_natCast _
        simp only [c3,c4,c5,cond_true]
        by_cases h2:s.take x.length=x
        · have c6:decide (s.take x.length=x)=true:=decide_eq_true h2
          have:=hr x (by rw [if_pos ⟨h1,h2⟩])
          simp only [c6,cond_true,this,and_self]
        · have c6:decide (s.take x.length=x)=false:=decide_eq_false h2
          rw [if_neg (fun h=>h2 h.2)] at hr hx
          have:=q44_l1 kr kx2 s l hl n (i+1) (by omega) (by omega) hr hx
          simp only [c6,cond_false,this,and_self]
      · have c3:decide ((x.length:Int)≤(s.length:Int))=false:=decide_eq_false (by omega)
        rw [if_neg (fun h=>h1 h.1)] at hr hx
        have:=q44_l1 kr kx2 s l hl n (i+1) (by omega) (by omega) hr hx
        simp only [c3,cond_false,this,and_self]
    · have c1:decide ((i:Int)<(l.length:Int))=false:=decide_eq_false (by omega)
      rw [List.drop_eq_nil_of_le hi'] at hx
      rw [c1]
      exact hx rfl
theorem q44_L1_sp (kr:LI→Int→Prop) (kx2:Prop) (s:LI) (l:List (LI)) (i:Int) (hp:q44_L1_P s l i) (hr:∀ q:LI×Int,q44_L1_F s l i=.inl q→kr q.1 q.2) (hx:∀ q:Unit,q44_L1_F s l i=.inr q→kx2):∃ m,q44_L1 kr kx2 m s l i:=by
  obtain ⟨rfl,hl⟩:=hp
  refine ⟨l.length+1,q44_l1 kr kx2 s l hl _ 0 (by omega) (by omega) (fun x h=>?_) (fun h=>?_)⟩
  · rw [List.drop_zero] at h
    exact hr (x,(x.length:Int)) (by unfold q44_L1_F; rw [h])
  · rw [List.drop_zero] at h
    exact hx () (by unfold q44_L1_F; rw [h])

def q44_P (s0:LI):Prop:=
 bif (decide ((0:Int)<(List.length s0:Int))) then
 (0≤(0:Int)∧(0:Int)<(List.length s0:Int))∧(
 bif (decide ((rd (0:Int) s0 (0:Int))=(62:Int))) then
 q44_L0_P s0 (0:Int)∧(
 let q0x0:LI×Int:=q44_L0_F s0 (0:Int)
 let s0:LI:=q0x0.1
 let n4:Int:=q0x0.2
 (0≤(1:Int)∧(1:Int)≤(List.length s0:Int)))
 else
 (0≤(0:Int)∧(0:Int)<(List.length s0:Int))∧(
 bif (decide ((rd (0:Int) s0 (0:Int))=(60:Int))) then
 q44_L0_P s0 (0:Int)∧(
 let q0x0:LI×Int:=q44_L0_F s0 (0:Int)
 let s0:LI:=q0x0.1
 let n4:Int:=q0x0.2
 (0≤(1:Int)∧(1:Int)≤(List.length s0:Int)))
 else
 let r1:List (LI):=q43_F
 q44_L1_P s0 r1 (0:Int)))
 else
 let r2:List (LI):=q43_F
 q44_L1_P s0 r2 (0:Int)
def q44_F (s0:LI):LI×Int:=
 bif (decide ((0:Int)<(List.length s0:Int))) then
 bif (decide ((rd (0:Int) s0 (0:Int))=(62:Int))) then
 let q0x0:LI×Int:=q44_L0_F s0 (0:Int)
 let s0:LI:=q0x0.1
 let n4:Int:=q0x0.2
 ((List.take (Int.toNat (1:Int)) s0),n4)
 else
 bif (decide ((rd (0:Int) s0 (0:Int))=(60:Int))) then
 let q0x0:LI×Int:=q44_L0_F s0 (0:Int)
 let s0:LI:=q0x0.1
 let n4:Int:=q0x0.2
 ((List.take (Int.toNat (1:Int)) s0),n4)
 else
 let r1:List (LI):=q43_F
 Sum.elim (fun q1r=>
 let x2:LI:=q1r.1
 let x3:Int:=q1r.2
 (x2,x3)) (fun q1x2=>
 (([]:LI),(0:Int))) (q44_L1_F s0 r1 (0:Int))
 else
 let r2:List (LI):=q43_F
 Sum.elim (fun q1r=>
 let x2:LI:=q1r.1
 let x3:Int:=q1r.2
 (x2,x3)) (fun q1x2=>
 (([]:LI),(0:Int))) (q44_L1_F s0 r2 (0:Int))
theorem q44_sp (s0:LI) (K:Res→List Cell→Prop) (_:wfA q44_A (s0,())) (hp:q44_P s0) (h:∀ r:LI×Int,r=q44_F s0→K (.tup [.v .str r.1,.v yI r.2]) []):q44_raw s0 K:=
 br1 hp h (fun _ hp h=>as1 hp fun hp=>br1 hp h (fun _ hp h=>fun _=>q44_L0_sp _ _ _ hp.1 (have hp:=hp.2; al (as0 hp (h _ rfl))))
 fun _ hp h=>as1 hp fun hp=>br1 hp h (fun _ hp h=>fun _=>q44_L0_sp _ _ _ hp.1 (have hp:=hp.2; al (as0 hp (h _ rfl))))
 fun _ hp h=>al (fun _=>q44_L1_sp _ _ _ _ _ hp
 (fun _ e _=>have h:=sl e h; h _ rfl)
 (fun _ e _=>have h:=sr e h; h _ rfl)))
 fun _ hp h=>al (fun _=>q44_L1_sp _ _ _ _ _ hp
 (fun _ e _=>have h:=sl e h; h _ rfl)
 (fun _ e _=>have h:=sr e h; h _ rfl))
def q44_C (v:valsA q44_A) (K:Res→List Cell→Prop):Prop:=q44_P v.1∧∀ r:LI×Int,r=q44_F v.1→K (.tup [.v .str r.1,.v yI r.2]) []
def q44_S:App:=specW q44_A q44_C
theorem q44_wv (K:Res→List Cell→Prop):∀ v:valsA q44_A,runF tb (getG q44_G) q44_B1 Tryz.f34 [true,true] (mkA q44_A v) K=q44_raw v.1 K
  | (s0,())=>by kernel_rfl
theorem q44_ok:AppOk Tryz.prog 34 q44_S:=
  AppOk.specW (spec_ok ((runF_ok tb_M tb_ok q44_Gok (q44_b1) (f:=34) (fn:=Tryz.f34) (by kernel_rfl) (by kernel_rfl) q44_st [true,true])) fun v K hw h=>(q44_wv K v).mpr (q44_sp v.1 K hw h.1 h.2))

def q37_G:List (Nat×App):=[]
theorem q37_Gok:GOk Tryz.prog (getG q37_G):=GOk.nil
theorem q37_st:storesC (bodyOf Tryz.f74)=true:=by kernel_rfl
def q37_d0:List LS:=[.v 0 yB,.v 3 yI]
def q37_d0r:List LS:=[.v 2 yI]
def q37_d0x0:List LS:=[]
def q37_dx0:DX:=⟨none,some q37_d0r,[(0,q37_d0x0)]⟩
def q37_y0r (k:Ex→St→Prop) (x2:Int):Prop:=wfD q37_d0r (x2,())→k .ret (mkD 23 q37_d0r (x2,()))
def q37_y0x0 (k:Ex→St→Prop):Prop:=wfD q37_d0x0 ()→k (.exit 0) (mkD 23 q37_d0x0 ())
def q37_T0 (Y:LI→Int→Prop) (kr:Int→Prop) (kx0:Prop) (s0:LI) (i3:Int):Prop:=
 bif (decide (i3<(List.length s0:Int))) then
 bif decide (0≤i3∧i3<(List.length s0:Int)) then
 bif (decide ((rd (0:Int) s0 i3)=(47:Int))) then
 kr i3
 else
 bif decide (0≤i3∧i3<(List.length s0:Int)) then
 bif (decide ((rd (0:Int) s0 i3)=(92:Int))) then
 Y s0 (IntKind.wrap .i64 ((IntKind.wrap .i64 (i3+(1:Int)))+(1:Int)))
 else
 Y s0 (IntKind.wrap .i64 (i3+(1:Int)))
 else False
 else False
 else
 kx0
def q37_L0 (kr:Int→Prop) (kx0:Prop):Nat→LI→Int→Prop
  | 0,_,_=>False
  | n+1,s0,i3=>wfD q37_d0 (s0,i3,())→q37_T0 (q37_L0 kr kx0 n) kr kx0 s0 i3
def q37_c0:Pce:=ex tb (getG q37_G) [] (at' (bodyOf Tryz.f74) [0,0,1,0,1]) [0,0,1,0,1]
def q37_g0 (k:Ex→St→Prop) (n:Nat) (v:vals q37_d0):Prop:=q37_L0 (q37_y0r k) (q37_y0x0 k) n v.1 v.2.1
theorem q37_s0 (k:Ex→St→Prop) (Y:vals q37_d0→Prop):∀ v:vals q37_d0,q37_c0 (mkD 23 q37_d0 v) (lpK 23 q37_d0 q37_dx0 k Y)=q37_T0 (fun s0 i3=>Y (s0,i3,())) (q37_y0r k) (q37_y0x0 k) v.1 v.2.1
  | (s0,i3,())=>by kernel_rfl
theorem q37_v0 (k:Ex→St→Prop):∀ (n:Nat) (v:vals q37_d0),lpD 23 q37_d0 q37_dx0 q37_c0 k n v=q37_g0 k n v
  | 0,(s0,i3,())=>rfl
  | n+1,(s0,i3,())=>congrArg (fun Z:Prop=>wfD q37_d0 (s0,i3,())→Z) ((q37_s0 k _ (s0,i3,())).trans (congrArg (fun Y=>q37_T0 Y (q37_y0r k) (q37_y0x0 k) s0 i3) (funext fun s0=>funext fun i3=>q37_v0 k n (s0,i3,()))))
def q37_X0:Pce:=fun st k=>ckD 23 q37_d0 st fun v=>wfD q37_d0 v→∃ n,q37_g0 k n v
theorem q37_x0:SemOk Tryz.prog (at' (bodyOf Tryz.f74) [0,1,0,1]) q37_X0:=
  (SemOk.loop (ex_sound tb_M tb_ok q37_Gok (LabsOk.nil) (at' (bodyOf Tryz.f74) [0,0,1,0,1]) [0,0,1,0,1] rfl (storesC_at q37_st [0,0,1,0,1])) 23 q37_d0 q37_dx0).mono fun st k h=>ckD_mono h fun v hv hw=>(hv hw).elim fun n hn=>⟨n,Eq.mpr (q37_v0 k n v) hn⟩
def q37_B0:Labs:=([0,1,0,1],q37_X0)::[]
theorem q37_b0:LabsOk Tryz.prog (bodyOf Tryz.f74) q37_B0:=LabsOk.cons q37_x0 (LabsOk.nil)
def q37_raw (s0:LI) (K:Res→List Cell→Prop):Prop:=
 (wfD q37_d0 (s0,(0:Int),())→∃ n,q37_L0 (fun (x2:Int)=>wfD q37_d0r (x2,())→(
 K (.one (.v yI x2)) [])) (wfD q37_d0x0 ()→(
 K (.one (.v yI (-1:Int))) [])) n s0 (0:Int))
def q37_A:List AS:=[.v yB]
def q37_L0_P (s:LI) (i:Int):Prop:=i=0∧s.length≤lim
def q37_L0_F (s:LI) (_:Int):Int⊕Unit:=if clo s 47<s.length then .inl (clo s 47:Int) else .inr ()
theorem q37_l0 (kr:Int→Prop) (kx0:Prop) (s:LI) (hs:s.length≤lim) :
    ∀ (n i:Nat),s.length+1<n+i→i≤s.length+1→(i+clo (s.drop i) 47<s.length→kr ((i+clo (s.drop i) 47:Nat):Int))→(s.length≤i+clo (s.drop i) 47→kx0)→q37_L0 kr kx0 n s (i:Int)
  | 0,i,hn,hi,hr,hx=>absurd hn (by omega)
  | n+1,i,hn,hi,hr,hx=>by
    intro _
    unfold q37_T0
    have hlim:lim=1099511627776:=rfl
    refine brn (fun hlt=>asrt (by omega) ?_) (fun hge=>hx (by omega))
    have hi':i<s.length:=by omega
    rw [rd_drop hi',wrap_i64 (n:=(i:Int)+1) (by omega) (by omega),wrap_i64 (by omega) (by omega),show (i:Int)+1+1=((i+2:Nat):Int) by omega,show (i:Int)+1=((i+1:Nat):Int) by omega]
    rw [dropc hi',clo_cons] at hr hx
    refine brn (fun hc=>?_) (fun hc=>asrt (by omega) (brn (fun h92=>?_) (fun h92=>?_)))
    · rw [if_neg (by omega),if_pos hc] at hr
      exact hr (by omega)
    · rw [if_pos h92] at hr hx
      refine q37_l0 kr kx0 s hs n (i+2) (by omega) (by omega) ?_ ?_
      · rcases Nat.lt_or_ge (i+1) s.length with h | h
        · rw [dropc h] at hr
          dsimp only at hr
          intro h2
          rw [show i+2+clo (s.drop (i+2)) 47=i+(clo (s.drop (i+1+1)) 47+2) by rw [show i+1+1=i+2 from rfl]; omega] at h2 ⊢
          exact hr h2
        · intro h2; omega
      · rcases Nat.lt_or_ge (i+1) s.length with h | h
        · rw [dropc h] at hx
          dsimp only at hx
          intro h2
          exact hx (by rw [show i+1+1=i+2 from rfl]; omega)
        · rw [List.drop_eq_nil_of_le h] at hx
          exact fun _=>hx (by dsimp only; omega)
    · rw [if_neg h92,if_neg hc] at hr hx
      exact q37_l0 kr kx0 s hs n (i+1) (by omega) (by omega) (fun h2=>by
        rw [show i+1+clo (s.drop (i+1)) 47=i+(clo (s.drop (i+1)) 47+1) by omega] at h2 ⊢; exact hr h2) (fun h2=>hx (by omega))
theorem q37_L0_sp (kr:Int→Prop) (kx0:Prop) (s:LI) (i:Int) (hp:q37_L0_P s i)
    (hr:∀ q:Int,q37_L0_F s i=.inl q→kr q) (hx:∀ q:Unit,q37_L0_F s i=.inr q→kx0):∃ m,q37_L0 kr kx0 m s i:=by
  obtain ⟨rfl,hs⟩:=hp
  refine ⟨s.length+2,q37_l0 kr kx0 s hs _ 0 (by omega) (by omega) (fun h=>?_) (fun h=>?_)⟩
  · simp only [List.drop_zero,Nat.zero_add] at h ⊢
    exact hr _ (by unfold q37_L0_F; rw [if_pos h])
  · simp only [List.drop_zero,Nat.zero_add] at h
    exact hx () (by unfold q37_L0_F; rw [if_neg (by omega)])

def q37_P (s0:LI):Prop:=
 q37_L0_P s0 (0:Int)
def q37_F (s0:LI):Int:=
 Sum.elim (fun q0r=>
 let x2:Int:=q0r
 x2) (fun q0x0=>
 (-1:Int)) (q37_L0_F s0 (0:Int))
theorem q37_sp (s0:LI) (K:Res→List Cell→Prop) (_:wfA q37_A (s0,())) (hp:q37_P s0) (h:∀ r:Int,r=q37_F s0→K (.one (.v yI r)) []):q37_raw s0 K:=
 fun _=>q37_L0_sp _ _ _ _ hp
 (fun _ e _=>have h:=sl e h; h _ rfl)
 (fun _ e _=>have h:=sr e h; h _ rfl)
def q37_C (v:valsA q37_A) (K:Res→List Cell→Prop):Prop:=q37_P v.1∧∀ r:Int,r=q37_F v.1→K (.one (.v yI r)) []
def q37_S:App:=specW q37_A q37_C
theorem q37_wv (K:Res→List Cell→Prop):∀ v:valsA q37_A,runF tb (getG q37_G) q37_B0 Tryz.f74 [true] (mkA q37_A v) K=q37_raw v.1 K
  | (s0,())=>by kernel_rfl
theorem q37_ok:AppOk Tryz.prog 74 q37_S:=
  AppOk.specW (spec_ok ((runF_ok tb_M tb_ok q37_Gok (q37_b0) (f:=74) (fn:=Tryz.f74) (by kernel_rfl) (by kernel_rfl) q37_st [true])) fun v K hw h=>(q37_wv K v).mpr (q37_sp v.1 K hw h.1 h.2))

def q45_G:List (Nat×App):=[]
theorem q45_Gok:GOk Tryz.prog (getG q45_G):=GOk.nil
theorem q45_st:storesC (bodyOf Tryz.f75)=true:=by kernel_rfl
def q45_d0:List LS:=[.v 0 yB,.v 3 yI]
def q45_d0r:List LS:=[.v 2 .bool]
def q45_d0x0:List LS:=[]
def q45_dx0:DX:=⟨none,some q45_d0r,[(0,q45_d0x0)]⟩
def q45_y0r (k:Ex→St→Prop) (x2:Bool):Prop:=wfD q45_d0r (x2,())→k .ret (mkD 22 q45_d0r (x2,()))
def q45_y0x0 (k:Ex→St→Prop):Prop:=wfD q45_d0x0 ()→k (.exit 0) (mkD 22 q45_d0x0 ())
def q45_T0 (Y:LI→Int→Prop) (kr:Bool→Prop) (kx0:Prop) (s0:LI) (i3:Int):Prop:=
 bif (decide (i3<(List.length s0:Int))) then
 bif decide (0≤i3∧i3<(List.length s0:Int)) then
 bif (decide ((rd (0:Int) s0 i3)=(92:Int))) then
 bif (decide ((IntKind.wrap .i64 (i3+(1:Int)))=(List.length s0:Int))) then
 kr true
 else
 Y s0 (IntKind.wrap .i64 ((IntKind.wrap .i64 (i3+(1:Int)))+(1:Int)))
 else
 Y s0 (IntKind.wrap .i64 (i3+(1:Int)))
 else False
 else
 kx0
def q45_L0 (kr:Bool→Prop) (kx0:Prop):Nat→LI→Int→Prop
  | 0,_,_=>False
  | n+1,s0,i3=>wfD q45_d0 (s0,i3,())→q45_T0 (q45_L0 kr kx0 n) kr kx0 s0 i3
def q45_c0:Pce:=ex tb (getG q45_G) [] (at' (bodyOf Tryz.f75) [0,0,1,0,1]) [0,0,1,0,1]
def q45_g0 (k:Ex→St→Prop) (n:Nat) (v:vals q45_d0):Prop:=q45_L0 (q45_y0r k) (q45_y0x0 k) n v.1 v.2.1
theorem q45_s0 (k:Ex→St→Prop) (Y:vals q45_d0→Prop):∀ v:vals q45_d0,q45_c0 (mkD 22 q45_d0 v) (lpK 22 q45_d0 q45_dx0 k Y)=q45_T0 (fun s0 i3=>Y (s0,i3,())) (q45_y0r k) (q45_y0x0 k) v.1 v.2.1
  | (s0,i3,())=>by kernel_rfl
theorem q45_v0 (k:Ex→St→Prop):∀ (n:Nat) (v:vals q45_d0),lpD 22 q45_d0 q45_dx0 q45_c0 k n v=q45_g0 k n v
  | 0,(s0,i3,())=>rfl
  | n+1,(s0,i3,())=>congrArg (fun Z:Prop=>wfD q45_d0 (s0,i3,())→Z) ((q45_s0 k _ (s0,i3,())).trans (congrArg (fun Y=>q45_T0 Y (q45_y0r k) (q45_y0x0 k) s0 i3) (funext fun s0=>funext fun i3=>q45_v0 k n (s0,i3,()))))
def q45_X0:Pce:=fun st k=>ckD 22 q45_d0 st fun v=>wfD q45_d0 v→∃ n,q45_g0 k n v
theorem q45_x0:SemOk Tryz.prog (at' (bodyOf Tryz.f75) [0,1,0,1]) q45_X0:=
  (SemOk.loop (ex_sound tb_M tb_ok q45_Gok (LabsOk.nil) (at' (bodyOf Tryz.f75) [0,0,1,0,1]) [0,0,1,0,1] rfl (storesC_at q45_st [0,0,1,0,1])) 22 q45_d0 q45_dx0).mono fun st k h=>ckD_mono h fun v hv hw=>(hv hw).elim fun n hn=>⟨n,Eq.mpr (q45_v0 k n v) hn⟩
def q45_B0:Labs:=([0,1,0,1],q45_X0)::[]
theorem q45_b0:LabsOk Tryz.prog (bodyOf Tryz.f75) q45_B0:=LabsOk.cons q45_x0 (LabsOk.nil)
def q45_raw (s0:LI) (K:Res→List Cell→Prop):Prop:=
 (wfD q45_d0 (s0,(0:Int),())→∃ n,q45_L0 (fun (x2:Bool)=>wfD q45_d0r (x2,())→(
 K (.one (.v .bool x2)) [])) (wfD q45_d0x0 ()→(
 K (.one (.v .bool false)) [])) n s0 (0:Int))
def q45_A:List AS:=[.v yB]
def q45_L0_P (s:LI) (i:Int):Prop:=i=0∧s.length≤lim
def q45_L0_F (s:LI) (_:Int):Bool⊕Unit:=if alo s then .inl true else .inr ()
theorem q45_l0 (kr:Bool→Prop) (kx0:Prop) (s:LI) (hs:s.length≤lim) :
    ∀ (n i:Nat),s.length+1<n+i→i≤s.length+1→(alo (s.drop i)=true→kr true)→(alo (s.drop i)=false→kx0)→q45_L0 kr kx0 n s (i:Int)
  | 0,i,hn,hi,hr,hx=>absurd hn (by omega)
  | n+1,i,hn,hi,hr,hx=>by
    intro _
    unfold q45_T0
    have hlim:lim=1099511627776:=rfl
    refine brn (fun hlt=>asrt (by omega) ?_) (fun hge=>hx (by rw [List.drop_eq_nil_of_le (by omega)]; rfl))
    have hi':i<s.length:=by omega
    rw [rd_drop hi',wrap_i64 (n:=(i:Int)+1) (by omega) (by omega),wrap_i64 (by omega) (by omega),show (i:Int)+1+1=((i+2:Nat):Int) by omega,show (i:Int)+1=((i+1:Nat):Int) by omega]
    rw [dropc hi',alo_cons] at hr hx
    refine brn (fun h92=>?_) (fun h92=>?_)
    · refine brn (fun he=>?_) (fun he=>?_)
      · rw [List.drop_eq_nil_of_le (show s.length≤i+1 by omega)] at hr
        exact hr (by simp [h92])
      · have h:i+1<s.length:=by omega
        rw [dropc h] at hr hx
        dsimp only at hr hx
        rw [if_pos h92] at hr hx
        exact q45_l0 kr kx0 s hs n (i+2) (by omega) (by omega) hr hx
    · refine q45_l0 kr kx0 s hs n (i+1) (by omega) (by omega) ?_ ?_
      · rcases Nat.lt_or_ge (i+1) s.length with h | h
        · rw [dropc h] at hr ⊢
          dsimp only at hr
          rw [if_neg h92] at hr; exact hr
        · rw [List.drop_eq_nil_of_le h]; intro h2; cases h2
      · rcases Nat.lt_or_ge (i+1) s.length with h | h
        · rw [dropc h] at hx ⊢
          dsimp only at hx
          rw [if_neg h92] at hx; exact hx
        · rw [List.drop_eq_nil_of_le h] at hx
          exact fun _=>hx (by simp [h92])
theorem q45_L0_sp (kr:Bool→Prop) (kx0:Prop) (s:LI) (i:Int) (hp:q45_L0_P s i)
    (hr:∀ q:Bool,q45_L0_F s i=.inl q→kr q) (hx:∀ q:Unit,q45_L0_F s i=.inr q→kx0):∃ m,q45_L0 kr kx0 m s i:=by
  obtain ⟨rfl,hs⟩:=hp
  refine ⟨s.length+2,q45_l0 kr kx0 s hs _ 0 (by omega) (by omega) (fun h=>?_) (fun h=>?_)⟩
  · rw [List.drop_zero] at h
    exact hr _ (by unfold q45_L0_F; rw [if_pos h])
  · rw [List.drop_zero] at h
    exact hx () (by unfold q45_L0_F; rw [if_neg (by rw [h]; simp)])

def q45_P (s0:LI):Prop:=
 q45_L0_P s0 (0:Int)
def q45_F (s0:LI):Bool:=
 Sum.elim (fun q0r=>
 let x2:Bool:=q0r
 x2) (fun q0x0=>
 false) (q45_L0_F s0 (0:Int))
theorem q45_sp (s0:LI) (K:Res→List Cell→Prop) (_:wfA q45_A (s0,())) (hp:q45_P s0) (h:∀ r:Bool,r=q45_F s0→K (.one (.v .bool r)) []):q45_raw s0 K:=
 fun _=>q45_L0_sp _ _ _ _ hp
 (fun _ e _=>have h:=sl e h; h _ rfl)
 (fun _ e _=>have h:=sr e h; h _ rfl)
def q45_C (v:valsA q45_A) (K:Res→List Cell→Prop):Prop:=q45_P v.1∧∀ r:Bool,r=q45_F v.1→K (.one (.v .bool r)) []
def q45_S:App:=specW q45_A q45_C
theorem q45_wv (K:Res→List Cell→Prop):∀ v:valsA q45_A,runF tb (getG q45_G) q45_B0 Tryz.f75 [true] (mkA q45_A v) K=q45_raw v.1 K
  | (s0,())=>by kernel_rfl
theorem q45_ok:AppOk Tryz.prog 75 q45_S:=
  AppOk.specW (spec_ok ((runF_ok tb_M tb_ok q45_Gok (q45_b0) (f:=75) (fn:=Tryz.f75) (by kernel_rfl) (by kernel_rfl) q45_st [true])) fun v K hw h=>(q45_wv K v).mpr (q45_sp v.1 K hw h.1 h.2))

def q26_G:List (Nat×App):=[(74,q37_S),(75,q45_S),(33,q56_S)]
theorem q26_Gok:GOk Tryz.prog (getG q26_G):=GOk.cons q37_ok (GOk.cons q45_ok (GOk.cons q56_ok (GOk.nil)))
theorem q26_st:storesC (bodyOf Tryz.f35)=true:=by kernel_rfl
def q26_d0:List LS:=[.v 1 yB,.b 2 16 [],.b 4 32 [],.c 16 tyX,.c 32 tyX]
def q26_d0r:List LS:=[.b 4 32 [],.v 5 yI,.c 32 tyX]
def q26_dx0:DX:=⟨none,some q26_d0r,[]⟩
def q26_y0r (k:Ex→St→Prop) (x5:Int) (x4b:tEx):Prop:=wfD q26_d0r (x5,x4b,())→k .ret (mkD 75 q26_d0r (x5,x4b,()))
def q26_J0 (kr:Int→tEx→Prop) (s1:LI) (x2b:tEx) (x4b:tEx):Prop:=
 q56_P s1 (0:Int)∧(
 ∀ (r4:Int),r4=q56_F s1 (0:Int)→(
 wI r4→(
 bif (!decide (r4=(List.length s1:Int))) then
 kr (240:Int) zX
 else
 kr (0:Int) x2b)))
def q26_g0 (k:Ex→St→Prop) (v:vals q26_d0):Prop:=q26_J0 (q26_y0r k) v.1 v.2.1 v.2.2.1
theorem q26_v0 (k:Ex→St→Prop):∀ v:vals q26_d0,ex tb (getG q26_G) [] (at' (bodyOf Tryz.f35) [1,1,1,1,1,1,1,1,1,1,1,1]) [1,1,1,1,1,1,1,1,1,1,1,1] (mkD 75 q26_d0 v) (wk 75 q26_dx0 k)=q26_g0 k v
  | (s1,x2b,x4b,())=>by kernel_rfl
def q26_X0:Pce:=fun st k=>ckD 75 q26_d0 st fun v=>wfD q26_d0 v→q26_g0 k v
theorem q26_x0:SemOk Tryz.prog (at' (bodyOf Tryz.f35) [1,1,1,1,1,1,1,1,1,1,1,1]) q26_X0:=
  (SemOk.wk (N:=75) (ds:=q26_d0) (dx:=q26_dx0) (ex_sound tb_M tb_ok q26_Gok (LabsOk.nil) (at' (bodyOf Tryz.f35) [1,1,1,1,1,1,1,1,1,1,1,1]) [1,1,1,1,1,1,1,1,1,1,1,1] rfl (storesC_at q26_st [1,1,1,1,1,1,1,1,1,1,1,1]))).mono fun st k h=>ckD_mono h fun v hv hw=>Eq.mpr (q26_v0 k v) (hv hw)
def q26_B0:Labs:=([1,1,1,1,1,1,1,1,1,1,1,1],q26_X0)::[]
theorem q26_b0:LabsOk Tryz.prog (bodyOf Tryz.f35) q26_B0:=LabsOk.cons q26_x0 (LabsOk.nil)
def q26_raw (x0:tEx) (s1:LI) (K:Res→List Cell→Prop):Prop:=
 bif (decide ((List.length s1:Int)=(0:Int))) then
 K (.tup [.v tyX zX,.v yI (240:Int)]) []
 else
 bif decide (0≤(0:Int)∧(0:Int)<(List.length s1:Int)) then
 bif (!decide ((rd (0:Int) s1 (0:Int))=(47:Int))) then
 K (.tup [.v tyX zX,.v yI (240:Int)]) []
 else
 bif decide (0≤(1:Int)∧(1:Int)≤(List.length s1:Int)) then
 q37_P (List.drop (Int.toNat (1:Int)) s1)∧(
 ∀ (r1:Int),r1=q37_F (List.drop (Int.toNat (1:Int)) s1)→(
 wI r1→(
 bif (decide (r1<(0:Int))) then
 K (.tup [.v tyX zX,.v yI (240:Int)]) []
 else
 bif decide (0≤r1∧r1≤(List.length (List.drop (Int.toNat (1:Int)) s1):Int)) then
 bif decide (List.length ([]:LI)+List.length (List.take (Int.toNat r1) (List.drop (Int.toNat (1:Int)) s1))≤lim) then
 bif decide (0≤(IntKind.wrap .i64 (r1+(1:Int)))∧(IntKind.wrap .i64 (r1+(1:Int)))≤(List.length (List.drop (Int.toNat (1:Int)) s1):Int)) then
 q37_P (List.drop (Int.toNat (IntKind.wrap .i64 (r1+(1:Int)))) (List.drop (Int.toNat (1:Int)) s1))∧(
 ∀ (r2:Int),r2=q37_F (List.drop (Int.toNat (IntKind.wrap .i64 (r1+(1:Int)))) (List.drop (Int.toNat (1:Int)) s1))→(
 wI r2→(
 bif (decide (r2<(0:Int))) then
 bif decide (List.length ([]:LI)+List.length (List.drop (Int.toNat (IntKind.wrap .i64 (r1+(1:Int)))) (List.drop (Int.toNat (1:Int)) s1))≤lim) then
 q45_P (List.drop (Int.toNat (IntKind.wrap .i64 (r1+(1:Int)))) (List.drop (Int.toNat (1:Int)) s1))∧(
 ∀ (r3:Bool),r3=q45_F (List.drop (Int.toNat (IntKind.wrap .i64 (r1+(1:Int)))) (List.drop (Int.toNat (1:Int)) s1))→(
 wB r3→(
 bif r3 then
 K (.tup [.v tyX zX,.v yI (240:Int)]) []
 else
 K (.tup [.v tyX (x0.1,x0.2.1,x0.2.2.1,x0.2.2.2.1,x0.2.2.2.2.1,x0.2.2.2.2.2.1,x0.2.2.2.2.2.2.1,(([]:LI)++(List.take (Int.toNat r1) (List.drop (Int.toNat (1:Int)) s1))),(([]:LI)++(List.drop (Int.toNat (IntKind.wrap .i64 (r1+(1:Int)))) (List.drop (Int.toNat (1:Int)) s1))),x0.2.2.2.2.2.2.2.2.2),.v yI (0:Int)]) [])))
 else False
 else
 bif decide (0≤r2∧r2≤(List.length (List.drop (Int.toNat (IntKind.wrap .i64 (r1+(1:Int)))) (List.drop (Int.toNat (1:Int)) s1)):Int)) then
 bif decide (List.length ([]:LI)+List.length (List.take (Int.toNat r2) (List.drop (Int.toNat (IntKind.wrap .i64 (r1+(1:Int)))) (List.drop (Int.toNat (1:Int)) s1)))≤lim) then
 bif decide (0≤(IntKind.wrap .i64 (r2+(1:Int)))∧(IntKind.wrap .i64 (r2+(1:Int)))≤(List.length (List.drop (Int.toNat (IntKind.wrap .i64 (r1+(1:Int)))) (List.drop (Int.toNat (1:Int)) s1)):Int)) then
 bif (decide ((0:Int)<(List.length (List.drop (Int.toNat (IntKind.wrap .i64 (r2+(1:Int)))) (List.drop (Int.toNat (IntKind.wrap .i64 (r1+(1:Int)))) (List.drop (Int.toNat (1:Int)) s1))):Int))) then
 bif decide (0≤(0:Int)∧(0:Int)<(List.length (List.drop (Int.toNat (IntKind.wrap .i64 (r2+(1:Int)))) (List.drop (Int.toNat (IntKind.wrap .i64 (r1+(1:Int)))) (List.drop (Int.toNat (1:Int)) s1))):Int)) then
 bif (decide ((rd (0:Int) (List.drop (Int.toNat (IntKind.wrap .i64 (r2+(1:Int)))) (List.drop (Int.toNat (IntKind.wrap .i64 (r1+(1:Int)))) (List.drop (Int.toNat (1:Int)) s1))) (0:Int))=(103:Int))) then
 bif decide (0≤(1:Int)∧(1:Int)≤(List.length (List.drop (Int.toNat (IntKind.wrap .i64 (r2+(1:Int)))) (List.drop (Int.toNat (IntKind.wrap .i64 (r1+(1:Int)))) (List.drop (Int.toNat (1:Int)) s1))):Int)) then
 (wfD q26_d0 ((List.drop (Int.toNat (1:Int)) (List.drop (Int.toNat (IntKind.wrap .i64 (r2+(1:Int)))) (List.drop (Int.toNat (IntKind.wrap .i64 (r1+(1:Int)))) (List.drop (Int.toNat (1:Int)) s1)))),(x0.1,x0.2.1,x0.2.2.1,x0.2.2.2.1,x0.2.2.2.2.1,x0.2.2.2.2.2.1,x0.2.2.2.2.2.2.1,(([]:LI)++(List.take (Int.toNat r1) (List.drop (Int.toNat (1:Int)) s1))),(([]:LI)++(List.take (Int.toNat r2) (List.drop (Int.toNat (IntKind.wrap .i64 (r1+(1:Int)))) (List.drop (Int.toNat (1:Int)) s1)))),true),zX,())→q26_J0 (fun (x5:Int) (x4b:tEx)=>wfD q26_d0r (x5,x4b,())→(
 K (.tup [.v tyX x4b,.v yI x5]) [])) (List.drop (Int.toNat (1:Int)) (List.drop (Int.toNat (IntKind.wrap .i64 (r2+(1:Int)))) (List.drop (Int.toNat (IntKind.wrap .i64 (r1+(1:Int)))) (List.drop (Int.toNat (1:Int)) s1)))) (x0.1,x0.2.1,x0.2.2.1,x0.2.2.2.1,x0.2.2.2.2.1,x0.2.2.2.2.2.1,x0.2.2.2.2.2.2.1,(([]:LI)++(List.take (Int.toNat r1) (List.drop (Int.toNat (1:Int)) s1))),(([]:LI)++(List.take (Int.toNat r2) (List.drop (Int.toNat (IntKind.wrap .i64 (r1+(1:Int)))) (List.drop (Int.toNat (1:Int)) s1)))),true) zX)
 else False
 else
 (wfD q26_d0 ((List.drop (Int.toNat (IntKind.wrap .i64 (r2+(1:Int)))) (List.drop (Int.toNat (IntKind.wrap .i64 (r1+(1:Int)))) (List.drop (Int.toNat (1:Int)) s1))),(x0.1,x0.2.1,x0.2.2.1,x0.2.2.2.1,x0.2.2.2.2.1,x0.2.2.2.2.2.1,x0.2.2.2.2.2.2.1,(([]:LI)++(List.take (Int.toNat r1) (List.drop (Int.toNat (1:Int)) s1))),(([]:LI)++(List.take (Int.toNat r2) (List.drop (Int.toNat (IntKind.wrap .i64 (r1+(1:Int)))) (List.drop (Int.toNat (1:Int)) s1)))),x0.2.2.2.2.2.2.2.2.2),zX,())→q26_J0 (fun (x5:Int) (x4b:tEx)=>wfD q26_d0r (x5,x4b,())→(
 K (.tup [.v tyX x4b,.v yI x5]) [])) (List.drop (Int.toNat (IntKind.wrap .i64 (r2+(1:Int)))) (List.drop (Int.toNat (IntKind.wrap .i64 (r1+(1:Int)))) (List.drop (Int.toNat (1:Int)) s1))) (x0.1,x0.2.1,x0.2.2.1,x0.2.2.2.1,x0.2.2.2.2.1,x0.2.2.2.2.2.1,x0.2.2.2.2.2.2.1,(([]:LI)++(List.take (Int.toNat r1) (List.drop (Int.toNat (1:Int)) s1))),(([]:LI)++(List.take (Int.toNat r2) (List.drop (Int.toNat (IntKind.wrap .i64 (r1+(1:Int)))) (List.drop (Int.toNat (1:Int)) s1)))),x0.2.2.2.2.2.2.2.2.2) zX)
 else False
 else
 (wfD q26_d0 ((List.drop (Int.toNat (IntKind.wrap .i64 (r2+(1:Int)))) (List.drop (Int.toNat (IntKind.wrap .i64 (r1+(1:Int)))) (List.drop (Int.toNat (1:Int)) s1))),(x0.1,x0.2.1,x0.2.2.1,x0.2.2.2.1,x0.2.2.2.2.1,x0.2.2.2.2.2.1,x0.2.2.2.2.2.2.1,(([]:LI)++(List.take (Int.toNat r1) (List.drop (Int.toNat (1:Int)) s1))),(([]:LI)++(List.take (Int.toNat r2) (List.drop (Int.toNat (IntKind.wrap .i64 (r1+(1:Int)))) (List.drop (Int.toNat (1:Int)) s1)))),x0.2.2.2.2.2.2.2.2.2),zX,())→q26_J0 (fun (x5:Int) (x4b:tEx)=>wfD q26_d0r (x5,x4b,())→(
 K (.tup [.v tyX x4b,.v yI x5]) [])) (List.drop (Int.toNat (IntKind.wrap .i64 (r2+(1:Int)))) (List.drop (Int.toNat (IntKind.wrap .i64 (r1+(1:Int)))) (List.drop (Int.toNat (1:Int)) s1))) (x0.1,x0.2.1,x0.2.2.1,x0.2.2.2.1,x0.2.2.2.2.1,x0.2.2.2.2.2.1,x0.2.2.2.2.2.2.1,(([]:LI)++(List.take (Int.toNat r1) (List.drop (Int.toNat (1:Int)) s1))),(([]:LI)++(List.take (Int.toNat r2) (List.drop (Int.toNat (IntKind.wrap .i64 (r1+(1:Int)))) (List.drop (Int.toNat (1:Int)) s1)))),x0.2.2.2.2.2.2.2.2.2) zX)
 else False
 else False
 else False)))
 else False
 else False
 else False)))
 else False
 else False
def q26_A:List AS:=[.v tyX,.v yB]

def q26_J0_P (s1:LI) (x2b:tEx) (x4b:tEx):Prop:=
 q56_P s1 (0:Int)
def q26_J0_F (s1:LI) (x2b:tEx) (x4b:tEx):Int×tEx:=
 let r4:Int:=q56_F s1 (0:Int)
 bif (!decide (r4=(List.length s1:Int))) then
 ((240:Int),zX)
 else
 ((0:Int),x2b)
theorem q26_J0_sp (kr:Int→tEx→Prop) (s1:LI) (x2b:tEx) (x4b:tEx) (hp:q26_J0_P s1 x2b x4b) (hr:∀ q:Int×tEx,q=q26_J0_F s1 x2b x4b→kr q.1 q.2):q26_J0 kr s1 x2b x4b:=
 have h:=hr; ⟨hp,al (br0 h (fun _ h=>h _ rfl)
 fun _ h=>h _ rfl)⟩
def q26_P (x0:tEx) (s1:LI):Prop:=
 bif (decide ((List.length s1:Int)=(0:Int))) then
 True
 else
 (0≤(0:Int)∧(0:Int)<(List.length s1:Int))∧(
 bif (!decide ((rd (0:Int) s1 (0:Int))=(47:Int))) then
 True
 else
 (0≤(1:Int)∧(1:Int)≤(List.length s1:Int))∧(
 q37_P (List.drop (Int.toNat (1:Int)) s1)∧(
 let r1:Int:=q37_F (List.drop (Int.toNat (1:Int)) s1)
 bif (decide (r1<(0:Int))) then
 True
 else
 (0≤r1∧r1≤(List.length (List.drop (Int.toNat (1:Int)) s1):Int))∧(
 (List.length ([]:LI)+List.length (List.take (Int.toNat r1) (List.drop (Int.toNat (1:Int)) s1))≤lim)∧(
 (0≤(IntKind.wrap .i64 (r1+(1:Int)))∧(IntKind.wrap .i64 (r1+(1:Int)))≤(List.length (List.drop (Int.toNat (1:Int)) s1):Int))∧(
 q37_P (List.drop (Int.toNat (IntKind.wrap .i64 (r1+(1:Int)))) (List.drop (Int.toNat (1:Int)) s1))∧(
 let r2:Int:=q37_F (List.drop (Int.toNat (IntKind.wrap .i64 (r1+(1:Int)))) (List.drop (Int.toNat (1:Int)) s1))
 bif (decide (r2<(0:Int))) then
 (List.length ([]:LI)+List.length (List.drop (Int.toNat (IntKind.wrap .i64 (r1+(1:Int)))) (List.drop (Int.toNat (1:Int)) s1))≤lim)∧(
 q45_P (List.drop (Int.toNat (IntKind.wrap .i64 (r1+(1:Int)))) (List.drop (Int.toNat (1:Int)) s1)))
 else
 (0≤r2∧r2≤(List.length (List.drop (Int.toNat (IntKind.wrap .i64 (r1+(1:Int)))) (List.drop (Int.toNat (1:Int)) s1)):Int))∧(
 (List.length ([]:LI)+List.length (List.take (Int.toNat r2) (List.drop (Int.toNat (IntKind.wrap .i64 (r1+(1:Int)))) (List.drop (Int.toNat (1:Int)) s1)))≤lim)∧(
 (0≤(IntKind.wrap .i64 (r2+(1:Int)))∧(IntKind.wrap .i64 (r2+(1:Int)))≤(List.length (List.drop (Int.toNat (IntKind.wrap .i64 (r1+(1:Int)))) (List.drop (Int.toNat (1:Int)) s1)):Int))∧(
 bif (decide ((0:Int)<(List.length (List.drop (Int.toNat (IntKind.wrap .i64 (r2+(1:Int)))) (List.drop (Int.toNat (IntKind.wrap .i64 (r1+(1:Int)))) (List.drop (Int.toNat (1:Int)) s1))):Int))) then
 (0≤(0:Int)∧(0:Int)<(List.length (List.drop (Int.toNat (IntKind.wrap .i64 (r2+(1:Int)))) (List.drop (Int.toNat (IntKind.wrap .i64 (r1+(1:Int)))) (List.drop (Int.toNat (1:Int)) s1))):Int))∧(
 bif (decide ((rd (0:Int) (List.drop (Int.toNat (IntKind.wrap .i64 (r2+(1:Int)))) (List.drop (Int.toNat (IntKind.wrap .i64 (r1+(1:Int)))) (List.drop (Int.toNat (1:Int)) s1))) (0:Int))=(103:Int))) then
 (0≤(1:Int)∧(1:Int)≤(List.length (List.drop (Int.toNat (IntKind.wrap .i64 (r2+(1:Int)))) (List.drop (Int.toNat (IntKind.wrap .i64 (r1+(1:Int)))) (List.drop (Int.toNat (1:Int)) s1))):Int))∧(
 q26_J0_P (List.drop (Int.toNat (1:Int)) (List.drop (Int.toNat (IntKind.wrap .i64 (r2+(1:Int)))) (List.drop (Int.toNat (IntKind.wrap .i64 (r1+(1:Int)))) (List.drop (Int.toNat (1:Int)) s1)))) (x0.1,x0.2.1,x0.2.2.1,x0.2.2.2.1,x0.2.2.2.2.1,x0.2.2.2.2.2.1,x0.2.2.2.2.2.2.1,(([]:LI)++(List.take (Int.toNat r1) (List.drop (Int.toNat (1:Int)) s1))),(([]:LI)++(List.take (Int.toNat r2) (List.drop (Int.toNat (IntKind.wrap .i64 (r1+(1:Int)))) (List.drop (Int.toNat (1:Int)) s1)))),true) zX)
 else
 q26_J0_P (List.drop (Int.toNat (IntKind.wrap .i64 (r2+(1:Int)))) (List.drop (Int.toNat (IntKind.wrap .i64 (r1+(1:Int)))) (List.drop (Int.toNat (1:Int)) s1))) (x0.1,x0.2.1,x0.2.2.1,x0.2.2.2.1,x0.2.2.2.2.1,x0.2.2.2.2.2.1,x0.2.2.2.2.2.2.1,(([]:LI)++(List.take (Int.toNat r1) (List.drop (Int.toNat (1:Int)) s1))),(([]:LI)++(List.take (Int.toNat r2) (List.drop (Int.toNat (IntKind.wrap .i64 (r1+(1:Int)))) (List.drop (Int.toNat (1:Int)) s1)))),x0.2.2.2.2.2.2.2.2.2) zX)
 else
 q26_J0_P (List.drop (Int.toNat (IntKind.wrap .i64 (r2+(1:Int)))) (List.drop (Int.toNat (IntKind.wrap .i64 (r1+(1:Int)))) (List.drop (Int.toNat (1:Int)) s1))) (x0.1,x0.2.1,x0.2.2.1,x0.2.2.2.1,x0.2.2.2.2.1,x0.2.2.2.2.2.1,x0.2.2.2.2.2.2.1,(([]:LI)++(List.take (Int.toNat r1) (List.drop (Int.toNat (1:Int)) s1))),(([]:LI)++(List.take (Int.toNat r2) (List.drop (Int.toNat (IntKind.wrap .i64 (r1+(1:Int)))) (List.drop (Int.toNat (1:Int)) s1)))),x0.2.2.2.2.2.2.2.2.2) zX))))))))))
def q26_F (x0:tEx) (s1:LI):tEx×Int:=
 bif (decide ((List.length s1:Int)=(0:Int))) then
 (zX,(240:Int))
 else
 bif (!decide ((rd (0:Int) s1 (0:Int))=(47:Int))) then
 (zX,(240:Int))
 else
 let r1:Int:=q37_F (List.drop (Int.toNat (1:Int)) s1)
 bif (decide (r1<(0:Int))) then
 (zX,(240:Int))
 else
 let r2:Int:=q37_F (List.drop (Int.toNat (IntKind.wrap .i64 (r1+(1:Int)))) (List.drop (Int.toNat (1:Int)) s1))
 bif (decide (r2<(0:Int))) then
 let r3:Bool:=q45_F (List.drop (Int.toNat (IntKind.wrap .i64 (r1+(1:Int)))) (List.drop (Int.toNat (1:Int)) s1))
 bif r3 then
 (zX,(240:Int))
 else
 ((x0.1,x0.2.1,x0.2.2.1,x0.2.2.2.1,x0.2.2.2.2.1,x0.2.2.2.2.2.1,x0.2.2.2.2.2.2.1,(([]:LI)++(List.take (Int.toNat r1) (List.drop (Int.toNat (1:Int)) s1))),(([]:LI)++(List.drop (Int.toNat (IntKind.wrap .i64 (r1+(1:Int)))) (List.drop (Int.toNat (1:Int)) s1))),x0.2.2.2.2.2.2.2.2.2),(0:Int))
 else
 bif (decide ((0:Int)<(List.length (List.drop (Int.toNat (IntKind.wrap .i64 (r2+(1:Int)))) (List.drop (Int.toNat (IntKind.wrap .i64 (r1+(1:Int)))) (List.drop (Int.toNat (1:Int)) s1))):Int))) then
 bif (decide ((rd (0:Int) (List.drop (Int.toNat (IntKind.wrap .i64 (r2+(1:Int)))) (List.drop (Int.toNat (IntKind.wrap .i64 (r1+(1:Int)))) (List.drop (Int.toNat (1:Int)) s1))) (0:Int))=(103:Int))) then
 let q0r:Int×tEx:=q26_J0_F (List.drop (Int.toNat (1:Int)) (List.drop (Int.toNat (IntKind.wrap .i64 (r2+(1:Int)))) (List.drop (Int.toNat (IntKind.wrap .i64 (r1+(1:Int)))) (List.drop (Int.toNat (1:Int)) s1)))) (x0.1,x0.2.1,x0.2.2.1,x0.2.2.2.1,x0.2.2.2.2.1,x0.2.2.2.2.2.1,x0.2.2.2.2.2.2.1,(([]:LI)++(List.take (Int.toNat r1) (List.drop (Int.toNat (1:Int)) s1))),(([]:LI)++(List.take (Int.toNat r2) (List.drop (Int.toNat (IntKind.wrap .i64 (r1+(1:Int)))) (List.drop (Int.toNat (1:Int)) s1)))),true) zX
 let x5:Int:=q0r.1
 let x4b:tEx:=q0r.2
 (x4b,x5)
 else
 let q0r:Int×tEx:=q26_J0_F (List.drop (Int.toNat (IntKind.wrap .i64 (r2+(1:Int)))) (List.drop (Int.toNat (IntKind.wrap .i64 (r1+(1:Int)))) (List.drop (Int.toNat (1:Int)) s1))) (x0.1,x0.2.1,x0.2.2.1,x0.2.2.2.1,x0.2.2.2.2.1,x0.2.2.2.2.2.1,x0.2.2.2.2.2.2.1,(([]:LI)++(List.take (Int.toNat r1) (List.drop (Int.toNat (1:Int)) s1))),(([]:LI)++(List.take (Int.toNat r2) (List.drop (Int.toNat (IntKind.wrap .i64 (r1+(1:Int)))) (List.drop (Int.toNat (1:Int)) s1)))),x0.2.2.2.2.2.2.2.2.2) zX
 let x5:Int:=q0r.1
 let x4b:tEx:=q0r.2
 (x4b,x5)
 else
 let q0r:Int×tEx:=q26_J0_F (List.drop (Int.toNat (IntKind.wrap .i64 (r2+(1:Int)))) (List.drop (Int.toNat (IntKind.wrap .i64 (r1+(1:Int)))) (List.drop (Int.toNat (1:Int)) s1))) (x0.1,x0.2.1,x0.2.2.1,x0.2.2.2.1,x0.2.2.2.2.1,x0.2.2.2.2.2.1,x0.2.2.2.2.2.2.1,(([]:LI)++(List.take (Int.toNat r1) (List.drop (Int.toNat (1:Int)) s1))),(([]:LI)++(List.take (Int.toNat r2) (List.drop (Int.toNat (IntKind.wrap .i64 (r1+(1:Int)))) (List.drop (Int.toNat (1:Int)) s1)))),x0.2.2.2.2.2.2.2.2.2) zX
 let x5:Int:=q0r.1
 let x4b:tEx:=q0r.2
 (x4b,x5)
theorem q26_sp (x0:tEx) (s1:LI) (K:Res→List Cell→Prop) (_:wfA q26_A (x0,s1,())) (hp:q26_P x0 s1) (h:∀ r:tEx×Int,r=q26_F x0 s1→K (.tup [.v tyX r.1,.v yI r.2]) []):q26_raw x0 s1 K:=
 br1 hp h (fun _ hp h=>h _ rfl)
 fun _ hp h=>as1 hp fun hp=>br1 hp h (fun _ hp h=>h _ rfl)
 fun _ hp h=>as1 hp fun hp=>an1 hp fun hp=>al (br1 hp h (fun _ hp h=>h _ rfl)
 fun _ hp h=>as1 hp fun hp=>as1 hp fun hp=>as1 hp fun hp=>an1 hp fun hp=>al (br1 hp h (fun _ hp h=>as1 hp fun hp=>⟨hp,al (br0 h (fun _ h=>h _ rfl)
 fun _ h=>h _ rfl)⟩)
 fun _ hp h=>as1 hp fun hp=>as1 hp fun hp=>as1 hp fun hp=>br1 hp h (fun _ hp h=>as1 hp fun hp=>br1 hp h (fun _ hp h=>as1 hp fun hp=>fun _=>q26_J0_sp _ _ _ _ hp (al (h _ rfl)))
 fun _ hp h=>fun _=>q26_J0_sp _ _ _ _ hp (al (h _ rfl)))
 fun _ hp h=>fun _=>q26_J0_sp _ _ _ _ hp (al (h _ rfl))))
def q26_C (v:valsA q26_A) (K:Res→List Cell→Prop):Prop:=q26_P v.1 v.2.1∧∀ r:tEx×Int,r=q26_F v.1 v.2.1→K (.tup [.v tyX r.1,.v yI r.2]) []
def q26_S:App:=specW q26_A q26_C
theorem q26_wv (K:Res→List Cell→Prop):∀ v:valsA q26_A,runF tb (getG q26_G) q26_B0 Tryz.f35 [true,true] (mkA q26_A v) K=q26_raw v.1 v.2.1 K
  | (x0,s1,())=>by kernel_rfl
theorem q26_ok:AppOk Tryz.prog 35 q26_S:=
  AppOk.specW (spec_ok ((runF_ok tb_M tb_ok q26_Gok (q26_b0) (f:=35) (fn:=Tryz.f35) (by kernel_rfl) (by kernel_rfl) q26_st [true,true])) fun v K hw h=>(q26_wv K v).mpr (q26_sp v.1 v.2.1 K hw h.1 h.2))

def q30_G:List (Nat×App):=[]
theorem q30_Gok:GOk Tryz.prog (getG q30_G):=GOk.nil
def q30_raw (b0:Int) (K:Res→List Cell→Prop):Prop:=
 bif (decide ((48:Int)≤b0)) then
 K (.one (.v .bool (decide (b0≤(57:Int))))) []
 else
 K (.one (.v .bool false)) []
def q30_A:List AS:=[.v yU]

def q30_F (b0:Int):Bool:=
 bif (decide ((48:Int)≤b0)) then
 (decide (b0≤(57:Int)))
 else
 false
theorem q30_sp (b0:Int) (K:Res→List Cell→Prop) (_:wfA q30_A (b0,())) (h:∀ r:Bool,r=q30_F b0→K (.one (.v .bool r)) []):q30_raw b0 K:=
 br0 h (fun _ h=>h _ rfl)
 fun _ h=>h _ rfl
def q30_C (v:valsA q30_A) (K:Res→List Cell→Prop):Prop:=∀ r:Bool,r=q30_F v.1→K (.one (.v .bool r)) []
def q30_S:App:=specW q30_A q30_C
theorem q30_wv (K:Res→List Cell→Prop):∀ v:valsA q30_A,runF tb (getG q30_G) [] Tryz.f80 [true] (mkA q30_A v) K=q30_raw v.1 K
  | (b0,())=>by kernel_rfl
theorem q30_ok:AppOk Tryz.prog 80 q30_S:=
  AppOk.specW (spec_ok ((runF_ok tb_M tb_ok q30_Gok (LabsOk.nil) (f:=80) (fn:=Tryz.f80) (by kernel_rfl) (by kernel_rfl) (by kernel_rfl) [true])) fun v K hw h=>(q30_wv K v).mpr (q30_sp v.1 K hw h))

def q38_G:List (Nat×App):=[]
theorem q38_Gok:GOk Tryz.prog (getG q38_G):=GOk.nil
def q38_raw (name0:Int) (K:Res→List Cell→Prop):Prop:=
 bif (decide ((97:Int)≤name0)) then
 bif (decide (name0≤(122:Int))) then
 K (.one (.v yI (IntKind.wrap .i64 (IntKind.wrap .u8 (name0 - (97:Int)))))) []
 else
 bif (decide ((65:Int)≤name0)) then
 bif (decide (name0≤(90:Int))) then
 K (.one (.v yI (IntKind.wrap .i64 (IntKind.wrap .u8 (name0 - (65:Int)))))) []
 else
 K (.one (.v yI (-1:Int))) []
 else
 K (.one (.v yI (-1:Int))) []
 else
 bif (decide ((65:Int)≤name0)) then
 bif (decide (name0≤(90:Int))) then
 K (.one (.v yI (IntKind.wrap .i64 (IntKind.wrap .u8 (name0 - (65:Int)))))) []
 else
 K (.one (.v yI (-1:Int))) []
 else
 K (.one (.v yI (-1:Int))) []
def q38_A:List AS:=[.v yU]

def q38_F (name0:Int):Int:=
 bif (decide ((97:Int)≤name0)) then
 bif (decide (name0≤(122:Int))) then
 (IntKind.wrap .i64 (IntKind.wrap .u8 (name0 - (97:Int))))
 else
 bif (decide ((65:Int)≤name0)) then
 bif (decide (name0≤(90:Int))) then
 (IntKind.wrap .i64 (IntKind.wrap .u8 (name0 - (65:Int))))
 else
 (-1:Int)
 else
 (-1:Int)
 else
 bif (decide ((65:Int)≤name0)) then
 bif (decide (name0≤(90:Int))) then
 (IntKind.wrap .i64 (IntKind.wrap .u8 (name0 - (65:Int))))
 else
 (-1:Int)
 else
 (-1:Int)
theorem q38_sp (name0:Int) (K:Res→List Cell→Prop) (_:wfA q38_A (name0,())) (h:∀ r:Int,r=q38_F name0→K (.one (.v yI r)) []):q38_raw name0 K:=
 br0 h (fun _ h=>br0 h (fun _ h=>h _ rfl)
 fun _ h=>br0 h (fun _ h=>br0 h (fun _ h=>h _ rfl)
 fun _ h=>h _ rfl)
 fun _ h=>h _ rfl)
 fun _ h=>br0 h (fun _ h=>br0 h (fun _ h=>h _ rfl)
 fun _ h=>h _ rfl)
 fun _ h=>h _ rfl
def q38_C (v:valsA q38_A) (K:Res→List Cell→Prop):Prop:=∀ r:Int,r=q38_F v.1→K (.one (.v yI r)) []
def q38_S:App:=specW q38_A q38_C
theorem q38_wv (K:Res→List Cell→Prop):∀ v:valsA q38_A,runF tb (getG q38_G) [] Tryz.f134 [true] (mkA q38_A v) K=q38_raw v.1 K
  | (name0,())=>by kernel_rfl
theorem q38_ok:AppOk Tryz.prog 134 q38_S:=
  AppOk.specW (spec_ok ((runF_ok tb_M tb_ok q38_Gok (LabsOk.nil) (f:=134) (fn:=Tryz.f134) (by kernel_rfl) (by kernel_rfl) (by kernel_rfl) [true])) fun v K hw h=>(q38_wv K v).mpr (q38_sp v.1 K hw h))

def q46_G:List (Nat×App):=[(134,q38_S)]
theorem q46_Gok:GOk Tryz.prog (getG q46_G):=GOk.cons q38_ok (GOk.nil)
def q46_raw (name0:Int) (K:Res→List Cell→Prop):Prop:=
 bif (decide (name0=(0:Int))) then
 K (.one (.v .bool true)) []
 else
 bif (decide (name0=(34:Int))) then
 K (.one (.v .bool true)) []
 else
 bif (decide (name0=(45:Int))) then
 K (.one (.v .bool true)) []
 else
 bif (decide ((49:Int)≤name0)) then
 bif (decide (name0≤(57:Int))) then
 K (.one (.v .bool true)) []
 else
 ∀ (r1:Int),r1=q38_F name0→(
 wI r1→(
 K (.one (.v .bool (decide ((0:Int)≤r1)))) []))
 else
 ∀ (r2:Int),r2=q38_F name0→(
 wI r2→(
 K (.one (.v .bool (decide ((0:Int)≤r2)))) []))
def q46_A:List AS:=[.v yU]

def q46_F (name0:Int):Bool:=
 bif (decide (name0=(0:Int))) then
 true
 else
 bif (decide (name0=(34:Int))) then
 true
 else
 bif (decide (name0=(45:Int))) then
 true
 else
 bif (decide ((49:Int)≤name0)) then
 bif (decide (name0≤(57:Int))) then
 true
 else
 let r1:Int:=q38_F name0
 (decide ((0:Int)≤r1))
 else
 let r2:Int:=q38_F name0
 (decide ((0:Int)≤r2))
theorem q46_sp (name0:Int) (K:Res→List Cell→Prop) (_:wfA q46_A (name0,())) (h:∀ r:Bool,r=q46_F name0→K (.one (.v .bool r)) []):q46_raw name0 K:=
 br0 h (fun _ h=>h _ rfl)
 fun _ h=>br0 h (fun _ h=>h _ rfl)
 fun _ h=>br0 h (fun _ h=>h _ rfl)
 fun _ h=>br0 h (fun _ h=>br0 h (fun _ h=>h _ rfl)
 fun _ h=>al (h _ rfl))
 fun _ h=>al (h _ rfl)
def q46_C (v:valsA q46_A) (K:Res→List Cell→Prop):Prop:=∀ r:Bool,r=q46_F v.1→K (.one (.v .bool r)) []
def q46_S:App:=specW q46_A q46_C
theorem q46_wv (K:Res→List Cell→Prop):∀ v:valsA q46_A,runF tb (getG q46_G) [] Tryz.f79 [true] (mkA q46_A v) K=q46_raw v.1 K
  | (name0,())=>by kernel_rfl
theorem q46_ok:AppOk Tryz.prog 79 q46_S:=
  AppOk.specW (spec_ok ((runF_ok tb_M tb_ok q46_Gok (LabsOk.nil) (f:=79) (fn:=Tryz.f79) (by kernel_rfl) (by kernel_rfl) (by kernel_rfl) [true])) fun v K hw h=>(q46_wv K v).mpr (q46_sp v.1 K hw h))

def q18_G:List (Nat×App):=[(33,q56_S),(80,q30_S),(79,q46_S)]
theorem q18_Gok:GOk Tryz.prog (getG q18_G):=GOk.cons q56_ok (GOk.cons q30_ok (GOk.cons q46_ok (GOk.nil)))
theorem q18_st:storesC (bodyOf Tryz.f37)=true:=by kernel_rfl
def q18_d0:List LS:=[.v 1 yB,.b 2 16 [],.b 4 32 [],.v 6 yI,.c 16 tyX,.c 32 tyX]
def q18_d0x0:List LS:=[.v 1 yB,.b 2 16 [],.b 4 32 [],.v 6 yI,.c 16 tyX,.c 32 tyX]
def q18_dx0:DX:=⟨none,none,[(0,q18_d0x0)]⟩
def q18_y0x0 (k:Ex→St→Prop) (s1:LI) (at6:Int) (x2b:tEx) (x4b:tEx):Prop:=wfD q18_d0x0 (s1,at6,x2b,x4b,())→k (.exit 0) (mkD 124 q18_d0x0 (s1,at6,x2b,x4b,()))
def q18_T0 (Y:LI→Int→tEx→tEx→Prop) (kx0:LI→Int→tEx→tEx→Prop) (s1:LI) (at6:Int) (x2b:tEx) (x4b:tEx):Prop:=
 bif (decide (at6<(List.length s1:Int))) then
 bif decide (0≤at6∧at6<(List.length s1:Int)) then
 ∀ (r3:Bool),r3=q30_F (rd (0:Int) s1 at6)→(
 wB r3→(
 bif r3 then
 bif decide (0≤at6∧at6<(List.length s1:Int)) then
 bif (decide ((9999:Int)<(IntKind.wrap .i64 ((IntKind.wrap .i64 (x2b.2.2.2.2.2.2.1 * (10:Int)))+(IntKind.wrap .i64 (IntKind.wrap .u8 ((rd (0:Int) s1 at6) - (48:Int)))))))) then
 Y s1 (IntKind.wrap .i64 (at6+(1:Int))) (x2b.1,x2b.2.1,x2b.2.2.1,x2b.2.2.2.1,x2b.2.2.2.2.1,x2b.2.2.2.2.2.1,(9999:Int),x2b.2.2.2.2.2.2.2.1,x2b.2.2.2.2.2.2.2.2.1,x2b.2.2.2.2.2.2.2.2.2) x4b
 else
 Y s1 (IntKind.wrap .i64 (at6+(1:Int))) (x2b.1,x2b.2.1,x2b.2.2.1,x2b.2.2.2.1,x2b.2.2.2.2.1,x2b.2.2.2.2.2.1,(IntKind.wrap .i64 ((IntKind.wrap .i64 (x2b.2.2.2.2.2.2.1 * (10:Int)))+(IntKind.wrap .i64 (IntKind.wrap .u8 ((rd (0:Int) s1 at6) - (48:Int)))))),x2b.2.2.2.2.2.2.2.1,x2b.2.2.2.2.2.2.2.2.1,x2b.2.2.2.2.2.2.2.2.2) x4b
 else False
 else
 kx0 s1 at6 x2b x4b))
 else False
 else
 kx0 s1 at6 x2b x4b
def q18_L0 (kx0:LI→Int→tEx→tEx→Prop):Nat→LI→Int→tEx→tEx→Prop
  | 0,_,_,_,_=>False
  | n+1,s1,at6,x2b,x4b=>wfD q18_d0 (s1,at6,x2b,x4b,())→q18_T0 (q18_L0 kx0 n) kx0 s1 at6 x2b x4b
def q18_c0:Pce:=ex tb (getG q18_G) [] (at' (bodyOf Tryz.f37) [0,0,0,0,1,0,1,1,1,1,1]) [0,0,0,0,1,0,1,1,1,1,1]
def q18_g0 (k:Ex→St→Prop) (n:Nat) (v:vals q18_d0):Prop:=q18_L0 (q18_y0x0 k) n v.1 v.2.1 v.2.2.1 v.2.2.2.1
theorem q18_s0 (k:Ex→St→Prop) (Y:vals q18_d0→Prop):∀ v:vals q18_d0,q18_c0 (mkD 124 q18_d0 v) (lpK 124 q18_d0 q18_dx0 k Y)=q18_T0 (fun s1 at6 x2b x4b=>Y (s1,at6,x2b,x4b,())) (q18_y0x0 k) v.1 v.2.1 v.2.2.1 v.2.2.2.1
  | (s1,at6,x2b,x4b,())=>by kernel_rfl
theorem q18_v0 (k:Ex→St→Prop):∀ (n:Nat) (v:vals q18_d0),lpD 124 q18_d0 q18_dx0 q18_c0 k n v=q18_g0 k n v
  | 0,(s1,at6,x2b,x4b,())=>rfl
  | n+1,(s1,at6,x2b,x4b,())=>congrArg (fun Z:Prop=>wfD q18_d0 (s1,at6,x2b,x4b,())→Z) ((q18_s0 k _ (s1,at6,x2b,x4b,())).trans (congrArg (fun Y=>q18_T0 Y (q18_y0x0 k) s1 at6 x2b x4b) (funext fun s1=>funext fun at6=>funext fun x2b=>funext fun x4b=>q18_v0 k n (s1,at6,x2b,x4b,()))))
def q18_X0:Pce:=fun st k=>ckD 124 q18_d0 st fun v=>wfD q18_d0 v→∃ n,q18_g0 k n v
theorem q18_x0:SemOk Tryz.prog (at' (bodyOf Tryz.f37) [0,0,0,1,0,1,1,1,1,1]) q18_X0:=
  (SemOk.loop (ex_sound tb_M tb_ok q18_Gok (LabsOk.nil) (at' (bodyOf Tryz.f37) [0,0,0,0,1,0,1,1,1,1,1]) [0,0,0,0,1,0,1,1,1,1,1] rfl (storesC_at q18_st [0,0,0,0,1,0,1,1,1,1,1])) 124 q18_d0 q18_dx0).mono fun st k h=>ckD_mono h fun v hv hw=>(hv hw).elim fun n hn=>⟨n,Eq.mpr (q18_v0 k n v) hn⟩
def q18_B0:Labs:=([0,0,0,1,0,1,1,1,1,1],q18_X0)::[]
theorem q18_b0:LabsOk Tryz.prog (bodyOf Tryz.f37) q18_B0:=LabsOk.cons q18_x0 (LabsOk.nil)
def q18_d1:List LS:=[.v 1 yB,.b 2 16 [],.b 4 32 [],.v 6 yI,.c 16 tyX,.c 32 tyX]
def q18_d1r:List LS:=[.b 4 32 [],.v 5 yI,.c 32 tyX]
def q18_dx1:DX:=⟨none,some q18_d1r,[]⟩
def q18_y1r (k:Ex→St→Prop) (x5:Int) (x4b:tEx):Prop:=wfD q18_d1r (x5,x4b,())→k .ret (mkD 124 q18_d1r (x5,x4b,()))
def q18_J1 (kr:Int→tEx→Prop) (s1:LI) (at6:Int) (x2b:tEx) (x4b:tEx):Prop:=
 q56_P s1 at6∧(
 ∀ (r4:Int),r4=q56_F s1 at6→(
 wI r4→(
 bif (!decide (r4=(List.length s1:Int))) then
 kr (240:Int) zX
 else
 kr (0:Int) x2b)))
def q18_g1 (k:Ex→St→Prop) (v:vals q18_d1):Prop:=q18_J1 (q18_y1r k) v.1 v.2.1 v.2.2.1 v.2.2.2.1
theorem q18_v1 (k:Ex→St→Prop):∀ v:vals q18_d1,ex tb (getG q18_G) q18_B0 (at' (bodyOf Tryz.f37) [1,1,1,1,1,1]) [1,1,1,1,1,1] (mkD 124 q18_d1 v) (wk 124 q18_dx1 k)=q18_g1 k v
  | (s1,at6,x2b,x4b,())=>by kernel_rfl
def q18_X1:Pce:=fun st k=>ckD 124 q18_d1 st fun v=>wfD q18_d1 v→q18_g1 k v
theorem q18_x1:SemOk Tryz.prog (at' (bodyOf Tryz.f37) [1,1,1,1,1,1]) q18_X1:=
  (SemOk.wk (N:=124) (ds:=q18_d1) (dx:=q18_dx1) (ex_sound tb_M tb_ok q18_Gok (q18_b0) (at' (bodyOf Tryz.f37) [1,1,1,1,1,1]) [1,1,1,1,1,1] rfl (storesC_at q18_st [1,1,1,1,1,1]))).mono fun st k h=>ckD_mono h fun v hv hw=>Eq.mpr (q18_v1 k v) (hv hw)
def q18_B1:Labs:=([1,1,1,1,1,1],q18_X1)::q18_B0
theorem q18_b1:LabsOk Tryz.prog (bodyOf Tryz.f37) q18_B1:=LabsOk.cons q18_x1 (q18_b0)
def q18_d2:List LS:=[.v 1 yB,.b 2 16 [],.b 4 32 [],.v 6 yI,.v 7 .bool,.c 16 tyX,.c 32 tyX]
def q18_d2r:List LS:=[.b 4 32 [],.v 5 yI,.c 32 tyX]
def q18_dx2:DX:=⟨none,some q18_d2r,[]⟩
def q18_y2r (k:Ex→St→Prop) (x5:Int) (x4b:tEx):Prop:=wfD q18_d2r (x5,x4b,())→k .ret (mkD 124 q18_d2r (x5,x4b,()))
def q18_J2 (kr:Int→tEx→Prop) (s1:LI) (at6:Int) (put7:Bool) (x2b:tEx) (x4b:tEx):Prop:=
 bif (!put7) then
 bif (decide (at6<(List.length s1:Int))) then
 bif decide (0≤at6∧at6<(List.length s1:Int)) then
 ∀ (r2:Bool),r2=q30_F (rd (0:Int) s1 at6)→(
 wB r2→(
 bif r2 then
 (wfD q18_d0 (s1,at6,x2b,x4b,())→∃ n,q18_L0 (fun (s1:LI) (at6:Int) (x2b:tEx) (x4b:tEx)=>wfD q18_d0x0 (s1,at6,x2b,x4b,())→(
 bif (decide (x2b.2.2.2.2.2.2.1=(0:Int))) then
 kr (240:Int) zX
 else
 (wfD q18_d1 (s1,at6,x2b,x4b,())→q18_J1 (fun (x5:Int) (x4b:tEx)=>wfD q18_d1r (x5,x4b,())→(
 kr x5 x4b)) s1 at6 x2b x4b))) n s1 at6 x2b x4b)
 else
 (wfD q18_d1 (s1,at6,x2b,x4b,())→q18_J1 (fun (x5:Int) (x4b:tEx)=>wfD q18_d1r (x5,x4b,())→(
 kr x5 x4b)) s1 at6 x2b x4b)))
 else False
 else
 (wfD q18_d1 (s1,at6,x2b,x4b,())→q18_J1 (fun (x5:Int) (x4b:tEx)=>wfD q18_d1r (x5,x4b,())→(
 kr x5 x4b)) s1 at6 x2b x4b)
 else
 (wfD q18_d1 (s1,at6,x2b,x4b,())→q18_J1 (fun (x5:Int) (x4b:tEx)=>wfD q18_d1r (x5,x4b,())→(
 kr x5 x4b)) s1 at6 x2b x4b)
def q18_g2 (k:Ex→St→Prop) (v:vals q18_d2):Prop:=q18_J2 (q18_y2r k) v.1 v.2.1 v.2.2.1 v.2.2.2.1 v.2.2.2.2.1
theorem q18_v2 (k:Ex→St→Prop):∀ v:vals q18_d2,ex tb (getG q18_G) q18_B1 (at' (bodyOf Tryz.f37) [1,1,1,1,1]) [1,1,1,1,1] (mkD 124 q18_d2 v) (wk 124 q18_dx2 k)=q18_g2 k v
  | (s1,at6,put7,x2b,x4b,())=>by kernel_rfl
def q18_X2:Pce:=fun st k=>ckD 124 q18_d2 st fun v=>wfD q18_d2 v→q18_g2 k v
theorem q18_x2:SemOk Tryz.prog (at' (bodyOf Tryz.f37) [1,1,1,1,1]) q18_X2:=
  (SemOk.wk (N:=124) (ds:=q18_d2) (dx:=q18_dx2) (ex_sound tb_M tb_ok q18_Gok (q18_b1) (at' (bodyOf Tryz.f37) [1,1,1,1,1]) [1,1,1,1,1] rfl (storesC_at q18_st [1,1,1,1,1]))).mono fun st k h=>ckD_mono h fun v hv hw=>Eq.mpr (q18_v2 k v) (hv hw)
def q18_B2:Labs:=([1,1,1,1,1],q18_X2)::q18_B1
theorem q18_b2:LabsOk Tryz.prog (bodyOf Tryz.f37) q18_B2:=LabsOk.cons q18_x2 (q18_b1)
def q18_raw (x0:tEx) (s1:LI) (K:Res→List Cell→Prop):Prop:=
 q56_P s1 (0:Int)∧(
 ∀ (r1:Int),r1=q56_F s1 (0:Int)→(
 wI r1→(
 bif (decide (x0.2.2.2.1=([112,117]:LI))) then
 bif (decide (x0.2.2.2.1=([106]:LI))) then
 (wfD q18_d2 (s1,r1,true,x0,zX,())→q18_J2 (fun (x5:Int) (x4b:tEx)=>wfD q18_d2r (x5,x4b,())→(
 K (.tup [.v tyX x4b,.v yI x5]) [])) s1 r1 true x0 zX)
 else
 bif (!(decide (x0.2.2.2.1=([106,33]:LI)))) then
 bif (decide (r1<(List.length s1:Int))) then
 bif decide (0≤r1∧r1<(List.length s1:Int)) then
 bif (!decide ((rd (0:Int) s1 r1)=(0:Int))) then
 bif decide (0≤r1∧r1<(List.length s1:Int)) then
 ∀ (r5:Bool),r5=q46_F (rd (0:Int) s1 r1)→(
 wB r5→(
 bif r5 then
 bif decide (0≤r1∧r1<(List.length s1:Int)) then
 q56_P s1 (IntKind.wrap .i64 (r1+(1:Int)))∧(
 ∀ (r6:Int),r6=q56_F s1 (IntKind.wrap .i64 (r1+(1:Int)))→(
 wI r6→(
 (wfD q18_d2 (s1,r6,true,(x0.1,x0.2.1,x0.2.2.1,x0.2.2.2.1,x0.2.2.2.2.1,(rd (0:Int) s1 r1),x0.2.2.2.2.2.2.1,x0.2.2.2.2.2.2.2.1,x0.2.2.2.2.2.2.2.2.1,x0.2.2.2.2.2.2.2.2.2),zX,())→q18_J2 (fun (x5:Int) (x4b:tEx)=>wfD q18_d2r (x5,x4b,())→(
 K (.tup [.v tyX x4b,.v yI x5]) [])) s1 r6 true (x0.1,x0.2.1,x0.2.2.1,x0.2.2.2.1,x0.2.2.2.2.1,(rd (0:Int) s1 r1),x0.2.2.2.2.2.2.1,x0.2.2.2.2.2.2.2.1,x0.2.2.2.2.2.2.2.2.1,x0.2.2.2.2.2.2.2.2.2) zX))))
 else False
 else
 (wfD q18_d2 (s1,r1,true,x0,zX,())→q18_J2 (fun (x5:Int) (x4b:tEx)=>wfD q18_d2r (x5,x4b,())→(
 K (.tup [.v tyX x4b,.v yI x5]) [])) s1 r1 true x0 zX)))
 else False
 else
 (wfD q18_d2 (s1,r1,true,x0,zX,())→q18_J2 (fun (x5:Int) (x4b:tEx)=>wfD q18_d2r (x5,x4b,())→(
 K (.tup [.v tyX x4b,.v yI x5]) [])) s1 r1 true x0 zX)
 else False
 else
 (wfD q18_d2 (s1,r1,true,x0,zX,())→q18_J2 (fun (x5:Int) (x4b:tEx)=>wfD q18_d2r (x5,x4b,())→(
 K (.tup [.v tyX x4b,.v yI x5]) [])) s1 r1 true x0 zX)
 else
 (wfD q18_d2 (s1,r1,true,x0,zX,())→q18_J2 (fun (x5:Int) (x4b:tEx)=>wfD q18_d2r (x5,x4b,())→(
 K (.tup [.v tyX x4b,.v yI x5]) [])) s1 r1 true x0 zX)
 else
 bif (decide (x0.2.2.2.1=([106]:LI))) then
 (wfD q18_d2 (s1,r1,(decide (x0.2.2.2.1=([112,117,33]:LI))),x0,zX,())→q18_J2 (fun (x5:Int) (x4b:tEx)=>wfD q18_d2r (x5,x4b,())→(
 K (.tup [.v tyX x4b,.v yI x5]) [])) s1 r1 (decide (x0.2.2.2.1=([112,117,33]:LI))) x0 zX)
 else
 bif (!(decide (x0.2.2.2.1=([106,33]:LI)))) then
 bif (decide (r1<(List.length s1:Int))) then
 bif decide (0≤r1∧r1<(List.length s1:Int)) then
 bif (!decide ((rd (0:Int) s1 r1)=(0:Int))) then
 bif decide (0≤r1∧r1<(List.length s1:Int)) then
 ∀ (r7:Bool),r7=q46_F (rd (0:Int) s1 r1)→(
 wB r7→(
 bif r7 then
 bif (decide (x0.2.2.2.1=([112,117,33]:LI))) then
 bif decide (0≤r1∧r1<(List.length s1:Int)) then
 q56_P s1 (IntKind.wrap .i64 (r1+(1:Int)))∧(
 ∀ (r8:Int),r8=q56_F s1 (IntKind.wrap .i64 (r1+(1:Int)))→(
 wI r8→(
 (wfD q18_d2 (s1,r8,(decide (x0.2.2.2.1=([112,117,33]:LI))),(x0.1,x0.2.1,x0.2.2.1,x0.2.2.2.1,x0.2.2.2.2.1,(rd (0:Int) s1 r1),x0.2.2.2.2.2.2.1,x0.2.2.2.2.2.2.2.1,x0.2.2.2.2.2.2.2.2.1,x0.2.2.2.2.2.2.2.2.2),zX,())→q18_J2 (fun (x5:Int) (x4b:tEx)=>wfD q18_d2r (x5,x4b,())→(
 K (.tup [.v tyX x4b,.v yI x5]) [])) s1 r8 (decide (x0.2.2.2.1=([112,117,33]:LI))) (x0.1,x0.2.1,x0.2.2.1,x0.2.2.2.1,x0.2.2.2.2.1,(rd (0:Int) s1 r1),x0.2.2.2.2.2.2.1,x0.2.2.2.2.2.2.2.1,x0.2.2.2.2.2.2.2.2.1,x0.2.2.2.2.2.2.2.2.2) zX))))
 else False
 else
 bif decide (0≤r1∧r1<(List.length s1:Int)) then
 ∀ (r9:Bool),r9=q30_F (rd (0:Int) s1 r1)→(
 wB r9→(
 bif (!r9) then
 bif decide (0≤r1∧r1<(List.length s1:Int)) then
 q56_P s1 (IntKind.wrap .i64 (r1+(1:Int)))∧(
 ∀ (r10:Int),r10=q56_F s1 (IntKind.wrap .i64 (r1+(1:Int)))→(
 wI r10→(
 (wfD q18_d2 (s1,r10,(decide (x0.2.2.2.1=([112,117,33]:LI))),(x0.1,x0.2.1,x0.2.2.1,x0.2.2.2.1,x0.2.2.2.2.1,(rd (0:Int) s1 r1),x0.2.2.2.2.2.2.1,x0.2.2.2.2.2.2.2.1,x0.2.2.2.2.2.2.2.2.1,x0.2.2.2.2.2.2.2.2.2),zX,())→q18_J2 (fun (x5:Int) (x4b:tEx)=>wfD q18_d2r (x5,x4b,())→(
 K (.tup [.v tyX x4b,.v yI x5]) [])) s1 r10 (decide (x0.2.2.2.1=([112,117,33]:LI))) (x0.1,x0.2.1,x0.2.2.1,x0.2.2.2.1,x0.2.2.2.2.1,(rd (0:Int) s1 r1),x0.2.2.2.2.2.2.1,x0.2.2.2.2.2.2.2.1,x0.2.2.2.2.2.2.2.2.1,x0.2.2.2.2.2.2.2.2.2) zX))))
 else False
 else
 (wfD q18_d2 (s1,r1,(decide (x0.2.2.2.1=([112,117,33]:LI))),x0,zX,())→q18_J2 (fun (x5:Int) (x4b:tEx)=>wfD q18_d2r (x5,x4b,())→(
 K (.tup [.v tyX x4b,.v yI x5]) [])) s1 r1 (decide (x0.2.2.2.1=([112,117,33]:LI))) x0 zX)))
 else False
 else
 (wfD q18_d2 (s1,r1,(decide (x0.2.2.2.1=([112,117,33]:LI))),x0,zX,())→q18_J2 (fun (x5:Int) (x4b:tEx)=>wfD q18_d2r (x5,x4b,())→(
 K (.tup [.v tyX x4b,.v yI x5]) [])) s1 r1 (decide (x0.2.2.2.1=([112,117,33]:LI))) x0 zX)))
 else False
 else
 (wfD q18_d2 (s1,r1,(decide (x0.2.2.2.1=([112,117,33]:LI))),x0,zX,())→q18_J2 (fun (x5:Int) (x4b:tEx)=>wfD q18_d2r (x5,x4b,())→(
 K (.tup [.v tyX x4b,.v yI x5]) [])) s1 r1 (decide (x0.2.2.2.1=([112,117,33]:LI))) x0 zX)
 else False
 else
 (wfD q18_d2 (s1,r1,(decide (x0.2.2.2.1=([112,117,33]:LI))),x0,zX,())→q18_J2 (fun (x5:Int) (x4b:tEx)=>wfD q18_d2r (x5,x4b,())→(
 K (.tup [.v tyX x4b,.v yI x5]) [])) s1 r1 (decide (x0.2.2.2.1=([112,117,33]:LI))) x0 zX)
 else
 (wfD q18_d2 (s1,r1,(decide (x0.2.2.2.1=([112,117,33]:LI))),x0,zX,())→q18_J2 (fun (x5:Int) (x4b:tEx)=>wfD q18_d2r (x5,x4b,())→(
 K (.tup [.v tyX x4b,.v yI x5]) [])) s1 r1 (decide (x0.2.2.2.1=([112,117,33]:LI))) x0 zX))))
def q18_A:List AS:=[.v tyX,.v yB]
theorem refDigit (b:Int):q30_F b=isDg b:=by
  unfold q30_F isDg
  by_cases h1:48≤b <;> by_cases h2:b≤57 <;> simp [h1,h2]
def q18_L0_P (s:LI) (i:Int) (x _:ExD):Prop:=0≤i∧i≤s.length∧s.length≤lim∧0≤x.2.2.2.2.2.2.1∧x.2.2.2.2.2.2.1≤9999
def q18_L0_F (s:LI) (i:Int) (x y:ExD):LI×Int×ExD×ExD:=(s,i+(dgs (s.drop i.toNat):Int),exN x (cnt x.2.2.2.2.2.2.1 (s.drop i.toNat)),y)
theorem q18_l0 (kx0:LI→Int→ExD→ExD→Prop) (s:LI) (y:ExD) (hs:s.length≤lim) :
    ∀ (n i:Nat) (x:ExD),s.length<n+i→i≤s.length→0≤x.2.2.2.2.2.2.1→x.2.2.2.2.2.2.1≤9999→
      kx0 s ((i+dgs (s.drop i):Nat):Int) (exN x (cnt x.2.2.2.2.2.2.1 (s.drop i))) y→q18_L0 kx0 n s (i:Int) x y
  | 0,i,x,hn,hi,_,_,_=>absurd hn (by omega)
  | n+1,i,x,hn,hi,h0,h9,hx=>by
    intro _
    unfold q18_T0
    have hlim:lim=1099511627776:=rfl
    refine brn (fun hlt=>asrt (by omega) ?_) (fun hge=>?_)
    · have hi':i<s.length:=by omega
      rw [rd_drop hi',wrap_i64 (n:=(i:Int)+1) (by omega) (by omega),show (i:Int)+1=((i+1:Nat):Int) by omega]
      intro r hr _
      rw [refDigit] at hr
      subst hr
      rw [dropc hi',dgs_cons,cnt_cons] at hx
      refine brb (fun hb=>asrt (by omega) ?_) (fun hb=>?_)
      · rw [if_pos hb,if_pos hb] at hx
        have hb:=isDg_of hb
        rw [wrap_u8 (n:=s[i] - 48) (by omega) (by omega),wrap_i64 (n:=s[i] - 48) (by omega) (by omega),wrap_i64 (n:=x.2.2.2.2.2.2.1 * 10) (by omega) (by omega),wrap_i64 (n:=x.2.2.2.2.2.2.1 * 10+(s[i] - 48)) (by omega) (by omega)]
        refine brn (fun h=>?_) (fun h=>?_)
        · refine q18_l0 kx0 s y hs n (i+1) _ (by omega) (by omega) (by dsimp only; omega) (by dsimp only; omega) ?_
          rw [if_pos h] at hx
          rw [show i+1+dgs (s.drop (i+1))=i+(dgs (s.drop (i+1))+1) by omega]
          exact hx
        · refine q18_l0 kx0 s y hs n (i+1) _ (by omega) (by omega) (by dsimp only; omega) (by dsimp only; omega) ?_
          rw [if_neg h] at hx
          rw [show i+1+dgs (s.drop (i+1))=i+(dgs (s.drop (i+1))+1) by omega]
          exact hx
      · rw [if_neg (by rw [hb]; simp),if_neg (by rw [hb]; simp)] at hx
        exact hx
    · rw [List.drop_eq_nil_of_le (by omega)] at hx
      exact hx
theorem q18_L0_sp (kx0:LI→Int→ExD→ExD→Prop) (s:LI) (i:Int) (x y:ExD) (hp:q18_L0_P s i x y) (hx:∀ q:LI×Int×ExD×ExD,q=q18_L0_F s i x y→kx0 q.1 q.2.1 q.2.2.1 q.2.2.2):∃ m,q18_L0 kx0 m s i x y:=by
  obtain ⟨h1,h2,hs,h0,h9⟩:=hp
  obtain ⟨j,rfl⟩:=Int.eq_ofNat_of_zero_le h1
  exact ⟨s.length+1,q18_l0 kx0 s y hs _ j x (by omega) (Int.ofNat_le.1 h2) h0 h9 (hx _ rfl)⟩

def q18_J1_P (s1:LI) (at6:Int) (x2b:tEx) (x4b:tEx):Prop:=
 q56_P s1 at6
def q18_J1_F (s1:LI) (at6:Int) (x2b:tEx) (x4b:tEx):Int×tEx:=
 let r4:Int:=q56_F s1 at6
 bif (!decide (r4=(List.length s1:Int))) then
 ((240:Int),zX)
 else
 ((0:Int),x2b)
theorem q18_J1_sp (kr:Int→tEx→Prop) (s1:LI) (at6:Int) (x2b:tEx) (x4b:tEx) (hp:q18_J1_P s1 at6 x2b x4b) (hr:∀ q:Int×tEx,q=q18_J1_F s1 at6 x2b x4b→kr q.1 q.2):q18_J1 kr s1 at6 x2b x4b:=
 have h:=hr; ⟨hp,al (br0 h (fun _ h=>h _ rfl)
 fun _ h=>h _ rfl)⟩
def q18_J2_P (s1:LI) (at6:Int) (put7:Bool) (x2b:tEx) (x4b:tEx):Prop:=
 bif (!put7) then
 bif (decide (at6<(List.length s1:Int))) then
 (0≤at6∧at6<(List.length s1:Int))∧(
 let r2:Bool:=q30_F (rd (0:Int) s1 at6)
 bif r2 then
 q18_L0_P s1 at6 x2b x4b∧(
 let q0x0:LI×Int×tEx×tEx:=q18_L0_F s1 at6 x2b x4b
 let s1:LI:=q0x0.1
 let at6:Int:=q0x0.2.1
 let x2b:tEx:=q0x0.2.2.1
 let x4b:tEx:=q0x0.2.2.2
 bif (decide (x2b.2.2.2.2.2.2.1=(0:Int))) then
 True
 else
 q18_J1_P s1 at6 x2b x4b)
 else
 q18_J1_P s1 at6 x2b x4b)
 else
 q18_J1_P s1 at6 x2b x4b
 else
 q18_J1_P s1 at6 x2b x4b
def q18_J2_F (s1:LI) (at6:Int) (put7:Bool) (x2b:tEx) (x4b:tEx):Int×tEx:=
 bif (!put7) then
 bif (decide (at6<(List.length s1:Int))) then
 let r2:Bool:=q30_F (rd (0:Int) s1 at6)
 bif r2 then
 let q0x0:LI×Int×tEx×tEx:=q18_L0_F s1 at6 x2b x4b
 let s1:LI:=q0x0.1
 let at6:Int:=q0x0.2.1
 let x2b:tEx:=q0x0.2.2.1
 let x4b:tEx:=q0x0.2.2.2
 bif (decide (x2b.2.2.2.2.2.2.1=(0:Int))) then
 ((240:Int),zX)
 else
 let q1r:Int×tEx:=q18_J1_F s1 at6 x2b x4b
 let x5:Int:=q1r.1
 let x4b:tEx:=q1r.2
 (x5,x4b)
 else
 let q1r:Int×tEx:=q18_J1_F s1 at6 x2b x4b
 let x5:Int:=q1r.1
 let x4b:tEx:=q1r.2
 (x5,x4b)
 else
 let q1r:Int×tEx:=q18_J1_F s1 at6 x2b x4b
 let x5:Int:=q1r.1
 let x4b:tEx:=q1r.2
 (x5,x4b)
 else
 let q1r:Int×tEx:=q18_J1_F s1 at6 x2b x4b
 let x5:Int:=q1r.1
 let x4b:tEx:=q1r.2
 (x5,x4b)
theorem q18_J2_sp (kr:Int→tEx→Prop) (s1:LI) (at6:Int) (put7:Bool) (x2b:tEx) (x4b:tEx) (hp:q18_J2_P s1 at6 put7 x2b x4b) (hr:∀ q:Int×tEx,q=q18_J2_F s1 at6 put7 x2b x4b→kr q.1 q.2):q18_J2 kr s1 at6 put7 x2b x4b:=
 have h:=hr; br1 hp h (fun _ hp h=>br1 hp h (fun _ hp h=>as1 hp fun hp=>al (br1 hp h (fun _ hp h=>fun _=>q18_L0_sp _ _ _ _ _ hp.1 (have hp:=hp.2; al (br1 hp h (fun _ hp h=>h _ rfl)
 fun _ hp h=>fun _=>q18_J1_sp _ _ _ _ _ hp (al (h _ rfl)))))
 fun _ hp h=>fun _=>q18_J1_sp _ _ _ _ _ hp (al (h _ rfl))))
 fun _ hp h=>fun _=>q18_J1_sp _ _ _ _ _ hp (al (h _ rfl)))
 fun _ hp h=>fun _=>q18_J1_sp _ _ _ _ _ hp (al (h _ rfl))
def q18_P (x0:tEx) (s1:LI):Prop:=
 q56_P s1 (0:Int)∧(
 let r1:Int:=q56_F s1 (0:Int)
 bif (decide (x0.2.2.2.1=([112,117]:LI))) then
 bif (decide (x0.2.2.2.1=([106]:LI))) then
 q18_J2_P s1 r1 true x0 zX
 else
 bif (!(decide (x0.2.2.2.1=([106,33]:LI)))) then
 bif (decide (r1<(List.length s1:Int))) then
 (0≤r1∧r1<(List.length s1:Int))∧(
 bif (!decide ((rd (0:Int) s1 r1)=(0:Int))) then
 (0≤r1∧r1<(List.length s1:Int))∧(
 let r5:Bool:=q46_F (rd (0:Int) s1 r1)
 bif r5 then
 (0≤r1∧r1<(List.length s1:Int))∧(
 q56_P s1 (IntKind.wrap .i64 (r1+(1:Int)))∧(
 let r6:Int:=q56_F s1 (IntKind.wrap .i64 (r1+(1:Int)))
 q18_J2_P s1 r6 true (x0.1,x0.2.1,x0.2.2.1,x0.2.2.2.1,x0.2.2.2.2.1,(rd (0:Int) s1 r1),x0.2.2.2.2.2.2.1,x0.2.2.2.2.2.2.2.1,x0.2.2.2.2.2.2.2.2.1,x0.2.2.2.2.2.2.2.2.2) zX))
 else
 q18_J2_P s1 r1 true x0 zX)
 else
 q18_J2_P s1 r1 true x0 zX)
 else
 q18_J2_P s1 r1 true x0 zX
 else
 q18_J2_P s1 r1 true x0 zX
 else
 bif (decide (x0.2.2.2.1=([106]:LI))) then
 q18_J2_P s1 r1 (decide (x0.2.2.2.1=([112,117,33]:LI))) x0 zX
 else
 bif (!(decide (x0.2.2.2.1=([106,33]:LI)))) then
 bif (decide (r1<(List.length s1:Int))) then
 (0≤r1∧r1<(List.length s1:Int))∧(
 bif (!decide ((rd (0:Int) s1 r1)=(0:Int))) then
 (0≤r1∧r1<(List.length s1:Int))∧(
 let r7:Bool:=q46_F (rd (0:Int) s1 r1)
 bif r7 then
 bif (decide (x0.2.2.2.1=([112,117,33]:LI))) then
 (0≤r1∧r1<(List.length s1:Int))∧(
 q56_P s1 (IntKind.wrap .i64 (r1+(1:Int)))∧(
 let r8:Int:=q56_F s1 (IntKind.wrap .i64 (r1+(1:Int)))
 q18_J2_P s1 r8 (decide (x0.2.2.2.1=([112,117,33]:LI))) (x0.1,x0.2.1,x0.2.2.1,x0.2.2.2.1,x0.2.2.2.2.1,(rd (0:Int) s1 r1),x0.2.2.2.2.2.2.1,x0.2.2.2.2.2.2.2.1,x0.2.2.2.2.2.2.2.2.1,x0.2.2.2.2.2.2.2.2.2) zX))
 else
 (0≤r1∧r1<(List.length s1:Int))∧(
 let r9:Bool:=q30_F (rd (0:Int) s1 r1)
 bif (!r9) then
 (0≤r1∧r1<(List.length s1:Int))∧(
 q56_P s1 (IntKind.wrap .i64 (r1+(1:Int)))∧(
 let r10:Int:=q56_F s1 (IntKind.wrap .i64 (r1+(1:Int)))
 q18_J2_P s1 r10 (decide (x0.2.2.2.1=([112,117,33]:LI))) (x0.1,x0.2.1,x0.2.2.1,x0.2.2.2.1,x0.2.2.2.2.1,(rd (0:Int) s1 r1),x0.2.2.2.2.2.2.1,x0.2.2.2.2.2.2.2.1,x0.2.2.2.2.2.2.2.2.1,x0.2.2.2.2.2.2.2.2.2) zX))
 else
 q18_J2_P s1 r1 (decide (x0.2.2.2.1=([112,117,33]:LI))) x0 zX)
 else
 q18_J2_P s1 r1 (decide (x0.2.2.2.1=([112,117,33]:LI))) x0 zX)
 else
 q18_J2_P s1 r1 (decide (x0.2.2.2.1=([112,117,33]:LI))) x0 zX)
 else
 q18_J2_P s1 r1 (decide (x0.2.2.2.1=([112,117,33]:LI))) x0 zX
 else
 q18_J2_P s1 r1 (decide (x0.2.2.2.1=([112,117,33]:LI))) x0 zX)
def q18_F (x0:tEx) (s1:LI):tEx×Int:=
 let r1:Int:=q56_F s1 (0:Int)
 bif (decide (x0.2.2.2.1=([112,117]:LI))) then
 bif (decide (x0.2.2.2.1=([106]:LI))) then
 let q2r:Int×tEx:=q18_J2_F s1 r1 true x0 zX
 let x5:Int:=q2r.1
 let x4b:tEx:=q2r.2
 (x4b,x5)
 else
 bif (!(decide (x0.2.2.2.1=([106,33]:LI)))) then
 bif (decide (r1<(List.length s1:Int))) then
 bif (!decide ((rd (0:Int) s1 r1)=(0:Int))) then
 let r5:Bool:=q46_F (rd (0:Int) s1 r1)
 bif r5 then
 let r6:Int:=q56_F s1 (IntKind.wrap .i64 (r1+(1:Int)))
 let q2r:Int×tEx:=q18_J2_F s1 r6 true (x0.1,x0.2.1,x0.2.2.1,x0.2.2.2.1,x0.2.2.2.2.1,(rd (0:Int) s1 r1),x0.2.2.2.2.2.2.1,x0.2.2.2.2.2.2.2.1,x0.2.2.2.2.2.2.2.2.1,x0.2.2.2.2.2.2.2.2.2) zX
 let x5:Int:=q2r.1
 let x4b:tEx:=q2r.2
 (x4b,x5)
 else
 let q2r:Int×tEx:=q18_J2_F s1 r1 true x0 zX
 let x5:Int:=q2r.1
 let x4b:tEx:=q2r.2
 (x4b,x5)
 else
 let q2r:Int×tEx:=q18_J2_F s1 r1 true x0 zX
 let x5:Int:=q2r.1
 let x4b:tEx:=q2r.2
 (x4b,x5)
 else
 let q2r:Int×tEx:=q18_J2_F s1 r1 true x0 zX
 let x5:Int:=q2r.1
 let x4b:tEx:=q2r.2
 (x4b,x5)
 else
 let q2r:Int×tEx:=q18_J2_F s1 r1 true x0 zX
 let x5:Int:=q2r.1
 let x4b:tEx:=q2r.2
 (x4b,x5)
 else
 bif (decide (x0.2.2.2.1=([106]:LI))) then
 let q2r:Int×tEx:=q18_J2_F s1 r1 (decide (x0.2.2.2.1=([112,117,33]:LI))) x0 zX
 let x5:Int:=q2r.1
 let x4b:tEx:=q2r.2
 (x4b,x5)
 else
 bif (!(decide (x0.2.2.2.1=([106,33]:LI)))) then
 bif (decide (r1<(List.length s1:Int))) then
 bif (!decide ((rd (0:Int) s1 r1)=(0:Int))) then
 let r7:Bool:=q46_F (rd (0:Int) s1 r1)
 bif r7 then
 bif (decide (x0.2.2.2.1=([112,117,33]:LI))) then
 let r8:Int:=q56_F s1 (IntKind.wrap .i64 (r1+(1:Int)))
 let q2r:Int×tEx:=q18_J2_F s1 r8 (decide (x0.2.2.2.1=([112,117,33]:LI))) (x0.1,x0.2.1,x0.2.2.1,x0.2.2.2.1,x0.2.2.2.2.1,(rd (0:Int) s1 r1),x0.2.2.2.2.2.2.1,x0.2.2.2.2.2.2.2.1,x0.2.2.2.2.2.2.2.2.1,x0.2.2.2.2.2.2.2.2.2) zX
 let x5:Int:=q2r.1
 let x4b:tEx:=q2r.2
 (x4b,x5)
 else
 let r9:Bool:=q30_F (rd (0:Int) s1 r1)
 bif (!r9) then
 let r10:Int:=q56_F s1 (IntKind.wrap .i64 (r1+(1:Int)))
 let q2r:Int×tEx:=q18_J2_F s1 r10 (decide (x0.2.2.2.1=([112,117,33]:LI))) (x0.1,x0.2.1,x0.2.2.1,x0.2.2.2.1,x0.2.2.2.2.1,(rd (0:Int) s1 r1),x0.2.2.2.2.2.2.1,x0.2.2.2.2.2.2.2.1,x0.2.2.2.2.2.2.2.2.1,x0.2.2.2.2.2.2.2.2.2) zX
 let x5:Int:=q2r.1
 let x4b:tEx:=q2r.2
 (x4b,x5)
 else
 let q2r:Int×tEx:=q18_J2_F s1 r1 (decide (x0.2.2.2.1=([112,117,33]:LI))) x0 zX
 let x5:Int:=q2r.1
 let x4b:tEx:=q2r.2
 (x4b,x5)
 else
 let q2r:Int×tEx:=q18_J2_F s1 r1 (decide (x0.2.2.2.1=([112,117,33]:LI))) x0 zX
 let x5:Int:=q2r.1
 let x4b:tEx:=q2r.2
 (x4b,x5)
 else
 let q2r:Int×tEx:=q18_J2_F s1 r1 (decide (x0.2.2.2.1=([112,117,33]:LI))) x0 zX
 let x5:Int:=q2r.1
 let x4b:tEx:=q2r.2
 (x4b,x5)
 else
 let q2r:Int×tEx:=q18_J2_F s1 r1 (decide (x0.2.2.2.1=([112,117,33]:LI))) x0 zX
 let x5:Int:=q2r.1
 let x4b:tEx:=q2r.2
 (x4b,x5)
 else
 let q2r:Int×tEx:=q18_J2_F s1 r1 (decide (x0.2.2.2.1=([112,117,33]:LI))) x0 zX
 let x5:Int:=q2r.1
 let x4b:tEx:=q2r.2
 (x4b,x5)
theorem q18_sp (x0:tEx) (s1:LI) (K:Res→List Cell→Prop) (_:wfA q18_A (x0,s1,())) (hp:q18_P x0 s1) (h:∀ r:tEx×Int,r=q18_F x0 s1→K (.tup [.v tyX r.1,.v yI r.2]) []):q18_raw x0 s1 K:=
 an1 hp fun hp=>al (br1 hp h (fun _ hp h=>br1 hp h (fun _ hp h=>fun _=>q18_J2_sp _ _ _ _ _ _ hp (al (h _ rfl)))
 fun _ hp h=>br1 hp h (fun _ hp h=>br1 hp h (fun _ hp h=>as1 hp fun hp=>br1 hp h (fun _ hp h=>as1 hp fun hp=>al (br1 hp h (fun _ hp h=>as1 hp fun hp=>an1 hp fun hp=>al (fun _=>q18_J2_sp _ _ _ _ _ _ hp (al (h _ rfl))))
 fun _ hp h=>fun _=>q18_J2_sp _ _ _ _ _ _ hp (al (h _ rfl))))
 fun _ hp h=>fun _=>q18_J2_sp _ _ _ _ _ _ hp (al (h _ rfl)))
 fun _ hp h=>fun _=>q18_J2_sp _ _ _ _ _ _ hp (al (h _ rfl)))
 fun _ hp h=>fun _=>q18_J2_sp _ _ _ _ _ _ hp (al (h _ rfl)))
 fun _ hp h=>br1 hp h (fun _ hp h=>fun _=>q18_J2_sp _ _ _ _ _ _ hp (al (h _ rfl)))
 fun _ hp h=>br1 hp h (fun _ hp h=>br1 hp h (fun _ hp h=>as1 hp fun hp=>br1 hp h (fun _ hp h=>as1 hp fun hp=>al (br1 hp h (fun _ hp h=>br1 hp h (fun _ hp h=>as1 hp fun hp=>an1 hp fun hp=>al (fun _=>q18_J2_sp _ _ _ _ _ _ hp (al (h _ rfl))))
 fun _ hp h=>as1 hp fun hp=>al (br1 hp h (fun _ hp h=>as1 hp fun hp=>an1 hp fun hp=>al (fun _=>q18_J2_sp _ _ _ _ _ _ hp (al (h _ rfl))))
 fun _ hp h=>fun _=>q18_J2_sp _ _ _ _ _ _ hp (al (h _ rfl))))
 fun _ hp h=>fun _=>q18_J2_sp _ _ _ _ _ _ hp (al (h _ rfl))))
 fun _ hp h=>fun _=>q18_J2_sp _ _ _ _ _ _ hp (al (h _ rfl)))
 fun _ hp h=>fun _=>q18_J2_sp _ _ _ _ _ _ hp (al (h _ rfl)))
 fun _ hp h=>fun _=>q18_J2_sp _ _ _ _ _ _ hp (al (h _ rfl)))
def q18_C (v:valsA q18_A) (K:Res→List Cell→Prop):Prop:=q18_P v.1 v.2.1∧∀ r:tEx×Int,r=q18_F v.1 v.2.1→K (.tup [.v tyX r.1,.v yI r.2]) []
def q18_S:App:=specW q18_A q18_C
theorem q18_wv (K:Res→List Cell→Prop):∀ v:valsA q18_A,runF tb (getG q18_G) q18_B2 Tryz.f37 [true,true] (mkA q18_A v) K=q18_raw v.1 v.2.1 K
  | (x0,s1,())=>by kernel_rfl
theorem q18_ok:AppOk Tryz.prog 37 q18_S:=
  AppOk.specW (spec_ok ((runF_ok tb_M tb_ok q18_Gok (q18_b2) (f:=37) (fn:=Tryz.f37) (by kernel_rfl) (by kernel_rfl) q18_st [true,true])) fun v K hw h=>(q18_wv K v).mpr (q18_sp v.1 v.2.1 K hw h.1 h.2))

def q47_G:List (Nat×App):=[(32,q20_S),(33,q56_S),(34,q44_S),(35,q26_S),(36,q42_S),(37,q18_S)]
theorem q47_Gok:GOk Tryz.prog (getG q47_G):=GOk.cons q20_ok (GOk.cons q56_ok (GOk.cons q44_ok (GOk.cons q26_ok (GOk.cons q42_ok (GOk.cons q18_ok (GOk.nil))))))
theorem q47_st:storesC (bodyOf Tryz.f12)=true:=by kernel_rfl
def q47_d0:List LS:=[.b 2 16 [],.b 4 32 [],.v 7 yB,.c 16 tyX,.c 32 tyX]
def q47_d0r:List LS:=[.b 2 16 [],.v 3 yI,.c 16 tyX]
def q47_dx0:DX:=⟨none,some q47_d0r,[]⟩
def q47_y0r (k:Ex→St→Prop) (x3:Int) (x2b:tEx):Prop:=wfD q47_d0r (x3,x2b,())→k .ret (mkD 124 q47_d0r (x3,x2b,()))
def q47_J0 (kr:Int→tEx→Prop) (rest7:LI) (x2b:tEx) (x4b:tEx):Prop:=
 q56_P rest7 (0:Int)∧(
 ∀ (r4:Int),r4=q56_F rest7 (0:Int)→(
 wI r4→(
 bif (!decide (r4=(List.length rest7:Int))) then
 kr (240:Int) zX
 else
 kr (0:Int) x4b)))
def q47_g0 (k:Ex→St→Prop) (v:vals q47_d0):Prop:=q47_J0 (q47_y0r k) v.1 v.2.1 v.2.2.1
theorem q47_v0 (k:Ex→St→Prop):∀ v:vals q47_d0,ex tb (getG q47_G) [] (at' (bodyOf Tryz.f12) [1,1,0,1,0,1,0,1,1,1,1,1,1,1,1,1]) [1,1,0,1,0,1,0,1,1,1,1,1,1,1,1,1] (mkD 124 q47_d0 v) (wk 124 q47_dx0 k)=q47_g0 k v
  | (rest7,x2b,x4b,())=>by kernel_rfl
def q47_X0:Pce:=fun st k=>ckD 124 q47_d0 st fun v=>wfD q47_d0 v→q47_g0 k v
theorem q47_x0:SemOk Tryz.prog (at' (bodyOf Tryz.f12) [1,1,0,1,0,1,0,1,1,1,1,1,1,1,1,1]) q47_X0:=
  (SemOk.wk (N:=124) (ds:=q47_d0) (dx:=q47_dx0) (ex_sound tb_M tb_ok q47_Gok (LabsOk.nil) (at' (bodyOf Tryz.f12) [1,1,0,1,0,1,0,1,1,1,1,1,1,1,1,1]) [1,1,0,1,0,1,0,1,1,1,1,1,1,1,1,1] rfl (storesC_at q47_st [1,1,0,1,0,1,0,1,1,1,1,1,1,1,1,1]))).mono fun st k h=>ckD_mono h fun v hv hw=>Eq.mpr (q47_v0 k v) (hv hw)
def q47_B0:Labs:=([1,1,0,1,0,1,0,1,1,1,1,1,1,1,1,1],q47_X0)::[]
theorem q47_b0:LabsOk Tryz.prog (bodyOf Tryz.f12) q47_B0:=LabsOk.cons q47_x0 (LabsOk.nil)
def q47_d1:List LS:=[.b 2 16 [],.b 4 32 [],.v 7 yB,.c 16 tyX,.c 32 tyX]
def q47_d1r:List LS:=[.b 2 16 [],.v 3 yI,.c 16 tyX]
def q47_dx1:DX:=⟨none,some q47_d1r,[]⟩
def q47_y1r (k:Ex→St→Prop) (x3:Int) (x2b:tEx):Prop:=wfD q47_d1r (x3,x2b,())→k .ret (mkD 124 q47_d1r (x3,x2b,()))
def q47_J1 (kr:Int→tEx→Prop) (rest7:LI) (x2b:tEx) (x4b:tEx):Prop:=
 q56_P rest7 (0:Int)∧(
 ∀ (r6:Int),r6=q56_F rest7 (0:Int)→(
 wI r6→(
 bif decide (0≤r6∧r6≤(List.length rest7:Int)) then
 q42_P (List.drop (Int.toNat r6) rest7)∧(
 ∀ (r7:tAd×Int×Int),r7=q42_F (List.drop (Int.toNat r6) rest7)→(
 wfR (.tup [.v tyA r7.1,.v yI r7.2.1,.v yI r7.2.2])→(
 bif (!decide (r7.2.2=(0:Int))) then
 kr r7.2.2 zX
 else
 bif (!r7.1.2.2.2.2.2) then
 kr (240:Int) zX
 else
 q56_P rest7 (IntKind.wrap .i64 (r6+r7.2.1))∧(
 ∀ (r8:Int),r8=q56_F rest7 (IntKind.wrap .i64 (r6+r7.2.1))→(
 wI r8→(
 bif (!decide (r8=(List.length rest7:Int))) then
 kr (240:Int) zX
 else
 kr (0:Int) (x4b.1,x4b.2.1,x4b.2.2.1,x4b.2.2.2.1,r7.1,x4b.2.2.2.2.2.1,x4b.2.2.2.2.2.2.1,x4b.2.2.2.2.2.2.2.1,x4b.2.2.2.2.2.2.2.2.1,x4b.2.2.2.2.2.2.2.2.2)))))))
 else False)))
def q47_g1 (k:Ex→St→Prop) (v:vals q47_d1):Prop:=q47_J1 (q47_y1r k) v.1 v.2.1 v.2.2.1
theorem q47_v1 (k:Ex→St→Prop):∀ v:vals q47_d1,ex tb (getG q47_G) q47_B0 (at' (bodyOf Tryz.f12) [1,0,1,1,1,1,1,0,1,0,1,1,1,1,1,1,1,1,1]) [1,0,1,1,1,1,1,0,1,0,1,1,1,1,1,1,1,1,1] (mkD 124 q47_d1 v) (wk 124 q47_dx1 k)=q47_g1 k v
  | (rest7,x2b,x4b,())=>by kernel_rfl
def q47_X1:Pce:=fun st k=>ckD 124 q47_d1 st fun v=>wfD q47_d1 v→q47_g1 k v
theorem q47_x1:SemOk Tryz.prog (at' (bodyOf Tryz.f12) [1,0,1,1,1,1,1,0,1,0,1,1,1,1,1,1,1,1,1]) q47_X1:=
  (SemOk.wk (N:=124) (ds:=q47_d1) (dx:=q47_dx1) (ex_sound tb_M tb_ok q47_Gok (q47_b0) (at' (bodyOf Tryz.f12) [1,0,1,1,1,1,1,0,1,0,1,1,1,1,1,1,1,1,1]) [1,0,1,1,1,1,1,0,1,0,1,1,1,1,1,1,1,1,1] rfl (storesC_at q47_st [1,0,1,1,1,1,1,0,1,0,1,1,1,1,1,1,1,1,1]))).mono fun st k h=>ckD_mono h fun v hv hw=>Eq.mpr (q47_v1 k v) (hv hw)
def q47_B1:Labs:=([1,0,1,1,1,1,1,0,1,0,1,1,1,1,1,1,1,1,1],q47_X1)::q47_B0
theorem q47_b1:LabsOk Tryz.prog (bodyOf Tryz.f12) q47_B1:=LabsOk.cons q47_x1 (q47_b0)
def q47_d2:List LS:=[.b 2 16 [],.b 4 32 [],.v 7 yB,.v 8 .str,.v 81 .bool,.c 16 tyX,.c 32 tyX]
def q47_d2r:List LS:=[.b 2 16 [],.v 3 yI,.c 16 tyX]
def q47_d2n:List LS:=[.b 2 16 [],.b 4 32 [],.v 7 yB,.c 16 tyX,.c 32 tyX]
def q47_dx2:DX:=⟨some q47_d2n,some q47_d2r,[]⟩
def q47_y2r (k:Ex→St→Prop) (x3:Int) (x2b:tEx):Prop:=wfD q47_d2r (x3,x2b,())→k .ret (mkD 124 q47_d2r (x3,x2b,()))
def q47_y2n (k:Ex→St→Prop) (rest7:LI) (x2b:tEx) (x4b:tEx):Prop:=wfD q47_d2n (rest7,x2b,x4b,())→k .nrm (mkD 124 q47_d2n (rest7,x2b,x4b,()))
def q47_J2 (kr:Int→tEx→Prop) (kn:LI→tEx→tEx→Prop) (rest7:LI) (name8:LI) (x81:Bool) (x2b:tEx) (x4b:tEx):Prop:=
 bif x81 then
 bif (decide (name8=([99,111]:LI))) then
 (wfD q47_d1 (rest7,x2b,(x4b.1,x4b.2.1,x4b.2.2.1,([116]:LI),x4b.2.2.2.2.1,x4b.2.2.2.2.2.1,x4b.2.2.2.2.2.2.1,x4b.2.2.2.2.2.2.2.1,x4b.2.2.2.2.2.2.2.2.1,x4b.2.2.2.2.2.2.2.2.2),())→q47_J1 (fun (x3:Int) (x2b:tEx)=>wfD q47_d1r (x3,x2b,())→(
 kr x3 x2b)) rest7 x2b (x4b.1,x4b.2.1,x4b.2.2.1,([116]:LI),x4b.2.2.2.2.1,x4b.2.2.2.2.2.1,x4b.2.2.2.2.2.2.1,x4b.2.2.2.2.2.2.2.1,x4b.2.2.2.2.2.2.2.2.1,x4b.2.2.2.2.2.2.2.2.2))
 else
 (wfD q47_d1 (rest7,x2b,x4b,())→q47_J1 (fun (x3:Int) (x2b:tEx)=>wfD q47_d1r (x3,x2b,())→(
 kr x3 x2b)) rest7 x2b x4b)
 else
 kn rest7 x2b x4b
def q47_g2 (k:Ex→St→Prop) (v:vals q47_d2):Prop:=q47_J2 (q47_y2r k) (q47_y2n k) v.1 v.2.1 v.2.2.1 v.2.2.2.1 v.2.2.2.2.1
theorem q47_v2 (k:Ex→St→Prop):∀ v:vals q47_d2,ex tb (getG q47_G) q47_B1 (at' (bodyOf Tryz.f12) [1,1,1,1,1,0,1,0,1,1,1,1,1,1,1,1,1]) [1,1,1,1,1,0,1,0,1,1,1,1,1,1,1,1,1] (mkD 124 q47_d2 v) (wk 124 q47_dx2 k)=q47_g2 k v
  | (rest7,name8,x81,x2b,x4b,())=>by kernel_rfl
def q47_X2:Pce:=fun st k=>ckD 124 q47_d2 st fun v=>wfD q47_d2 v→q47_g2 k v
theorem q47_x2:SemOk Tryz.prog (at' (bodyOf Tryz.f12) [1,1,1,1,1,0,1,0,1,1,1,1,1,1,1,1,1]) q47_X2:=
  (SemOk.wk (N:=124) (ds:=q47_d2) (dx:=q47_dx2) (ex_sound tb_M tb_ok q47_Gok (q47_b1) (at' (bodyOf Tryz.f12) [1,1,1,1,1,0,1,0,1,1,1,1,1,1,1,1,1]) [1,1,1,1,1,0,1,0,1,1,1,1,1,1,1,1,1] rfl (storesC_at q47_st [1,1,1,1,1,0,1,0,1,1,1,1,1,1,1,1,1]))).mono fun st k h=>ckD_mono h fun v hv hw=>Eq.mpr (q47_v2 k v) (hv hw)
def q47_B2:Labs:=([1,1,1,1,1,0,1,0,1,1,1,1,1,1,1,1,1],q47_X2)::q47_B1
theorem q47_b2:LabsOk Tryz.prog (bodyOf Tryz.f12) q47_B2:=LabsOk.cons q47_x2 (q47_b1)
def q47_d3:List LS:=[.b 2 16 [],.b 4 32 [],.v 7 yB,.v 8 .str,.v 9 yI,.v 58 .str,.v 59 .bool,.c 16 tyX,.c 32 tyX]
def q47_d3r:List LS:=[.b 2 16 [],.v 3 yI,.c 16 tyX]
def q47_d3n:List LS:=[.b 2 16 [],.b 4 32 [],.v 7 yB,.c 16 tyX,.c 32 tyX]
def q47_dx3:DX:=⟨some q47_d3n,some q47_d3r,[]⟩
def q47_y3r (k:Ex→St→Prop) (x3:Int) (x2b:tEx):Prop:=wfD q47_d3r (x3,x2b,())→k .ret (mkD 124 q47_d3r (x3,x2b,()))
def q47_y3n (k:Ex→St→Prop) (rest7:LI) (x2b:tEx) (x4b:tEx):Prop:=wfD q47_d3n (rest7,x2b,x4b,())→k .nrm (mkD 124 q47_d3n (rest7,x2b,x4b,()))
def q47_J3 (kr:Int→tEx→Prop) (kn:LI→tEx→tEx→Prop) (rest7:LI) (name8:LI) (n9:Int) (x58:LI) (x59:Bool) (x2b:tEx) (x4b:tEx):Prop:=
 bif x59 then
 bif (decide ((9999:Int)<n9)) then
 (wfD q47_d0 (rest7,x2b,(x4b.1,x4b.2.1,x4b.2.2.1,x4b.2.2.2.1,x4b.2.2.2.2.1,x4b.2.2.2.2.2.1,(9999:Int),x4b.2.2.2.2.2.2.2.1,x4b.2.2.2.2.2.2.2.2.1,x4b.2.2.2.2.2.2.2.2.2),())→q47_J0 (fun (x3:Int) (x2b:tEx)=>wfD q47_d0r (x3,x2b,())→(
 kr x3 x2b)) rest7 x2b (x4b.1,x4b.2.1,x4b.2.2.1,x4b.2.2.2.1,x4b.2.2.2.2.1,x4b.2.2.2.2.2.1,(9999:Int),x4b.2.2.2.2.2.2.2.1,x4b.2.2.2.2.2.2.2.2.1,x4b.2.2.2.2.2.2.2.2.2))
 else
 (wfD q47_d0 (rest7,x2b,(x4b.1,x4b.2.1,x4b.2.2.1,x4b.2.2.2.1,x4b.2.2.2.2.1,x4b.2.2.2.2.2.1,n9,x4b.2.2.2.2.2.2.2.1,x4b.2.2.2.2.2.2.2.2.1,x4b.2.2.2.2.2.2.2.2.2),())→q47_J0 (fun (x3:Int) (x2b:tEx)=>wfD q47_d0r (x3,x2b,())→(
 kr x3 x2b)) rest7 x2b (x4b.1,x4b.2.1,x4b.2.2.1,x4b.2.2.2.1,x4b.2.2.2.2.1,x4b.2.2.2.2.2.1,n9,x4b.2.2.2.2.2.2.2.1,x4b.2.2.2.2.2.2.2.2.1,x4b.2.2.2.2.2.2.2.2.2))
 else
 bif (decide (x58=([115]:LI))) then
 q26_P x4b rest7∧(
 ∀ (r5:tEx×Int),r5=q26_F x4b rest7→(
 wfR (.tup [.v tyX r5.1,.v yI r5.2])→(
 kr r5.2 r5.1)))
 else
 bif (decide (x58=([116]:LI))) then
 (wfD q47_d2 (rest7,name8,(decide (x58=([116]:LI))),x2b,x4b,())→q47_J2 (fun (x3:Int) (x2b:tEx)=>wfD q47_d2r (x3,x2b,())→(
 kr x3 x2b)) (fun (rest7:LI) (x2b:tEx) (x4b:tEx)=>wfD q47_d2n (rest7,x2b,x4b,())→(
 kn rest7 x2b x4b)) rest7 name8 (decide (x58=([116]:LI))) x2b x4b)
 else
 bif (decide (x58=([99,111]:LI))) then
 (wfD q47_d2 (rest7,name8,(decide (x58=([99,111]:LI))),x2b,x4b,())→q47_J2 (fun (x3:Int) (x2b:tEx)=>wfD q47_d2r (x3,x2b,())→(
 kr x3 x2b)) (fun (rest7:LI) (x2b:tEx) (x4b:tEx)=>wfD q47_d2n (rest7,x2b,x4b,())→(
 kn rest7 x2b x4b)) rest7 name8 (decide (x58=([99,111]:LI))) x2b x4b)
 else
 (wfD q47_d2 (rest7,name8,(decide (x58=([109]:LI))),x2b,x4b,())→q47_J2 (fun (x3:Int) (x2b:tEx)=>wfD q47_d2r (x3,x2b,())→(
 kr x3 x2b)) (fun (rest7:LI) (x2b:tEx) (x4b:tEx)=>wfD q47_d2n (rest7,x2b,x4b,())→(
 kn rest7 x2b x4b)) rest7 name8 (decide (x58=([109]:LI))) x2b x4b)
def q47_g3 (k:Ex→St→Prop) (v:vals q47_d3):Prop:=q47_J3 (q47_y3r k) (q47_y3n k) v.1 v.2.1 v.2.2.1 v.2.2.2.1 v.2.2.2.2.1 v.2.2.2.2.2.1 v.2.2.2.2.2.2.1
theorem q47_v3 (k:Ex→St→Prop):∀ v:vals q47_d3,ex tb (getG q47_G) q47_B2 (at' (bodyOf Tryz.f12) [1,0,1,0,1,1,1,1,1,1,1,1,1]) [1,0,1,0,1,1,1,1,1,1,1,1,1] (mkD 124 q47_d3 v) (wk 124 q47_dx3 k)=q47_g3 k v
  | (rest7,name8,n9,x58,x59,x2b,x4b,())=>by kernel_rfl
def q47_X3:Pce:=fun st k=>ckD 124 q47_d3 st fun v=>wfD q47_d3 v→q47_g3 k v
theorem q47_x3:SemOk Tryz.prog (at' (bodyOf Tryz.f12) [1,0,1,0,1,1,1,1,1,1,1,1,1]) q47_X3:=
  (SemOk.wk (N:=124) (ds:=q47_d3) (dx:=q47_dx3) (ex_sound tb_M tb_ok q47_Gok (q47_b2) (at' (bodyOf Tryz.f12) [1,0,1,0,1,1,1,1,1,1,1,1,1]) [1,0,1,0,1,1,1,1,1,1,1,1,1] rfl (storesC_at q47_st [1,0,1,0,1,1,1,1,1,1,1,1,1]))).mono fun st k h=>ckD_mono h fun v hv hw=>Eq.mpr (q47_v3 k v) (hv hw)
def q47_B3:Labs:=([1,0,1,0,1,1,1,1,1,1,1,1,1],q47_X3)::q47_B2
theorem q47_b3:LabsOk Tryz.prog (bodyOf Tryz.f12) q47_B3:=LabsOk.cons q47_x3 (q47_b2)
def q47_d4:List LS:=[.b 2 16 [],.b 4 32 [],.v 7 yB,.c 16 tyX,.c 32 tyX]
def q47_d4r:List LS:=[.b 2 16 [],.v 3 yI,.c 16 tyX]
def q47_dx4:DX:=⟨none,some q47_d4r,[]⟩
def q47_y4r (k:Ex→St→Prop) (x3:Int) (x2b:tEx):Prop:=wfD q47_d4r (x3,x2b,())→k .ret (mkD 124 q47_d4r (x3,x2b,()))
def q47_J4 (kr:Int→tEx→Prop) (rest7:LI) (x2b:tEx) (x4b:tEx):Prop:=
 q18_P x4b rest7∧(
 ∀ (r9:tEx×Int),r9=q18_F x4b rest7→(
 wfR (.tup [.v tyX r9.1,.v yI r9.2])→(
 kr r9.2 r9.1)))
def q47_g4 (k:Ex→St→Prop) (v:vals q47_d4):Prop:=q47_J4 (q47_y4r k) v.1 v.2.1 v.2.2.1
theorem q47_v4 (k:Ex→St→Prop):∀ v:vals q47_d4,ex tb (getG q47_G) q47_B3 (at' (bodyOf Tryz.f12) [1,1,1,1,1,1,1,1,1,1]) [1,1,1,1,1,1,1,1,1,1] (mkD 124 q47_d4 v) (wk 124 q47_dx4 k)=q47_g4 k v
  | (rest7,x2b,x4b,())=>by kernel_rfl
def q47_X4:Pce:=fun st k=>ckD 124 q47_d4 st fun v=>wfD q47_d4 v→q47_g4 k v
theorem q47_x4:SemOk Tryz.prog (at' (bodyOf Tryz.f12) [1,1,1,1,1,1,1,1,1,1]) q47_X4:=
  (SemOk.wk (N:=124) (ds:=q47_d4) (dx:=q47_dx4) (ex_sound tb_M tb_ok q47_Gok (q47_b3) (at' (bodyOf Tryz.f12) [1,1,1,1,1,1,1,1,1,1]) [1,1,1,1,1,1,1,1,1,1] rfl (storesC_at q47_st [1,1,1,1,1,1,1,1,1,1]))).mono fun st k h=>ckD_mono h fun v hv hw=>Eq.mpr (q47_v4 k v) (hv hw)
def q47_B4:Labs:=([1,1,1,1,1,1,1,1,1,1],q47_X4)::q47_B3
theorem q47_b4:LabsOk Tryz.prog (bodyOf Tryz.f12) q47_B4:=LabsOk.cons q47_x4 (q47_b3)
def q47_raw (line0:LI) (K:Res→List Cell→Prop):Prop:=
 q20_P line0∧(
 ∀ (r1:tEx×Int×Int),r1=q20_F line0→(
 wfR (.tup [.v tyX r1.1,.v yI r1.2.1,.v yI r1.2.2])→(
 bif (!decide (r1.2.2=(0:Int))) then
 K (.tup [.v tyX zX,.v yI r1.2.2]) []
 else
 q56_P line0 r1.2.1∧(
 ∀ (r2:Int),r2=q56_F line0 r1.2.1→(
 wI r2→(
 bif decide (0≤r2∧r2≤(List.length line0:Int)) then
 q44_P (List.drop (Int.toNat r2) line0)∧(
 ∀ (r3:LI×Int),r3=q44_F (List.drop (Int.toNat r2) line0)→(
 wfR (.tup [.v .str r3.1,.v yI r3.2])→(
 bif (decide (r3.2=(0:Int))) then
 bif (decide ((0:Int)<(List.length (List.drop (Int.toNat r2) line0):Int))) then
 K (.tup [.v tyX zX,.v yI (240:Int)]) []
 else
 bif (!r1.1.2.2.1) then
 bif (!r1.1.1.2.2.2.2.2) then
 K (.tup [.v tyX zX,.v yI (240:Int)]) []
 else
 K (.tup [.v tyX r1.1,.v yI (0:Int)]) []
 else
 K (.tup [.v tyX r1.1,.v yI (0:Int)]) []
 else
 bif decide (0≤r3.2∧r3.2≤(List.length (List.drop (Int.toNat r2) line0):Int)) then
 bif (decide (r3.1=([62]:LI))) then
 (wfD q47_d3 ((List.drop (Int.toNat r3.2) (List.drop (Int.toNat r2) line0)),r3.1,r3.2,r3.1,(decide (r3.1=([62]:LI))),zX,(r1.1.1,r1.1.2.1,r1.1.2.2.1,r3.1,r1.1.2.2.2.2.1,r1.1.2.2.2.2.2.1,r1.1.2.2.2.2.2.2.1,r1.1.2.2.2.2.2.2.2.1,r1.1.2.2.2.2.2.2.2.2.1,r1.1.2.2.2.2.2.2.2.2.2),())→q47_J3 (fun (x3:Int) (x2b:tEx)=>wfD q47_d3r (x3,x2b,())→(
 K (.tup [.v tyX x2b,.v yI x3]) [])) (fun (rest7:LI) (x2b:tEx) (x4b:tEx)=>wfD q47_d3n (rest7,x2b,x4b,())→(
 (wfD q47_d4 (rest7,x2b,x4b,())→q47_J4 (fun (x3:Int) (x2b:tEx)=>wfD q47_d4r (x3,x2b,())→(
 K (.tup [.v tyX x2b,.v yI x3]) [])) rest7 x2b x4b))) (List.drop (Int.toNat r3.2) (List.drop (Int.toNat r2) line0)) r3.1 r3.2 r3.1 (decide (r3.1=([62]:LI))) zX (r1.1.1,r1.1.2.1,r1.1.2.2.1,r3.1,r1.1.2.2.2.2.1,r1.1.2.2.2.2.2.1,r1.1.2.2.2.2.2.2.1,r1.1.2.2.2.2.2.2.2.1,r1.1.2.2.2.2.2.2.2.2.1,r1.1.2.2.2.2.2.2.2.2.2))
 else
 (wfD q47_d3 ((List.drop (Int.toNat r3.2) (List.drop (Int.toNat r2) line0)),r3.1,r3.2,r3.1,(decide (r3.1=([60]:LI))),zX,(r1.1.1,r1.1.2.1,r1.1.2.2.1,r3.1,r1.1.2.2.2.2.1,r1.1.2.2.2.2.2.1,r1.1.2.2.2.2.2.2.1,r1.1.2.2.2.2.2.2.2.1,r1.1.2.2.2.2.2.2.2.2.1,r1.1.2.2.2.2.2.2.2.2.2),())→q47_J3 (fun (x3:Int) (x2b:tEx)=>wfD q47_d3r (x3,x2b,())→(
 K (.tup [.v tyX x2b,.v yI x3]) [])) (fun (rest7:LI) (x2b:tEx) (x4b:tEx)=>wfD q47_d3n (rest7,x2b,x4b,())→(
 (wfD q47_d4 (rest7,x2b,x4b,())→q47_J4 (fun (x3:Int) (x2b:tEx)=>wfD q47_d4r (x3,x2b,())→(
 K (.tup [.v tyX x2b,.v yI x3]) [])) rest7 x2b x4b))) (List.drop (Int.toNat r3.2) (List.drop (Int.toNat r2) line0)) r3.1 r3.2 r3.1 (decide (r3.1=([60]:LI))) zX (r1.1.1,r1.1.2.1,r1.1.2.2.1,r3.1,r1.1.2.2.2.2.1,r1.1.2.2.2.2.2.1,r1.1.2.2.2.2.2.2.1,r1.1.2.2.2.2.2.2.2.1,r1.1.2.2.2.2.2.2.2.2.1,r1.1.2.2.2.2.2.2.2.2.2))
 else False)))
 else False))))))
def q47_A:List AS:=[.v yB]

def q47_J0_P (rest7:LI) (x2b:tEx) (x4b:tEx):Prop:=
 q56_P rest7 (0:Int)
def q47_J0_F (rest7:LI) (x2b:tEx) (x4b:tEx):Int×tEx:=
 let r4:Int:=q56_F rest7 (0:Int)
 bif (!decide (r4=(List.length rest7:Int))) then
 ((240:Int),zX)
 else
 ((0:Int),x4b)
theorem q47_J0_sp (kr:Int→tEx→Prop) (rest7:LI) (x2b:tEx) (x4b:tEx) (hp:q47_J0_P rest7 x2b x4b) (hr:∀ q:Int×tEx,q=q47_J0_F rest7 x2b x4b→kr q.1 q.2):q47_J0 kr rest7 x2b x4b:=
 have h:=hr; ⟨hp,al (br0 h (fun _ h=>h _ rfl)
 fun _ h=>h _ rfl)⟩
def q47_J1_P (rest7:LI) (x2b:tEx) (x4b:tEx):Prop:=
 q56_P rest7 (0:Int)∧(
 let r6:Int:=q56_F rest7 (0:Int)
 (0≤r6∧r6≤(List.length rest7:Int))∧(
 q42_P (List.drop (Int.toNat r6) rest7)∧(
 let r7:tAd×Int×Int:=q42_F (List.drop (Int.toNat r6) rest7)
 bif (!decide (r7.2.2=(0:Int))) then
 True
 else
 bif (!r7.1.2.2.2.2.2) then
 True
 else
 q56_P rest7 (IntKind.wrap .i64 (r6+r7.2.1)))))
def q47_J1_F (rest7:LI) (x2b:tEx) (x4b:tEx):Int×tEx:=
 let r6:Int:=q56_F rest7 (0:Int)
 let r7:tAd×Int×Int:=q42_F (List.drop (Int.toNat r6) rest7)
 bif (!decide (r7.2.2=(0:Int))) then
 (r7.2.2,zX)
 else
 bif (!r7.1.2.2.2.2.2) then
 ((240:Int),zX)
 else
 let r8:Int:=q56_F rest7 (IntKind.wrap .i64 (r6+r7.2.1))
 bif (!decide (r8=(List.length rest7:Int))) then
 ((240:Int),zX)
 else
 ((0:Int),(x4b.1,x4b.2.1,x4b.2.2.1,x4b.2.2.2.1,r7.1,x4b.2.2.2.2.2.1,x4b.2.2.2.2.2.2.1,x4b.2.2.2.2.2.2.2.1,x4b.2.2.2.2.2.2.2.2.1,x4b.2.2.2.2.2.2.2.2.2))
theorem q47_J1_sp (kr:Int→tEx→Prop) (rest7:LI) (x2b:tEx) (x4b:tEx) (hp:q47_J1_P rest7 x2b x4b) (hr:∀ q:Int×tEx,q=q47_J1_F rest7 x2b x4b→kr q.1 q.2):q47_J1 kr rest7 x2b x4b:=
 have h:=hr; an1 hp fun hp=>al (as1 hp fun hp=>an1 hp fun hp=>al (br1 hp h (fun _ hp h=>h _ rfl)
 fun _ hp h=>br1 hp h (fun _ hp h=>h _ rfl)
 fun _ hp h=>⟨hp,al (br0 h (fun _ h=>h _ rfl)
 fun _ h=>h _ rfl)⟩))
def q47_J2_P (rest7:LI) (name8:LI) (x81:Bool) (x2b:tEx) (x4b:tEx):Prop:=
 bif x81 then
 bif (decide (name8=([99,111]:LI))) then
 q47_J1_P rest7 x2b (x4b.1,x4b.2.1,x4b.2.2.1,([116]:LI),x4b.2.2.2.2.1,x4b.2.2.2.2.2.1,x4b.2.2.2.2.2.2.1,x4b.2.2.2.2.2.2.2.1,x4b.2.2.2.2.2.2.2.2.1,x4b.2.2.2.2.2.2.2.2.2)
 else
 q47_J1_P rest7 x2b x4b
 else
 True
def q47_J2_F (rest7:LI) (name8:LI) (x81:Bool) (x2b:tEx) (x4b:tEx):(Int×tEx)⊕(LI×tEx×tEx):=
 bif x81 then
 bif (decide (name8=([99,111]:LI))) then
 let q1r:Int×tEx:=q47_J1_F rest7 x2b (x4b.1,x4b.2.1,x4b.2.2.1,([116]:LI),x4b.2.2.2.2.1,x4b.2.2.2.2.2.1,x4b.2.2.2.2.2.2.1,x4b.2.2.2.2.2.2.2.1,x4b.2.2.2.2.2.2.2.2.1,x4b.2.2.2.2.2.2.2.2.2)
 let x3:Int:=q1r.1
 let x2b:tEx:=q1r.2
 .inl (x3,x2b)
 else
 let q1r:Int×tEx:=q47_J1_F rest7 x2b x4b
 let x3:Int:=q1r.1
 let x2b:tEx:=q1r.2
 .inl (x3,x2b)
 else
 .inr (rest7,x2b,x4b)
theorem q47_J2_sp (kr:Int→tEx→Prop) (kn:LI→tEx→tEx→Prop) (rest7:LI) (name8:LI) (x81:Bool) (x2b:tEx) (x4b:tEx) (hp:q47_J2_P rest7 name8 x81 x2b x4b) (hr:∀ q:Int×tEx,q47_J2_F rest7 name8 x81 x2b x4b=.inl q→kr q.1 q.2) (hn:∀ q:LI×tEx×tEx,q47_J2_F rest7 name8 x81 x2b x4b=.inr q→kn q.1 q.2.1 q.2.2):q47_J2 kr kn rest7 name8 x81 x2b x4b:=
 have h:=hc2 hr hn; br1 hp h (fun _ hp h=>br1 hp h (fun _ hp h=>fun _=>q47_J1_sp _ _ _ _ hp (al (h _ rfl)))
 fun _ hp h=>fun _=>q47_J1_sp _ _ _ _ hp (al (h _ rfl)))
 fun _ hp h=>h _ rfl
def q47_J3_P (rest7:LI) (name8:LI) (n9:Int) (x58:LI) (x59:Bool) (x2b:tEx) (x4b:tEx):Prop:=
 bif x59 then
 bif (decide ((9999:Int)<n9)) then
 q47_J0_P rest7 x2b (x4b.1,x4b.2.1,x4b.2.2.1,x4b.2.2.2.1,x4b.2.2.2.2.1,x4b.2.2.2.2.2.1,(9999:Int),x4b.2.2.2.2.2.2.2.1,x4b.2.2.2.2.2.2.2.2.1,x4b.2.2.2.2.2.2.2.2.2)
 else
 q47_J0_P rest7 x2b (x4b.1,x4b.2.1,x4b.2.2.1,x4b.2.2.2.1,x4b.2.2.2.2.1,x4b.2.2.2.2.2.1,n9,x4b.2.2.2.2.2.2.2.1,x4b.2.2.2.2.2.2.2.2.1,x4b.2.2.2.2.2.2.2.2.2)
 else
 bif (decide (x58=([115]:LI))) then
 q26_P x4b rest7
 else
 bif (decide (x58=([116]:LI))) then
 q47_J2_P rest7 name8 (decide (x58=([116]:LI))) x2b x4b
 else
 bif (decide (x58=([99,111]:LI))) then
 q47_J2_P rest7 name8 (decide (x58=([99,111]:LI))) x2b x4b
 else
 q47_J2_P rest7 name8 (decide (x58=([109]:LI))) x2b x4b
def q47_J3_F (rest7:LI) (name8:LI) (n9:Int) (x58:LI) (x59:Bool) (x2b:tEx) (x4b:tEx):(Int×tEx)⊕(LI×tEx×tEx):=
 bif x59 then
 bif (decide ((9999:Int)<n9)) then
 let q0r:Int×tEx:=q47_J0_F rest7 x2b (x4b.1,x4b.2.1,x4b.2.2.1,x4b.2.2.2.1,x4b.2.2.2.2.1,x4b.2.2.2.2.2.1,(9999:Int),x4b.2.2.2.2.2.2.2.1,x4b.2.2.2.2.2.2.2.2.1,x4b.2.2.2.2.2.2.2.2.2)
 let x3:Int:=q0r.1
 let x2b:tEx:=q0r.2
 .inl (x3,x2b)
 else
 let q0r:Int×tEx:=q47_J0_F rest7 x2b (x4b.1,x4b.2.1,x4b.2.2.1,x4b.2.2.2.1,x4b.2.2.2.2.1,x4b.2.2.2.2.2.1,n9,x4b.2.2.2.2.2.2.2.1,x4b.2.2.2.2.2.2.2.2.1,x4b.2.2.2.2.2.2.2.2.2)
 let x3:Int:=q0r.1
 let x2b:tEx:=q0r.2
 .inl (x3,x2b)
 else
 bif (decide (x58=([115]:LI))) then
 let r5:tEx×Int:=q26_F x4b rest7
 .inl (r5.2,r5.1)
 else
 bif (decide (x58=([116]:LI))) then
 Sum.elim (fun q2r=>
 let x3:Int:=q2r.1
 let x2b:tEx:=q2r.2
 .inl (x3,x2b)) (fun q2n=>
 let rest7:LI:=q2n.1
 let x2b:tEx:=q2n.2.1
 let x4b:tEx:=q2n.2.2
 .inr (rest7,x2b,x4b)) (q47_J2_F rest7 name8 (decide (x58=([116]:LI))) x2b x4b)
 else
 bif (decide (x58=([99,111]:LI))) then
 Sum.elim (fun q2r=>
 let x3:Int:=q2r.1
 let x2b:tEx:=q2r.2
 .inl (x3,x2b)) (fun q2n=>
 let rest7:LI:=q2n.1
 let x2b:tEx:=q2n.2.1
 let x4b:tEx:=q2n.2.2
 .inr (rest7,x2b,x4b)) (q47_J2_F rest7 name8 (decide (x58=([99,111]:LI))) x2b x4b)
 else
 Sum.elim (fun q2r=>
 let x3:Int:=q2r.1
 let x2b:tEx:=q2r.2
 .inl (x3,x2b)) (fun q2n=>
 let rest7:LI:=q2n.1
 let x2b:tEx:=q2n.2.1
 let x4b:tEx:=q2n.2.2
 .inr (rest7,x2b,x4b)) (q47_J2_F rest7 name8 (decide (x58=([109]:LI))) x2b x4b)
theorem q47_J3_sp (kr:Int→tEx→Prop) (kn:LI→tEx→tEx→Prop) (rest7:LI) (name8:LI) (n9:Int) (x58:LI) (x59:Bool) (x2b:tEx) (x4b:tEx) (hp:q47_J3_P rest7 name8 n9 x58 x59 x2b x4b) (hr:∀ q:Int×tEx,q47_J3_F rest7 name8 n9 x58 x59 x2b x4b=.inl q→kr q.1 q.2) (hn:∀ q:LI×tEx×tEx,q47_J3_F rest7 name8 n9 x58 x59 x2b x4b=.inr q→kn q.1 q.2.1 q.2.2):q47_J3 kr kn rest7 name8 n9 x58 x59 x2b x4b:=
 have h:=hc2 hr hn; br1 hp h (fun _ hp h=>br1 hp h (fun _ hp h=>fun _=>q47_J0_sp _ _ _ _ hp (al (h _ rfl)))
 fun _ hp h=>fun _=>q47_J0_sp _ _ _ _ hp (al (h _ rfl)))
 fun _ hp h=>br1 hp h (fun _ hp h=>⟨hp,al (h _ rfl)⟩)
 fun _ hp h=>br1 hp h (fun _ hp h=>fun _=>q47_J2_sp _ _ _ _ _ _ _ hp
 (fun _ e _=>have h:=sl e h; h _ rfl)
 (fun _ e _=>have h:=sr e h; h _ rfl))
 fun _ hp h=>br1 hp h (fun _ hp h=>fun _=>q47_J2_sp _ _ _ _ _ _ _ hp
 (fun _ e _=>have h:=sl e h; h _ rfl)
 (fun _ e _=>have h:=sr e h; h _ rfl))
 fun _ hp h=>fun _=>q47_J2_sp _ _ _ _ _ _ _ hp
 (fun _ e _=>have h:=sl e h; h _ rfl)
 (fun _ e _=>have h:=sr e h; h _ rfl)
def q47_J4_P (rest7:LI) (x2b:tEx) (x4b:tEx):Prop:=
 q18_P x4b rest7
def q47_J4_F (rest7:LI) (x2b:tEx) (x4b:tEx):Int×tEx:=
 let r9:tEx×Int:=q18_F x4b rest7
 (r9.2,r9.1)
theorem q47_J4_sp (kr:Int→tEx→Prop) (rest7:LI) (x2b:tEx) (x4b:tEx) (hp:q47_J4_P rest7 x2b x4b) (hr:∀ q:Int×tEx,q=q47_J4_F rest7 x2b x4b→kr q.1 q.2):q47_J4 kr rest7 x2b x4b:=
 have h:=hr; ⟨hp,al (h _ rfl)⟩
def q47_P (line0:LI):Prop:=
 q20_P line0∧(
 let r1:tEx×Int×Int:=q20_F line0
 bif (!decide (r1.2.2=(0:Int))) then
 True
 else
 q56_P line0 r1.2.1∧(
 let r2:Int:=q56_F line0 r1.2.1
 (0≤r2∧r2≤(List.length line0:Int))∧(
 q44_P (List.drop (Int.toNat r2) line0)∧(
 let r3:LI×Int:=q44_F (List.drop (Int.toNat r2) line0)
 bif (decide (r3.2=(0:Int))) then
 True
 else
 (0≤r3.2∧r3.2≤(List.length (List.drop (Int.toNat r2) line0):Int))∧(
 bif (decide (r3.1=([62]:LI))) then
 q47_J3_P (List.drop (Int.toNat r3.2) (List.drop (Int.toNat r2) line0)) r3.1 r3.2 r3.1 (decide (r3.1=([62]:LI))) zX (r1.1.1,r1.1.2.1,r1.1.2.2.1,r3.1,r1.1.2.2.2.2.1,r1.1.2.2.2.2.2.1,r1.1.2.2.2.2.2.2.1,r1.1.2.2.2.2.2.2.2.1,r1.1.2.2.2.2.2.2.2.2.1,r1.1.2.2.2.2.2.2.2.2.2)∧(
 Sum.elim (fun q3r=>
 True) (fun q3n=>
 let rest7:LI:=q3n.1
 let x2b:tEx:=q3n.2.1
 let x4b:tEx:=q3n.2.2
 q47_J4_P rest7 x2b x4b) (q47_J3_F (List.drop (Int.toNat r3.2) (List.drop (Int.toNat r2) line0)) r3.1 r3.2 r3.1 (decide (r3.1=([62]:LI))) zX (r1.1.1,r1.1.2.1,r1.1.2.2.1,r3.1,r1.1.2.2.2.2.1,r1.1.2.2.2.2.2.1,r1.1.2.2.2.2.2.2.1,r1.1.2.2.2.2.2.2.2.1,r1.1.2.2.2.2.2.2.2.2.1,r1.1.2.2.2.2.2.2.2.2.2)))
 else
 q47_J3_P (List.drop (Int.toNat r3.2) (List.drop (Int.toNat r2) line0)) r3.1 r3.2 r3.1 (decide (r3.1=([60]:LI))) zX (r1.1.1,r1.1.2.1,r1.1.2.2.1,r3.1,r1.1.2.2.2.2.1,r1.1.2.2.2.2.2.1,r1.1.2.2.2.2.2.2.1,r1.1.2.2.2.2.2.2.2.1,r1.1.2.2.2.2.2.2.2.2.1,r1.1.2.2.2.2.2.2.2.2.2)∧(
 Sum.elim (fun q3r=>
 True) (fun q3n=>
 let rest7:LI:=q3n.1
 let x2b:tEx:=q3n.2.1
 let x4b:tEx:=q3n.2.2
 q47_J4_P rest7 x2b x4b) (q47_J3_F (List.drop (Int.toNat r3.2) (List.drop (Int.toNat r2) line0)) r3.1 r3.2 r3.1 (decide (r3.1=([60]:LI))) zX (r1.1.1,r1.1.2.1,r1.1.2.2.1,r3.1,r1.1.2.2.2.2.1,r1.1.2.2.2.2.2.1,r1.1.2.2.2.2.2.2.1,r1.1.2.2.2.2.2.2.2.1,r1.1.2.2.2.2.2.2.2.2.1,r1.1.2.2.2.2.2.2.2.2.2))))))))
def q47_F (line0:LI):tEx×Int:=
 let r1:tEx×Int×Int:=q20_F line0
 bif (!decide (r1.2.2=(0:Int))) then
 (zX,r1.2.2)
 else
 let r2:Int:=q56_F line0 r1.2.1
 let r3:LI×Int:=q44_F (List.drop (Int.toNat r2) line0)
 bif (decide (r3.2=(0:Int))) then
 bif (decide ((0:Int)<(List.length (List.drop (Int.toNat r2) line0):Int))) then
 (zX,(240:Int))
 else
 bif (!r1.1.2.2.1) then
 bif (!r1.1.1.2.2.2.2.2) then
 (zX,(240:Int))
 else
 (r1.1,(0:Int))
 else
 (r1.1,(0:Int))
 else
 bif (decide (r3.1=([62]:LI))) then
 Sum.elim (fun q3r=>
 let x3:Int:=q3r.1
 let x2b:tEx:=q3r.2
 (x2b,x3)) (fun q3n=>
 let rest7:LI:=q3n.1
 let x2b:tEx:=q3n.2.1
 let x4b:tEx:=q3n.2.2
 let q4r:Int×tEx:=q47_J4_F rest7 x2b x4b
 let x3:Int:=q4r.1
 let x2b:tEx:=q4r.2
 (x2b,x3)) (q47_J3_F (List.drop (Int.toNat r3.2) (List.drop (Int.toNat r2) line0)) r3.1 r3.2 r3.1 (decide (r3.1=([62]:LI))) zX (r1.1.1,r1.1.2.1,r1.1.2.2.1,r3.1,r1.1.2.2.2.2.1,r1.1.2.2.2.2.2.1,r1.1.2.2.2.2.2.2.1,r1.1.2.2.2.2.2.2.2.1,r1.1.2.2.2.2.2.2.2.2.1,r1.1.2.2.2.2.2.2.2.2.2))
 else
 Sum.elim (fun q3r=>
 let x3:Int:=q3r.1
 let x2b:tEx:=q3r.2
 (x2b,x3)) (fun q3n=>
 let rest7:LI:=q3n.1
 let x2b:tEx:=q3n.2.1
 let x4b:tEx:=q3n.2.2
 let q4r:Int×tEx:=q47_J4_F rest7 x2b x4b
 let x3:Int:=q4r.1
 let x2b:tEx:=q4r.2
 (x2b,x3)) (q47_J3_F (List.drop (Int.toNat r3.2) (List.drop (Int.toNat r2) line0)) r3.1 r3.2 r3.1 (decide (r3.1=([60]:LI))) zX (r1.1.1,r1.1.2.1,r1.1.2.2.1,r3.1,r1.1.2.2.2.2.1,r1.1.2.2.2.2.2.1,r1.1.2.2.2.2.2.2.1,r1.1.2.2.2.2.2.2.2.1,r1.1.2.2.2.2.2.2.2.2.1,r1.1.2.2.2.2.2.2.2.2.2))
theorem q47_sp (line0:LI) (K:Res→List Cell→Prop) (_:wfA q47_A (line0,())) (hp:q47_P line0) (h:∀ r:tEx×Int,r=q47_F line0→K (.tup [.v tyX r.1,.v yI r.2]) []):q47_raw line0 K:=
 an1 hp fun hp=>al (br1 hp h (fun _ hp h=>h _ rfl)
 fun _ hp h=>an1 hp fun hp=>al (as1 hp fun hp=>an1 hp fun hp=>al (br1 hp h (fun _ hp h=>br0 h (fun _ h=>h _ rfl)
 fun _ h=>br0 h (fun _ h=>br0 h (fun _ h=>h _ rfl)
 fun _ h=>h _ rfl)
 fun _ h=>h _ rfl)
 fun _ hp h=>as1 hp fun hp=>br1 hp h (fun _ hp h=>fun _=>q47_J3_sp _ _ _ _ _ _ _ _ _ hp.1
 (fun _ e _=>have h:=sl e h; h _ rfl)
 (fun _ e _=>have h:=sr e h; have hp:=cR e hp.2; fun _=>q47_J4_sp _ _ _ _ hp (al (h _ rfl))))
 fun _ hp h=>fun _=>q47_J3_sp _ _ _ _ _ _ _ _ _ hp.1
 (fun _ e _=>have h:=sl e h; h _ rfl)
 (fun _ e _=>have h:=sr e h; have hp:=cR e hp.2; fun _=>q47_J4_sp _ _ _ _ hp (al (h _ rfl))))))
def q47_C (v:valsA q47_A) (K:Res→List Cell→Prop):Prop:=q47_P v.1∧∀ r:tEx×Int,r=q47_F v.1→K (.tup [.v tyX r.1,.v yI r.2]) []
def q47_S:App:=specW q47_A q47_C
theorem q47_wv (K:Res→List Cell→Prop):∀ v:valsA q47_A,runF tb (getG q47_G) q47_B4 Tryz.f12 [true,true] (mkA q47_A v) K=q47_raw v.1 K
  | (line0,())=>by kernel_rfl
theorem q47_ok:AppOk Tryz.prog 12 q47_S:=
  AppOk.specW (spec_ok ((runF_ok tb_M tb_ok q47_Gok (q47_b4) (f:=12) (fn:=Tryz.f12) (by kernel_rfl) (by kernel_rfl) q47_st [true,true])) fun v K hw h=>(q47_wv K v).mpr (q47_sp v.1 K hw h.1 h.2))

end Go.VE
namespace Go.VE
def ix (s l:LI):Int:=(s.length:Int) - l.length
section
variable {s l:LI}
theorem ix_drop (h:l <:+ s):s.drop (ix s l).toNat=l:=pos_drop h
theorem ix_self (s:LI):ix s s=0:=Int.sub_self _
theorem past_s (h:l <:+ s):q56_P s (ix s l)∧q56_F s (ix s l)=ix s (bk l):=by
  have h1:=suf_len h
  have h2:=bls_le l
  refine ⟨⟨show 0≤(s.length:Int) - l.length by omega,show (s.length:Int) - l.length≤s.length by omega⟩,?_⟩
  unfold q56_F
  rw [ix_drop h]
  show (s.length:Int) - l.length+(bls l:Int)=(s.length:Int) - (bk l).length
  rw [bk_len]
  omega
theorem rd_ix {c:Int} {r:LI} (h:c::r <:+ s):rd (0:Int) s (ix s (c::r))=c:=by
  have hd:=ix_drop h
  have h1:=suf_len h
  simp only [List.length_cons] at h1
  have e:(ix s (c::r)).toNat<s.length:=by unfold ix; simp only [List.length_cons]; omega
  rw [List.drop_eq_getElem_cons e] at hd
  unfold rd
  injection hd with h2 _
  simp [e,h2]
theorem ix_in {c:Int} {r:LI} (h:c::r <:+ s):0≤ix s (c::r)∧ix s (c::r)<(s.length:Int):=by
  have h1:=suf_len h
  simp only [List.length_cons] at h1
  unfold ix; simp only [List.length_cons]; omega
theorem ix_le (h:l <:+ s):0≤ix s l∧ix s l≤(s.length:Int):=by
  have h1:=suf_len h
  unfold ix; omega
theorem ix_next {c:Int} {r:LI} (h:c::r <:+ s) (hs:s.length≤lim):IntKind.wrap .i64 (ix s (c::r)+1)=ix s r:=by
  have hlim:lim=1099511627776:=rfl
  have h1:=suf_len h
  simp only [List.length_cons] at h1
  unfold ix
  rw [List.length_cons,wrap_i64 (by omega) (by omega)]
  omega
theorem ix_add {r:LI} (h:l <:+ s) (hr:r <:+ l) (hs:s.length≤lim):IntKind.wrap .i64 (ix s l+((l.length:Int) - r.length))=ix s r:=by
  have hlim:lim=1099511627776:=rfl
  have h1:=suf_len h
  have h2:=suf_len hr
  unfold ix
  rw [wrap_i64 (by omega) (by omega)]
  omega
theorem ix_nil:ix s []=s.length:=by unfold ix; simp
theorem addressed_s (s:LI) (hs:s.length≤lim):q20_P s∧q20_F s=(match spM (bk s) with
    | .inl ((_,a,b,w),r)=>(exB a b w,ix s r,0)
    | .inr e=>(exZ,0,e)):=by
  have hlim:lim=1099511627776:=rfl
  have hss:=List.suffix_refl s
  have hb:=bk_suf s
  obtain ⟨bp,bf⟩:=past_s hss
  rw [ix_self] at bp bf
  unfold q20_P q20_F
  simp only [bf]
  cases hl:bk s with
  | nil=>
    rw [hl] at hb
    obtain ⟨rp,rf⟩:=ref23_eq [] (by simp)
    have e1:adM []=.inl (adr0,[]):=rfl
    have e2:spM []=.inl ((false,adr0,adr0,false),[]):=rfl
    have ixl:=ix_le hb
    obtain ⟨pp,pf⟩:=past_s hb
    have w0:IntKind.wrap .i64 (ix s []+((([]:LI).length:Int) - (([]:LI).length:Int)))=ix s []:=ix_add hb (List.suffix_refl _) hs
    rw [decide_eq_false (by rw [ix_nil]; omega),e2]
    simp only [cond_false,ix_drop hb,rf,e1,adR,w0,pf]
    have e3:decide ((s.length:Int)≤ix s (bk []))=true:=decide_eq_true (by rw [show bk ([]:LI)=[] from rfl,ix_nil]; omega)
    rw [e3]
    exact ⟨⟨bp,ixl,rp,pp,trivial⟩,rfl⟩
  | cons c t=>
    rw [hl] at hb
    have hsl:=suf_len hb
    obtain ⟨rp,rf⟩:=ref23_eq (c::t) (by omega)
    have ixi:=ix_in hb
    have ixl:=ix_le hb
    rw [decide_eq_true ixi.2]
    simp only [cond_true,rd_ix hb,ix_drop hb,rf]
    unfold spM
    rw [tk_cons]
    by_cases c1:c=37
    · rw [decide_eq_true c1,if_pos c1,ix_next hb hs]
      exact ⟨⟨bp,ixi,trivial⟩,rfl⟩
    rw [decide_eq_false c1,if_neg c1]
    dsimp only
    rcases ha:adM (c::t) with ⟨a,r⟩ | e
    · have hr:=(adM_suf _ ha)
      obtain ⟨pp,pf⟩:=past_s (hr.trans hb)
      have hbr:=(bk_suf r).trans (hr.trans hb)
      simp only [adR,ix_add hb hr hs,pf]
      cases hk:bk r with
      | nil=>
        rw [decide_eq_true (show (s.length:Int)≤ix s [] by rw [ix_nil]; omega)]
        exact ⟨⟨bp,ixi,ixl,rp,pp,trivial⟩,rfl⟩
      | cons d u=>
        rw [hk] at hbr
        have ixd:=ix_in hbr
        rw [decide_eq_false (show ¬ (s.length:Int)≤ix s (d::u) by omega),rd_ix hbr,ix_next hbr hs,tk_cons]
        have hu:=(List.suffix_cons d u).trans hbr
        by_cases c2:d=44
        · rw [decide_eq_true c2,if_pos c2]
          obtain ⟨qp,qf⟩:=past_s hu
          have hbu:=(bk_suf u).trans hu
          have hbl:=suf_len hbu
          obtain ⟨rp2,rf2⟩:=ref23_eq (bk u) (by omega)
          have ixu:=ix_le hbu
          simp only [qf,ix_drop hbu,rf2]
          refine ⟨⟨bp,ixi,ixl,rp,pp,ixd,qp,ixu,rp2⟩,?_⟩
          rcases hb2:adM (bk u) with ⟨b,v⟩ | e
          · have hv:=adM_suf _ hb2
            have j0:∀ a':Adr,q20_J0_F (ix s (bk u)) (((bk u).length:Int) - v.length) exZ (a',b,false,[],adr0,0,0,[],[],false)=(ix s v,0,exB a' (hereM b) false):=fun a'=>by
              unfold q20_J0_F
              rw [ix_add hbu hv hs]
              obtain ⟨b1,b2,b3,b4,b5,g⟩:=b
              cases g <;> rfl
            obtain ⟨a1,a2,a3,a4,a5,g⟩:=a
            cases g
            · exact congrArg (fun q=>(q.2.2,q.1,q.2.1)) (j0 _)
            · exact congrArg (fun q=>(q.2.2,q.1,q.2.1)) (j0 _)
          · have:=adM_err _ hb2
            subst this; rfl
        · rw [decide_eq_false c2,if_neg c2]
          exact ⟨⟨bp,ixi,ixl,rp,pp,ixd,trivial⟩,rfl⟩
    · have:=adM_err _ ha
      subst this
      exact ⟨⟨bp,ixi,ixl,rp,trivial⟩,rfl⟩
end
end Go.VE
namespace Go.VE
theorem cnM_err {l:LI} {e:Int} (h:cnM l=.inr e):e=240:=by
  unfold cnM at h
  repeat' split at h
  all_goals first | (cases h; rfl) | cases h
theorem ptM_err {l:LI} {e:Int} (h:ptM l=.inr e):e=240:=by
  unfold ptM at h
  repeat' split at h
  all_goals first | (cases h; rfl) | cases h
theorem gvM_err {l:LI} {e:Int} (h:gvM l=.inr e):e=230∨e=240:=by
  unfold gvM at h
  split at h
  · rename_i e' ha; cases h; exact .inl (adM_err _ ha)
  · split at h
    · cases h
    · cases h; exact .inr rfl
theorem rpM_err {a b:Adr} {w:Bool} {l:LI} {e:Int} (h:rpM a b w l=.inr e):e=240:=by
  unfold rpM at h
  split at h
  · cases h; rfl
  · split at h
    · rename_i hp; cases h; exact ptM_err hp
    · cases h; rfl
    · split at h
      · rename_i hp; cases h; exact ptM_err hp
      · cases h
      · cases h
theorem cmM_err {a b:Adr} {w:Bool} {l:LI} {e:Int} (h:cmM a b w l=.inr e):e=230∨e=240:=by
  cases l with
  | nil=>cases h; exact .inr rfl
  | cons c r=>
    rw [cmM_cons] at h
    split at h
    · split at h
      · cases h
      · rename_i hc; cases h; exact .inr (cnM_err hc)
    · split at h
      · split at h
        · cases h; exact .inr rfl
        · cases h
      · split at h
        · split at h
          · cases h
          · rename_i hc; cases h; exact .inr (cnM_err hc)
        · split at h
          · cases h
          · split at h
            · split at h
              · cases h; exact .inr rfl
              · split at h
                · cases h
                · rename_i hg; cases h; exact gvM_err hg
            · split at h
              · split at h
                · cases h
                · rename_i hg; cases h; exact gvM_err hg
              · split at h
                · exact .inr (rpM_err h)
                · cases h; exact .inr rfl
theorem par_err {s:LI} {e:Int} (h:parM s=.inr e):e=230∨e=240:=by
  unfold parM at h
  split at h
  · rename_i e' hsp
    cases h
    unfold spM at hsp
    split at hsp
    · cases hsp
    · split at hsp
      · rename_i ha; cases hsp; exact .inl (adM_err _ ha)
      · split at hsp
        · split at hsp
          · rename_i ha; cases hsp; exact .inl (adM_err _ ha)
          · cases hsp
        · cases hsp
  · unfold enM at h
    split at h
    · rename_i hb
      cases h
      unfold bhM at hb
      split at hb
      · split at hb
        · cases hb
        · cases hb; exact .inr rfl
      · exact cmM_err hb
    · split at h
      · cases h
      · cases h; exact .inr rfl
def toB:ExD⊕Int→ExD×Int
  | .inl x=>(x,0)
  | .inr e=>(exZ,e)
theorem parse_s (s:LI) (hs:s.length≤lim):q75_P s∧q75_F s=toB (parM s):=by
  obtain ⟨p,f⟩:=parse0_s s hs
  unfold q75_P q75_F
  rw [f]
  rcases hp:parM s with x | e
  · exact ⟨⟨p,fun n h=>by cases h⟩,rfl⟩
  · refine ⟨⟨p,fun n h=>?_⟩,rfl⟩
    cases h
    unfold inR kmin kmax
    rcases par_err hp with rfl | rfl <;> decide
def swp (p:ExD×Int):Int×ExD:=(p.2,p.1)
def cnX (x:ExD) (l:LI):Rd ExD:=match cnM l with
  | .inl (n,t)=>.inl (exN x n,t)
  | .inr e=>.inr e
theorem bk_bk:∀ l,bk (bk l)=bk l
  | []=>rfl
  | c::r=>by
    unfold bk
    rw [bls_cons]
    by_cases h:c=32∨c=9
    · rw [if_pos h]
      exact bk_bk r
    · rw [if_neg h]
      show (c::r).drop (bls (c::r))=c::r
      rw [bls_cons,if_neg h]; rfl
section
variable {s l:LI}
theorem ix_end:decide (ix s l=(s.length:Int))=decide (l=[]):=by
  unfold ix
  cases l with
  | nil=>simp
  | cons c r=>rw [decide_eq_false (by simp only [List.length_cons]; omega),decide_eq_false (by simp)]
theorem j1_s (h:l <:+ s) (x x4:ExD):q18_J1_P s (ix s l) x x4∧q18_J1_F s (ix s l) x x4=swp (toB (enM (.inl (x,l)))):=by
  obtain ⟨pp,pf⟩:=past_s h
  refine ⟨pp,?_⟩
  unfold q18_J1_F
  simp only [pf,ix_end,enM]
  by_cases c:bk l=[]
  · rw [decide_eq_true c,if_pos c]; rfl
  · rw [decide_eq_false c,if_neg c]; rfl
theorem j2t_s (h:l <:+ s) (x x4:ExD):q18_J2_P s (ix s l) true x x4∧q18_J2_F s (ix s l) true x x4=swp (toB (enM (.inl (x,l)))):=j1_s h x x4
theorem j2f_s (h:l <:+ s) (hs:s.length≤lim) (hb:bk l=l) (x x4:ExD) (hx:x.2.2.2.2.2.2.1=0):q18_J2_P s (ix s l) false x x4∧q18_J2_F s (ix s l) false x x4=swp (toB (enM (cnX x l))):=by
  have jj:=j1_s h x x4
  have e:exN x 0=x:=by
    obtain ⟨x1,x2,x3,x4,x5,x6,x7,x8,x9,x10⟩:=x
    cases hx; rfl
  unfold q18_J2_P q18_J2_F cnX cnM
  rw [hb]
  cases l with
  | nil=>
    rw [decide_eq_false (show ¬ ix s []<(s.length:Int) by rw [ix_nil]; omega)]
    rw [show isDg (([]:LI).headD 0)=false from rfl]
    refine ⟨jj.1,?_⟩
    show q18_J1_F s (ix s []) x x4=swp (toB (enM (Sum.inl (exN x 0,[]))))
    rw [e]; exact jj.2
  | cons c r=>
    have ixi:=ix_in h
    rw [decide_eq_true ixi.2]
    rw [show (c::r).headD 0=c from rfl]
    simp only [rd_ix h,refDigit]
    by_cases hg:isDg c=true
    case neg=>
      have hg:isDg c=false:=by simpa using hg
      rw [hg]
      refine ⟨⟨ixi,jj.1⟩,?_⟩
      show q18_J1_F s (ix s (c::r)) x x4=swp (toB (enM (Sum.inl (exN x 0,c::r))))
      rw [e]; exact jj.2
    case pos=>
      rw [hg]
      have lp:q18_L0_P s (ix s (c::r)) x x4:=⟨ixi.1,by omega,hs,by omega,by omega⟩
      have hd:=ix_drop h
      have hdl:=dgs_le (c::r)
      have h1:=suf_len h
      have e:q18_L0_F s (ix s (c::r)) x x4=(s,ix s ((c::r).drop (dgs (c::r))),exN x (cnt 0 (c::r)),x4):=by
        unfold q18_L0_F
        rw [hd,hx,show ix s (c::r)+(dgs (c::r):Int)=ix s ((c::r).drop (dgs (c::r))) by unfold ix; rw [List.length_drop]; omega]
      simp only [e,if_true]
      have j2:=j1_s ((List.drop_suffix (dgs (c::r)) (c::r)).trans h) (exN x (cnt 0 (c::r))) x4
      by_cases c0:cnt 0 (c::r)=0
      · have:(exN x (cnt 0 (c::r))).2.2.2.2.2.2.1=0:=c0
        rw [if_pos c0,decide_eq_true this]
        exact ⟨⟨ixi,lp,trivial⟩,rfl⟩
      · have:¬ (exN x (cnt 0 (c::r))).2.2.2.2.2.2.1=0:=c0
        rw [if_neg c0,decide_eq_false this]
        exact ⟨⟨ixi,lp,j2.1⟩,j2.2⟩
theorem valid_eq (c:Int):q46_F c=q95_F c:=by
  have w1:97≤c→c≤122→IntKind.wrap .i64 (IntKind.wrap .u8 (c - 97))=c - 97:=fun h1 h2=>by
    rw [wrap_u8 (by omega) (by omega),wrap_i64 (by omega) (by omega)]
  have w2:65≤c→c≤90→IntKind.wrap .i64 (IntKind.wrap .u8 (c - 65))=c - 65:=fun h1 h2=>by
    rw [wrap_u8 (by omega) (by omega),wrap_i64 (by omega) (by omega)]
  unfold q46_F q95_F q97_F q38_F
  by_cases h1:c=0
  · simp [h1]
  by_cases h2:c=34
  · simp [h2]
  by_cases h3:c=45
  · simp [h3]
  by_cases h4:49≤c <;> by_cases h5:c≤57 <;> by_cases h6:97≤c <;> by_cases h7:c≤122 <;> by_cases h8:65≤c <;> by_cases h9:c≤90 <;> first | omega | (simp [h1,h2,h3,h4,h5,h6,h7,h8,h9]; try (first | (rw [w1 h6 h7]; omega) | (rw [w2 h8 h9]; omega)))
end
end Go.VE
namespace Go.VE
def exR (x:ExD) (c:Int):ExD:=(x.1,x.2.1,x.2.2.1,x.2.2.2.1,x.2.2.2.2.1,c,x.2.2.2.2.2.2.1,x.2.2.2.2.2.2.2.1,x.2.2.2.2.2.2.2.2.1,x.2.2.2.2.2.2.2.2.2)
theorem enM_bk (x:ExD) (l:LI):enM (.inl (x,bk l))=enM (.inl (x,l)):=by unfold enM; dsimp only; rw [bk_bk]
theorem cnM_bk (l:LI):cnM (bk l)=cnM l:=by unfold cnM; rw [bk_bk]
theorem cnX_bk (x:ExD) (l:LI):cnX x (bk l)=cnX x l:=by unfold cnX; rw [cnM_bk]
theorem exR_0 {x:ExD} (h:x.2.2.2.2.2.1=0):exR x 0=x:=by
  obtain ⟨x1,x2,x3,x4,x5,x6,x7,x8,x9,x10⟩:=x
  cases h; rfl
section
variable (s:LI) (hs:s.length≤lim) (x:ExD) (hx:x.2.2.2.2.2.2.1=0) (hr:x.2.2.2.2.2.1=0)
include hs hx hr
theorem reg_s (put:Bool) (kP:Int→ExD→Prop) (kF:Int→ExD→ExD×Int) (res:ExD→LI→ExD×Int)
    (hk:∀ (l:LI) (y:ExD),l <:+ s→bk l=l→y.2.2.2.2.2.2.1=0→kP (ix s l) y∧kF (ix s l) y=res y l) (hres:∀ y l,res y (bk l)=res y l) :
    (bif decide (ix s (bk s)<(s.length:Int)) then ((0≤ix s (bk s)∧ix s (bk s)<(s.length:Int))∧(bif !decide (rd (0:Int) s (ix s (bk s))=0) then ((0≤ix s (bk s)∧ix s (bk s)<(s.length:Int))∧(bif q46_F (rd (0:Int) s (ix s (bk s))) then (bif put then ((0≤ix s (bk s)∧ix s (bk s)<(s.length:Int))∧(q56_P s (IntKind.wrap .i64 (ix s (bk s)+1))∧kP (q56_F s (IntKind.wrap .i64 (ix s (bk s)+1))) (exR x (rd (0:Int) s (ix s (bk s)))))) else ((0≤ix s (bk s)∧ix s (bk s)<(s.length:Int))∧(bif !(q30_F (rd (0:Int) s (ix s (bk s)))) then ((0≤ix s (bk s)∧ix s (bk s)<(s.length:Int))∧(q56_P s (IntKind.wrap .i64 (ix s (bk s)+1))∧kP (q56_F s (IntKind.wrap .i64 (ix s (bk s)+1))) (exR x (rd (0:Int) s (ix s (bk s)))))) else kP (ix s (bk s)) x))) else kP (ix s (bk s)) x)) else kP (ix s (bk s)) x)) else kP (ix s (bk s)) x)∧
    (bif decide (ix s (bk s)<(s.length:Int)) then (bif !decide (rd (0:Int) s (ix s (bk s))=0) then (bif q46_F (rd (0:Int) s (ix s (bk s))) then (bif put then kF (q56_F s (IntKind.wrap .i64 (ix s (bk s)+1))) (exR x (rd (0:Int) s (ix s (bk s)))) else (bif !(q30_F (rd (0:Int) s (ix s (bk s)))) then kF (q56_F s (IntKind.wrap .i64 (ix s (bk s)+1))) (exR x (rd (0:Int) s (ix s (bk s)))) else kF (ix s (bk s)) x)) else kF (ix s (bk s)) x) else kF (ix s (bk s)) x) else kF (ix s (bk s)) x)=res (exR x (rg put s).1) (rg put s).2:=by
  have hb:=bk_suf s
  have k0:=hk (bk s) x hb (bk_bk s) hx
  unfold rg
  cases hl:bk s with
  | nil=>
    rw [hl] at k0
    rw [decide_eq_false (show ¬ ix s []<(s.length:Int) by rw [ix_nil]; omega)]
    refine ⟨k0.1,?_⟩
    show kF (ix s []) x=res (exR x 0) []
    rw [exR_0 hr]; exact k0.2
  | cons c r=>
    rw [hl] at k0 hb
    have ixi:=ix_in hb
    have hrr:=(List.suffix_cons c r).trans hb
    obtain ⟨pp,pf⟩:=past_s hrr
    have k1:=hk (bk r) (exR x c) ((bk_suf r).trans hrr) (bk_bk r) hx
    rw [hres] at k1
    rw [decide_eq_true ixi.2]
    simp only [rd_ix hb,ix_next hb hs,pf,refDigit,valid_eq]
    have no:kF (ix s (c::r)) x=res (exR x 0) (c::r):=by rw [exR_0 hr]; exact k0.2
    by_cases c0:c=0
    · rw [decide_eq_true c0,if_pos (.inl c0)]
      exact ⟨⟨ixi,k0.1⟩,no⟩
    · rw [decide_eq_false c0]
      cases hv:q95_F c
      · rw [if_pos (.inr (.inl rfl))]
        exact ⟨⟨ixi,ixi,k0.1⟩,no⟩
      · cases put
        · cases hg:isDg c
          · rw [if_neg (by simp [c0])]
            exact ⟨⟨ixi,ixi,ixi,ixi,pp,k1.1⟩,k1.2⟩
          · rw [if_pos (by simp)]
            exact ⟨⟨ixi,ixi,ixi,k0.1⟩,no⟩
        · rw [if_neg (by simp [c0])]
          exact ⟨⟨ixi,ixi,ixi,pp,k1.1⟩,k1.2⟩
theorem blg_put (hn:x.2.2.2.1=[112,117]∨x.2.2.2.1=[112,117,33]):q18_P x s∧q18_F x s=toB (enM (.inl (exR x (rg true s).1,(rg true s).2))):=by
  obtain ⟨bp,bf⟩:=past_s (List.suffix_refl s)
  rw [ix_self] at bp bf
  have key:=reg_s s hs x hx hr true (fun i y=>q18_J2_P s i true y exZ) (fun i y=>((q18_J2_F s i true y exZ).2,(q18_J2_F s i true y exZ).1)) (fun y l=>toB (enM (.inl (y,l))))
    (fun l y hl _ _=>⟨(j2t_s hl y exZ).1,by rw [(j2t_s hl y exZ).2]; rfl⟩) (fun y l=>congrArg toB (enM_bk y l))
  unfold q18_P q18_F
  simp only [bf]
  rcases hn with hn | hn
  · rw [show decide (x.2.2.2.1=[112,117])=true by rw [hn]; rfl,show decide (x.2.2.2.1=[106])=false by rw [hn]; rfl,show decide (x.2.2.2.1=[106,33])=false by rw [hn]; rfl]
    exact ⟨⟨bp,key.1⟩,key.2⟩
  · rw [show decide (x.2.2.2.1=[112,117])=false by rw [hn]; rfl,show decide (x.2.2.2.1=[106])=false by rw [hn]; rfl,show decide (x.2.2.2.1=[106,33])=false by rw [hn]; rfl,show decide (x.2.2.2.1=[112,117,33])=true by rw [hn]; rfl]
    exact ⟨⟨bp,key.1⟩,key.2⟩
theorem blg_dy (hn:x.2.2.2.1=[100]∨x.2.2.2.1=[121]):q18_P x s∧q18_F x s=toB (enM (cnX (exR x (rg false s).1) (rg false s).2)):=by
  obtain ⟨bp,bf⟩:=past_s (List.suffix_refl s)
  rw [ix_self] at bp bf
  have key:=reg_s s hs x hx hr false (fun i y=>q18_J2_P s i false y exZ) (fun i y=>((q18_J2_F s i false y exZ).2,(q18_J2_F s i false y exZ).1)) (fun y l=>toB (enM (cnX y l)))
    (fun l y hl hb hy=>⟨(j2f_s hl hs hb y exZ hy).1,by rw [(j2f_s hl hs hb y exZ hy).2]; rfl⟩) (fun y l=>by rw [cnX_bk])
  unfold q18_P q18_F
  simp only [bf]
  rcases hn with hn | hn
  · rw [show decide (x.2.2.2.1=[112,117])=false by rw [hn]; rfl,show decide (x.2.2.2.1=[106])=false by rw [hn]; rfl,show decide (x.2.2.2.1=[106,33])=false by rw [hn]; rfl,show decide (x.2.2.2.1=[112,117,33])=false by rw [hn]; rfl]
    exact ⟨⟨bp,key.1⟩,key.2⟩
  · rw [show decide (x.2.2.2.1=[112,117])=false by rw [hn]; rfl,show decide (x.2.2.2.1=[106])=false by rw [hn]; rfl,show decide (x.2.2.2.1=[106,33])=false by rw [hn]; rfl,show decide (x.2.2.2.1=[112,117,33])=false by rw [hn]; rfl]
    exact ⟨⟨bp,key.1⟩,key.2⟩
theorem blg_j (hn:x.2.2.2.1=[106]∨x.2.2.2.1=[106,33]):q18_P x s∧q18_F x s=toB (enM (cnX x s)):=by
  obtain ⟨bp,bf⟩:=past_s (List.suffix_refl s)
  rw [ix_self] at bp bf
  have jj:=j2f_s (bk_suf s) hs (bk_bk s) x exZ hx
  rw [cnX_bk] at jj
  unfold q18_P q18_F
  simp only [bf]
  rcases hn with hn | hn
  · rw [show decide (x.2.2.2.1=[112,117])=false by rw [hn]; rfl,show decide (x.2.2.2.1=[106])=true by rw [hn]; rfl,show decide (x.2.2.2.1=[112,117,33])=false by rw [hn]; rfl]
    exact ⟨⟨bp,jj.1⟩,congrArg (fun q:Int×ExD=>(q.2,q.1)) jj.2⟩
  · rw [show decide (x.2.2.2.1=[112,117])=false by rw [hn]; rfl,show decide (x.2.2.2.1=[106])=false by rw [hn]; rfl,show decide (x.2.2.2.1=[106,33])=true by rw [hn]; rfl,show decide (x.2.2.2.1=[112,117,33])=false by rw [hn]; rfl]
    exact ⟨⟨bp,jj.1⟩,congrArg (fun q:Int×ExD=>(q.2,q.1)) jj.2⟩
end
end Go.VE
namespace Go.VE
theorem closed_eq (r:LI):q37_F r=if clo r 47<r.length then (clo r 47:Int) else -1:=by
  unfold q37_F q37_L0_F
  split <;> rfl
theorem taken_eq (r:LI):q45_F r=alo r:=by
  unfold q45_F q45_L0_F
  cases alo r <;> rfl
theorem exchange_s (a b:Adr) (w:Bool) (l:LI) (hl:l.length≤lim):q26_P (a,b,w,[115],adr0,0,0,[],[],false) l∧q26_F (a,b,w,[115],adr0,0,0,[],[],false) l=toB (enM (rpM a b w l)):=by
  have hlim:lim=1099511627776:=rfl
  unfold q26_P q26_F rpM
  cases l with
  | nil=>exact ⟨trivial,rfl⟩
  | cons c r=>
    have hn:decide (((c::r).length:Int)=0)=false:=decide_eq_false (by simp only [List.length_cons]; omega)
    have e0:rd (0:Int) (c::r) 0=c:=rfl
    have hd:List.drop (Int.toNat (1:Int)) (c::r)=r:=rfl
    have hr0:(0:Int)≤0∧(0:Int)<((c::r).length:Int):=by simp only [List.length_cons]; omega
    have hr1:(0:Int)≤1∧(1:Int)≤((c::r).length:Int):=by simp only [List.length_cons]; omega
    have hl2:r.length+1≤lim:=hl
    rw [hn,tk_cons]
    simp only [e0,hd,cond_false,closed_eq,taken_eq]
    by_cases c1:c=47
    case neg=>
      rw [decide_eq_false c1,if_neg c1]
      exact ⟨⟨hr0,trivial⟩,rfl⟩
    rw [decide_eq_true c1,if_pos c1]
    have hc:=clo_le r 47
    have cp:q37_P r:=⟨rfl,by omega⟩
    dsimp only
    unfold ptM
    by_cases c2:clo r 47<r.length
    case neg=>
      rw [if_neg c2,if_neg c2,decide_eq_true (show (-1:Int)<0 by decide)]
      refine ⟨⟨hr0,hr1,cp,trivial⟩,?_⟩
      cases alo r <;> rfl
    rw [if_pos c2,if_pos c2,decide_eq_false (show ¬ (clo r 47:Int)<0 by omega)]
    have w1:IntKind.wrap .i64 ((clo r 47:Int)+1)=((clo r 47+1:Nat):Int):=by rw [wrap_i64 (by omega) (by omega)]; omega
    simp only [w1,Int.toNat_natCast,List.nil_append]
    have a1:(0:Int)≤(clo r 47:Int)∧(clo r 47:Int)≤(r.length:Int):=by omega
    have a2:([]:LI).length+(r.take (clo r 47)).length≤lim:=by rw [List.length_take]; simp only [List.length_nil]; omega
    have a3:(0:Int)≤((clo r 47+1:Nat):Int)∧((clo r 47+1:Nat):Int)≤(r.length:Int):=by omega
    have htl:(r.drop (clo r 47+1)).length+1≤r.length:=by rw [List.length_drop]; omega
    generalize r.drop (clo r 47+1)=t at htl ⊢
    have hc2:=clo_le t 47
    have cp2:q37_P t:=⟨rfl,by omega⟩
    by_cases c3:clo t 47<t.length
    case neg=>
      rw [if_neg c3,if_neg c3,decide_eq_true (show (-1:Int)<0 by decide)]
      refine ⟨⟨hr0,hr1,cp,a1,a2,a3,cp2,show ([]:LI).length+t.length≤lim by simp only [List.length_nil]; omega,⟨rfl,by omega⟩⟩,?_⟩
      cases alo t <;> rfl
    rw [if_pos c3,if_pos c3,decide_eq_false (show ¬ (clo t 47:Int)<0 by omega)]
    have w2:IntKind.wrap .i64 ((clo t 47:Int)+1)=((clo t 47+1:Nat):Int):=by rw [wrap_i64 (by omega) (by omega)]; omega
    simp only [w2,Int.toNat_natCast]
    have b1:(0:Int)≤(clo t 47:Int)∧(clo t 47:Int)≤(t.length:Int):=by omega
    have b2:([]:LI).length+(t.take (clo t 47)).length≤lim:=by rw [List.length_take]; simp only [List.length_nil]; omega
    have b3:(0:Int)≤((clo t 47+1:Nat):Int)∧((clo t 47+1:Nat):Int)≤(t.length:Int):=by omega
    generalize t.drop (clo t 47+1)=u
    -- the end
    have j0:∀ (v:LI) (x x4:ExD),q26_J0_P v x x4∧q26_J0_F v x x4=swp (toB (enM (.inl (x,v)))):=by
      intro v x x4
      obtain ⟨pp,pf⟩:=past_s (List.suffix_refl v)
      rw [ix_self] at pp pf
      refine ⟨pp,?_⟩
      unfold q26_J0_F
      simp only [pf,ix_end,enM]
      by_cases c:bk v=[]
      · rw [decide_eq_true c,if_pos c]; rfl
      · rw [decide_eq_false c,if_neg c]; rfl
    cases u with
    | nil=>
      have:=j0 [] (a,b,w,[115],adr0,0,0,r.take (clo r 47),t.take (clo t 47),false) exZ
      exact ⟨⟨hr0,hr1,cp,a1,a2,a3,cp2,b1,b2,b3,this.1⟩,congrArg (fun q:Int×ExD=>(q.2,q.1)) this.2⟩
    | cons d v=>
      have hq:decide ((0:Int)<((d::v).length:Int))=true:=decide_eq_true (by simp only [List.length_cons]; omega)
      have q0:(0:Int)≤0∧(0:Int)<((d::v).length:Int):=by simp only [List.length_cons]; omega
      have q1:(0:Int)≤1∧(1:Int)≤((d::v).length:Int):=by simp only [List.length_cons]; omega
      have e1:rd (0:Int) (d::v) 0=d:=rfl
      have hd1:List.drop (Int.toNat (1:Int)) (d::v)=v:=rfl
      rw [hq,tk_cons]
      simp only [e1,hd1]
      by_cases c4:d=103
      · rw [decide_eq_true c4,if_pos c4]
        have:=j0 v (a,b,w,[115],adr0,0,0,r.take (clo r 47),t.take (clo t 47),true) exZ
        exact ⟨⟨hr0,hr1,cp,a1,a2,a3,cp2,b1,b2,b3,q0,q1,this.1⟩,congrArg (fun q:Int×ExD=>(q.2,q.1)) this.2⟩
      · rw [decide_eq_false c4,if_neg c4]
        have:=j0 (d::v) (a,b,w,[115],adr0,0,0,r.take (clo r 47),t.take (clo t 47),false) exZ
        exact ⟨⟨hr0,hr1,cp,a1,a2,a3,cp2,b1,b2,b3,q0,this.1⟩,congrArg (fun q:Int×ExD=>(q.2,q.1)) this.2⟩
def nmM:LI→LI×Int
  | []=>([],0)
  | c::t=>if c=62∨c=60 then ([c],1+(reps c t:Int))
    else if c=112 then (if (tk 117 t).1=true then (if (tk 33 (tk 117 t).2).1=true then ([112,117,33],3) else ([112,117],2)) else ([],0))
    else if c=99 then (if (tk 111 t).1=true then ([99,111],2) else ([],0))
    else if c=106 then (if (tk 33 t).1=true then ([106,33],2) else ([106],1))
    else if c=100∨c=121∨c=116∨c=109∨c=115 then ([c],1)
    else ([],0)
theorem nmM_cons (c:Int) (t:LI):nmM (c::t)=if c=62∨c=60 then ([c],1+(reps c t:Int))
    else if c=112 then (if (tk 117 t).1=true then (if (tk 33 (tk 117 t).2).1=true then ([112,117,33],3) else ([112,117],2)) else ([],0))
    else if c=99 then (if (tk 111 t).1=true then ([99,111],2) else ([],0))
    else if c=106 then (if (tk 33 t).1=true then ([106,33],2) else ([106],1))
    else if c=100∨c=121∨c=116∨c=109∨c=115 then ([c],1)
    else ([],0):=rfl
def preL (xs t:LI):Prop:=xs.length≤t.length∧t.take xs.length=xs
instance (xs t:LI):Decidable (preL xs t):=by unfold preL; infer_instance
theorem preL_cons (x:Int) (xs:LI) (c:Int) (t:LI):preL (x::xs) (c::t)↔(c=x∧preL xs t):=by
  unfold preL
  simp only [List.length_cons,List.take_succ_cons,List.cons.injEq]
  constructor
  · rintro ⟨h1,h2,h3⟩; exact ⟨h2,by omega,h3⟩
  · rintro ⟨h2,h1,h3⟩; exact ⟨by omega,h2,h3⟩
theorem preL_nil (t:LI):preL [] t:=⟨Nat.zero_le _,rfl⟩
theorem preL_not (x:Int) (xs:LI):¬ preL (x::xs) []:=fun h=>by have:=h.1; simp only [List.length_cons,List.length_nil] at this; omega
theorem preL_one (y:Int) (t:LI):preL [y] t↔(tk y t).1=true:=by
  cases t with
  | nil=>exact ⟨fun h=>absurd h (preL_not _ _),fun h=>by cases h⟩
  | cons c r=>
    rw [preL_cons,tk_cons]
    by_cases h:c=y
    · rw [if_pos h]; exact ⟨fun _=>rfl,fun _=>⟨h,preL_nil _⟩⟩
    · rw [if_neg h]; exact ⟨fun h2=>absurd h2.1 h,fun h2=>by cases h2⟩
theorem preL_two (y z:Int) (t:LI):preL [y,z] t↔((tk y t).1=true∧(tk z (tk y t).2).1=true):=by
  cases t with
  | nil=>exact ⟨fun h=>absurd h (preL_not _ _),fun h=>by cases h.1⟩
  | cons c r=>
    rw [preL_cons,tk_cons]
    by_cases h:c=y
    · rw [if_pos h,preL_one]; exact ⟨fun h2=>⟨rfl,h2.2⟩,fun h2=>⟨h,h2.2⟩⟩
    · rw [if_neg h]; exact ⟨fun h2=>absurd h2.1 h,fun h2=>by cases h2.1⟩
theorem nmd_pre (s x:LI) (l:List (LI)):nmd s (x::l)=if preL x s then some x else nmd s l:=rfl
theorem nmd_names (c:Int) (t:LI) (h:¬ (c=62∨c=60)):(match nmd (c::t) q43_F with | some x=>(x,(x.length:Int)) | none=>(([],0):LI×Int))=nmM (c::t):=by
  unfold q43_F
  rw [nmM_cons,if_neg h]
  simp only [nmd_pre,preL_cons,preL_two,preL_one,preL_nil,and_true]
  by_cases h1:c=112
  · subst h1
    cases h2:(tk 117 t).1 <;> cases h3:(tk 33 (tk 117 t).2).1 <;> simp [nmd]
  by_cases h2:c=99
  · subst h2
    cases h3:(tk 111 t).1 <;> simp [nmd]
  by_cases h3:c=106
  · subst h3
    cases h4:(tk 33 t).1 <;> simp [nmd]
  by_cases h4:c=100
  · subst h4; simp
  by_cases h5:c=121
  · subst h5; simp
  by_cases h6:c=116
  · subst h6; simp
  by_cases h7:c=109
  · subst h7; simp
  by_cases h8:c=115
  · subst h8; simp
  simp [h1,h2,h3,h4,h5,h6,h7,h8,nmd]
theorem named_s (l:LI) (hl:l.length≤lim):q44_P l∧q44_F l=nmM l:=by
  have hlim:lim=1099511627776:=rfl
  cases l with
  | nil=>exact ⟨⟨rfl,by decide⟩,rfl⟩
  | cons c t=>
    have hn:decide ((0:Int)<((c::t).length:Int))=true:=decide_eq_true (by simp only [List.length_cons]; omega)
    have e0:rd (0:Int) (c::t) 0=c:=rfl
    have q0:(0:Int)≤0∧(0:Int)<((c::t).length:Int):=by simp only [List.length_cons]; omega
    have q1:(0:Int)≤1∧(1:Int)≤((c::t).length:Int):=by simp only [List.length_cons]; omega
    have lp:q44_L0_P (c::t) 0:=⟨rfl,by simp,hl⟩
    have lp1:q44_L1_P (c::t) q43_F 0:=⟨rfl,by decide⟩
    have lf:q44_L0_F (c::t) 0=(c::t,1+(reps c t:Int)):=by
      unfold q44_L0_F
      rw [e0,reps_cons,if_pos rfl]
      congr 1; omega
    unfold q44_P q44_F
    rw [hn]
    simp only [e0,lf,cond_true]
    by_cases c1:c=62
    · rw [decide_eq_true c1]
      refine ⟨⟨q0,lp,q1⟩,?_⟩
      rw [nmM_cons,if_pos (.inl c1)]; rfl
    rw [decide_eq_false c1]
    by_cases c2:c=60
    · rw [decide_eq_true c2]
      refine ⟨⟨q0,q0,lp,q1⟩,?_⟩
      rw [nmM_cons,if_pos (.inr c2)]; rfl
    rw [decide_eq_false c2]
    refine ⟨⟨q0,q0,lp1⟩,?_⟩
    rw [← nmd_names c t (by simp [c1,c2])]
    unfold q44_L1_F
    cases nmd (c::t) q43_F <;> rfl
abbrev exNm (a b:Adr) (w:Bool) (name:LI):ExD:=(a,b,w,name,adr0,0,0,[],[],false)
def tlF (rest name:LI) (n:Int) (a b:Adr) (w:Bool):ExD×Int:=
  bif decide (name=[62]) then Sum.elim (fun q=>(q.2,q.1)) (fun q=>((q47_J4_F q.1 q.2.1 q.2.2).2,(q47_J4_F q.1 q.2.1 q.2.2).1)) (q47_J3_F rest name n name (decide (name=[62])) exZ (exNm a b w name))
  else Sum.elim (fun q=>(q.2,q.1)) (fun q=>((q47_J4_F q.1 q.2.1 q.2.2).2,(q47_J4_F q.1 q.2.1 q.2.2).1)) (q47_J3_F rest name n name (decide (name=[60])) exZ (exNm a b w name))
def tlP (rest name:LI) (n:Int) (a b:Adr) (w:Bool):Prop:=
  bif decide (name=[62]) then q47_J3_P rest name n name (decide (name=[62])) exZ (exNm a b w name)∧Sum.elim (fun _=>True) (fun q=>q47_J4_P q.1 q.2.1 q.2.2) (q47_J3_F rest name n name (decide (name=[62])) exZ (exNm a b w name))
  else q47_J3_P rest name n name (decide (name=[60])) exZ (exNm a b w name)∧Sum.elim (fun _=>True) (fun q=>q47_J4_P q.1 q.2.1 q.2.2) (q47_J3_F rest name n name (decide (name=[60])) exZ (exNm a b w name))
theorem pj0_s (v:LI) (x x4:ExD):q47_J0_P v x x4∧q47_J0_F v x x4=swp (toB (enM (.inl (x4,v)))):=by
  obtain ⟨pp,pf⟩:=past_s (List.suffix_refl v)
  rw [ix_self] at pp pf
  refine ⟨pp,?_⟩
  unfold q47_J0_F
  simp only [pf,ix_end,enM]
  by_cases c:bk v=[]
  · rw [decide_eq_true c,if_pos c]; rfl
  · rw [decide_eq_false c,if_neg c]; rfl
def gvX (x:ExD) (l:LI):Rd ExD:=match gvM l with
  | .inl (d,t)=>.inl ((x.1,x.2.1,x.2.2.1,x.2.2.2.1,d,x.2.2.2.2.2.1,x.2.2.2.2.2.2.1,x.2.2.2.2.2.2.2.1,x.2.2.2.2.2.2.2.2.1,x.2.2.2.2.2.2.2.2.2),t)
  | .inr e=>.inr e
theorem pj1_s (v:LI) (hv:v.length≤lim) (x x4:ExD):q47_J1_P v x x4∧q47_J1_F v x x4=swp (toB (enM (gvX x4 v))):=by
  obtain ⟨pp,pf⟩:=past_s (List.suffix_refl v)
  rw [ix_self] at pp pf
  have hb:=bk_suf v
  have hbl:=suf_len hb
  obtain ⟨rp,rf⟩:=ref23_eq (bk v) (by omega)
  have ixl:=ix_le hb
  unfold q47_J1_P q47_J1_F gvX gvM
  simp only [pf,ix_drop hb,rf]
  rcases ha:adM (bk v) with ⟨d,t⟩ | e
  · have ht:=adM_suf _ ha
    obtain ⟨qp,qf⟩:=past_s (ht.trans hb)
    simp only [adR,ix_add hb ht hv,qf,ix_end]
    obtain ⟨d1,d2,d3,d4,d5,g⟩:=d
    cases g
    · exact ⟨⟨pp,ixl,rp,trivial⟩,rfl⟩
    · refine ⟨⟨pp,ixl,rp,qp⟩,?_⟩
      rw [if_pos rfl]
      unfold enM
      dsimp only
      by_cases c:bk t=[]
      · rw [decide_eq_true c,if_pos c]; rfl
      · rw [decide_eq_false c,if_neg c]; rfl
  · have:=adM_err _ ha
    subst this
    exact ⟨⟨pp,ixl,rp,trivial⟩,rfl⟩
theorem swp_swp (p:ExD×Int):((swp p).2,(swp p).1)=p:=rfl
section
variable (rest:LI) (hr:rest.length≤lim) (n:Int) (a b:Adr) (w:Bool)
include hr
theorem tl_sh (c:Int) (hc:c=62∨c=60):tlP rest [c] n a b w∧tlF rest [c] n a b w=toB (enM (.inl ((a,b,w,[c],adr0,0,if 9999<n then 9999 else n,[],[],false),rest))):=by
  have j1:=pj0_s rest exZ (a,b,w,[c],adr0,0,9999,[],[],false)
  have j2:=pj0_s rest exZ (a,b,w,[c],adr0,0,n,[],[],false)
  have key:(bif decide (9999<n) then q47_J0_P rest exZ (a,b,w,[c],adr0,0,9999,[],[],false) else q47_J0_P rest exZ (a,b,w,[c],adr0,0,n,[],[],false))∧Sum.elim (fun _=>True) (fun q:LI×ExD×ExD=>q47_J4_P q.1 q.2.1 q.2.2) (bif decide (9999<n) then (.inl ((q47_J0_F rest exZ (a,b,w,[c],adr0,0,9999,[],[],false)).1,(q47_J0_F rest exZ (a,b,w,[c],adr0,0,9999,[],[],false)).2):(Int×ExD)⊕(LI×ExD×ExD)) else .inl ((q47_J0_F rest exZ (a,b,w,[c],adr0,0,n,[],[],false)).1,(q47_J0_F rest exZ (a,b,w,[c],adr0,0,n,[],[],false)).2)):=by
    by_cases h:9999<n
    · rw [decide_eq_true h]; exact ⟨j1.1,trivial⟩
    · rw [decide_eq_false h]; exact ⟨j2.1,trivial⟩
  have keyF:Sum.elim (fun q:Int×ExD=>(q.2,q.1)) (fun q:LI×ExD×ExD=>((q47_J4_F q.1 q.2.1 q.2.2).2,(q47_J4_F q.1 q.2.1 q.2.2).1)) (bif decide (9999<n) then (.inl ((q47_J0_F rest exZ (a,b,w,[c],adr0,0,9999,[],[],false)).1,(q47_J0_F rest exZ (a,b,w,[c],adr0,0,9999,[],[],false)).2):(Int×ExD)⊕(LI×ExD×ExD)) else .inl ((q47_J0_F rest exZ (a,b,w,[c],adr0,0,n,[],[],false)).1,(q47_J0_F rest exZ (a,b,w,[c],adr0,0,n,[],[],false)).2)) =
      toB (enM (.inl ((a,b,w,[c],adr0,0,if 9999<n then 9999 else n,[],[],false),rest))):=by
    by_cases h:9999<n
    · rw [decide_eq_true h,if_pos h]
      exact congrArg (fun q:Int×ExD=>(q.2,q.1)) j1.2
    · rw [decide_eq_false h,if_neg h]
      exact congrArg (fun q:Int×ExD=>(q.2,q.1)) j2.2
  rcases hc with rfl | rfl
  · exact ⟨key,keyF⟩
  · exact ⟨key,keyF⟩
theorem tl_s:tlP rest [115] n a b w∧tlF rest [115] n a b w=toB (enM (rpM a b w rest)):=by
  obtain ⟨p,f⟩:=exchange_s a b w rest hr
  exact ⟨⟨p,trivial⟩,f⟩
theorem tl_t (c:Int) (hc:c=116∨c=109):tlP rest [c] n a b w∧tlF rest [c] n a b w=toB (enM (gvX (exNm a b w [c]) rest)):=by
  obtain ⟨p,f⟩:=pj1_s rest hr exZ (exNm a b w [c])
  rcases hc with rfl | rfl
  · exact ⟨⟨p,trivial⟩,congrArg (fun q:Int×ExD=>(q.2,q.1)) f⟩
  · exact ⟨⟨p,trivial⟩,congrArg (fun q:Int×ExD=>(q.2,q.1)) f⟩
theorem tl_co:tlP rest [99,111] n a b w∧tlF rest [99,111] n a b w=toB (enM (gvX (exNm a b w [116]) rest)):=by
  obtain ⟨p,f⟩:=pj1_s rest hr exZ (exNm a b w [116])
  exact ⟨⟨p,trivial⟩,congrArg (fun q:Int×ExD=>(q.2,q.1)) f⟩
theorem tl_dy (c:Int) (hc:c=100∨c=121):tlP rest [c] n a b w∧tlF rest [c] n a b w=toB (enM (cnX (exR (exNm a b w [c]) (rg false rest).1) (rg false rest).2)):=by
  rcases hc with rfl | rfl
  · obtain ⟨p,f⟩:=blg_dy rest hr (exNm a b w [100]) rfl rfl (.inl rfl)
    exact ⟨⟨trivial,p⟩,f⟩
  · obtain ⟨p,f⟩:=blg_dy rest hr (exNm a b w [121]) rfl rfl (.inr rfl)
    exact ⟨⟨trivial,p⟩,f⟩
theorem tl_pu (e:Bool):tlP rest (if e=true then [112,117,33] else [112,117]) n a b w∧tlF rest (if e=true then [112,117,33] else [112,117]) n a b w=toB (enM (.inl (exR (exNm a b w (if e=true then [112,117,33] else [112,117])) (rg true rest).1,(rg true rest).2))):=by
  cases e
  · obtain ⟨p,f⟩:=blg_put rest hr (exNm a b w [112,117]) rfl rfl (.inl rfl)
    exact ⟨⟨trivial,p⟩,f⟩
  · obtain ⟨p,f⟩:=blg_put rest hr (exNm a b w [112,117,33]) rfl rfl (.inr rfl)
    exact ⟨⟨trivial,p⟩,f⟩
theorem tl_j (e:Bool):tlP rest (if e=true then [106,33] else [106]) n a b w∧tlF rest (if e=true then [106,33] else [106]) n a b w=toB (enM (cnX (exNm a b w (if e=true then [106,33] else [106])) rest)):=by
  cases e
  · obtain ⟨p,f⟩:=blg_j rest hr (exNm a b w [106]) rfl rfl (.inl rfl)
    exact ⟨⟨trivial,p⟩,f⟩
  · obtain ⟨p,f⟩:=blg_j rest hr (exNm a b w [106,33]) rfl rfl (.inr rfl)
    exact ⟨⟨trivial,p⟩,f⟩
end
end Go.VE
namespace Go.VE
theorem spM_g {l:LI} {g w:Bool} {a b:Adr} {r:LI} (h:spM l=.inl ((g,a,b,w),r)):g=(w || a.2.2.2.2.2):=by
  unfold spM at h
  split at h
  · cases h; rfl
  · split at h
    · cases h
    · rename_i a' r' ha
      split at h
      · split at h
        · cases h
        · cases h
          obtain ⟨a1,a2,a3,a4,a5,g⟩:=a'
          cases g <;> rfl
      · cases h; rfl
theorem refParse_s (s:LI) (hs:s.length≤lim):q47_P s∧q47_F s=toB (parM s):=by
  have hlim:lim=1099511627776:=rfl
  obtain ⟨ap,af⟩:=addressed_s s hs
  unfold parM
  rcases hsp:spM (bk s) with ⟨⟨g,a,b,w⟩,r⟩ | e
  case inr=>
    rw [hsp] at af
    have he:e=230:=by
      unfold spM at hsp
      split at hsp
      · cases hsp
      · split at hsp
        · rename_i e' ha; cases hsp; exact adM_err _ ha
        · split at hsp
          · split at hsp
            · rename_i e' ha; cases hsp; exact adM_err _ ha
            · cases hsp
          · cases hsp
    subst he
    unfold q47_P q47_F
    simp only [af]
    exact ⟨⟨ap,trivial⟩,rfl⟩
  rw [hsp] at af
  have hg:=spM_g hsp
  have hr:=(spM_suf hsp).trans (bk_suf s)
  obtain ⟨pp,pf⟩:=past_s hr
  have hbr:=(bk_suf r).trans hr
  have ixl:=ix_le hbr
  have hbl:=suf_len hbr
  obtain ⟨np,nf⟩:=named_s (bk r) (by omega)
  have hP:∀ name n,nmM (bk r)=(name,n)→(n≠0→(0≤n∧n≤((bk r).length:Int))∧tlP ((bk r).drop n.toNat) name n a b w)→q47_P s:=by
    intro name n hn h
    unfold q47_P
    simp only [af,pf,ix_drop hbr,nf,hn]
    refine ⟨ap,pp,ixl,np,?_⟩
    by_cases h0:n=0
    · rw [decide_eq_true h0]; trivial
    · rw [decide_eq_false h0]; exact h h0
  have hF:∀ name n,nmM (bk r)=(name,n)→n≠0→q47_F s=tlF ((bk r).drop n.toNat) name n a b w:=by
    intro name n hn h0
    unfold q47_F
    simp only [af,pf,ix_drop hbr,nf,hn]
    rw [decide_eq_false h0]
    rfl
  have hF0:∀ name,nmM (bk r)=(name,0)→q47_F s=(bif decide (0<((bk r).length:Int)) then (exZ,240) else bif !w then (bif !a.2.2.2.2.2 then (exZ,240) else (exB a b w,0)) else (exB a b w,0)):=by
    intro name hn
    unfold q47_F
    simp only [af,pf,ix_drop hbr,nf,hn]
    rfl
  clear af ap pf pp np nf
  dsimp only
  generalize bk r=l at hP hF hF0 hbr hbl ⊢
  unfold bhM
  cases l with
  | nil=>
    refine ⟨hP [] 0 rfl (fun h=>absurd rfl h),?_⟩
    rw [hF0 [] rfl,if_pos rfl,hg]
    obtain ⟨a1,a2,a3,a4,a5,ag⟩:=a
    cases w <;> cases ag <;> rfl
  | cons c t=>
    rw [if_neg (by simp)]
    simp only [List.length_cons] at hbl
    have none_:nmM (c::t)=([],0)→cmM a b w (c::t)=.inr 240→q47_P s∧q47_F s=toB (enM (cmM a b w (c::t))):=by
      intro h1 h2
      refine ⟨hP [] 0 h1 (fun h=>absurd rfl h),?_⟩
      rw [hF0 [] h1,h2,decide_eq_true (by simp only [List.length_cons]; omega)]; rfl
    have some_:∀ (name:LI) (k:Nat) (rest:LI),nmM (c::t)=(name,(k:Int))→k≠0→(c::t).drop k=rest→k≤t.length+1→(tlP rest name (k:Int) a b w∧tlF rest name (k:Int) a b w=toB (enM (cmM a b w (c::t))))→q47_P s∧q47_F s=toB (enM (cmM a b w (c::t))):=by
      intro name k rest h1 h2 h3 h4 h5
      refine ⟨hP name k h1 (fun _=>⟨⟨by omega,by simp only [List.length_cons]; omega⟩,by rw [Int.toNat_natCast,h3]; exact h5.1⟩),?_⟩
      rw [hF name k h1 (by omega),Int.toNat_natCast,h3,h5.2]
    have htl:t.length≤lim:=by omega
    by_cases c1:c=62∨c=60
    · have hk:=reps_le c t
      have:=tl_sh (t.drop (reps c t)) (by rw [List.length_drop]; omega) ((1+reps c t:Nat):Int) a b w c c1
      refine some_ [c] (1+reps c t) (t.drop (reps c t)) (by rw [nmM_cons,if_pos c1]; congr 1) (by omega) (by rw [Nat.add_comm]; rfl) (by omega) ⟨this.1,this.2.trans ?_⟩
      have hcm:cmM a b w (c::t)=.inl ((a,b,w,[c],adr0,0,if 9999<1+(reps c t:Int) then 9999 else 1+(reps c t:Int),[],[],false),t.drop (reps c t)):=by
        rw [cmM_cons,if_neg (by rcases c1 with h | h <;> omega),if_neg (by rcases c1 with h | h <;> omega),if_neg (by rcases c1 with h | h <;> omega),if_pos c1]
      rw [hcm,show ((1+reps c t:Nat):Int)=1+(reps c t:Int) by omega]
    by_cases c2:c=112
    · subst c2
      have hcm:cmM a b w (112::t)=(match tk 117 t with
        | (false,_)=>.inr 240
        | (true,r)=>.inl ((a,b,w,if (tk 33 r).1=true then [112,117,33] else [112,117],adr0,(rg true (tk 33 r).2).1,0,[],[],false),(rg true (tk 33 r).2).2)):=rfl
      have hnm:nmM (112::t)=(if (tk 117 t).1=true then (if (tk 33 (tk 117 t).2).1=true then ([112,117,33],3) else ([112,117],2)) else ([],0)):=rfl
      cases t with
      | nil=>exact none_ rfl rfl
      | cons d u=>
        rw [tk_cons] at hnm hcm
        by_cases c3:d=117
        · rw [if_pos c3] at hnm hcm
          simp only [List.length_cons] at htl
          cases u with
          | nil=>
            have:=tl_pu [] (by simp) 2 a b w false
            exact some_ [112,117] 2 [] hnm (by omega) rfl (by simp) ⟨this.1,by rw [hcm]; exact this.2⟩
          | cons f v=>
            rw [tk_cons] at hnm
            dsimp only at hcm
            rw [tk_cons] at hcm
            simp only [List.length_cons] at htl
            by_cases c4:f=33
            · rw [if_pos c4] at hnm hcm
              have:=tl_pu v (by omega) 3 a b w true
              exact some_ [112,117,33] 3 v hnm (by omega) rfl (by simp) ⟨this.1,by rw [hcm]; exact this.2⟩
            · rw [if_neg c4] at hnm hcm
              have:=tl_pu (f::v) (by simp only [List.length_cons]; omega) 2 a b w false
              exact some_ [112,117] 2 (f::v) hnm (by omega) rfl (by simp) ⟨this.1,by rw [hcm]; exact this.2⟩
        · rw [if_neg c3] at hnm hcm
          exact none_ hnm hcm
    by_cases c3:c=99
    · subst c3
      have hcm:cmM a b w (99::t)=(match tk 111 t with
      | (false,_)=>.inr 240
      | (true,r)=>match gvM r with
        | .inl (d,t)=>.inl ((a,b,w,[116],d,0,0,[],[],false),t)
        | .inr e=>.inr e):=rfl
      have hnm:nmM (99::t)=(if (tk 111 t).1=true then ([99,111],2) else ([],0)):=rfl
      cases t with
      | nil=>exact none_ rfl rfl
      | cons d u=>
        rw [tk_cons] at hnm hcm
        by_cases c4:d=111
        · rw [if_pos c4] at hnm hcm
          simp only [List.length_cons] at htl
          have:=tl_co u (by omega) 2 a b w
          refine some_ [99,111] 2 u hnm (by omega) rfl (by simp) ⟨this.1,?_⟩
          rw [hcm]
          refine this.2.trans ?_
          unfold gvX
          dsimp only
          all_goals (rcases gvM u with ⟨d,t⟩ | e <;> rfl)
        · rw [if_neg c4] at hnm hcm
          exact none_ hnm hcm
    by_cases c4:c=106
    · subst c4
      have hcm:cmM a b w (106::t)=(match cnM (tk 33 t).2 with
      | .inl (n,u)=>.inl ((a,b,w,if (tk 33 t).1=true then [106,33] else [106],adr0,0,n,[],[],false),u)
      | .inr e=>.inr e):=rfl
      have hnm:nmM (106::t)=(if (tk 33 t).1=true then ([106,33],2) else ([106],1)):=rfl
      have fin:∀ (e:Bool) (u:LI),toB (enM (cnX (exNm a b w (if e=true then [106,33] else [106])) u))=toB (enM (match cnM u with
      | .inl (n,u)=>.inl ((a,b,w,if e=true then [106,33] else [106],adr0,0,n,[],[],false),u)
      | .inr e=>.inr e)):=fun e u=>by
        unfold cnX
        rcases cnM u with ⟨n,v⟩ | e <;> rfl
      cases t with
      | nil=>
        have:=tl_j [] (by simp) 1 a b w false
        exact some_ [106] 1 [] hnm (by omega) rfl (by simp) ⟨this.1,by rw [hcm]; exact this.2.trans (fin false [])⟩
      | cons d u=>
        rw [tk_cons] at hnm hcm
        simp only [List.length_cons] at htl
        by_cases c5:d=33
        · rw [if_pos c5] at hnm hcm
          have:=tl_j u (by omega) 2 a b w true
          exact some_ [106,33] 2 u hnm (by omega) rfl (by simp) ⟨this.1,by rw [hcm]; exact this.2.trans (fin true u)⟩
        · rw [if_neg c5] at hnm hcm
          have:=tl_j (d::u) (by simp only [List.length_cons]; omega) 1 a b w false
          exact some_ [106] 1 (d::u) hnm (by omega) rfl (by simp) ⟨this.1,by rw [hcm]; exact this.2.trans (fin false (d::u))⟩
    by_cases c5:c=100∨c=121
    · have:=tl_dy t htl 1 a b w c c5
      refine some_ [c] 1 t (by rw [nmM_cons,if_neg c1,if_neg c2,if_neg c3,if_neg c4,if_pos (by rcases c5 with h | h <;> simp [h])]; rfl) (by omega) rfl (by omega) ⟨this.1,this.2.trans ?_⟩
      rw [cmM_cons,if_pos c5]
      unfold cnX
      rcases cnM (rg false t).2 with ⟨n,v⟩ | e <;> rfl
    have d1:=c5
    by_cases c6:c=116∨c=109
    · have:=tl_t t htl 1 a b w c c6
      refine some_ [c] 1 t (by rw [nmM_cons,if_neg c1,if_neg c2,if_neg c3,if_neg c4,if_pos (by rcases c6 with h | h <;> simp [h])]; rfl) (by omega) rfl (by omega) ⟨this.1,this.2.trans ?_⟩
      rw [cmM_cons,if_neg c5,if_neg c2,if_neg c4,if_neg c1,if_neg c3,if_pos c6]
      unfold gvX
      rcases gvM t with ⟨n,v⟩ | e <;> rfl
    by_cases c7:c=115
    · have:=tl_s t htl 1 a b w
      subst c7
      exact some_ [115] 1 t (by rw [nmM_cons,if_neg c1,if_neg c2,if_neg c3,if_neg c4,if_pos (by simp)]; rfl) (by omega) rfl (by omega) ⟨this.1,this.2⟩
    · refine none_ ?_ ?_
      · rw [nmM_cons,if_neg c1,if_neg c2,if_neg c3,if_neg c4,if_neg (by simp at c5 c6; simp [c5,c6,c7])]
      · rw [cmM_cons,if_neg c5,if_neg c2,if_neg c4,if_neg c1,if_neg c3,if_neg c6,if_neg c7]
end Go.VE
namespace Go.VE
set_option maxRecDepth 20000
open Go Go.Proofs
def q70_G:List (Nat×App):=[(67,q83_S),(139,q55_S)]
theorem q70_Gok:GOk Tryz.prog (getG q70_G):=GOk.cons q83_ok (GOk.cons q55_ok (GOk.nil))
theorem q70_st:storesC (bodyOf Tryz.f90)=true:=by kernel_rfl
def q70_d0:List LS:=[.b 1 8 [],.v 34 .bool,.c 8 tyA]
def q70_d0r:List LS:=[.v 2 .bool]
def q70_d0n:List LS:=[]
def q70_dx0:DX:=⟨some q70_d0n,some q70_d0r,[]⟩
def q70_y0r (k:Ex→St→Prop) (x2:Bool):Prop:=wfD q70_d0r (x2,())→k .ret (mkD 52 q70_d0r (x2,()))
def q70_y0n (k:Ex→St→Prop):Prop:=wfD q70_d0n ()→k .nrm (mkD 52 q70_d0n ())
def q70_J0 (kr:Bool→Prop) (kn:Prop) (x34:Bool) (a1b:tAd):Prop:=
 bif x34 then
 (
 q83_P a1b.2.2.2.1∧(
 ∀ (r1:LI),r1=q83_F a1b.2.2.2.1→(
 wfR (.one (.fr 5 yU r1))→(
 bif decide (List.length r1+List.length ([a1b.1]:LI)≤lim) then
 q55_P (r1++([a1b.1]:LI)) a1b.1∧(
 ∀ (r2:Int),r2=q55_F (r1++([a1b.1]:LI)) a1b.1→(
 wI r2→(
 kr (decide (r2=(List.length a1b.2.2.2.1:Int))))))
 else False))))∧(
 q83_P a1b.2.2.2.1∧(
 ∀ (r3:LI),r3=q83_F a1b.2.2.2.1→(
 wfR (.one (.fr 5 yU r3))→(
 bif decide (List.length r3+List.length ([a1b.1]:LI)≤lim) then
 q55_P (r3++([a1b.1]:LI)) a1b.1∧(
 ∀ (r4:Int),r4=q55_F (r3++([a1b.1]:LI)) a1b.1→(
 wI r4→(
 kr (decide (r4=(List.length a1b.2.2.2.1:Int))))))
 else False))))∧True
 else
 kn
def q70_g0 (k:Ex→St→Prop) (v:vals q70_d0):Prop:=q70_J0 (q70_y0r k) (q70_y0n k) v.1 v.2.1
theorem q70_v0 (k:Ex→St→Prop):∀ v:vals q70_d0,ex tb (getG q70_G) [] (at' (bodyOf Tryz.f90) [1,1,1,1,1,0,1,0,1,1]) [1,1,1,1,1,0,1,0,1,1] (mkD 52 q70_d0 v) (wk 52 q70_dx0 k)=q70_g0 k v
  | (x34,a1b,())=>by kernel_rfl
def q70_X0:Pce:=fun st k=>ckD 52 q70_d0 st fun v=>wfD q70_d0 v→q70_g0 k v
theorem q70_x0:SemOk Tryz.prog (at' (bodyOf Tryz.f90) [1,1,1,1,1,0,1,0,1,1]) q70_X0:=
  (SemOk.wk (N:=52) (ds:=q70_d0) (dx:=q70_dx0) (ex_sound tb_M tb_ok q70_Gok (LabsOk.nil) (at' (bodyOf Tryz.f90) [1,1,1,1,1,0,1,0,1,1]) [1,1,1,1,1,0,1,0,1,1] rfl (storesC_at q70_st [1,1,1,1,1,0,1,0,1,1]))).mono fun st k h=>ckD_mono h fun v hv hw=>Eq.mpr (q70_v0 k v) (hv hw)
def q70_B0:Labs:=([1,1,1,1,1,0,1,0,1,1],q70_X0)::[]
theorem q70_b0:LabsOk Tryz.prog (bodyOf Tryz.f90) q70_B0:=LabsOk.cons q70_x0 (LabsOk.nil)
def q70_d1:List LS:=[.b 1 8 [],.v 18 yU,.v 19 .bool,.c 8 tyA]
def q70_d1r:List LS:=[.v 2 .bool]
def q70_d1n:List LS:=[]
def q70_dx1:DX:=⟨some q70_d1n,some q70_d1r,[]⟩
def q70_y1r (k:Ex→St→Prop) (x2:Bool):Prop:=wfD q70_d1r (x2,())→k .ret (mkD 52 q70_d1r (x2,()))
def q70_y1n (k:Ex→St→Prop):Prop:=wfD q70_d1n ()→k .nrm (mkD 52 q70_d1n ())
def q70_J1 (kr:Bool→Prop) (kn:Prop) (x18:Int) (x19:Bool) (a1b:tAd):Prop:=
 bif x19 then
 kr true
 else
 bif (decide (x18=(110:Int))) then
 bif (decide ((0:Int)≤a1b.2.1)) then
 kr (decide (a1b.2.1≤(999999999:Int)))
 else
 kr false
 else
 bif (decide (x18=(47:Int))) then
 (wfD q70_d0 ((decide (x18=(47:Int))),a1b,())→q70_J0 (fun (x2:Bool)=>wfD q70_d0r (x2,())→(
 kr x2)) (wfD q70_d0n ()→(
 kn)) (decide (x18=(47:Int))) a1b)
 else
 (wfD q70_d0 ((decide (x18=(63:Int))),a1b,())→q70_J0 (fun (x2:Bool)=>wfD q70_d0r (x2,())→(
 kr x2)) (wfD q70_d0n ()→(
 kn)) (decide (x18=(63:Int))) a1b)
def q70_g1 (k:Ex→St→Prop) (v:vals q70_d1):Prop:=q70_J1 (q70_y1r k) (q70_y1n k) v.1 v.2.1 v.2.2.1
theorem q70_v1 (k:Ex→St→Prop):∀ v:vals q70_d1,ex tb (getG q70_G) q70_B0 (at' (bodyOf Tryz.f90) [1,0,1,0,1,1]) [1,0,1,0,1,1] (mkD 52 q70_d1 v) (wk 52 q70_dx1 k)=q70_g1 k v
  | (x18,x19,a1b,())=>by kernel_rfl
def q70_X1:Pce:=fun st k=>ckD 52 q70_d1 st fun v=>wfD q70_d1 v→q70_g1 k v
theorem q70_x1:SemOk Tryz.prog (at' (bodyOf Tryz.f90) [1,0,1,0,1,1]) q70_X1:=
  (SemOk.wk (N:=52) (ds:=q70_d1) (dx:=q70_dx1) (ex_sound tb_M tb_ok q70_Gok (q70_b0) (at' (bodyOf Tryz.f90) [1,0,1,0,1,1]) [1,0,1,0,1,1] rfl (storesC_at q70_st [1,0,1,0,1,1]))).mono fun st k h=>ckD_mono h fun v hv hw=>Eq.mpr (q70_v1 k v) (hv hw)
def q70_B1:Labs:=([1,0,1,0,1,1],q70_X1)::q70_B0
theorem q70_b1:LabsOk Tryz.prog (bodyOf Tryz.f90) q70_B1:=LabsOk.cons q70_x1 (q70_b0)
def q70_d2:List LS:=[]
def q70_d2r:List LS:=[.v 2 .bool]
def q70_dx2:DX:=⟨none,some q70_d2r,[]⟩
def q70_y2r (k:Ex→St→Prop) (x2:Bool):Prop:=wfD q70_d2r (x2,())→k .ret (mkD 52 q70_d2r (x2,()))
def q70_J2 (kr:Bool→Prop):Prop:=
 kr false
def q70_g2 (k:Ex→St→Prop) (v:vals q70_d2):Prop:=q70_J2 (q70_y2r k) 
theorem q70_v2 (k:Ex→St→Prop):∀ v:vals q70_d2,ex tb (getG q70_G) q70_B1 (at' (bodyOf Tryz.f90) [1,1,1]) [1,1,1] (mkD 52 q70_d2 v) (wk 52 q70_dx2 k)=q70_g2 k v
  | ()=>by kernel_rfl
def q70_X2:Pce:=fun st k=>ckD 52 q70_d2 st fun v=>wfD q70_d2 v→q70_g2 k v
theorem q70_x2:SemOk Tryz.prog (at' (bodyOf Tryz.f90) [1,1,1]) q70_X2:=
  (SemOk.wk (N:=52) (ds:=q70_d2) (dx:=q70_dx2) (ex_sound tb_M tb_ok q70_Gok (q70_b1) (at' (bodyOf Tryz.f90) [1,1,1]) [1,1,1] rfl (storesC_at q70_st [1,1,1]))).mono fun st k h=>ckD_mono h fun v hv hw=>Eq.mpr (q70_v2 k v) (hv hw)
def q70_B2:Labs:=([1,1,1],q70_X2)::q70_B1
theorem q70_b2:LabsOk Tryz.prog (bodyOf Tryz.f90) q70_B2:=LabsOk.cons q70_x2 (q70_b1)
def q70_raw (a0:tAd) (K:Res→List Cell→Prop):Prop:=
 bif (!a0.2.2.2.2.2) then
 K (.one (.v .bool false)) []
 else
 bif (decide (a0.2.2.2.2.1<(-999999999:Int))) then
 K (.one (.v .bool false)) []
 else
 bif (decide ((999999999:Int)<a0.2.2.2.2.1)) then
 K (.one (.v .bool false)) []
 else
 bif (decide (a0.1=(0:Int))) then
 (wfD q70_d1 (a0.1,(decide (a0.1=(0:Int))),a0,())→q70_J1 (fun (x2:Bool)=>wfD q70_d1r (x2,())→(
 K (.one (.v .bool x2)) [])) (wfD q70_d1n ()→(
 (wfD q70_d2 ()→q70_J2 (fun (x2:Bool)=>wfD q70_d2r (x2,())→(
 K (.one (.v .bool x2)) [])) ))) a0.1 (decide (a0.1=(0:Int))) a0)
 else
 bif (decide (a0.1=(46:Int))) then
 (wfD q70_d1 (a0.1,(decide (a0.1=(46:Int))),a0,())→q70_J1 (fun (x2:Bool)=>wfD q70_d1r (x2,())→(
 K (.one (.v .bool x2)) [])) (wfD q70_d1n ()→(
 (wfD q70_d2 ()→q70_J2 (fun (x2:Bool)=>wfD q70_d2r (x2,())→(
 K (.one (.v .bool x2)) [])) ))) a0.1 (decide (a0.1=(46:Int))) a0)
 else
 bif (decide (a0.1=(36:Int))) then
 (wfD q70_d1 (a0.1,(decide (a0.1=(36:Int))),a0,())→q70_J1 (fun (x2:Bool)=>wfD q70_d1r (x2,())→(
 K (.one (.v .bool x2)) [])) (wfD q70_d1n ()→(
 (wfD q70_d2 ()→q70_J2 (fun (x2:Bool)=>wfD q70_d2r (x2,())→(
 K (.one (.v .bool x2)) [])) ))) a0.1 (decide (a0.1=(36:Int))) a0)
 else
 (wfD q70_d1 (a0.1,(decide (a0.1=(39:Int))),a0,())→q70_J1 (fun (x2:Bool)=>wfD q70_d1r (x2,())→(
 K (.one (.v .bool x2)) [])) (wfD q70_d1n ()→(
 (wfD q70_d2 ()→q70_J2 (fun (x2:Bool)=>wfD q70_d2r (x2,())→(
 K (.one (.v .bool x2)) [])) ))) a0.1 (decide (a0.1=(39:Int))) a0)
def q70_A:List AS:=[.v tyA]

def q70_J0_P (x34:Bool) (a1b:tAd):Prop:=
 bif x34 then
 q83_P a1b.2.2.2.1∧(
 let r1:LI:=q83_F a1b.2.2.2.1
 (List.length r1+List.length ([a1b.1]:LI)≤lim)∧(
 q55_P (r1++([a1b.1]:LI)) a1b.1))
 else
 True
def q70_J0_F (x34:Bool) (a1b:tAd):(Bool)⊕(Unit):=
 bif x34 then
 let r1:LI:=q83_F a1b.2.2.2.1
 let r2:Int:=q55_F (r1++([a1b.1]:LI)) a1b.1
 .inl ((decide (r2=(List.length a1b.2.2.2.1:Int))))
 else
 .inr ()
theorem q70_J0_sp (kr:Bool→Prop) (kn:Prop) (x34:Bool) (a1b:tAd) (hp:q70_J0_P x34 a1b) (hr:∀ q:Bool,q70_J0_F x34 a1b=.inl q→kr q) (hn:∀ q:Unit,q70_J0_F x34 a1b=.inr q→kn):q70_J0 kr kn x34 a1b:=
 have h:=hc2 hr hn; br1 hp h (fun _ hp h=>⟨an1 hp fun hp=>al (as1 hp fun hp=>⟨hp,al (h _ rfl)⟩),
 an1 hp fun hp=>al (as1 hp fun hp=>⟨hp,al (h _ rfl)⟩),trivial⟩)
 fun _ hp h=>h _ rfl
def q70_J1_P (x18:Int) (x19:Bool) (a1b:tAd):Prop:=
 bif x19 then
 True
 else
 bif (decide (x18=(110:Int))) then
 True
 else
 bif (decide (x18=(47:Int))) then
 q70_J0_P (decide (x18=(47:Int))) a1b
 else
 q70_J0_P (decide (x18=(63:Int))) a1b
def q70_J1_F (x18:Int) (x19:Bool) (a1b:tAd):(Bool)⊕(Unit):=
 bif x19 then
 .inl (true)
 else
 bif (decide (x18=(110:Int))) then
 bif (decide ((0:Int)≤a1b.2.1)) then
 .inl ((decide (a1b.2.1≤(999999999:Int))))
 else
 .inl (false)
 else
 bif (decide (x18=(47:Int))) then
 Sum.elim (fun q0r=>
 let x2:Bool:=q0r
 .inl (x2)) (fun q0n=>
 .inr ()) (q70_J0_F (decide (x18=(47:Int))) a1b)
 else
 Sum.elim (fun q0r=>
 let x2:Bool:=q0r
 .inl (x2)) (fun q0n=>
 .inr ()) (q70_J0_F (decide (x18=(63:Int))) a1b)
theorem q70_J1_sp (kr:Bool→Prop) (kn:Prop) (x18:Int) (x19:Bool) (a1b:tAd) (hp:q70_J1_P x18 x19 a1b) (hr:∀ q:Bool,q70_J1_F x18 x19 a1b=.inl q→kr q) (hn:∀ q:Unit,q70_J1_F x18 x19 a1b=.inr q→kn):q70_J1 kr kn x18 x19 a1b:=
 have h:=hc2 hr hn; br1 hp h (fun _ hp h=>h _ rfl)
 fun _ hp h=>br1 hp h (fun _ hp h=>br0 h (fun _ h=>h _ rfl)
 fun _ h=>h _ rfl)
 fun _ hp h=>br1 hp h (fun _ hp h=>fun _=>q70_J0_sp _ _ _ _ hp
 (fun _ e _=>have h:=sl e h; h _ rfl)
 (fun _ e _=>have h:=sr e h; h _ rfl))
 fun _ hp h=>fun _=>q70_J0_sp _ _ _ _ hp
 (fun _ e _=>have h:=sl e h; h _ rfl)
 (fun _ e _=>have h:=sr e h; h _ rfl)
def q70_J2_F:Bool:=
 (false)
theorem q70_J2_sp (kr:Bool→Prop)  (hr:∀ q:Bool,q=q70_J2_F→kr q):q70_J2 kr:=
 have h:=hr; h _ rfl
def q70_P (a0:tAd):Prop:=
 bif (!a0.2.2.2.2.2) then
 True
 else
 bif (decide (a0.2.2.2.2.1<(-999999999:Int))) then
 True
 else
 bif (decide ((999999999:Int)<a0.2.2.2.2.1)) then
 True
 else
 bif (decide (a0.1=(0:Int))) then
 q70_J1_P a0.1 (decide (a0.1=(0:Int))) a0
 else
 bif (decide (a0.1=(46:Int))) then
 q70_J1_P a0.1 (decide (a0.1=(46:Int))) a0
 else
 bif (decide (a0.1=(36:Int))) then
 q70_J1_P a0.1 (decide (a0.1=(36:Int))) a0
 else
 q70_J1_P a0.1 (decide (a0.1=(39:Int))) a0
def q70_F (a0:tAd):Bool:=
 bif (!a0.2.2.2.2.2) then
 false
 else
 bif (decide (a0.2.2.2.2.1<(-999999999:Int))) then
 false
 else
 bif (decide ((999999999:Int)<a0.2.2.2.2.1)) then
 false
 else
 bif (decide (a0.1=(0:Int))) then
 Sum.elim (fun q1r=>
 let x2:Bool:=q1r
 x2) (fun q1n=>
 let q2r:Bool:=q70_J2_F 
 let x2:Bool:=q2r
 x2) (q70_J1_F a0.1 (decide (a0.1=(0:Int))) a0)
 else
 bif (decide (a0.1=(46:Int))) then
 Sum.elim (fun q1r=>
 let x2:Bool:=q1r
 x2) (fun q1n=>
 let q2r:Bool:=q70_J2_F 
 let x2:Bool:=q2r
 x2) (q70_J1_F a0.1 (decide (a0.1=(46:Int))) a0)
 else
 bif (decide (a0.1=(36:Int))) then
 Sum.elim (fun q1r=>
 let x2:Bool:=q1r
 x2) (fun q1n=>
 let q2r:Bool:=q70_J2_F 
 let x2:Bool:=q2r
 x2) (q70_J1_F a0.1 (decide (a0.1=(36:Int))) a0)
 else
 Sum.elim (fun q1r=>
 let x2:Bool:=q1r
 x2) (fun q1n=>
 let q2r:Bool:=q70_J2_F 
 let x2:Bool:=q2r
 x2) (q70_J1_F a0.1 (decide (a0.1=(39:Int))) a0)
theorem q70_sp (a0:tAd) (K:Res→List Cell→Prop) (_:wfA q70_A (a0,())) (hp:q70_P a0) (h:∀ r:Bool,r=q70_F a0→K (.one (.v .bool r)) []):q70_raw a0 K:=
 br1 hp h (fun _ hp h=>h _ rfl)
 fun _ hp h=>br1 hp h (fun _ hp h=>h _ rfl)
 fun _ hp h=>br1 hp h (fun _ hp h=>h _ rfl)
 fun _ hp h=>br1 hp h (fun _ hp h=>fun _=>q70_J1_sp _ _ _ _ _ hp
 (fun _ e _=>have h:=sl e h; h _ rfl)
 (fun _ e _=>have h:=sr e h; fun _=>q70_J2_sp _  (al (h _ rfl))))
 fun _ hp h=>br1 hp h (fun _ hp h=>fun _=>q70_J1_sp _ _ _ _ _ hp
 (fun _ e _=>have h:=sl e h; h _ rfl)
 (fun _ e _=>have h:=sr e h; fun _=>q70_J2_sp _  (al (h _ rfl))))
 fun _ hp h=>br1 hp h (fun _ hp h=>fun _=>q70_J1_sp _ _ _ _ _ hp
 (fun _ e _=>have h:=sl e h; h _ rfl)
 (fun _ e _=>have h:=sr e h; fun _=>q70_J2_sp _  (al (h _ rfl))))
 fun _ hp h=>fun _=>q70_J1_sp _ _ _ _ _ hp
 (fun _ e _=>have h:=sl e h; h _ rfl)
 (fun _ e _=>have h:=sr e h; fun _=>q70_J2_sp _  (al (h _ rfl)))
def q70_C (v:valsA q70_A) (K:Res→List Cell→Prop):Prop:=q70_P v.1∧∀ r:Bool,r=q70_F v.1→K (.one (.v .bool r)) []
def q70_S:App:=specW q70_A q70_C
theorem q70_wv (K:Res→List Cell→Prop):∀ v:valsA q70_A,runF tb (getG q70_G) q70_B2 Tryz.f90 [true] (mkA q70_A v) K=q70_raw v.1 K
  | (a0,())=>by kernel_rfl
theorem q70_ok:AppOk Tryz.prog 90 q70_S:=
  AppOk.specW (spec_ok ((runF_ok tb_M tb_ok q70_Gok (q70_b2) (f:=90) (fn:=Tryz.f90) (by kernel_rfl) (by kernel_rfl) q70_st [true])) fun v K hw h=>(q70_wv K v).mpr (q70_sp v.1 K hw h.1 h.2))

def q11_G:List (Nat×App):=[]
theorem q11_Gok:GOk Tryz.prog (getG q11_G):=GOk.nil
def q11_raw (i0:Int) (K:Res→List Cell→Prop):Prop:=
 bif (decide (i0<(10:Int))) then
 bif decide (0≤i0∧i0≤(IntKind.wrap .i64 (i0+(1:Int)))∧(IntKind.wrap .i64 (i0+(1:Int)))≤(List.length ([48,49,50,51,52,53,54,55,56,57,97,98,99,100,101,102,103,104,105,106,107,108,109,110,111,112,113,114,115,116,117,118,119,120,121,122]:LI):Int)) then
 K (.one (.v .str (slc ([48,49,50,51,52,53,54,55,56,57,97,98,99,100,101,102,103,104,105,106,107,108,109,110,111,112,113,114,115,116,117,118,119,120,121,122]:LI) i0 (IntKind.wrap .i64 (i0+(1:Int)))))) []
 else False
 else
 bif decide (0≤(IntKind.wrap .i64 (i0 * (2:Int)))∧(IntKind.wrap .i64 (i0 * (2:Int)))≤(IntKind.wrap .i64 ((IntKind.wrap .i64 (i0 * (2:Int)))+(2:Int)))∧(IntKind.wrap .i64 ((IntKind.wrap .i64 (i0 * (2:Int)))+(2:Int)))≤(List.length ([48,48,48,49,48,50,48,51,48,52,48,53,48,54,48,55,48,56,48,57,49,48,49,49,49,50,49,51,49,52,49,53,49,54,49,55,49,56,49,57,50,48,50,49,50,50,50,51,50,52,50,53,50,54,50,55,50,56,50,57,51,48,51,49,51,50,51,51,51,52,51,53,51,54,51,55,51,56,51,57,52,48,52,49,52,50,52,51,52,52,52,53,52,54,52,55,52,56,52,57,53,48,53,49,53,50,53,51,53,52,53,53,53,54,53,55,53,56,53,57,54,48,54,49,54,50,54,51,54,52,54,53,54,54,54,55,54,56,54,57,55,48,55,49,55,50,55,51,55,52,55,53,55,54,55,55,55,56,55,57,56,48,56,49,56,50,56,51,56,52,56,53,56,54,56,55,56,56,56,57,57,48,57,49,57,50,57,51,57,52,57,53,57,54,57,55,57,56,57,57]:LI):Int)) then
 K (.one (.v .str (slc ([48,48,48,49,48,50,48,51,48,52,48,53,48,54,48,55,48,56,48,57,49,48,49,49,49,50,49,51,49,52,49,53,49,54,49,55,49,56,49,57,50,48,50,49,50,50,50,51,50,52,50,53,50,54,50,55,50,56,50,57,51,48,51,49,51,50,51,51,51,52,51,53,51,54,51,55,51,56,51,57,52,48,52,49,52,50,52,51,52,52,52,53,52,54,52,55,52,56,52,57,53,48,53,49,53,50,53,51,53,52,53,53,53,54,53,55,53,56,53,57,54,48,54,49,54,50,54,51,54,52,54,53,54,54,54,55,54,56,54,57,55,48,55,49,55,50,55,51,55,52,55,53,55,54,55,55,55,56,55,57,56,48,56,49,56,50,56,51,56,52,56,53,56,54,56,55,56,56,56,57,57,48,57,49,57,50,57,51,57,52,57,53,57,54,57,55,57,56,57,57]:LI) (IntKind.wrap .i64 (i0 * (2:Int))) (IntKind.wrap .i64 ((IntKind.wrap .i64 (i0 * (2:Int)))+(2:Int)))))) []
 else False
def q11_A:List AS:=[.v yI]

def q11_P (i0:Int):Prop:=
 bif (decide (i0<(10:Int))) then
 (0≤i0∧i0≤(IntKind.wrap .i64 (i0+(1:Int)))∧(IntKind.wrap .i64 (i0+(1:Int)))≤(List.length ([48,49,50,51,52,53,54,55,56,57,97,98,99,100,101,102,103,104,105,106,107,108,109,110,111,112,113,114,115,116,117,118,119,120,121,122]:LI):Int))
 else
 (0≤(IntKind.wrap .i64 (i0 * (2:Int)))∧(IntKind.wrap .i64 (i0 * (2:Int)))≤(IntKind.wrap .i64 ((IntKind.wrap .i64 (i0 * (2:Int)))+(2:Int)))∧(IntKind.wrap .i64 ((IntKind.wrap .i64 (i0 * (2:Int)))+(2:Int)))≤(List.length ([48,48,48,49,48,50,48,51,48,52,48,53,48,54,48,55,48,56,48,57,49,48,49,49,49,50,49,51,49,52,49,53,49,54,49,55,49,56,49,57,50,48,50,49,50,50,50,51,50,52,50,53,50,54,50,55,50,56,50,57,51,48,51,49,51,50,51,51,51,52,51,53,51,54,51,55,51,56,51,57,52,48,52,49,52,50,52,51,52,52,52,53,52,54,52,55,52,56,52,57,53,48,53,49,53,50,53,51,53,52,53,53,53,54,53,55,53,56,53,57,54,48,54,49,54,50,54,51,54,52,54,53,54,54,54,55,54,56,54,57,55,48,55,49,55,50,55,51,55,52,55,53,55,54,55,55,55,56,55,57,56,48,56,49,56,50,56,51,56,52,56,53,56,54,56,55,56,56,56,57,57,48,57,49,57,50,57,51,57,52,57,53,57,54,57,55,57,56,57,57]:LI):Int))
def q11_F (i0:Int):LI:=
 bif (decide (i0<(10:Int))) then
 (slc ([48,49,50,51,52,53,54,55,56,57,97,98,99,100,101,102,103,104,105,106,107,108,109,110,111,112,113,114,115,116,117,118,119,120,121,122]:LI) i0 (IntKind.wrap .i64 (i0+(1:Int))))
 else
 (slc ([48,48,48,49,48,50,48,51,48,52,48,53,48,54,48,55,48,56,48,57,49,48,49,49,49,50,49,51,49,52,49,53,49,54,49,55,49,56,49,57,50,48,50,49,50,50,50,51,50,52,50,53,50,54,50,55,50,56,50,57,51,48,51,49,51,50,51,51,51,52,51,53,51,54,51,55,51,56,51,57,52,48,52,49,52,50,52,51,52,52,52,53,52,54,52,55,52,56,52,57,53,48,53,49,53,50,53,51,53,52,53,53,53,54,53,55,53,56,53,57,54,48,54,49,54,50,54,51,54,52,54,53,54,54,54,55,54,56,54,57,55,48,55,49,55,50,55,51,55,52,55,53,55,54,55,55,55,56,55,57,56,48,56,49,56,50,56,51,56,52,56,53,56,54,56,55,56,56,56,57,57,48,57,49,57,50,57,51,57,52,57,53,57,54,57,55,57,56,57,57]:LI) (IntKind.wrap .i64 (i0 * (2:Int))) (IntKind.wrap .i64 ((IntKind.wrap .i64 (i0 * (2:Int)))+(2:Int))))
theorem q11_sp (i0:Int) (K:Res→List Cell→Prop) (_:wfA q11_A (i0,())) (hp:q11_P i0) (h:∀ r:LI,r=q11_F i0→K (.one (.v .str r)) []):q11_raw i0 K:=
 br1 hp h (fun _ hp h=>as0 hp (h _ rfl))
 fun _ hp h=>as0 hp (h _ rfl)
def q11_C (v:valsA q11_A) (K:Res→List Cell→Prop):Prop:=q11_P v.1∧∀ r:LI,r=q11_F v.1→K (.one (.v .str r)) []
def q11_S:App:=specW q11_A q11_C
theorem q11_wv (K:Res→List Cell→Prop):∀ v:valsA q11_A,runF tb (getG q11_G) [] Tryz.f226 [true] (mkA q11_A v) K=q11_raw v.1 K
  | (i0,())=>by kernel_rfl
theorem q11_ok:AppOk Tryz.prog 226 q11_S:=
  AppOk.specW (spec_ok ((runF_ok tb_M tb_ok q11_Gok (LabsOk.nil) (f:=226) (fn:=Tryz.f226) (by kernel_rfl) (by kernel_rfl) (by kernel_rfl) [true])) fun v K hw h=>(q11_wv K v).mpr (q11_sp v.1 K hw h.1 h.2))

end Go.VE
namespace Go.VE
open Go Go.Proofs
def q4_A:List AS:=[]
def q4_S:App:=specW q4_A fun _ _=>False
theorem q4_ok:AppOk Tryz.prog 227 q4_S:=AppOk.never
def q1_A:List AS:=[]
def q1_S:App:=specW q1_A fun _ _=>False
theorem q1_ok:AppOk Tryz.prog 229 q1_S:=AppOk.never
end Go.VE
namespace Go.VE
set_option maxRecDepth 20000
open Go Go.Proofs
def q0_G:List (Nat×App):=[(226,q11_S),(227,q4_S),(229,q1_S)]
theorem q0_Gok:GOk Tryz.prog (getG q0_G):=GOk.cons q11_ok (GOk.cons q4_ok (GOk.cons q1_ok (GOk.nil)))
def q0_raw (dst0:LI) (i1:Int) (base2:Int) (K:Res→List Cell→Prop):Prop:=
 bif (decide (base2=(10:Int))) then
 bif (decide (i1<(100:Int))) then
 q11_P (IntKind.wrap .i64 i1)∧(
 ∀ (r1:LI),r1=q11_F (IntKind.wrap .i64 i1)→(
 wfR (.one (.v .str r1))→(
 bif decide (List.length dst0+List.length r1≤lim) then
 K (.one (.fr 5 yU (dst0++r1))) []
 else False)))
 else
 False
 else
 False
def q0_A:List AS:=[.o 5 yU,.v (.int .u64),.v yI]

def q0_P (dst0:LI) (i1:Int) (base2:Int):Prop:=
 bif (decide (base2=(10:Int))) then
 bif (decide (i1<(100:Int))) then
 q11_P (IntKind.wrap .i64 i1)∧(
 let r1:LI:=q11_F (IntKind.wrap .i64 i1)
 (List.length dst0+List.length r1≤lim))
 else
 False
 else
 False
def q0_F (dst0:LI) (i1:Int) (base2:Int):LI:=
 bif (decide (base2=(10:Int))) then
 bif (decide (i1<(100:Int))) then
 let r1:LI:=q11_F (IntKind.wrap .i64 i1)
 (dst0++r1)
 else
 default
 else
 default
theorem q0_sp (dst0:LI) (i1:Int) (base2:Int) (K:Res→List Cell→Prop) (_:wfA q0_A (dst0,i1,base2,())) (hp:q0_P dst0 i1 base2) (h:∀ r:LI,r=q0_F dst0 i1 base2→K (.one (.fr 5 yU r)) []):q0_raw dst0 i1 base2 K:=
 br1 hp h (fun _ hp h=>br1 hp h (fun _ hp h=>an1 hp fun hp=>al (as0 hp (h _ rfl)))
 fun _ hp h=>hp.elim)
 fun _ hp h=>hp.elim
def q0_C (v:valsA q0_A) (K:Res→List Cell→Prop):Prop:=q0_P v.1 v.2.1 v.2.2.1∧∀ r:LI,r=q0_F v.1 v.2.1 v.2.2.1→K (.one (.fr 5 yU r)) []
def q0_S:App:=specW q0_A q0_C
theorem q0_wv (K:Res→List Cell→Prop):∀ v:valsA q0_A,runF tb (getG q0_G) [] Tryz.f195 [true] (mkA q0_A v) K=q0_raw v.1 v.2.1 v.2.2.1 K
  | (dst0,i1,base2,())=>by kernel_rfl
theorem q0_ok:AppOk Tryz.prog 195 q0_S:=
  AppOk.specW (spec_ok ((runF_ok tb_M tb_ok q0_Gok (LabsOk.nil) (f:=195) (fn:=Tryz.f195) (by kernel_rfl) (by kernel_rfl) (by kernel_rfl) [true])) fun v K hw h=>(q0_wv K v).mpr (q0_sp v.1 v.2.1 v.2.2.1 K hw h.1 h.2))
end Go.VE
