import Derived.Test.YtogkdhgjefiipaaGreatDoorEB13
import Derived.WalkSmall
import Derived.Recover
import Derived.OrdersHeld
set_option linter.unusedVariables false
set_option linter.unusedSectionVars false
set_option linter.unusedSimpArgs false
namespace Go.VE
open Go Go.Proofs
set_option maxRecDepth 100000 in
theorem parse_idle (p q:Addr) (w:World) :
    CallsD Tryz.prog 38 #[.pointer (some p),.pointer (some q)] .returning w fun e u' w'=>e=.returned (.tuple #[])∧u'=.returning∧w'=w:=by
  refine callsD_of_wpS (c:=(Tryz.f38.body.getD .skip)) Tryz.func38 rfl fun c₀ cs hu=>?_
  show (Code.seq (Code.region 0 _ false) _).wpS _ _ _ _ _
  refine wpS_seq (wpS_region ?_)
  simp [wpOpsS,List.range,List.range.loop,Region.wanted,execOp,go_sem,recoverD,hu,Tryz.ntmps38,Exit.thenS,Oper.upon,Act.eval,Act.put]
  show (Code.seq (Code.region 1 _ false) _).wpS _ _ _ _ _
  refine wpS_seq (wpS_region ?_)
  simp [wpOpsS,List.range,List.range.loop,Region.wanted,execOp,go_sem,recoverD,hu,Tryz.ntmps38,Exit.thenS,Oper.upon,Act.eval,Act.put]
  refine wpS_cond (t:=false) (by simp [Act.eval,Array.replicate]) ?_
  simp only [Bool.false_eq_true,if_false]
  refine wpS_of_wp (wp_skip ?_)
  cases c₀
  simp_all [bodyPostS,results,Tryz.results38]
theorem gs_ne {a:Array Value} {i j:Nat} {v d:Value} (h:i≠j):(a.setIfInBounds i v).getD j d=a.getD j d:=by
  simp [Array.getD_eq_getD_getElem?,Array.getElem?_setIfInBounds,h]
theorem gs_eq {a:Array Value} {i:Nat} {v d:Value} (h:i<a.size):(a.setIfInBounds i v).getD i d=v:=by
  simp [Array.getD_eq_getD_getElem?,Array.getElem?_setIfInBounds,h]
abbrev adrT:Ty:=.st (.pair yU (.pair yI (.pair yU (.pair yB (.pair yI .bool)))))
abbrev exT:Ty:=.st (.pair adrT (.pair adrT (.pair .bool (.pair .str (.pair adrT (.pair yU (.pair yI (.pair yB (.pair yB .bool)))))))))
theorem bd27 (w:World):(Instr.build 27 #[]).run Tryz.prog w=.ok (zeroV exT) w:=by kernel_rfl
theorem store_whole {P:Program} {tb:Tab} {t:Nat} {ti:TI} (hs:TySem P tb t ti) {I:Nat→Prop} {w:World} {x:ti.ty.den} {v:Value} (hr:RepV I w ti.ty x v) {b:Nat} {cs:Array Value} {e:Nat} {fr:Nat×Nat}
    (hh:w.heap[b]?=some (.cells cs e fr)) (hn:NoFr fr cs.size) (hsz:cs.size=ti.ty.cells):(Instr.storeAt t (.pointer (some ⟨b,0,none⟩)) v).run P w=.ok () (w.setRow b v.cells):=by
  have hyl:v.cells.toList.length=ti.ty.cells:=hr.list.len
  have hst:=run_storeCells_fr (P:=P) b 0 e fr v.cells.toList 0 cs w hh (by omega) hr.list.oneCell hn
  have hl:cs.toList.drop (0+0+v.cells.toList.length)=[]:=List.drop_eq_nil_of_le (by simp only [Array.length_toList] at hyl ⊢; omega)
  rw [hl] at hst
  simp only [Nat.add_zero,List.take_zero,List.nil_append,List.append_nil,Array.toArray_toList] at hst
  have hz:v.cells.size=ti.ty.cells:=by rw [← Array.length_toList,hyl]
  simp [Instr.storeAt,Instr.sureAddr,storeVar,sizeOf_run hs,hz,hst]

set_option maxRecDepth 100000 in
theorem parse_r5 {bx be r:Nat} {n:Int} {tm:Array Value} (hs:tm.size=19) (h0:tm.getD 0 undef=.pointer (some ⟨bx,0,none⟩)) (h1:tm.getD 1 undef=.pointer (some ⟨be,0,none⟩)) (h3:tm.getD 3 undef=.pointer (some ⟨r,0,none⟩))
    {w:World} (hr:w.heap[r]?=some (.cells #[.int .i64 n] 85 (0,0))) {cx ce:Array Value} {fx fe:Nat×Nat} (hx:w.heap[bx]?=some (.cells cx 27 fx)) (hnx:NoFr fx cx.size) (hzx:cx.size=exT.cells)
    (he:w.heap[be]?=some (.cells ce 30 fe)) (hne:NoFr fe ce.size) (hze:ce.size=1) (hrx:r≠bx) (hre:r≠be) (hxe:bx≠be) (hin:inR .i64 n) :
    (at' (bodyOf Tryz.f38) [1,1,0,1,1]).wp Tryz.prog (fun e a w'=>e=.normal∧a.defers=[]∧w'=((w.drew.setRow bx (zeroV exT).cells).setRow be #[.int .i64 n])) ⟨tm,[]⟩ w:=by
  show (Code.region 5 _ true).wp _ _ _ _
  refine wp_region_held (S:=fun w'=>w'.heap[r]?=some (.cells #[.int .i64 n] 85 (0,0))) tb_M ?_
  refine wpAnyH_take (i:=0) (v:=zeroV exT) rfl (by kernel_rfl) (by kernel_rfl) (by kernel_rfl) (fun c a w h=>by cases h.1) ?_ hr ?_
  · refine .inl ⟨by simp [Region.wanted],fun w' _=>?_⟩
    simp [execOp,bd27]
  refine wpAnyH_take (i:=1) (v:=.pointer (some ⟨r,0,none⟩)) rfl (by kernel_rfl) (by kernel_rfl) (by kernel_rfl) (fun c a w h=>by cases h.1) ?_ hr ?_
  · refine .inl ⟨by simp [Region.wanted],fun w' _=>?_⟩
    have e3:(tm.setIfInBounds 16 (zeroV exT)).getD 3 undef=.pointer (some ⟨r,0,none⟩):=by rw [gs_ne (by omega),h3]
    have hfa:(Instr.fieldAt 85 (.pointer (some ⟨r,0,none⟩)) 0).run Tryz.prog w'=.ok (.pointer (some ⟨r,0,none⟩)) w':=by kernel_rfl
    simp [execOp,Act.eval,Act.put,e3,hfa]
  refine wpAnyH_take (i:=2) (v:=.int .i64 n) rfl (by kernel_rfl) (by kernel_rfl) (by kernel_rfl) (fun c a w h=>by cases h.1) ?_ hr ?_
  · refine .inl ⟨by simp [Region.wanted],fun w' hw'=>?_⟩
    have e17:((tm.setIfInBounds 16 (zeroV exT)).setIfInBounds 17 (.pointer (some ⟨r,0,none⟩))).getD 17 undef=.pointer (some ⟨r,0,none⟩):=gs_eq (by simp [hs])
    have hl:∃ v,(loadVar 30 ⟨r,0,none⟩).run Tryz.prog w'=.ok v w'∧RepV (fun _=>False) w' yI n v:=
      load_run (tb:=tb) tb_ok (t:=30) (ti:=⟨.int .i64,0,[],8⟩) rfl ⟨[.int .i64 n],⟨hin,rfl⟩,fun j u hj=>by
        match j with
        | 0=>simp at hj; subst hj; simp [World.cell?,show w'.heap[r]?=_ from hw']
        | j+1=>simp at hj⟩
    obtain ⟨v,hv1,hv2⟩:=hl
    obtain ⟨_,rfl⟩:=RepV.int_eq hv2
    simp [execOp,Act.eval,Act.put,e17,Instr.loadAt,Instr.sureAddr,hv1]
  refine wpAnyH_all (rs:=[3]) (by kernel_rfl) (by simp) (fun i hi=>?_)
  obtain rfl:i=3:=by simpa using hi
  have f0:(((tm.setIfInBounds 16 (zeroV exT)).setIfInBounds 17 (.pointer (some ⟨r,0,none⟩))).setIfInBounds 18 (.int .i64 n)).getD 0 undef=.pointer (some ⟨bx,0,none⟩):=by rw [gs_ne (by omega),gs_ne (by omega),gs_ne (by omega),h0]
  have f16:(((tm.setIfInBounds 16 (zeroV exT)).setIfInBounds 17 (.pointer (some ⟨r,0,none⟩))).setIfInBounds 18 (.int .i64 n)).getD 16 undef=zeroV exT:=by rw [gs_ne (by omega),gs_ne (by omega),gs_eq (by omega)]
  have f1:(((tm.setIfInBounds 16 (zeroV exT)).setIfInBounds 17 (.pointer (some ⟨r,0,none⟩))).setIfInBounds 18 (.int .i64 n)).getD 1 undef=.pointer (some ⟨be,0,none⟩):=by rw [gs_ne (by omega),gs_ne (by omega),gs_ne (by omega),h1]
  have f18:(((tm.setIfInBounds 16 (zeroV exT)).setIfInBounds 17 (.pointer (some ⟨r,0,none⟩))).setIfInBounds 18 (.int .i64 n)).getD 18 undef=.int .i64 n:=gs_eq (by simp [hs])
  have s3:=store_whole (P:=Tryz.prog) (tb:=tb) (w:=w.drew) ty_27 (I:=fun _=>False) (RepV.zero _ _ exT) (b:=bx) hx hnx hzx
  have s4:=store_whole (P:=Tryz.prog) (tb:=tb) (w:=w.drew.setRow bx (zeroV exT).cells) ty_30 (I:=fun _=>False) (x:=n) (v:=.int .i64 n) (RepV.of_one rfl ⟨hin,rfl⟩) (b:=be) (cs:=ce) (e:=30) (fr:=fe)
    ((setRow_other _ bx be _ (Ne.symm hxe)).trans he) hne hze
  simp only [wpOp]
  simp [Region.wanted,Oper.wp,execOp,Act.eval,Act.put,f0,f16,s3,Oper.upon]
  refine .inl ⟨(setRow_other _ bx r _ hrx).trans hr,?_⟩
  refine wpAnyH_all (rs:=[4]) (by kernel_rfl) (by simp) (fun i hi=>?_)
  obtain rfl:i=4:=by simpa using hi
  simp only [wpOp]
  simp [Region.wanted,Oper.wp,execOp,Act.eval,Act.put,f1,f18,s4,Oper.upon]
  refine .inl ⟨(setRow_other _ be r _ hre).trans ((setRow_other _ bx r _ hrx).trans hr),?_⟩
  exact wpAnyH_done (by kernel_rfl) ⟨rfl,rfl,rfl⟩ _
theorem z85 (w:World):(zeroValue 85).run Tryz.prog w=.ok (.agg #[.int .i64 0]) w:=by kernel_rfl
theorem ta85 (v:Value) (w:World):(Instr.typeAssert (.iface 85 v) 20 85 true).run Tryz.prog w=.ok (.tuple #[v,.bool true]) w:=by kernel_rfl
def caught (w:World) (bx be:Nat) (n:Int):World:=((w.alloc (.cells #[.int .i64 n] 85)).drew.setRow bx (zeroV exT).cells).setRow be #[.int .i64 n]
set_option maxRecDepth 100000 in
theorem parse_catch {bx be:Nat} {n:Int} {w:World} {cx ce:Array Value} {fx fe:Nat×Nat} (hx:w.heap[bx]?=some (.cells cx 27 fx)) (hnx:NoFr fx cx.size) (hzx:cx.size=exT.cells)
    (he:w.heap[be]?=some (.cells ce 30 fe)) (hne:NoFr fe ce.size) (hze:ce.size=1) (hxe:bx≠be) (hin:inR .i64 n) :
    CallsD Tryz.prog 38 #[.pointer (some ⟨bx,0,none⟩),.pointer (some ⟨be,0,none⟩)] (.panicking [{ v:=Glob.pan n,recovered:=false }]) w fun e u' w'=>
      e=.returned (.tuple #[])∧u'=.panicking [{ v:=Glob.pan n,recovered:=true }]∧w'=caught w bx be n:=by
  have hlx:bx<w.heap.size:=by
    rcases Nat.lt_or_ge bx w.heap.size with h | h
    · exact h
    · rw [Array.getElem?_eq_none h] at hx; cases hx
  have hle:be<w.heap.size:=by
    rcases Nat.lt_or_ge be w.heap.size with h | h
    · exact h
    · rw [Array.getElem?_eq_none h] at he; cases he
  refine callsD_of_wpS (c:=(Tryz.f38.body.getD .skip)) Tryz.func38 rfl fun c₀ cs hu=>?_
  show (Code.seq (Code.region 0 _ false) _).wpS _ _ _ _ _
  refine wpS_seq (wpS_region ?_)
  simp [wpOpsS,List.range,List.range.loop,Region.wanted,execOp,go_sem,recoverD,hu,Tryz.ntmps38,Exit.thenS,Oper.upon,Act.eval,Act.put]
  show (Code.seq (Code.region 1 _ false) _).wpS _ _ _ _ _
  refine wpS_seq (wpS_region ?_)
  simp [wpOpsS,List.range,List.range.loop,Region.wanted,execOp,go_sem,hu,Tryz.ntmps38,Exit.thenS,Oper.upon,Act.eval,Act.put,Glob.pan]
  refine wpS_cond (t:=true) (by simp [Act.eval,Array.replicate]) ?_
  simp only [if_true]
  show (Code.seq (Code.region 2 _ false) _).wpS _ _ _ _ _
  refine wpS_seq (wpS_region ?_)
  simp [wpOpsS,List.range,List.range.loop,Region.wanted,execOp,go_sem,hu,Tryz.ntmps38,Exit.thenS,Oper.upon,Act.eval,Act.put,z85,ta85,Instr.alloc]
  show (Code.seq (Code.seq (Code.region 3 _ false) _) _).wpS _ _ _ _ _
  refine wpS_seq (wpS_seq (wpS_region ?_))
  simp [wpOpsS,List.range,List.range.loop,Region.wanted,execOp,go_sem,hu,Tryz.ntmps38,Exit.thenS,Oper.upon,Act.eval,Act.put]
  refine wpS_cond (t:=false) (by simp [Act.eval,Array.replicate]) ?_
  simp only [Bool.false_eq_true,if_false]
  refine wpS_of_wp (wp_skip ?_)
  simp only [Exit.thenS]
  refine wpS_of_wp (wp_mono (parse_r5 (r:=w.heap.size) (by simp) (by simp) (by simp) (by simp) (heap_alloc_new w _) ((heap_alloc_old w _ hlx).trans hx) hnx hzx ((heap_alloc_old w _ hle).trans he) hne hze (by omega) (by omega) hxe hin) ?_)
  rintro e a w' ⟨rfl,hd,rfl⟩
  simp [bodyPostS,results,Tryz.results38,hd]
  rfl
abbrev exZ:ExD:=((0,0,0,[],0,false),(0,0,0,[],0,false),false,[],(0,0,0,[],0,false),0,0,[],[],false)
def q63_P (s:LI):Prop:=q59_P s exZ 0∧∀ n,q59_F s exZ 0=.inr n→inR .i64 n
def q63_F (s:LI):ExD×Int:=match q59_F s exZ 0 with
  | .inl r=>(r.1,r.2.1)
  | .inr n=>(exZ,n)
def q63_A:List AS:=[.v yB]
def q63_C (v:valsA q63_A) (K:Res→List Cell→Prop):Prop:=q63_P v.1∧∀ r:ExD×Int,r=q63_F v.1→K (.tup [.v exT r.1,.v yI r.2]) []
def q63_S:App:=specW q63_A q63_C

theorem getL_allno:∀ {l:List Slot},(∀ x∈l,x=.no)→∀ i,getL l i=.no
  | [],_,0=>rfl
  | [],_,_+1=>rfl
  | x::l,h,0=>h x List.mem_cons_self
  | x::l,h,i+1=>getL_allno (l:=l) (fun y hy=>h y (List.mem_cons_of_mem _ hy)) i
theorem Since.deep {w w2 w':World} {F F':Nat→Prop} (h:Since w2 w' F) (h1:w2.os=w.os) (h2:w2.tape=w.tape) (h3:w2.output=w.output) (hs:w.heap.size≤w2.heap.size)
    (ho:∀ k,k<w.heap.size→w2.heap[k]?=w.heap[k]?) (hF:∀ k,F k→w.heap.size≤k):Since w w' F':=by
  have hb:∀ k,k<w.heap.size→w'.heap[k]?=w.heap[k]?:=fun k hk=>(h.block k (by omega) fun hf=>by have:=hF k hf; omega).trans (ho k hk)
  exact ⟨h.os.trans h1,h.tape.trans h2,h.output.trans h3,by have:=h.size; omega,fun k hk _=>hb k hk,shp_old hb⟩

theorem parse_results {I:Nat→Prop} {tm:Array Value} {w:World} {bx be:Nat} {x:ExD} {n:Int} (h2:tm.getD 2 undef=.pointer (some ⟨bx,0,none⟩)) (h3:tm.getD 3 undef=.pointer (some ⟨be,0,none⟩))
    (hx:Lies I w bx 0 exT x) (he:Lies I w be 0 yI n):∃ v1 v2,(results Tryz.f13 tm).run Tryz.prog w=.ok (.tuple #[v1,v2]) w∧RepV I w exT x v1∧RepV I w yI n v2:=by
  obtain ⟨v1,e1,r1⟩:=load_run (w:=w) (tb:=tb) tb_ok (t:=27) (ti:=⟨exT,0,[],288⟩) rfl hx
  obtain ⟨v2,e2,r2⟩:=load_run (w:=w) (tb:=tb) tb_ok (t:=30) (ti:=⟨.int .i64,0,[],8⟩) rfl he
  refine ⟨v1,v2,?_,r1,r2⟩
  rw [results_eq]
  rw [show Tryz.f13.results=#[.cell 2 27,.cell 3 30] from rfl]
  simp [resSem,h2,h3,asAddr,e1,e2]

set_option maxRecDepth 100000 in
theorem q63_spec (s:LI) {Ok:Res→List Cell→Prop} (hP:q63_P s) (hw:wfA q63_A (s,())) (hK:Ok (.tup [.v exT (q63_F s).1,.v yI (q63_F s).2]) []) :
    CallSpec Tryz.prog 13 (mkA q63_A (s,())) Ok:=by
  intro I w vs bs hI hg ha
  have hlen:=ha.length
  obtain ⟨v,rfl⟩:∃ a,vs=[a]:=by
    match vs,hlen with
    | [a],_=>exact ⟨a,rfl⟩
  obtain ⟨hv,hbs⟩:=ha
  obtain rfl:bs=[]:=by
    cases bs with
    | nil=>rfl
    | cons b bs=>exact hbs.elim
  have hin0:inR .i64 0:=by unfold inR; decide
  let w1:=w.alloc (.cells (zeroV exT).cells 27)
  let w2:=w1.alloc (.cells #[.int .i64 0] 30)
  have hs1:w1.heap.size=w.heap.size+1:=by simp [w1]
  have hs2:w2.heap.size=w.heap.size+2:=by simp [w2,hs1]
  have hold:∀ k,k<w.heap.size→w2.heap[k]?=w.heap[k]?:=fun k hk=>(heap_alloc_old w1 _ (by omega)).trans (heap_alloc_old w _ hk)
  have hbx:w2.heap[w.heap.size]?=some (.cells (zeroV exT).cells 27):=(heap_alloc_old w1 _ (by omega)).trans (heap_alloc_new w _)
  have hbe:w2.heap[w.heap.size+1]?=some (.cells #[.int .i64 0] 30):=by rw [← hs1]; exact heap_alloc_new w1 _
  have ho1:w2.os=w.os:=rfl
  have ho2:w2.tape=w.tape:=rfl
  have ho3:w2.output=w.output:=rfl
  have hkeep:Keeps I I w w2:=⟨fun _ h=>h,fun b hb=>hold b (hI b hb)⟩
  have ha2:ArgsRel I w2 (mkA q59_A (s,exZ,0,())) [v,.pointer (some ⟨w.heap.size,0,none⟩),.pointer (some ⟨w.heap.size+1,0,none⟩)] [w.heap.size,w.heap.size+1]:=by
    refine ⟨hv.keep hkeep,rfl,fun h=>by have:=hI _ h; omega,by omega,by simp,⟨_,27,hbx,(RepV.zero _ _ exT).list⟩,rfl,fun h=>by have:=hI _ h; omega,by omega,by simp,⟨_,30,hbe,⟨hin0,rfl⟩⟩,trivial⟩
  have hrest:∀ (tm:Array Value) (ds:List Deferred) (Q:Exit→Act→World→Prop),tm.size=27→tm.getD 0 undef=v→tm.getD 2 undef=.pointer (some ⟨w.heap.size,0,none⟩)→tm.getD 3 undef=.pointer (some ⟨w.heap.size+1,0,none⟩)→
      (∀ e tm' w',e=.normal∨e=.ret→∀ v',(results Tryz.f13 tm').run Tryz.prog w'=.ok v' w'→Behind I w [] [] Ok v' w'→Q e ⟨tm',ds⟩ w')→
      (∀ n tm' w',q59_F s exZ 0=.inr n→Since w2 w' (fun b=>b∈[w.heap.size,w.heap.size+1])→tm'.getD 2 undef=.pointer (some ⟨w.heap.size,0,none⟩)→tm'.getD 3 undef=.pointer (some ⟨w.heap.size+1,0,none⟩)→
        Q (.panic [{ v:=Glob.pan n,recovered:=false }]) ⟨tm',ds⟩ w')→(at' (bodyOf Tryz.f13) [1,1]).wp Tryz.prog Q ⟨tm,ds⟩ w2:=by
    intro tm ds Q hs h0 h2 h3 hQ hPn
    refine runR_ok (tb:=tb) (fn:=Tryz.f13) (ws:=[true,true]) (ps:=[(2,15),(3,23)])
      (ts:=[.v yB s,.no,.box 15 [],.box 23 [],.no,.no,.no,.no,.no,.no,.no,.no,.no,.no,.no,.no,.no,.no,.no,.no,.no,.no,.no,.no,.no,.no,.no])
      (args:=mkA q59_A (s,exZ,0,()))
      (K:=fun r _=>(∃ q,q59_F s exZ 0=.inl q∧r=.tup [.v exT q.1,.v yI q.2.1])∨∃ n,q59_F s exZ 0=.inr n∧r=.pan n)
      tb_ok (ex_sound tb_M tb_ok q59_Gok LabsOk.nil (at' (bodyOf Tryz.f13) [1,1]) [1,1] rfl (by kernel_rfl)) ?_ (I:=I) (w:=w2) (fun b hb=>by have:=hI b hb; omega) (Glob.keep hkeep hg) ha2 hs ?_ ?_ ?_
    · exact (q59_walk s exZ 0 _).mpr (q59_sp s exZ 0 _ (ArgsRel.wf _ _ ha2) hP.1 (fun r hr=>.inl ⟨r,hr,rfl⟩) (fun n hn=>.inr ⟨n,hn,rfl⟩))
    · intro i
      match i with
      | 0=>exact .inr ⟨0,rfl,h0⟩
      | 1=>exact .inl rfl
      | 2=>exact .inr ⟨1,rfl,h2⟩
      | 3=>exact .inr ⟨2,rfl,h3⟩
      | i+4=>exact .inl (getL_allno (l:=[.no,.no,.no,.no,.no,.no,.no,.no,.no,.no,.no,.no,.no,.no,.no,.no,.no,.no,.no,.no,.no,.no,.no]) (by simp) i)
    · intro e tm' w' he v' hr hb
      refine hQ e tm' w' he v' hr ?_
      obtain ⟨res,outs,J,fb,hk,hsn,hJ,hfb,hres,houts⟩:=hb
      have hnw:∀ b,Nw w2 [w.heap.size,w.heap.size+1] (refsOf (mkA q59_A (s,exZ,0,())) [w.heap.size,w.heap.size+1]) b→Nw w [] [] b:=fun b hb=>.inl (by
        rcases hb with h | ⟨h,_⟩
        · omega
        · simp at h; omega)
      refine ⟨res,[],J,fb,?_,hsn.deep rfl rfl rfl (by omega) hold (fun k hk=>by simp at hk; omega),fun b hb=>⟨hnw b (hJ b hb).1,(hJ b hb).2⟩,fun i b hb=>⟨hnw b (hfb i b hb).1,(hfb i b hb).2⟩,hres,trivial⟩
      rcases hk with ⟨q,hq,rfl⟩ | ⟨n,_,rfl⟩
      · have hF:q63_F s=(q.1,q.2.1):=by unfold q63_F; rw [hq]
        rw [hF] at hK; exact hK
      · exact hres.elim
    · intro n tm' w' hk hsn hpin
      rcases hk with ⟨q,_,h⟩ | ⟨n',hn,h⟩
      · cases h
      · injection h with h; subst h
        exact hPn n tm' w' hn hsn (hpin 2 15 _ (by simp) rfl) (hpin 3 23 _ (by simp) rfl)
  refine calls_of_wp_defers (c:=(Tryz.f13.body.getD .skip)) Tryz.func13 rfl ?_
  show (Code.seq (Code.region 0 _ false) (Code.seq (Code.region 1 _ false) (at' (bodyOf Tryz.f13) [1,1]))).wp _ _ _ _
  generalize at' (bodyOf Tryz.f13) [1,1]=REST at hrest ⊢
  have z27:(zeroValue 27).run Tryz.prog w=.ok (zeroV exT) w:=zero_run ty_27 w
  have z30:(zeroValue 30).run Tryz.prog w1=.ok (.int .i64 0) w1:=zero_run ty_30 w1
  refine wp_seq (wp_region ?_)
  simp [wpOps,List.range,List.range.loop,Oper.wp,Region.wanted,execOp,go_sem,Oper.upon,Act.eval,Act.put,Tryz.ntmps13,Instr.alloc,Exit.then]
  refine .inl (.inl ?_)
  show (Code.seq (Code.region 1 _ false) REST).wp _ _ _ w2
  clear_value w2 w1
  refine wp_seq (wp_region ?_)
  have mk:∀ (w:World) (a b:Value),(Instr.makeFunc (.func 38) #[] #[a,b]).run Tryz.prog w=.ok (.func (.func 38) #[] #[a,b]) w:=fun _ _ _=>rfl
  simp [wpOps,List.range,List.range.loop,Oper.wp,Region.wanted,execOp,go_sem,Oper.upon,Act.eval,Act.put,Exit.then,mk]
  try refine .inl (.inl ?_)
  refine hrest _ _ _ ?_ ?_ ?_ ?_ ?_ ?_
  · simp
  · simp
  · simp
  · simp
  · intro e tm' w' he v' hr hb
    have hl:Leaves Tryz.prog Tryz.f13 tm' (fun e w'=>Ends I w [] (refsOf (mkA q63_A (s,())) []) Ok e w') [{ target:=.fn (.func 38) #[.pointer (some ⟨w.heap.size,0,none⟩),.pointer (some ⟨w.heap.size+1,0,none⟩)],args:=#[] }] .returning w':=by
      refine leaves_cons (f:=38) (args:=#[.pointer (some ⟨w.heap.size,0,none⟩),.pointer (some ⟨w.heap.size+1,0,none⟩)]) (by simp) (by simp [go_sem]) ((parse_idle _ _ w').mono ?_)
      rintro e u' w'' ⟨rfl,rfl,rfl⟩
      exact ⟨v',hr,.inl ⟨v',rfl,hb⟩⟩
    rcases he with rfl | rfl
    · exact hl
    · exact hl
  · intro n tm' w' hn hsn h2 h3
    obtain ⟨cx,fx,gx,zx,nx⟩:=hsn.shape w.heap.size _ 27 _ hbx rfl (.inl rfl)
    obtain ⟨ce,fe,ge,ze,ne⟩:=hsn.shape (w.heap.size+1) _ 30 _ hbe rfl (.inl rfl)
    have hin:=hP.2 n hn
    show Leaves Tryz.prog Tryz.f13 tm' (fun e w'=>Ends I w [] (refsOf (mkA q63_A (s,())) []) Ok e w') [{ target:=.fn (.func 38) #[.pointer (some ⟨w.heap.size,0,none⟩),.pointer (some ⟨w.heap.size+1,0,none⟩)],args:=#[] }] (.panicking [{ v:=Glob.pan n,recovered:=false }]) w'
    refine leaves_cons (f:=38) (args:=#[.pointer (some ⟨w.heap.size,0,none⟩),.pointer (some ⟨w.heap.size+1,0,none⟩)]) (by simp) (by simp [go_sem])
      ((parse_catch gx nx (zx.trans rfl) ge ne (ze.trans rfl) (by omega) hin).mono ?_)
    rintro e u' w'' ⟨rfl,rfl,rfl⟩
    show Leaves Tryz.prog Tryz.f13 tm' (fun e w'=>Ends I w [] (refsOf (mkA q63_A (s,())) []) Ok e w') [] .returning (caught w' w.heap.size (w.heap.size+1) n)
    have hsz:=hsn.size
    have q1:((w'.alloc (.cells #[.int .i64 n] 85)).drew).heap[w.heap.size]?=some (.cells cx 27 fx):=(heap_alloc_old w' _ (by omega)).trans gx
    have q2:(((w'.alloc (.cells #[.int .i64 n] 85)).drew).setRow w.heap.size (zeroV exT).cells).heap[w.heap.size+1]?=some (.cells ce 30 fe):=(setRow_other _ _ _ _ (by omega)).trans ((heap_alloc_old w' _ (by omega)).trans ge)
    have c1:(caught w' w.heap.size (w.heap.size+1) n).heap[w.heap.size]?=some (.cells (zeroV exT).cells 27 fx):=(setRow_other _ _ _ _ (by omega)).trans (setRow_heap _ _ _ _ _ _ q1)
    have c2:(caught w' w.heap.size (w.heap.size+1) n).heap[w.heap.size+1]?=some (.cells #[.int .i64 n] 30 fe):=setRow_heap _ _ _ _ _ _ q2
    have hcold:∀ k,k<w.heap.size→(caught w' w.heap.size (w.heap.size+1) n).heap[k]?=w.heap[k]?:=fun k hk=>
      (setRow_other _ _ _ _ (by omega)).trans ((setRow_other _ _ _ _ (by omega)).trans ((heap_alloc_old w' _ (by omega)).trans ((hsn.block k (by omega) (by simp; omega)).trans (hold k hk))))
    obtain ⟨v1,v2,hres,r1,r2⟩:=parse_results (I:=orP I fun _=>False) (w:=caught w' w.heap.size (w.heap.size+1) n) (x:=exZ) (n:=n) h2 h3
      ⟨_,(RepV.zero _ _ exT).list,fun j u hj=>by rw [Nat.zero_add]; simp only [World.cell?,c1]; rw [Array.getElem?_toList] at hj; exact hj⟩
      ⟨_,⟨hin,rfl⟩,fun j u hj=>by rw [Nat.zero_add]; simp only [World.cell?,c2]; simpa using hj⟩
    refine ⟨_,hres,.inl ⟨_,rfl,_,[],fun _=>False,[none,none],hK,?_,fun b hb=>hb.elim,fun i b hb=>?_,?_,trivial⟩⟩
    · exact ⟨hsn.os.trans ho1,hsn.tape.trans ho2,hsn.output.trans ho3,by
          show w.heap.size≤(caught w' w.heap.size (w.heap.size+1) n).heap.size
          have:(caught w' w.heap.size (w.heap.size+1) n).heap.size=w'.heap.size+1:=by simp [caught]
          omega,fun k hk _=>hcold k hk,shp_old hcold⟩
    · match i with
      | 0=>cases hb
      | 1=>cases hb
      | i+2=>cases hb
    · have hF:q63_F s=(exZ,n):=by unfold q63_F; rw [hn]
      rw [hF]
      refine ⟨_,rfl,rfl,rfl,fun i x u b hx hu hb=>?_⟩
      match i with
      | 0=>cases hx; cases hu; cases hb; exact ⟨rfl,r1⟩
      | 1=>cases hx; cases hu; cases hb; exact ⟨rfl,r2⟩
      | i+2=>cases hx
theorem q63_ok:AppOk Tryz.prog 13 q63_S:=by
  refine AppOk.specW fun ags K hs=>?_
  obtain ⟨v,rfl,hP,hK⟩:=rdA_of _ ags _ hs
  obtain ⟨s,⟨⟩⟩:=v
  exact Meets.when (p:=wfA q63_A (s,())) (fun I w vs bs ha=>ArgsRel.wf _ _ ha) fun hw=>.inl ⟨enters_of Tryz.func13 (by kernel_rfl),q63_spec s hP hw (hK _ rfl)⟩

end Go.VE
namespace Go.VE
def bk (l:LI):LI:=l.drop (bls l)
def tk (b:Int):LI→Bool×LI
  | []=>(false,[])
  | c::r=>if c=b then (true,r) else (false,c::r)
def rg (dg:Bool) (l:LI):Int×LI:=match bk l with
  | []=>(0,[])
  | c::r=>if c=0∨q83_F c=false∨(isDg c=true∧dg=false) then (0,c::r) else (c,r)
def cnM (l:LI):Rd Int:=if isDg ((bk l).headD 0)=true then (if cnt 0 (bk l)=0 then .inr 240 else .inl (cnt 0 (bk l),(bk l).drop (dgs (bk l)))) else .inl (0,bk l)
def ptM (l:LI):Rd (LI×Bool):=if clo l 47<l.length then .inl ((l.take (clo l 47),true),l.drop (clo l 47+1)) else if alo l=true then .inr 240 else .inl ((l,false),[])
def gvM (l:LI):Rd Adr:=match adM (bk l) with
  | .inr e=>.inr e
  | .inl (a,r)=>if a.2.2.2.2.2=true then .inl (a,r) else .inr 240

def pos (s l:LI):LI×Int:=(s,(s.length:Int) - l.length)
def toS {α:Type} (s:LI):Rd α→(α×(LI×Int))⊕Int
  | .inl (a,r)=>.inl (a,pos s r)
  | .inr e=>.inr e
theorem bk_suf (l:LI):bk l <:+ l:=List.drop_suffix _ _
theorem bk_len (l:LI):(bk l).length=l.length - bls l:=List.length_drop
section
variable {s l:LI}
theorem pos_nat (h:l <:+ s):pos s l=(s,((s.length - l.length:Nat):Int)):=by
  have:=suf_len h
  unfold pos
  rw [show ((s.length:Int) - l.length)=((s.length - l.length:Nat):Int) by omega]
theorem pos_drop (h:l <:+ s):(pos s l).1.drop (pos s l).2.toNat=l:=by
  rw [pos_nat h]; exact drop_suf h
theorem blanks_s (h:l <:+ s):q18_P (pos s l)∧q18_F (pos s l)=pos s (bk l):=by
  have h1:=suf_len h
  have h2:=bls_le l
  refine ⟨⟨show 0≤(s.length:Int) - l.length by omega,show (s.length:Int) - l.length≤s.length by omega⟩,?_⟩
  unfold q18_F
  rw [pos_drop h]
  show (s,(s.length:Int) - l.length+(bls l:Int))=(s,(s.length:Int) - (bk l).length)
  rw [bk_len]
  congr 1
  omega
theorem ended_s (h:l <:+ s):q20_F (pos s l)=decide (l=[]):=by
  have h1:=suf_len h
  show decide ((s.length:Int)≤(s.length:Int) - l.length)=_
  cases l with
  | nil=>simp
  | cons c r=>rw [decide_eq_false (by simp only [List.length_cons]; omega),decide_eq_false (by simp)]
theorem next_s (h:l <:+ s):q25_P (pos s l)∧q25_F (pos s l)=l.headD 0:=by
  have h1:=suf_len h
  have:=exNext s (s.length - l.length) (by omega)
  rw [drop_suf h] at this
  rw [pos_nat h]; exact this
theorem takes_s (h:l <:+ s) (hs:s.length≤lim) (b:Int):q21_P (pos s l) b∧q21_F (pos s l) b=((tk b l).1,pos s (tk b l).2):=by
  have h1:=suf_len h
  have:=exTakes s (s.length - l.length) b (by omega) hs
  rw [drop_suf h] at this
  refine ⟨by rw [pos_nat h]; exact this.1,?_⟩
  rw [pos_nat h,this.2]
  cases l with
  | nil=>exact (congrArg (Prod.mk false) (pos_nat h)).symm
  | cons c r=>
    simp only [List.length_cons] at h1
    unfold tk
    dsimp only
    split
    · show (true,_)=(true,pos s r)
      unfold pos
      rw [List.length_cons,show ((s.length - (r.length+1)+1:Nat):Int)=(s.length:Int) - r.length by omega]
    · exact (congrArg (Prod.mk false) (pos_nat h)).symm
theorem tk_cons (b c:Int) (r:LI):tk b (c::r)=if c=b then (true,r) else (false,c::r):=rfl
theorem tk_suf (b:Int) (l:LI):(tk b l).2 <:+ l:=by
  cases l with
  | nil=>exact List.suffix_refl _
  | cons c r=>
    rw [tk_cons]
    split
    · exact List.suffix_cons _ _
    · exact List.suffix_refl _
theorem end_s (h:l <:+ s):q33_P (pos s l)∧q33_F (pos s l)=if bk l=[] then .inl (pos s []) else .inr 240:=by
  obtain ⟨hp,hf⟩:=blanks_s h
  refine ⟨hp,?_⟩
  unfold q33_F
  rw [hf]
  dsimp only
  rw [ended_s ((bk_suf l).trans h)]
  by_cases c:bk l=[]
  · rw [c]; rfl
  · rw [if_neg c,decide_eq_false c]; rfl
theorem address_s (h:l <:+ s) (hs:s.length≤lim):q15_P (pos s l)∧q15_F (pos s l)=toS s (adM l):=by
  have h1:=suf_len h
  have hlim:lim=1099511627776:=rfl
  obtain ⟨hp,hf⟩:=address_eq l (by omega)
  have hd:=pos_drop h
  refine ⟨⟨⟨show 0≤(s.length:Int) - l.length by omega,show (s.length:Int) - l.length≤s.length by omega⟩,by rw [hd]; exact hp⟩,?_⟩
  unfold q15_F
  rw [hd,hf]
  cases ha:adM l with
  | inr e=>
    have:=adM_err _ ha
    subst this; rfl
  | inl p=>
    obtain ⟨a,r⟩:=p
    have h2:=suf_len (adM_suf l ha)
    show Sum.inl (a,(s,IntKind.wrap .i64 ((s.length:Int) - l.length+((l.length:Int) - r.length))))=Sum.inl (a,(s,(s.length:Int) - r.length))
    rw [wrap_i64 (by omega) (by omega),show (s.length:Int) - l.length+((l.length:Int) - r.length)=(s.length:Int) - r.length by omega]
theorem digit_s (b:Int):q62_F b=isDg b:=exDigit b
theorem register_s (h:l <:+ s) (hs:s.length≤lim) (dg:Bool):q10_P (pos s l) dg∧q10_F (pos s l) dg=((rg dg l).1,pos s (rg dg l).2):=by
  have hlim:lim=1099511627776:=rfl
  obtain ⟨hp,hf⟩:=blanks_s h
  have hb:=(bk_suf l).trans h
  have h1:=suf_len hb
  obtain ⟨np,nf⟩:=next_s hb
  unfold q10_P q10_F rg
  simp only [hf,nf,digit_s]
  refine ⟨⟨hp,np⟩,?_⟩
  cases hbk:bk l with
  | nil=>rfl
  | cons c r=>
    rw [hbk] at h1
    simp only [List.length_cons] at h1
    have hw:(((pos s (c::r)).1,IntKind.wrap .i64 ((pos s (c::r)).2+1)):LI×Int)=pos s r:=by
      show (s,IntKind.wrap .i64 ((s.length:Int) - (c::r).length+1))=(s,(s.length:Int) - r.length)
      rw [List.length_cons,wrap_i64 (by omega) (by omega),show (s.length:Int) - ((r.length+1:Nat):Int)+1=(s.length:Int) - r.length by omega]
    rw [show (c::r).headD 0=c from rfl]
    dsimp only
    rw [hw]
    by_cases c0:c=0
    · rw [decide_eq_true c0,if_pos (.inl c0)]; rfl
    · rw [decide_eq_false c0]
      cases hv:q83_F c
      · rw [if_pos (.inr (.inl rfl))]; rfl
      · cases hg:isDg c
        · rw [if_neg (by simp [c0])]; rfl
        · cases dg
          · rw [if_pos (by simp)]; rfl
          · rw [if_neg (by simp [c0])]; rfl
theorem rg_suf (dg:Bool) (l:LI):(rg dg l).2 <:+ l:=by
  have h:=bk_suf l
  unfold rg
  split
  · exact List.nil_suffix
  · rename_i c r hb
    rw [hb] at h
    split
    · exact h
    · exact (List.suffix_cons _ _).trans h
theorem count_s (h:l <:+ s) (hs:s.length≤lim):q22_P (pos s l)∧q22_F (pos s l)=toS s (cnM l):=by
  have hlim:lim=1099511627776:=rfl
  obtain ⟨hp,hf⟩:=blanks_s h
  have hb:=(bk_suf l).trans h
  have h1:=suf_len hb
  obtain ⟨np,nf⟩:=next_s hb
  have hd:=pos_drop hb
  have hdl:=dgs_le (bk l)
  unfold q22_P q22_F cnM
  simp only [hf,nf,digit_s]
  refine ⟨⟨hp,np,?_⟩,?_⟩
  · refine brb (fun _=>trivial) (fun _=>⟨by omega,by omega,show 0≤(s.length:Int) - (bk l).length by omega,show (s.length:Int) - (bk l).length≤s.length by omega,hs⟩)
  · cases hg:isDg ((bk l).headD 0)
    · rfl
    · rw [if_pos rfl]
      unfold q22_L0_F
      dsimp only
      rw [hd]
      by_cases c0:cnt 0 (bk l)=0
      · rw [decide_eq_true c0,if_pos c0]; rfl
      · rw [decide_eq_false c0,if_neg c0]
        show Sum.inl (_,(s,(s.length:Int) - (bk l).length+(dgs (bk l):Int)))=Sum.inl (_,(s,(s.length:Int) - ((bk l).drop (dgs (bk l))).length))
        rw [List.length_drop,show (s.length:Int) - (bk l).length+(dgs (bk l):Int)=(s.length:Int) - (((bk l).length - dgs (bk l):Nat):Int) by omega]
theorem cnM_suf {l:LI} {n:Int} {r:LI} (h:cnM l=.inl (n,r)):r <:+ l:=by
  unfold cnM at h
  split at h
  · split at h
    · cases h
    · cases h; exact (List.drop_suffix _ _).trans (bk_suf l)
  · cases h; exact bk_suf l
end
end Go.VE
namespace Go.VE
abbrev exB (a b:Adr) (w:Bool):ExD:=(a,b,w,[],adr0,0,0,[],[],false)
def rpM (a b:Adr) (w:Bool) (l:LI):Rd ExD:=match tk 47 l with
  | (false,_)=>.inr 240
  | (true,r)=>match ptM r with
    | .inr e=>.inr e
    | .inl ((_,false),_)=>.inr 240
    | .inl ((old,true),t)=>match ptM t with
      | .inr e=>.inr e
      | .inl ((new,true),u)=>.inl ((a,b,w,[115],adr0,0,0,old,new,(tk 103 u).1),(tk 103 u).2)
      | .inl ((new,false),u)=>.inl ((a,b,w,[115],adr0,0,0,old,new,false),u)
def cmM (a b:Adr) (w:Bool):LI→Rd ExD
  | []=>.inr 240
  | c::r=>
    if c=100∨c=121 then (match cnM (rg false r).2 with
      | .inl (n,t)=>.inl ((a,b,w,[c],adr0,(rg false r).1,n,[],[],false),t)
      | .inr e=>.inr e)
    else if c=112 then (match tk 117 r with
      | (false,_)=>.inr 240
      | (true,r)=>.inl ((a,b,w,if (tk 33 r).1=true then [112,117,33] else [112,117],adr0,(rg true (tk 33 r).2).1,0,[],[],false),(rg true (tk 33 r).2).2))
    else if c=106 then (match cnM (tk 33 r).2 with
      | .inl (n,t)=>.inl ((a,b,w,if (tk 33 r).1=true then [106,33] else [106],adr0,0,n,[],[],false),t)
      | .inr e=>.inr e)
    else if c=62∨c=60 then .inl ((a,b,w,[c],adr0,0,if 9999<1+(reps c r:Int) then 9999 else 1+(reps c r:Int),[],[],false),r.drop (reps c r))
    else if c=99 then (match tk 111 r with
      | (false,_)=>.inr 240
      | (true,r)=>match gvM r with
        | .inl (d,t)=>.inl ((a,b,w,[116],d,0,0,[],[],false),t)
        | .inr e=>.inr e)
    else if c=116∨c=109 then (match gvM r with
      | .inl (d,t)=>.inl ((a,b,w,[c],d,0,0,[],[],false),t)
      | .inr e=>.inr e)
    else if c=115 then rpM a b w r
    else .inr 240
theorem cmM_cons (a b:Adr) (w:Bool) (c:Int) (r:LI):cmM a b w (c::r) =
    if c=100∨c=121 then (match cnM (rg false r).2 with
      | .inl (n,t)=>.inl ((a,b,w,[c],adr0,(rg false r).1,n,[],[],false),t)
      | .inr e=>.inr e)
    else if c=112 then (match tk 117 r with
      | (false,_)=>.inr 240
      | (true,r)=>.inl ((a,b,w,if (tk 33 r).1=true then [112,117,33] else [112,117],adr0,(rg true (tk 33 r).2).1,0,[],[],false),(rg true (tk 33 r).2).2))
    else if c=106 then (match cnM (tk 33 r).2 with
      | .inl (n,t)=>.inl ((a,b,w,if (tk 33 r).1=true then [106,33] else [106],adr0,0,n,[],[],false),t)
      | .inr e=>.inr e)
    else if c=62∨c=60 then .inl ((a,b,w,[c],adr0,0,if 9999<1+(reps c r:Int) then 9999 else 1+(reps c r:Int),[],[],false),r.drop (reps c r))
    else if c=99 then (match tk 111 r with
      | (false,_)=>.inr 240
      | (true,r)=>match gvM r with
        | .inl (d,t)=>.inl ((a,b,w,[116],d,0,0,[],[],false),t)
        | .inr e=>.inr e)
    else if c=116∨c=109 then (match gvM r with
      | .inl (d,t)=>.inl ((a,b,w,[c],d,0,0,[],[],false),t)
      | .inr e=>.inr e)
    else if c=115 then rpM a b w r
    else .inr 240:=rfl
def toC (s:LI):Rd ExD→((LI×Int)×ExD)⊕Int
  | .inl (x,r)=>.inl (pos s r,x)
  | .inr e=>.inr e
theorem idE {α β:Type} (z:(α×β)⊕Int):Sum.elim (fun q:α×β=>(Sum.inl (q.1,q.2):(α×β)⊕Int)) (fun q=>Sum.inr q) z=z:=by cases z <;> rfl
section
variable {s l:LI}
theorem given_s (h:l <:+ s) (hs:s.length≤lim):q23_P (pos s l)∧q23_F (pos s l)=toS s (gvM l):=by
  obtain ⟨hp,hf⟩:=blanks_s h
  obtain ⟨ap,af⟩:=address_s ((bk_suf l).trans h) hs
  unfold q23_P q23_F gvM
  simp only [hf,af]
  refine ⟨⟨hp,ap⟩,?_⟩
  rcases adM (bk l) with ⟨a,r⟩ | e
  · obtain ⟨a1,a2,a3,a4,a5,g⟩:=a
    cases g <;> rfl
  · rfl
theorem gvM_suf {l:LI} {a:Adr} {r:LI} (h:gvM l=.inl (a,r)):r <:+ l:=by
  unfold gvM at h
  split at h
  · cases h
  · rename_i b t hb
    split at h
    · cases h; exact (adM_suf _ hb).trans (bk_suf l)
    · cases h
theorem ptM_suf {l:LI} {a:LI×Bool} {r:LI} (h:ptM l=.inl (a,r)):r <:+ l:=by
  unfold ptM at h
  split at h
  · cases h; exact List.drop_suffix _ _
  · split at h
    · cases h
    · cases h; exact List.nil_suffix
theorem part_s (h:l <:+ s) (hs:s.length≤lim):q26_P (pos s l)∧q26_F (pos s l)=(match ptM l with | .inl ((t,b),r)=>.inl (t,b,pos s r) | .inr e=>.inr e):=by
  have hlim:lim=1099511627776:=rfl
  have h1:=suf_len h
  have hd:=pos_drop h
  have hc:=clo_le l 47
  have lp:q26_L1_P (pos s l).2 (pos s l):=⟨rfl,show 0≤(s.length:Int) - l.length by omega,show (s.length:Int) - l.length≤s.length by omega,hs⟩
  unfold q26_P q26_F q26_L1_F ptM
  rw [hd]
  by_cases h2:clo l 47<l.length
  · rw [if_pos h2,if_pos h2]
    refine ⟨⟨lp,trivial⟩,?_⟩
    show Sum.inl (_,true,(s,(s.length:Int) - l.length+(clo l 47:Int)+1))=Sum.inl (_,true,(s,(s.length:Int) - (l.drop (clo l 47+1)).length))
    rw [List.length_drop,show (s.length:Int) - l.length+(clo l 47:Int)+1=(s.length:Int) - ((l.length - (clo l 47+1):Nat):Int) by omega]
  · rw [if_neg h2,if_neg h2]
    cases ha:alo l
    · refine ⟨⟨lp,⟨show 0≤(s.length:Int) - l.length by omega,show (s.length:Int) - l.length≤s.length by omega⟩,?_⟩,?_⟩
      · show (((pos s l).1.drop (pos s l).2.toNat).length≤lim); rw [hd]; omega
      · show Sum.inl ((pos s l).1.drop (pos s l).2.toNat,false,(s,(s.length:Int)))=Sum.inl (l,false,(s,(s.length:Int) - (([]:LI).length:Int)))
        rw [hd]; simp
    · exact ⟨⟨lp,trivial⟩,rfl⟩
theorem replacing_s (h:l <:+ s) (hs:s.length≤lim) (a b:Adr) (w:Bool):q8_P (pos s l) (exB a b w)∧q8_F (pos s l) (exB a b w)=toC s (rpM a b w l):=by
  obtain ⟨tp,tf⟩:=takes_s h hs 47
  have ht:=(tk_suf 47 l).trans h
  obtain ⟨pp,pf⟩:=part_s ht hs
  -- the second part
  have two:∀ (old:LI) (t:LI),t <:+ s→q8_J0_P old (pos s t) (a,b,w,[115],adr0,0,0,[],[],false)∧
      q8_J0_F old (pos s t) (a,b,w,[115],adr0,0,0,[],[],false)=toC s (match ptM t with
      | .inr e=>.inr e
      | .inl ((new,true),u)=>.inl ((a,b,w,[115],adr0,0,0,old,new,(tk 103 u).1),(tk 103 u).2)
      | .inl ((new,false),u)=>.inl ((a,b,w,[115],adr0,0,0,old,new,false),u)):=by
    intro old t ht
    obtain ⟨qp,qf⟩:=part_s ht hs
    unfold q8_J0_P q8_J0_F
    rw [qf]
    cases hq:ptM t with
    | inr e=>exact ⟨⟨qp,trivial⟩,rfl⟩
    | inl q=>
      obtain ⟨⟨new,ok⟩,u⟩:=q
      cases ok
      · exact ⟨⟨qp,trivial⟩,rfl⟩
      · obtain ⟨gp,gf⟩:=takes_s ((ptM_suf hq).trans ht) hs 103
        refine ⟨⟨qp,gp⟩,?_⟩
        simp only [Sum.elim_inl,gf,cond_true]
        rfl
  have one:q8_J1_P (pos s (tk 47 l).2) (a,b,w,[115],adr0,0,0,[],[],false)∧
      q8_J1_F (pos s (tk 47 l).2) (a,b,w,[115],adr0,0,0,[],[],false)=toC s (match ptM (tk 47 l).2 with
    | .inr e=>.inr e
    | .inl ((_,false),_)=>.inr 240
    | .inl ((old,true),t)=>match ptM t with
      | .inr e=>.inr e
      | .inl ((new,true),u)=>.inl ((a,b,w,[115],adr0,0,0,old,new,(tk 103 u).1),(tk 103 u).2)
      | .inl ((new,false),u)=>.inl ((a,b,w,[115],adr0,0,0,old,new,false),u)):=by
    unfold q8_J1_P q8_J1_F
    rw [pf]
    cases hq:ptM (tk 47 l).2 with
    | inr e=>exact ⟨⟨pp,trivial⟩,rfl⟩
    | inl q=>
      obtain ⟨⟨old,ok⟩,t⟩:=q
      cases ok
      · exact ⟨⟨pp,trivial⟩,rfl⟩
      · obtain ⟨gp,gf⟩:=two old t ((ptM_suf hq).trans ht)
        refine ⟨⟨pp,gp⟩,?_⟩
        simp only [Sum.elim_inl,gf,Bool.not_true,cond_false]
        rcases ptM t with ⟨⟨new,ok⟩,u⟩ | e
        · cases ok <;> rfl
        · rfl
  unfold q8_P q8_F rpM
  rw [tf]
  cases hk:tk 47 l with
  | mk ok r=>
    rw [hk] at one
    cases ok
    · exact ⟨⟨tp,trivial⟩,rfl⟩
    · refine ⟨⟨tp,one.1⟩,?_⟩
      show Sum.elim (fun q:(LI×Int)×ExD=>Sum.inl (q.1,q.2)) (fun q=>Sum.inr q) (q8_J1_F (pos s r) (a,b,w,[115],adr0,0,0,[],[],false))=_
      rw [idE,one.2]
theorem command_s (c:Int) (r:LI) (h:c::r <:+ s) (hs:s.length≤lim) (a b:Adr) (w:Bool):q16_P (pos s (c::r)) (exB a b w)∧q16_F (pos s (c::r)) (exB a b w)=toC s (cmM a b w (c::r)):=by
  have hlim:lim=1099511627776:=rfl
  have h1:=suf_len h
  simp only [List.length_cons] at h1
  have hr:r <:+ s:=(List.suffix_cons _ _).trans h
  obtain ⟨np,nf⟩:=next_s h
  have hw:(((pos s (c::r)).1,IntKind.wrap .i64 ((pos s (c::r)).2+1)):LI×Int)=pos s r:=by
    show (s,IntKind.wrap .i64 ((s.length:Int) - (c::r).length+1))=(s,(s.length:Int) - r.length)
    rw [List.length_cons,wrap_i64 (by omega) (by omega),show (s.length:Int) - ((r.length+1:Nat):Int)+1=(s.length:Int) - r.length by omega]
  have J4:q16_J4_P c c (decide (c=100) || decide (c=121)) (pos s r) (exB a b w)∧q16_J4_F c c (decide (c=100) || decide (c=121)) (pos s r) (exB a b w)=toC s (cmM a b w (c::r)):=by
    rw [cmM_cons]
    unfold q16_J4_P q16_J4_F
    by_cases cd:c=100∨c=121
    · rw [if_pos cd,show (decide (c=100) || decide (c=121))=true by rcases cd with h | h <;> simp [h]]
      obtain ⟨rp,rf⟩:=register_s hr hs false
      obtain ⟨cp,cf⟩:=count_s ((rg_suf false r).trans hr) hs
      simp only [rf,cf,cond_true]
      refine ⟨⟨rp,cp⟩,?_⟩
      rcases cnM (rg false r).2 with ⟨n,t⟩ | e <;> rfl
    have cd1:¬ c=100:=fun h=>cd (.inl h)
    have cd2:¬ c=121:=fun h=>cd (.inr h)
    rw [if_neg cd,show (decide (c=100) || decide (c=121))=false by simp [cd1,cd2]]
    by_cases c2:c=112
    · rw [if_pos c2,decide_eq_true c2]
      obtain ⟨tp,tf⟩:=takes_s hr hs 117
      have ht:=(tk_suf 117 r).trans hr
      have j0:q16_J0_P (pos s (tk 117 r).2) (exB a b w)∧q16_J0_F (pos s (tk 117 r).2) (exB a b w)=(pos s (rg true (tk 33 (tk 117 r).2).2).2,(a,b,w,if (tk 33 (tk 117 r).2).1=true then [112,117,33] else [112,117],adr0,(rg true (tk 33 (tk 117 r).2).2).1,0,[],[],false)):=by
        obtain ⟨qp,qf⟩:=takes_s ht hs 33
        obtain ⟨rp,rf⟩:=register_s ((tk_suf 33 _).trans ht) hs true
        unfold q16_J0_P q16_J0_F
        simp only [qf,rf]
        cases (tk 33 (tk 117 r).2).1
        · exact ⟨⟨qp,rp⟩,rfl⟩
        · exact ⟨⟨qp,rp⟩,rfl⟩
      simp only [tf,cond_true,cond_false]
      rcases hk:tk 117 r with ⟨ok,t⟩
      rw [hk] at j0
      cases ok
      · exact ⟨⟨tp,trivial⟩,rfl⟩
      · refine ⟨⟨tp,j0.1⟩,?_⟩
        simp only [j0.2,Bool.not_true,cond_false]
        rfl
    rw [if_neg c2,decide_eq_false c2]
    by_cases c3:c=106
    · rw [if_pos c3,decide_eq_true c3]
      obtain ⟨tp,tf⟩:=takes_s hr hs 33
      obtain ⟨cp,cf⟩:=count_s ((tk_suf 33 r).trans hr) hs
      simp only [tf,cf,cond_true,cond_false]
      refine ⟨⟨tp,brb (fun _=>cp) (fun _=>cp)⟩,?_⟩
      cases (tk 33 r).1
      · rcases cnM (tk 33 r).2 with ⟨n,t⟩ | e <;> rfl
      · rcases cnM (tk 33 r).2 with ⟨n,t⟩ | e <;> rfl
    rw [if_neg c3,decide_eq_false c3]
    have J3:q16_J3_P c c (decide (c=62) || decide (c=60)) (pos s r) (exB a b w)∧q16_J3_F c c (decide (c=62) || decide (c=60)) (pos s r) (exB a b w)=toC s (if c=62∨c=60 then .inl ((a,b,w,[c],adr0,0,if 9999<1+(reps c r:Int) then 9999 else 1+(reps c r:Int),[],[],false),r.drop (reps c r))
    else if c=99 then (match tk 111 r with
      | (false,_)=>.inr 240
      | (true,r)=>match gvM r with
        | .inl (d,t)=>.inl ((a,b,w,[116],d,0,0,[],[],false),t)
        | .inr e=>.inr e)
    else if c=116∨c=109 then (match gvM r with
      | .inl (d,t)=>.inl ((a,b,w,[c],d,0,0,[],[],false),t)
      | .inr e=>.inr e)
    else if c=115 then rpM a b w r
    else .inr 240):=by
      unfold q16_J3_P q16_J3_F
      by_cases c4:c=62∨c=60
      · rw [if_pos c4,show (decide (c=62) || decide (c=60))=true by rcases c4 with h | h <;> simp [h]]
        have hrl:=reps_le c r
        have hd:=pos_drop hr
        refine ⟨⟨show 0≤(s.length:Int) - r.length by omega,show (s.length:Int) - r.length≤s.length by omega,hs,show (0:Int)≤1 by omega,show (1:Int)≤9999 by omega⟩,?_⟩
        unfold q16_L1_F
        rw [hd]
        show Sum.inl ((s,(s.length:Int) - r.length+(reps c r:Int)),_)=Sum.inl ((s,(s.length:Int) - (r.drop (reps c r)).length),_)
        rw [List.length_drop,show (s.length:Int) - r.length+(reps c r:Int)=(s.length:Int) - ((r.length - reps c r:Nat):Int) by omega]
        rfl
      have c41:¬ c=62:=fun h=>c4 (.inl h)
      have c42:¬ c=60:=fun h=>c4 (.inr h)
      rw [if_neg c4,show (decide (c=62) || decide (c=60))=false by simp [c41,c42]]
      by_cases c5:c=99
      · rw [if_pos c5,decide_eq_true c5]
        obtain ⟨tp,tf⟩:=takes_s hr hs 111
        obtain ⟨gp,gf⟩:=given_s ((tk_suf 111 r).trans hr) hs
        simp only [tf,gf,cond_true,cond_false]
        rcases hk:tk 111 r with ⟨ok,t⟩
        rw [hk] at gp gf
        cases ok
        · exact ⟨⟨tp,trivial⟩,rfl⟩
        · refine ⟨⟨tp,gp⟩,?_⟩
          simp only [Bool.not_true,cond_false]
          rcases gvM t with ⟨d,u⟩ | e <;> rfl
      rw [if_neg c5,decide_eq_false c5]
      have J2:q16_J2_P c c (decide (c=116) || decide (c=109)) (pos s r) (exB a b w)∧q16_J2_F c c (decide (c=116) || decide (c=109)) (pos s r) (exB a b w)=toC s (if c=116∨c=109 then (match gvM r with
      | .inl (d,t)=>.inl ((a,b,w,[c],d,0,0,[],[],false),t)
      | .inr e=>.inr e)
    else if c=115 then rpM a b w r
    else .inr 240):=by
        unfold q16_J2_P q16_J2_F
        by_cases c6:c=116∨c=109
        · rw [if_pos c6,show (decide (c=116) || decide (c=109))=true by rcases c6 with h | h <;> simp [h]]
          obtain ⟨gp,gf⟩:=given_s hr hs
          rw [gf]
          refine ⟨gp,?_⟩
          rcases gvM r with ⟨d,u⟩ | e <;> rfl
        have c61:¬ c=116:=fun h=>c6 (.inl h)
        have c62:¬ c=109:=fun h=>c6 (.inr h)
        rw [if_neg c6,show (decide (c=116) || decide (c=109))=false by simp [c61,c62]]
        by_cases c7:c=115
        · rw [if_pos c7,decide_eq_true c7]
          obtain ⟨gp,gf⟩:=replacing_s hr hs a b w
          rw [gf]
          refine ⟨gp,?_⟩
          rcases rpM a b w r with ⟨d,u⟩ | e <;> rfl
        rw [if_neg c7,decide_eq_false c7]
        exact ⟨trivial,rfl⟩
      by_cases c6:c=116
      · rw [decide_eq_true c6] at J2 ⊢
        exact ⟨J2.1,(idE _).trans J2.2⟩
      · rw [decide_eq_false c6,Bool.false_or] at J2
        rw [decide_eq_false c6]
        exact ⟨J2.1,(idE _).trans J2.2⟩
    by_cases c4:c=62
    · rw [decide_eq_true c4] at J3 ⊢
      exact ⟨J3.1,(idE _).trans J3.2⟩
    · rw [decide_eq_false c4,Bool.false_or] at J3
      rw [decide_eq_false c4]
      exact ⟨J3.1,(idE _).trans J3.2⟩
  unfold q16_P q16_F
  simp only [nf,hw,List.headD_cons]
  by_cases c1:c=100
  · subst c1
    exact ⟨⟨np,J4.1⟩,(idE _).trans J4.2⟩
  · have e:decide (c=100)=false:=decide_eq_false c1
    rw [e,Bool.false_or] at J4
    refine ⟨⟨np,?_⟩,?_⟩
    · exact brn (fun h=>absurd h c1) (fun _=>J4.1)
    · refine Eq.trans ?_ J4.2
      by_cases c2:c=100
      · exact absurd c2 c1
      · rw [cfalse (by exact decide_eq_false c2)]
        exact idE _
end
end Go.VE
namespace Go.VE
def hereM (a:Adr):Adr:=if a.2.2.2.2.2=true then a else (46,0,0,[],0,true)
def spM (l:LI):Rd (Bool×Adr×Adr×Bool):=match tk 37 l with
  | (true,r)=>.inl ((true,adr0,adr0,true),r)
  | (false,_)=>match adM l with
    | .inr e=>.inr e
    | .inl (a,r)=>match tk 44 (bk r) with
      | (true,t)=>(match adM (bk t) with
        | .inr e=>.inr e
        | .inl (b,u)=>.inl ((true,hereM a,hereM b,false),u))
      | (false,_)=>.inl ((a.2.2.2.2.2,a,adr0,false),r)
def bhM (g:Bool) (a b:Adr) (w:Bool) (l:LI):Rd ExD:=if l=[] then (if g=true then .inl (exB a b w,[]) else .inr 240) else cmM a b w l
def enM:Rd ExD→ExD⊕Int
  | .inr e=>.inr e
  | .inl (x,t)=>if bk t=[] then .inl x else .inr 240
def parM (s:LI):ExD⊕Int:=match spM (bk s) with
  | .inr e=>.inr e
  | .inl ((g,a,b,w),r)=>enM (bhM g a b w (bk r))
theorem here_eq (a:Adr):q73_F a=hereM a:=by
  obtain ⟨a1,a2,a3,a4,a5,g⟩:=a
  cases g <;> rfl
section
variable {s l:LI}
theorem spM_suf {l:LI} {p:Bool×Adr×Adr×Bool} {r:LI} (h:spM l=.inl (p,r)):r <:+ l:=by
  unfold spM at h
  have ht:=tk_suf 37 l
  rcases hk:tk 37 l with ⟨ok,t⟩
  rw [hk] at h ht
  cases ok
  · dsimp only at h
    rcases ha:adM l with ⟨a,t2⟩ | e
    · rw [ha] at h
      dsimp only at h
      have h2:=adM_suf _ ha
      have h3:=(tk_suf 44 (bk t2)).trans ((bk_suf t2).trans h2)
      rcases hk2:tk 44 (bk t2) with ⟨ok2,t3⟩
      rw [hk2] at h h3
      cases ok2
      · cases h; exact h2
      · dsimp only at h
        rcases hb:adM (bk t3) with ⟨b,u⟩ | e
        · rw [hb] at h; cases h
          exact (adM_suf _ hb).trans ((bk_suf t3).trans h3)
        · rw [hb] at h; cases h
    · rw [ha] at h; cases h
  · cases h; exact ht
theorem span_s (h:l <:+ s) (hs:s.length≤lim):q24_P (pos s l) exZ∧q24_F (pos s l) exZ=(match spM l with
    | .inl ((g,a,b,w),r)=>.inl (g,pos s r,exB a b w)
    | .inr e=>.inr e):=by
  obtain ⟨tp,tf⟩:=takes_s h hs 37
  unfold q24_P q24_F spM
  simp only [tf]
  rcases hk:tk 37 l with ⟨ok,t⟩
  have hkl:ok=false→t=l:=by
    intro ho
    cases l with
    | nil=>cases hk; rfl
    | cons c r=>
      rw [tk_cons] at hk
      split at hk
      · cases hk; cases ho
      · cases hk; rfl
  cases ok
  · obtain rfl:=hkl rfl
    obtain ⟨ap,af⟩:=address_s h hs
    simp only [cond_false,af]
    rcases ha:adM t with ⟨a,r⟩ | e
    · have hr:=(adM_suf _ ha).trans h
      obtain ⟨bp,bf⟩:=blanks_s hr
      have hb:=(bk_suf r).trans hr
      obtain ⟨tp2,tf2⟩:=takes_s hb hs 44
      simp only [toS,Sum.elim_inl,bf,tf2,here_eq]
      rcases hk2:tk 44 (bk r) with ⟨ok2,t3⟩
      have h3:=(tk_suf 44 (bk r)).trans hb
      rw [hk2] at h3
      cases ok2
      · exact ⟨⟨tp,ap,bp,tp2,trivial⟩,rfl⟩
      · obtain ⟨bp2,bf2⟩:=blanks_s h3
        obtain ⟨ap2,af2⟩:=address_s ((bk_suf t3).trans h3) hs
        simp only [cond_true,bf2,af2]
        refine ⟨⟨tp,ap,bp,tp2,bp2,ap2⟩,?_⟩
        rcases adM (bk t3) with ⟨b,u⟩ | e <;> rfl
    · exact ⟨⟨tp,ap,trivial⟩,rfl⟩
  · exact ⟨⟨tp,trivial⟩,rfl⟩
end
theorem cmM_suf {a b:Adr} {w:Bool} {l:LI} {x:ExD} {t:LI} (h:cmM a b w l=.inl (x,t)):t <:+ l:=by
  cases l with
  | nil=>cases h
  | cons c r=>
    refine List.IsSuffix.trans ?_ (List.suffix_cons c r)
    rw [cmM_cons] at h
    split at h
    · split at h
      · rename_i hc; cases h; exact (cnM_suf hc).trans (rg_suf _ _)
      · cases h
    · split at h
      · have:=tk_suf 117 r
        split at h
        · cases h
        · rename_i hk
          rw [hk] at this
          cases h; exact ((rg_suf _ _).trans (tk_suf 33 _)).trans this
      · split at h
        · split at h
          · rename_i hc; cases h; exact (cnM_suf hc).trans (tk_suf _ _)
          · cases h
        · split at h
          · cases h; exact List.drop_suffix _ _
          · split at h
            · have:=tk_suf 111 r
              split at h
              · cases h
              · rename_i hk
                rw [hk] at this
                split at h
                · rename_i hg; cases h; exact (gvM_suf hg).trans this
                · cases h
            · split at h
              · split at h
                · rename_i hg; cases h; exact gvM_suf hg
                · cases h
              · split at h
                · unfold rpM at h
                  have:=tk_suf 47 r
                  split at h
                  · cases h
                  · rename_i hk
                    rw [hk] at this
                    split at h
                    · cases h
                    · cases h
                    · rename_i hp
                      have h2:=(ptM_suf hp).trans this
                      split at h
                      · cases h
                      · rename_i hp2; cases h; exact (tk_suf _ _).trans ((ptM_suf hp2).trans h2)
                      · rename_i hp2; cases h; exact (ptM_suf hp2).trans h2
                · cases h
theorem parse0_s (s:LI) (hs:s.length≤lim):q59_P s exZ 0∧q59_F s exZ 0=(match parM s with | .inl x=>.inl (x,0,x,0) | .inr e=>.inr e):=by
  have h0:((s,(0:Int)):LI×Int)=pos s s:=by unfold pos; rw [Int.sub_self]
  have hss:=List.suffix_refl s
  obtain ⟨bp,bf⟩:=blanks_s hss
  have hb:=bk_suf s
  obtain ⟨sp,sf⟩:=span_s hb hs
  unfold q59_P q59_F parM
  simp only [h0,bf,sf]
  rcases hsp:spM (bk s) with ⟨⟨g,a,b,w⟩,r⟩ | e
  · have hr:=(spM_suf hsp).trans hb
    obtain ⟨bp2,bf2⟩:=blanks_s hr
    have hr2:=(bk_suf r).trans hr
    simp only [Sum.elim_inl,bf2,ended_s hr2]
    unfold bhM
    cases hl:bk r with
    | nil=>
      rw [hl] at hr2
      obtain ⟨ep,ef⟩:=end_s hr2
      rw [if_pos rfl,show (!decide (([]:LI)=[]))=false from rfl]
      simp only [cond_false,ef]
      rw [if_pos (show bk ([]:LI)=[] from rfl)]
      cases g
      · exact ⟨⟨bp,sp,bp2,trivial⟩,rfl⟩
      · exact ⟨⟨bp,sp,bp2,ep⟩,rfl⟩
    | cons c t=>
      rw [hl] at hr2
      obtain ⟨cp,cf⟩:=command_s c t hr2 hs a b w
      rw [if_neg (by simp),show (!decide (c::t=[]))=true by simp]
      simp only [cond_true,cf]
      rcases hc:cmM a b w (c::t) with ⟨x,u⟩ | e
      · have hu:=(cmM_suf hc).trans hr2
        obtain ⟨ep,ef⟩:=end_s hu
        simp only [toC,Sum.elim_inl,ef,enM]
        refine ⟨⟨bp,sp,bp2,cp,ep⟩,?_⟩
        by_cases hk:bk u=[]
        · rw [if_pos hk,if_pos hk]; rfl
        · rw [if_neg hk,if_neg hk]; rfl
      · exact ⟨⟨bp,sp,bp2,cp,trivial⟩,rfl⟩
  · exact ⟨⟨bp,sp,trivial⟩,rfl⟩
end Go.VE
namespace Go.VE
theorem cnM_err {l:LI} {e:Int} (h:cnM l=.inr e):e=240:=by
  unfold cnM at h
  repeat' split at h
  all_goals first | (cases h; rfl) | cases h
theorem ptM_err {l:LI} {e:Int} (h:ptM l=.inr e):e=240:=by
  unfold ptM at h
  repeat' split at h
  all_goals first | (cases h; rfl) | cases h
theorem gvM_err {l:LI} {e:Int} (h:gvM l=.inr e):e=230∨e=240:=by
  unfold gvM at h
  split at h
  · rename_i e' ha; cases h; exact .inl (adM_err _ ha)
  · split at h
    · cases h
    · cases h; exact .inr rfl
theorem rpM_err {a b:Adr} {w:Bool} {l:LI} {e:Int} (h:rpM a b w l=.inr e):e=240:=by
  unfold rpM at h
  split at h
  · cases h; rfl
  · split at h
    · rename_i hp; cases h; exact ptM_err hp
    · cases h; rfl
    · split at h
      · rename_i hp; cases h; exact ptM_err hp
      · cases h
      · cases h
theorem cmM_err {a b:Adr} {w:Bool} {l:LI} {e:Int} (h:cmM a b w l=.inr e):e=230∨e=240:=by
  cases l with
  | nil=>cases h; exact .inr rfl
  | cons c r=>
    rw [cmM_cons] at h
    split at h
    · split at h
      · cases h
      · rename_i hc; cases h; exact .inr (cnM_err hc)
    · split at h
      · split at h
        · cases h; exact .inr rfl
        · cases h
      · split at h
        · split at h
          · cases h
          · rename_i hc; cases h; exact .inr (cnM_err hc)
        · split at h
          · cases h
          · split at h
            · split at h
              · cases h; exact .inr rfl
              · split at h
                · cases h
                · rename_i hg; cases h; exact gvM_err hg
            · split at h
              · split at h
                · cases h
                · rename_i hg; cases h; exact gvM_err hg
              · split at h
                · exact .inr (rpM_err h)
                · cases h; exact .inr rfl
theorem par_err {s:LI} {e:Int} (h:parM s=.inr e):e=230∨e=240:=by
  unfold parM at h
  split at h
  · rename_i e' hsp
    cases h
    unfold spM at hsp
    split at hsp
    · cases hsp
    · split at hsp
      · rename_i ha; cases hsp; exact .inl (adM_err _ ha)
      · split at hsp
        · split at hsp
          · rename_i ha; cases hsp; exact .inl (adM_err _ ha)
          · cases hsp
        · cases hsp
  · unfold enM at h
    split at h
    · rename_i hb
      cases h
      unfold bhM at hb
      split at hb
      · split at hb
        · cases hb
        · cases hb; exact .inr rfl
      · exact cmM_err hb
    · split at h
      · cases h
      · cases h; exact .inr rfl
def toB:ExD⊕Int→ExD×Int
  | .inl x=>(x,0)
  | .inr e=>(exZ,e)
theorem parse_s (s:LI) (hs:s.length≤lim):q63_P s∧q63_F s=toB (parM s):=by
  obtain ⟨p,f⟩:=parse0_s s hs
  unfold q63_P q63_F
  rw [f]
  rcases hp:parM s with x | e
  · exact ⟨⟨p,fun n h=>by cases h⟩,rfl⟩
  · refine ⟨⟨p,fun n h=>?_⟩,rfl⟩
    cases h
    unfold inR kmin kmax
    rcases par_err hp with rfl | rfl <;> decide
end Go.VE
namespace Go.VE
set_option maxRecDepth 20000
open Go Go.Proofs
def q74_G:List (Nat×App):=[]
theorem q74_Gok:GOk Tryz.prog (getG q74_G):=GOk.nil
def q74_raw (a0:LI) (b1:LI) (K:Res→List Cell→Prop):Prop:=
 K (.one (.v .bool (decide (a0=b1)))) []
def q74_A:List AS:=[.v yB,.v yB]

def q74_F (a0:LI) (b1:LI):Bool:=
 (decide (a0=b1))
theorem q74_sp (a0:LI) (b1:LI) (K:Res→List Cell→Prop) (_:wfA q74_A (a0,b1,())) (h:∀ r:Bool,r=q74_F a0 b1→K (.one (.v .bool r)) []):q74_raw a0 b1 K:=
 h _ rfl
def q74_C (v:valsA q74_A) (K:Res→List Cell→Prop):Prop:=∀ r:Bool,r=q74_F v.1 v.2.1→K (.one (.v .bool r)) []
def q74_S:App:=specW q74_A q74_C
theorem q74_wv (K:Res→List Cell→Prop):∀ v:valsA q74_A,runF tb (getG q74_G) [] Tryz.f95 [true] (mkA q74_A v) K=q74_raw v.1 v.2.1 K
  | (a0,b1,())=>by kernel_rfl
theorem q74_ok:AppOk Tryz.prog 95 q74_S:=
  AppOk.specW (spec_ok ((runF_ok tb_M tb_ok q74_Gok (LabsOk.nil) (f:=95) (fn:=Tryz.f95) (by kernel_rfl) (by kernel_rfl) (by kernel_rfl) [true])) fun v K hw h=>(q74_wv K v).mpr (q74_sp v.1 v.2.1 K hw h))

def q27_G:List (Nat×App):=[(95,q74_S)]
theorem q27_Gok:GOk Tryz.prog (getG q27_G):=GOk.cons q74_ok (GOk.nil)
def q27_raw (a0:tAd) (b1:tAd) (K:Res→List Cell→Prop):Prop:=
 bif (decide (a0.1=b1.1)) then
 bif (decide (a0.2.1=b1.2.1)) then
 bif (decide (a0.2.2.1=b1.2.2.1)) then
 ∀ (r1:Bool),r1=q74_F a0.2.2.2.1 b1.2.2.2.1→(
 wB r1→(
 bif r1 then
 bif (decide (a0.2.2.2.2.1=b1.2.2.2.2.1)) then
 K (.one (.v .bool (a0.2.2.2.2.2 == b1.2.2.2.2.2))) []
 else
 K (.one (.v .bool false)) []
 else
 K (.one (.v .bool false)) []))
 else
 K (.one (.v .bool false)) []
 else
 K (.one (.v .bool false)) []
 else
 K (.one (.v .bool false)) []
def q27_A:List AS:=[.v tyA,.v tyA]

def q27_F (a0:tAd) (b1:tAd):Bool:=
 bif (decide (a0.1=b1.1)) then
 bif (decide (a0.2.1=b1.2.1)) then
 bif (decide (a0.2.2.1=b1.2.2.1)) then
 let r1:Bool:=q74_F a0.2.2.2.1 b1.2.2.2.1
 bif r1 then
 bif (decide (a0.2.2.2.2.1=b1.2.2.2.2.1)) then
 (a0.2.2.2.2.2 == b1.2.2.2.2.2)
 else
 false
 else
 false
 else
 false
 else
 false
 else
 false
theorem q27_sp (a0:tAd) (b1:tAd) (K:Res→List Cell→Prop) (_:wfA q27_A (a0,b1,())) (h:∀ r:Bool,r=q27_F a0 b1→K (.one (.v .bool r)) []):q27_raw a0 b1 K:=
 br0 h (fun _ h=>br0 h (fun _ h=>br0 h (fun _ h=>al (br0 h (fun _ h=>br0 h (fun _ h=>h _ rfl)
 fun _ h=>h _ rfl)
 fun _ h=>h _ rfl))
 fun _ h=>h _ rfl)
 fun _ h=>h _ rfl)
 fun _ h=>h _ rfl
def q27_C (v:valsA q27_A) (K:Res→List Cell→Prop):Prop:=∀ r:Bool,r=q27_F v.1 v.2.1→K (.one (.v .bool r)) []
def q27_S:App:=specW q27_A q27_C
theorem q27_wv (K:Res→List Cell→Prop):∀ v:valsA q27_A,runF tb (getG q27_G) [] Tryz.f94 [true] (mkA q27_A v) K=q27_raw v.1 v.2.1 K
  | (a0,b1,())=>by kernel_rfl
theorem q27_ok:AppOk Tryz.prog 94 q27_S:=
  AppOk.specW (spec_ok ((runF_ok tb_M tb_ok q27_Gok (LabsOk.nil) (f:=94) (fn:=Tryz.f94) (by kernel_rfl) (by kernel_rfl) (by kernel_rfl) [true])) fun v K hw h=>(q27_wv K v).mpr (q27_sp v.1 v.2.1 K hw h))

def q75_G:List (Nat×App):=[(94,q27_S),(95,q74_S)]
theorem q75_Gok:GOk Tryz.prog (getG q75_G):=GOk.cons q27_ok (GOk.cons q74_ok (GOk.nil))
def q75_raw (x0:tEx) (y1:tEx) (K:Res→List Cell→Prop):Prop:=
 ∀ (r1:Bool),r1=q27_F x0.1 y1.1→(
 wB r1→(
 bif r1 then
 ∀ (r2:Bool),r2=q27_F x0.2.1 y1.2.1→(
 wB r2→(
 bif r2 then
 bif (x0.2.2.1 == y1.2.2.1) then
 bif (decide (x0.2.2.2.1=y1.2.2.2.1)) then
 ∀ (r3:Bool),r3=q27_F x0.2.2.2.2.1 y1.2.2.2.2.1→(
 wB r3→(
 bif r3 then
 bif (decide (x0.2.2.2.2.2.1=y1.2.2.2.2.2.1)) then
 bif (decide (x0.2.2.2.2.2.2.1=y1.2.2.2.2.2.2.1)) then
 ∀ (r4:Bool),r4=q74_F x0.2.2.2.2.2.2.2.1 y1.2.2.2.2.2.2.2.1→(
 wB r4→(
 bif r4 then
 ∀ (r5:Bool),r5=q74_F x0.2.2.2.2.2.2.2.2.1 y1.2.2.2.2.2.2.2.2.1→(
 wB r5→(
 bif r5 then
 K (.one (.v .bool (x0.2.2.2.2.2.2.2.2.2 == y1.2.2.2.2.2.2.2.2.2))) []
 else
 K (.one (.v .bool false)) []))
 else
 K (.one (.v .bool false)) []))
 else
 K (.one (.v .bool false)) []
 else
 K (.one (.v .bool false)) []
 else
 K (.one (.v .bool false)) []))
 else
 K (.one (.v .bool false)) []
 else
 K (.one (.v .bool false)) []
 else
 K (.one (.v .bool false)) []))
 else
 K (.one (.v .bool false)) []))
def q75_A:List AS:=[.v tyX,.v tyX]

def q75_F (x0:tEx) (y1:tEx):Bool:=
 let r1:Bool:=q27_F x0.1 y1.1
 bif r1 then
 let r2:Bool:=q27_F x0.2.1 y1.2.1
 bif r2 then
 bif (x0.2.2.1 == y1.2.2.1) then
 bif (decide (x0.2.2.2.1=y1.2.2.2.1)) then
 let r3:Bool:=q27_F x0.2.2.2.2.1 y1.2.2.2.2.1
 bif r3 then
 bif (decide (x0.2.2.2.2.2.1=y1.2.2.2.2.2.1)) then
 bif (decide (x0.2.2.2.2.2.2.1=y1.2.2.2.2.2.2.1)) then
 let r4:Bool:=q74_F x0.2.2.2.2.2.2.2.1 y1.2.2.2.2.2.2.2.1
 bif r4 then
 let r5:Bool:=q74_F x0.2.2.2.2.2.2.2.2.1 y1.2.2.2.2.2.2.2.2.1
 bif r5 then
 (x0.2.2.2.2.2.2.2.2.2 == y1.2.2.2.2.2.2.2.2.2)
 else
 false
 else
 false
 else
 false
 else
 false
 else
 false
 else
 false
 else
 false
 else
 false
 else
 false
theorem q75_sp (x0:tEx) (y1:tEx) (K:Res→List Cell→Prop) (_:wfA q75_A (x0,y1,())) (h:∀ r:Bool,r=q75_F x0 y1→K (.one (.v .bool r)) []):q75_raw x0 y1 K:=
 al (br0 h (fun _ h=>al (br0 h (fun _ h=>br0 h (fun _ h=>br0 h (fun _ h=>al (br0 h (fun _ h=>br0 h (fun _ h=>br0 h (fun _ h=>al (br0 h (fun _ h=>al (br0 h (fun _ h=>h _ rfl)
 fun _ h=>h _ rfl))
 fun _ h=>h _ rfl))
 fun _ h=>h _ rfl)
 fun _ h=>h _ rfl)
 fun _ h=>h _ rfl))
 fun _ h=>h _ rfl)
 fun _ h=>h _ rfl)
 fun _ h=>h _ rfl))
 fun _ h=>h _ rfl)
def q75_C (v:valsA q75_A) (K:Res→List Cell→Prop):Prop:=∀ r:Bool,r=q75_F v.1 v.2.1→K (.one (.v .bool r)) []
def q75_S:App:=specW q75_A q75_C
theorem q75_wv (K:Res→List Cell→Prop):∀ v:valsA q75_A,runF tb (getG q75_G) [] Tryz.f51 [true] (mkA q75_A v) K=q75_raw v.1 v.2.1 K
  | (x0,y1,())=>by kernel_rfl
theorem q75_ok:AppOk Tryz.prog 51 q75_S:=
  AppOk.specW (spec_ok ((runF_ok tb_M tb_ok q75_Gok (LabsOk.nil) (f:=51) (fn:=Tryz.f51) (by kernel_rfl) (by kernel_rfl) (by kernel_rfl) [true])) fun v K hw h=>(q75_wv K v).mpr (q75_sp v.1 v.2.1 K hw h))

def q11_G:List (Nat×App):=[]
theorem q11_Gok:GOk Tryz.prog (getG q11_G):=GOk.nil
def q11_raw (a0:tAd) (b1:tAd) (K:Res→List Cell→Prop):Prop:=
 bif (decide (a0.1=b1.1)) then
 bif (decide (a0.2.1=b1.2.1)) then
 bif (decide (a0.2.2.1=b1.2.2.1)) then
 bif (decide (a0.2.2.2.1=b1.2.2.2.1)) then
 bif (decide (a0.2.2.2.2.1=b1.2.2.2.2.1)) then
 K (.one (.v .bool (a0.2.2.2.2.2 == b1.2.2.2.2.2))) []
 else
 K (.one (.v .bool false)) []
 else
 K (.one (.v .bool false)) []
 else
 K (.one (.v .bool false)) []
 else
 K (.one (.v .bool false)) []
 else
 K (.one (.v .bool false)) []
def q11_A:List AS:=[.v tyA,.v tyA]

def q11_F (a0:tAd) (b1:tAd):Bool:=
 bif (decide (a0.1=b1.1)) then
 bif (decide (a0.2.1=b1.2.1)) then
 bif (decide (a0.2.2.1=b1.2.2.1)) then
 bif (decide (a0.2.2.2.1=b1.2.2.2.1)) then
 bif (decide (a0.2.2.2.2.1=b1.2.2.2.2.1)) then
 (a0.2.2.2.2.2 == b1.2.2.2.2.2)
 else
 false
 else
 false
 else
 false
 else
 false
 else
 false
theorem q11_sp (a0:tAd) (b1:tAd) (K:Res→List Cell→Prop) (_:wfA q11_A (a0,b1,())) (h:∀ r:Bool,r=q11_F a0 b1→K (.one (.v .bool r)) []):q11_raw a0 b1 K:=
 br0 h (fun _ h=>br0 h (fun _ h=>br0 h (fun _ h=>br0 h (fun _ h=>br0 h (fun _ h=>h _ rfl)
 fun _ h=>h _ rfl)
 fun _ h=>h _ rfl)
 fun _ h=>h _ rfl)
 fun _ h=>h _ rfl)
 fun _ h=>h _ rfl
def q11_C (v:valsA q11_A) (K:Res→List Cell→Prop):Prop:=∀ r:Bool,r=q11_F v.1 v.2.1→K (.one (.v .bool r)) []
def q11_S:App:=specW q11_A q11_C
theorem q11_wv (K:Res→List Cell→Prop):∀ v:valsA q11_A,runF tb (getG q11_G) [] Tryz.f45 [true] (mkA q11_A v) K=q11_raw v.1 v.2.1 K
  | (a0,b1,())=>by kernel_rfl
theorem q11_ok:AppOk Tryz.prog 45 q11_S:=
  AppOk.specW (spec_ok ((runF_ok tb_M tb_ok q11_Gok (LabsOk.nil) (f:=45) (fn:=Tryz.f45) (by kernel_rfl) (by kernel_rfl) (by kernel_rfl) [true])) fun v K hw h=>(q11_wv K v).mpr (q11_sp v.1 v.2.1 K hw h))

def q45_G:List (Nat×App):=[(45,q11_S)]
theorem q45_Gok:GOk Tryz.prog (getG q45_G):=GOk.cons q11_ok (GOk.nil)
def q45_raw (a0:tEx) (b1:tEx) (K:Res→List Cell→Prop):Prop:=
 ∀ (r1:Bool),r1=q11_F a0.1 b1.1→(
 wB r1→(
 bif r1 then
 ∀ (r2:Bool),r2=q11_F a0.2.1 b1.2.1→(
 wB r2→(
 bif r2 then
 bif (a0.2.2.1 == b1.2.2.1) then
 bif (decide (a0.2.2.2.1=b1.2.2.2.1)) then
 ∀ (r3:Bool),r3=q11_F a0.2.2.2.2.1 b1.2.2.2.2.1→(
 wB r3→(
 bif r3 then
 bif (decide (a0.2.2.2.2.2.1=b1.2.2.2.2.2.1)) then
 bif (decide (a0.2.2.2.2.2.2.1=b1.2.2.2.2.2.2.1)) then
 bif (decide (a0.2.2.2.2.2.2.2.1=b1.2.2.2.2.2.2.2.1)) then
 bif (decide (a0.2.2.2.2.2.2.2.2.1=b1.2.2.2.2.2.2.2.2.1)) then
 K (.one (.v .bool (a0.2.2.2.2.2.2.2.2.2 == b1.2.2.2.2.2.2.2.2.2))) []
 else
 K (.one (.v .bool false)) []
 else
 K (.one (.v .bool false)) []
 else
 K (.one (.v .bool false)) []
 else
 K (.one (.v .bool false)) []
 else
 K (.one (.v .bool false)) []))
 else
 K (.one (.v .bool false)) []
 else
 K (.one (.v .bool false)) []
 else
 K (.one (.v .bool false)) []))
 else
 K (.one (.v .bool false)) []))
def q45_A:List AS:=[.v tyX,.v tyX]

def q45_F (a0:tEx) (b1:tEx):Bool:=
 let r1:Bool:=q11_F a0.1 b1.1
 bif r1 then
 let r2:Bool:=q11_F a0.2.1 b1.2.1
 bif r2 then
 bif (a0.2.2.1 == b1.2.2.1) then
 bif (decide (a0.2.2.2.1=b1.2.2.2.1)) then
 let r3:Bool:=q11_F a0.2.2.2.2.1 b1.2.2.2.2.1
 bif r3 then
 bif (decide (a0.2.2.2.2.2.1=b1.2.2.2.2.2.1)) then
 bif (decide (a0.2.2.2.2.2.2.1=b1.2.2.2.2.2.2.1)) then
 bif (decide (a0.2.2.2.2.2.2.2.1=b1.2.2.2.2.2.2.2.1)) then
 bif (decide (a0.2.2.2.2.2.2.2.2.1=b1.2.2.2.2.2.2.2.2.1)) then
 (a0.2.2.2.2.2.2.2.2.2 == b1.2.2.2.2.2.2.2.2.2)
 else
 false
 else
 false
 else
 false
 else
 false
 else
 false
 else
 false
 else
 false
 else
 false
 else
 false
theorem q45_sp (a0:tEx) (b1:tEx) (K:Res→List Cell→Prop) (_:wfA q45_A (a0,b1,())) (h:∀ r:Bool,r=q45_F a0 b1→K (.one (.v .bool r)) []):q45_raw a0 b1 K:=
 al (br0 h (fun _ h=>al (br0 h (fun _ h=>br0 h (fun _ h=>br0 h (fun _ h=>al (br0 h (fun _ h=>br0 h (fun _ h=>br0 h (fun _ h=>br0 h (fun _ h=>br0 h (fun _ h=>h _ rfl)
 fun _ h=>h _ rfl)
 fun _ h=>h _ rfl)
 fun _ h=>h _ rfl)
 fun _ h=>h _ rfl)
 fun _ h=>h _ rfl))
 fun _ h=>h _ rfl)
 fun _ h=>h _ rfl)
 fun _ h=>h _ rfl))
 fun _ h=>h _ rfl)
def q45_C (v:valsA q45_A) (K:Res→List Cell→Prop):Prop:=∀ r:Bool,r=q45_F v.1 v.2.1→K (.one (.v .bool r)) []
def q45_S:App:=specW q45_A q45_C
theorem q45_wv (K:Res→List Cell→Prop):∀ v:valsA q45_A,runF tb (getG q45_G) [] Tryz.f14 [true] (mkA q45_A v) K=q45_raw v.1 v.2.1 K
  | (a0,b1,())=>by kernel_rfl
theorem q45_ok:AppOk Tryz.prog 14 q45_S:=
  AppOk.specW (spec_ok ((runF_ok tb_M tb_ok q45_Gok (LabsOk.nil) (f:=14) (fn:=Tryz.f14) (by kernel_rfl) (by kernel_rfl) (by kernel_rfl) [true])) fun v K hw h=>(q45_wv K v).mpr (q45_sp v.1 v.2.1 K hw h))

end Go.VE
namespace Go.VE
theorem sameA_x (a b:Adr):q27_F a b=true↔a=b:=by
  obtain ⟨a1,a2,a3,a4,a5,a6⟩:=a
  obtain ⟨b1,b2,b3,b4,b5,b6⟩:=b
  simp [q27_F,q74_F,Prod.mk.injEq]
theorem same_x (x y:ExD):q75_F x y=true↔x=y:=by
  obtain ⟨a1,a2,a3,a4,a5,a6,a7,a8,a9,a10⟩:=x
  obtain ⟨b1,b2,b3,b4,b5,b6,b7,b8,b9,b10⟩:=y
  simp [q75_F,sameA_x,q74_F,Prod.mk.injEq]
theorem sameA_r (a b:Adr):q11_F a b=true↔a=b:=by
  obtain ⟨a1,a2,a3,a4,a5,a6⟩:=a
  obtain ⟨b1,b2,b3,b4,b5,b6⟩:=b
  simp [q11_F,Prod.mk.injEq]
theorem same_r (x y:ExD):q45_F x y=true↔x=y:=by
  obtain ⟨a1,a2,a3,a4,a5,a6,a7,a8,a9,a10⟩:=x
  obtain ⟨b1,b2,b3,b4,b5,b6,b7,b8,b9,b10⟩:=y
  simp [q45_F,sameA_r,Prod.mk.injEq]
end Go.VE
namespace Go.VE
set_option maxRecDepth 20000
open Go Go.Proofs
def q46_G:List (Nat×App):=[]
theorem q46_Gok:GOk Tryz.prog (getG q46_G):=GOk.nil
def q46_raw (x0:Int) (y1:Int) (K:Res→List Cell→Prop):Prop:=
 K (.tup [.v (.int .u64) (IntKind.wrap .u64 ((IntKind.wrap .u64 ((IntKind.wrap .u64 ((Int.fdiv x0 (2 ^ (min (Int.toNat (32:Int)) (IntKind.bits .u64)))) * (Int.fdiv y1 (2 ^ (min (Int.toNat (32:Int)) (IntKind.bits .u64))))))+(Int.fdiv (IntKind.wrap .u64 ((IntKind.wrap .u64 ((Int.fdiv x0 (2 ^ (min (Int.toNat (32:Int)) (IntKind.bits .u64)))) * (ibits .and .u64 y1 (4294967295:Int))))+(Int.fdiv (IntKind.wrap .u64 ((ibits .and .u64 x0 (4294967295:Int)) * (ibits .and .u64 y1 (4294967295:Int)))) (2 ^ (min (Int.toNat (32:Int)) (IntKind.bits .u64)))))) (2 ^ (min (Int.toNat (32:Int)) (IntKind.bits .u64))))))+(Int.fdiv (IntKind.wrap .u64 ((ibits .and .u64 (IntKind.wrap .u64 ((IntKind.wrap .u64 ((Int.fdiv x0 (2 ^ (min (Int.toNat (32:Int)) (IntKind.bits .u64)))) * (ibits .and .u64 y1 (4294967295:Int))))+(Int.fdiv (IntKind.wrap .u64 ((ibits .and .u64 x0 (4294967295:Int)) * (ibits .and .u64 y1 (4294967295:Int)))) (2 ^ (min (Int.toNat (32:Int)) (IntKind.bits .u64)))))) (4294967295:Int))+(IntKind.wrap .u64 ((ibits .and .u64 x0 (4294967295:Int)) * (Int.fdiv y1 (2 ^ (min (Int.toNat (32:Int)) (IntKind.bits .u64)))))))) (2 ^ (min (Int.toNat (32:Int)) (IntKind.bits .u64)))))),.v (.int .u64) (IntKind.wrap .u64 (x0 * y1))]) []
def q46_A:List AS:=[.v (.int .u64),.v (.int .u64)]

def q46_F (x0:Int) (y1:Int):Int×Int:=
 ((IntKind.wrap .u64 ((IntKind.wrap .u64 ((IntKind.wrap .u64 ((Int.fdiv x0 (2 ^ (min (Int.toNat (32:Int)) (IntKind.bits .u64)))) * (Int.fdiv y1 (2 ^ (min (Int.toNat (32:Int)) (IntKind.bits .u64))))))+(Int.fdiv (IntKind.wrap .u64 ((IntKind.wrap .u64 ((Int.fdiv x0 (2 ^ (min (Int.toNat (32:Int)) (IntKind.bits .u64)))) * (ibits .and .u64 y1 (4294967295:Int))))+(Int.fdiv (IntKind.wrap .u64 ((ibits .and .u64 x0 (4294967295:Int)) * (ibits .and .u64 y1 (4294967295:Int)))) (2 ^ (min (Int.toNat (32:Int)) (IntKind.bits .u64)))))) (2 ^ (min (Int.toNat (32:Int)) (IntKind.bits .u64))))))+(Int.fdiv (IntKind.wrap .u64 ((ibits .and .u64 (IntKind.wrap .u64 ((IntKind.wrap .u64 ((Int.fdiv x0 (2 ^ (min (Int.toNat (32:Int)) (IntKind.bits .u64)))) * (ibits .and .u64 y1 (4294967295:Int))))+(Int.fdiv (IntKind.wrap .u64 ((ibits .and .u64 x0 (4294967295:Int)) * (ibits .and .u64 y1 (4294967295:Int)))) (2 ^ (min (Int.toNat (32:Int)) (IntKind.bits .u64)))))) (4294967295:Int))+(IntKind.wrap .u64 ((ibits .and .u64 x0 (4294967295:Int)) * (Int.fdiv y1 (2 ^ (min (Int.toNat (32:Int)) (IntKind.bits .u64)))))))) (2 ^ (min (Int.toNat (32:Int)) (IntKind.bits .u64)))))),(IntKind.wrap .u64 (x0 * y1)))
theorem q46_sp (x0:Int) (y1:Int) (K:Res→List Cell→Prop) (_:wfA q46_A (x0,y1,())) (h:∀ r:Int×Int,r=q46_F x0 y1→K (.tup [.v (.int .u64) r.1,.v (.int .u64) r.2]) []):q46_raw x0 y1 K:=
 h _ rfl
def q46_C (v:valsA q46_A) (K:Res→List Cell→Prop):Prop:=∀ r:Int×Int,r=q46_F v.1 v.2.1→K (.tup [.v (.int .u64) r.1,.v (.int .u64) r.2]) []
def q46_S:App:=specW q46_A q46_C
theorem q46_wv (K:Res→List Cell→Prop):∀ v:valsA q46_A,runF tb (getG q46_G) [] Tryz.f142 [true,true] (mkA q46_A v) K=q46_raw v.1 v.2.1 K
  | (x0,y1,())=>by kernel_rfl
theorem q46_ok:AppOk Tryz.prog 142 q46_S:=
  AppOk.specW (spec_ok ((runF_ok tb_M tb_ok q46_Gok (LabsOk.nil) (f:=142) (fn:=Tryz.f142) (by kernel_rfl) (by kernel_rfl) (by kernel_rfl) [true,true])) fun v K hw h=>(q46_wv K v).mpr (q46_sp v.1 v.2.1 K hw h))
theorem and_mask {a:Int} (h0:0≤a) (h1:a<18446744073709551616):ibits .and .u64 a (4294967295:Int)=a % 4294967296:=by
  obtain ⟨n,rfl⟩:=Int.eq_ofNat_of_zero_le h0
  have hn:n<18446744073709551616:=by omega
  have e:(BitVec.ofInt 64 (n:Int) &&& BitVec.ofInt 64 4294967295).toNat=n % 4294967296:=by
    rw [BitVec.toNat_and]
    have e1:(BitVec.ofInt 64 (n:Int)).toNat=n:=by rw [BitVec.ofInt_natCast,BitVec.toNat_ofNat]; exact Nat.mod_eq_of_lt hn
    have e2:(BitVec.ofInt 64 4294967295).toNat=2 ^ 32 - 1:=by decide
    rw [e1,e2,Nat.and_two_pow_sub_one_eq_mod]
  show IntKind.wrap .u64 ((BitVec.ofInt 64 (n:Int) &&& BitVec.ofInt 64 4294967295).toNat:Int)=_
  rw [e,wrap_u64 (by omega) (by omega)]
  omega
theorem shr32 (a:Int):Int.fdiv a (2 ^ (min (Int.toNat (32:Int)) (IntKind.bits .u64)))=a / 4294967296:=by
  have e:(2 ^ (min (Int.toNat (32:Int)) (IntKind.bits .u64)):Int)=4294967296:=by decide
  rw [e,Int.fdiv_eq_ediv_of_nonneg _ (by omega)]
theorem mul_small {a b:Int} (ha:0≤a) (ha':a<4294967296) (hb:0≤b) (hb':b<4294967296):q46_F a b=(0,a * b):=by
  have hab:0≤a * b:=Int.mul_nonneg ha hb
  have hab':a * b≤4294967295 * 4294967295:=Int.le_trans (Int.mul_le_mul_of_nonneg_right (by omega) hb) (Int.mul_le_mul_of_nonneg_left (by omega) (by omega))
  unfold q46_F
  simp only [shr32]
  have e1:a / 4294967296=0:=by omega
  have e2:b / 4294967296=0:=by omega
  have e3:ibits .and .u64 a (4294967295:Int)=a:=by rw [and_mask ha (by omega)]; omega
  have e4:ibits .and .u64 b (4294967295:Int)=b:=by rw [and_mask hb (by omega)]; omega
  rw [e1,e2,e3,e4,wrap_u64 (n:=a * b) hab (by omega)]
  have e5:IntKind.wrap .u64 (0 * b)=0:=by rw [Int.zero_mul]; exact wrap_u64 (by omega) (by omega)
  have e6:IntKind.wrap .u64 (a * 0)=0:=by rw [Int.mul_zero]; exact wrap_u64 (by omega) (by omega)
  have e7:IntKind.wrap .u64 (0 * 0)=0:=by rw [Int.mul_zero]; exact wrap_u64 (by omega) (by omega)
  rw [e5,e6,e7]
  simp only [Int.zero_add,Int.add_zero]
  rw [wrap_u64 (n:=a * b / 4294967296) (by omega) (by omega),and_mask (by omega) (by omega)]
  have e8:a * b / 4294967296 / 4294967296=0:=by omega
  have e9:a * b / 4294967296 % 4294967296 / 4294967296=0:=by omega
  rw [e8,wrap_u64 (n:=a * b / 4294967296 % 4294967296) (by omega) (by omega),wrap_u64 (n:=(0:Int)) (by omega) (by omega),e9,wrap_u64 (by omega) (by omega)]
  rfl

def q60_G:List (Nat×App):=[(142,q46_S)]
theorem q60_Gok:GOk Tryz.prog (getG q60_G):=GOk.cons q46_ok (GOk.nil)
def q60_raw (x0:Int) (y1:Int) (K:Res→List Cell→Prop):Prop:=
 ∀ (r1:Int×Int),r1=q46_F x0 y1→(
 wfR (.tup [.v (.int .u64) r1.1,.v (.int .u64) r1.2])→(
 K (.tup [.v (.int .u64) r1.1,.v (.int .u64) r1.2]) []))
def q60_A:List AS:=[.v (.int .u64),.v (.int .u64)]

def q60_F (x0:Int) (y1:Int):Int×Int:=
 let r1:Int×Int:=q46_F x0 y1
 (r1.1,r1.2)
theorem q60_sp (x0:Int) (y1:Int) (K:Res→List Cell→Prop) (_:wfA q60_A (x0,y1,())) (h:∀ r:Int×Int,r=q60_F x0 y1→K (.tup [.v (.int .u64) r.1,.v (.int .u64) r.2]) []):q60_raw x0 y1 K:=
 al (h _ rfl)
def q60_C (v:valsA q60_A) (K:Res→List Cell→Prop):Prop:=∀ r:Int×Int,r=q60_F v.1 v.2.1→K (.tup [.v (.int .u64) r.1,.v (.int .u64) r.2]) []
def q60_S:App:=specW q60_A q60_C
theorem q60_wv (K:Res→List Cell→Prop):∀ v:valsA q60_A,runF tb (getG q60_G) [] Tryz.f92 [true,true] (mkA q60_A v) K=q60_raw v.1 v.2.1 K
  | (x0,y1,())=>by kernel_rfl
theorem q60_ok:AppOk Tryz.prog 92 q60_S:=
  AppOk.specW (spec_ok ((runF_ok tb_M tb_ok q60_Gok (LabsOk.nil) (f:=92) (fn:=Tryz.f92) (by kernel_rfl) (by kernel_rfl) (by kernel_rfl) [true,true])) fun v K hw h=>(q60_wv K v).mpr (q60_sp v.1 v.2.1 K hw h))

end Go.VE
namespace Go.VE
open Go Go.Proofs
def q3_P (n:Int):Prop:=room_P n
def q3_R (n:Int) (r:LI):Prop:=room_R n r
def q3_S:App:=specW [.v yI] fun v K=>q3_P v.1∧∀ r:LI,q3_R v.1 r→K (.one (.fr 5 yU r)) []
theorem q3_ok:AppOk Tryz.prog 93 q3_S:=
  ext_room tb_ok (t:=22) (ps:=#[3]) (fn:=Tryz.f93) rfl rfl (by kernel_rfl) (by kernel_rfl) (by kernel_rfl) (by kernel_rfl) (by kernel_rfl) rfl

end Go.VE
namespace Go.VE
set_option maxRecDepth 20000
open Go Go.Proofs
def q64_G:List (Nat×App):=[(92,q60_S),(93,q3_S)]
theorem q64_Gok:GOk Tryz.prog (getG q64_G):=GOk.cons q60_ok (GOk.cons q3_ok (GOk.nil))
theorem q64_st:storesC (bodyOf Tryz.f49)=true:=by kernel_rfl
def q64_d0:List LS:=[.v 7 yI,.v 8 yI,.o 9 77 5 yU,.v 10 yI]
def q64_d0x0:List LS:=[.o 9 77 5 yU]
def q64_dx0:DX:=⟨none,none,[(0,q64_d0x0)]⟩
def q64_y0x0 (k:Ex→St→Prop) (nb9:LI):Prop:=wfD q64_d0x0 (nb9,())→k (.exit 0) (mkD 77 q64_d0x0 (nb9,()))
def q64_T0 (Y:Int→Int→LI→Int→Prop) (kx0:LI→Prop) (n7:Int) (chunkMax8:Int) (nb9:LI) (bp10:Int):Prop:=
 bif (decide (bp10<n7)) then
 (
 bif decide (0≤bp10∧bp10≤(List.length nb9:Int)) then
 bif decide (0≤(mn bp10 chunkMax8)∧(mn bp10 chunkMax8)≤(List.length nb9:Int)) then
 Y n7 chunkMax8 (ovr (Int.toNat bp10) (List.take (List.length (List.drop (Int.toNat bp10) nb9)) (List.take (Int.toNat (mn bp10 chunkMax8)) nb9)) nb9) (IntKind.wrap .i64 (bp10+(mn (List.length (List.take (Int.toNat (mn bp10 chunkMax8)) nb9):Int) (List.length (List.drop (Int.toNat bp10) nb9):Int))))
 else False
 else False)∧(
 bif decide (0≤(mn bp10 chunkMax8)∧(mn bp10 chunkMax8)≤(List.length nb9:Int)) then
 bif decide (0≤bp10∧bp10≤(List.length nb9:Int)) then
 Y n7 chunkMax8 (ovr (Int.toNat bp10) (List.take (List.length (List.drop (Int.toNat bp10) nb9)) (List.take (Int.toNat (mn bp10 chunkMax8)) nb9)) nb9) (IntKind.wrap .i64 (bp10+(mn (List.length (List.take (Int.toNat (mn bp10 chunkMax8)) nb9):Int) (List.length (List.drop (Int.toNat bp10) nb9):Int))))
 else False
 else False)∧True
 else
 kx0 nb9
def q64_L0 (kx0:LI→Prop):Nat→Int→Int→LI→Int→Prop
  | 0,_,_,_,_=>False
  | n+1,n7,chunkMax8,nb9,bp10=>wfD q64_d0 (n7,chunkMax8,nb9,bp10,())→q64_T0 (q64_L0 kx0 n) kx0 n7 chunkMax8 nb9 bp10
def q64_c0:Pce:=ex tb (getG q64_G) [] (at' (bodyOf Tryz.f49) [0,0,0,1,1,1,1,1,1,1,1,1,1,1]) [0,0,0,1,1,1,1,1,1,1,1,1,1,1]
def q64_g0 (k:Ex→St→Prop) (n:Nat) (v:vals q64_d0):Prop:=q64_L0 (q64_y0x0 k) n v.1 v.2.1 v.2.2.1 v.2.2.2.1
theorem q64_s0 (k:Ex→St→Prop) (Y:vals q64_d0→Prop):∀ v:vals q64_d0,q64_c0 (mkD 77 q64_d0 v) (lpK 77 q64_d0 q64_dx0 k Y)=q64_T0 (fun n7 chunkMax8 nb9 bp10=>Y (n7,chunkMax8,nb9,bp10,())) (q64_y0x0 k) v.1 v.2.1 v.2.2.1 v.2.2.2.1
  | (n7,chunkMax8,nb9,bp10,())=>by kernel_rfl
theorem q64_v0 (k:Ex→St→Prop):∀ (n:Nat) (v:vals q64_d0),lpD 77 q64_d0 q64_dx0 q64_c0 k n v=q64_g0 k n v
  | 0,(n7,chunkMax8,nb9,bp10,())=>rfl
  | n+1,(n7,chunkMax8,nb9,bp10,())=>congrArg (fun Z:Prop=>wfD q64_d0 (n7,chunkMax8,nb9,bp10,())→Z) ((q64_s0 k _ (n7,chunkMax8,nb9,bp10,())).trans (congrArg (fun Y=>q64_T0 Y (q64_y0x0 k) n7 chunkMax8 nb9 bp10) (funext fun n7=>funext fun chunkMax8=>funext fun nb9=>funext fun bp10=>q64_v0 k n (n7,chunkMax8,nb9,bp10,()))))
def q64_X0:Pce:=fun st k=>ckD 77 q64_d0 st fun v=>wfD q64_d0 v→∃ n,q64_g0 k n v
theorem q64_x0:SemOk Tryz.prog (at' (bodyOf Tryz.f49) [0,0,1,1,1,1,1,1,1,1,1,1,1]) q64_X0:=
  (SemOk.loop (ex_sound tb_M tb_ok q64_Gok (LabsOk.nil) (at' (bodyOf Tryz.f49) [0,0,0,1,1,1,1,1,1,1,1,1,1,1]) [0,0,0,1,1,1,1,1,1,1,1,1,1,1] rfl (storesC_at q64_st [0,0,0,1,1,1,1,1,1,1,1,1,1,1])) 77 q64_d0 q64_dx0).mono fun st k h=>ckD_mono h fun v hv hw=>(hv hw).elim fun n hn=>⟨n,Eq.mpr (q64_v0 k n v) hn⟩
def q64_B0:Labs:=([0,0,1,1,1,1,1,1,1,1,1,1,1],q64_X0)::[]
theorem q64_b0:LabsOk Tryz.prog (bodyOf Tryz.f49) q64_B0:=LabsOk.cons q64_x0 (LabsOk.nil)
def q64_d1:List LS:=[.v 0 yB,.v 7 yI,.v 8 yI]
def q64_d1r:List LS:=[.o 4 37 5 yU]
def q64_dx1:DX:=⟨none,some q64_d1r,[]⟩
def q64_y1r (k:Ex→St→Prop) (x4:LI):Prop:=wfD q64_d1r (x4,())→k .ret (mkD 77 q64_d1r (x4,()))
def q64_J1 (kr:LI→Prop) (b0:LI) (n7:Int) (chunkMax8:Int):Prop:=
 q3_P n7∧(
 ∀ (r2:LI),q3_R n7 r2→(
 wfR (.one (.fr 5 yU r2))→(
 bif decide (0≤n7∧n7≤n7∧n7≤(List.length r2:Int)) then
 (wfD q64_d0 (n7,chunkMax8,(ovr 0 (List.take (List.length (List.take (Int.toNat n7) r2)) b0) (List.take (Int.toNat n7) r2)),(mn (List.length b0:Int) (List.length (List.take (Int.toNat n7) r2):Int)),())→∃ n,q64_L0 (fun (nb9:LI)=>wfD q64_d0x0 (nb9,())→(
 kr nb9)) n n7 chunkMax8 (ovr 0 (List.take (List.length (List.take (Int.toNat n7) r2)) b0) (List.take (Int.toNat n7) r2)) (mn (List.length b0:Int) (List.length (List.take (Int.toNat n7) r2):Int)))
 else False)))
def q64_g1 (k:Ex→St→Prop) (v:vals q64_d1):Prop:=q64_J1 (q64_y1r k) v.1 v.2.1 v.2.2.1
theorem q64_v1 (k:Ex→St→Prop):∀ v:vals q64_d1,ex tb (getG q64_G) q64_B0 (at' (bodyOf Tryz.f49) [1,1,1,1,1,1,1,1,1]) [1,1,1,1,1,1,1,1,1] (mkD 77 q64_d1 v) (wk 77 q64_dx1 k)=q64_g1 k v
  | (b0,n7,chunkMax8,())=>by kernel_rfl
def q64_X1:Pce:=fun st k=>ckD 77 q64_d1 st fun v=>wfD q64_d1 v→q64_g1 k v
theorem q64_x1:SemOk Tryz.prog (at' (bodyOf Tryz.f49) [1,1,1,1,1,1,1,1,1]) q64_X1:=
  (SemOk.wk (N:=77) (ds:=q64_d1) (dx:=q64_dx1) (ex_sound tb_M tb_ok q64_Gok (q64_b0) (at' (bodyOf Tryz.f49) [1,1,1,1,1,1,1,1,1]) [1,1,1,1,1,1,1,1,1] rfl (storesC_at q64_st [1,1,1,1,1,1,1,1,1]))).mono fun st k h=>ckD_mono h fun v hv hw=>Eq.mpr (q64_v1 k v) (hv hw)
def q64_B1:Labs:=([1,1,1,1,1,1,1,1,1],q64_X1)::q64_B0
theorem q64_b1:LabsOk Tryz.prog (bodyOf Tryz.f49) q64_B1:=LabsOk.cons q64_x1 (q64_b0)
def q64_d2:List LS:=[.v 0 yB,.v 6 (.int .u64)]
def q64_d2r:List LS:=[.o 4 37 5 yU]
def q64_dx2:DX:=⟨none,some q64_d2r,[]⟩
def q64_y2r (k:Ex→St→Prop) (x4:LI):Prop:=wfD q64_d2r (x4,())→k .ret (mkD 77 q64_d2r (x4,()))
def q64_J2 (kr:LI→Prop) (b0:LI) (lo6:Int):Prop:=
 bif (decide ((List.length b0:Int)=(0:Int))) then
 kr ([]:LI)
 else
 bif (decide ((8192:Int)<(IntKind.wrap .i64 lo6))) then
 bif decide ((List.length b0:Int)≠0) then
 bif (decide ((IntKind.wrap .i64 ((IntKind.wrap .i64 (Int.tdiv (8192:Int) (List.length b0:Int))) * (List.length b0:Int)))=(0:Int))) then
 (wfD q64_d1 (b0,(IntKind.wrap .i64 lo6),(List.length b0:Int),())→q64_J1 (fun (x4:LI)=>wfD q64_d1r (x4,())→(
 kr x4)) b0 (IntKind.wrap .i64 lo6) (List.length b0:Int))
 else
 (wfD q64_d1 (b0,(IntKind.wrap .i64 lo6),(IntKind.wrap .i64 ((IntKind.wrap .i64 (Int.tdiv (8192:Int) (List.length b0:Int))) * (List.length b0:Int))),())→q64_J1 (fun (x4:LI)=>wfD q64_d1r (x4,())→(
 kr x4)) b0 (IntKind.wrap .i64 lo6) (IntKind.wrap .i64 ((IntKind.wrap .i64 (Int.tdiv (8192:Int) (List.length b0:Int))) * (List.length b0:Int))))
 else False
 else
 (wfD q64_d1 (b0,(IntKind.wrap .i64 lo6),(IntKind.wrap .i64 lo6),())→q64_J1 (fun (x4:LI)=>wfD q64_d1r (x4,())→(
 kr x4)) b0 (IntKind.wrap .i64 lo6) (IntKind.wrap .i64 lo6))
def q64_g2 (k:Ex→St→Prop) (v:vals q64_d2):Prop:=q64_J2 (q64_y2r k) v.1 v.2.1
theorem q64_v2 (k:Ex→St→Prop):∀ v:vals q64_d2,ex tb (getG q64_G) q64_B1 (at' (bodyOf Tryz.f49) [1,1,1,1,1]) [1,1,1,1,1] (mkD 77 q64_d2 v) (wk 77 q64_dx2 k)=q64_g2 k v
  | (b0,lo6,())=>by kernel_rfl
def q64_X2:Pce:=fun st k=>ckD 77 q64_d2 st fun v=>wfD q64_d2 v→q64_g2 k v
theorem q64_x2:SemOk Tryz.prog (at' (bodyOf Tryz.f49) [1,1,1,1,1]) q64_X2:=
  (SemOk.wk (N:=77) (ds:=q64_d2) (dx:=q64_dx2) (ex_sound tb_M tb_ok q64_Gok (q64_b1) (at' (bodyOf Tryz.f49) [1,1,1,1,1]) [1,1,1,1,1] rfl (storesC_at q64_st [1,1,1,1,1]))).mono fun st k h=>ckD_mono h fun v hv hw=>Eq.mpr (q64_v2 k v) (hv hw)
def q64_B2:Labs:=([1,1,1,1,1],q64_X2)::q64_B1
theorem q64_b2:LabsOk Tryz.prog (bodyOf Tryz.f49) q64_B2:=LabsOk.cons q64_x2 (q64_b1)
def q64_d3:List LS:=[.v 0 yB,.v 1 yI]
def q64_d3r:List LS:=[.o 4 37 5 yU]
def q64_dx3:DX:=⟨none,some q64_d3r,[]⟩
def q64_y3r (k:Ex→St→Prop) (x4:LI):Prop:=wfD q64_d3r (x4,())→k .ret (mkD 77 q64_d3r (x4,()))
def q64_J3 (kr:LI→Prop) (b0:LI) (count1:Int):Prop:=
 ∀ (r1:Int×Int),r1=q60_F (IntKind.wrap .u64 (List.length b0:Int)) (IntKind.wrap .u64 count1)→(
 wfR (.tup [.v (.int .u64) r1.1,.v (.int .u64) r1.2])→(
 bif (decide ((0:Int)<r1.1)) then
 False
 else
 bif (decide ((9223372036854775807:Int)<r1.2)) then
 False
 else
 (wfD q64_d2 (b0,r1.2,())→q64_J2 (fun (x4:LI)=>wfD q64_d2r (x4,())→(
 kr x4)) b0 r1.2)))
def q64_g3 (k:Ex→St→Prop) (v:vals q64_d3):Prop:=q64_J3 (q64_y3r k) v.1 v.2.1
theorem q64_v3 (k:Ex→St→Prop):∀ v:vals q64_d3,ex tb (getG q64_G) q64_B2 (at' (bodyOf Tryz.f49) [1,1,1]) [1,1,1] (mkD 77 q64_d3 v) (wk 77 q64_dx3 k)=q64_g3 k v
  | (b0,count1,())=>by kernel_rfl
def q64_X3:Pce:=fun st k=>ckD 77 q64_d3 st fun v=>wfD q64_d3 v→q64_g3 k v
theorem q64_x3:SemOk Tryz.prog (at' (bodyOf Tryz.f49) [1,1,1]) q64_X3:=
  (SemOk.wk (N:=77) (ds:=q64_d3) (dx:=q64_dx3) (ex_sound tb_M tb_ok q64_Gok (q64_b2) (at' (bodyOf Tryz.f49) [1,1,1]) [1,1,1] rfl (storesC_at q64_st [1,1,1]))).mono fun st k h=>ckD_mono h fun v hv hw=>Eq.mpr (q64_v3 k v) (hv hw)
def q64_B3:Labs:=([1,1,1],q64_X3)::q64_B2
theorem q64_b3:LabsOk Tryz.prog (bodyOf Tryz.f49) q64_B3:=LabsOk.cons q64_x3 (q64_b2)
def q64_raw (b0:LI) (count1:Int) (K:Res→List Cell→Prop):Prop:=
 bif (decide (count1=(0:Int))) then
 K (.one (.fr 5 yU ([]:LI))) []
 else
 bif (decide (count1<(0:Int))) then
 False
 else
 (wfD q64_d3 (b0,count1,())→q64_J3 (fun (x4:LI)=>wfD q64_d3r (x4,())→(
 K (.one (.fr 5 yU x4)) [])) b0 count1)
def q64_A:List AS:=[.v yB,.v yI]
def repB (b:LI):Nat→LI
  | 0=>[]
  | n+1=>b++repB b n
theorem repB_length (b:LI):∀ n,(repB b n).length=n * b.length
  | 0=>by simp [repB]
  | n+1=>by rw [repB,List.length_append,repB_length b n,Nat.succ_mul]; omega
theorem repB_get (b:LI):∀ (n i:Nat),i<n * b.length→(repB b n)[i]?=b[i % b.length]?
  | 0,i,h=>by simp at h
  | n+1,i,h=>by
    rw [repB]
    by_cases hi:i<b.length
    · rw [List.getElem?_append_left hi,Nat.mod_eq_of_lt hi]
    · rw [List.getElem?_append_right (by omega),repB_get b n _ (by rw [Nat.succ_mul] at h; omega)]
      congr 1
      exact (Nat.mod_eq_sub_mod (by omega)).symm
def q64_P (b:LI) (count:Int):Prop:=0≤count∧count<4294967296∧b.length<4294967296∧(b.length:Int) * count≤(lim:Int)
def q64_F (b:LI) (count:Int):LI:=repB b count.toNat
def RInv (b nb:LI) (n bp:Nat):Prop:=nb.length=n∧∀ i,i<bp→nb[i]?=b[i % b.length]?
theorem rinv_step {b nb:LI} {n bp c:Nat} (hb:0<b.length) (hi:RInv b nb n bp) (hd:b.length ∣ bp) (hc:c≤bp) (hn:bp+c≤n):RInv b (ovr bp (nb.take c) nb) n (bp+c):=by
  have hl:(nb.take c).length=c:=by rw [List.length_take,hi.1]; omega
  refine ⟨by rw [ovr_length]; exact hi.1,fun i hlt=>?_⟩
  rw [ovr_get _ _ _ _ (by rw [hi.1]; omega),hl]
  by_cases h:bp≤i
  · rw [if_pos ⟨h,hlt⟩,List.getElem?_take,if_pos (by omega),hi.2 _ (by omega)]
    congr 1
    obtain ⟨q,rfl⟩:=hd
    have e:i=(i - b.length * q)+b.length * q:=by omega
    conv=>rhs; rw [e,Nat.add_mul_mod_self_left]
  · rw [if_neg (by omega)]; exact hi.2 i (by omega)
theorem q64_l0 (kx0:LI→Prop) (b:LI) (hb:0<b.length) (n cm:Nat) (hn:n≤lim) (hnd:b.length ∣ n) (hcm:0<cm) (hcd:b.length ∣ cm) (hk:∀ nb,RInv b nb n n→kx0 nb) :
    ∀ (m bp:Nat) (nb:LI),n<m+bp→0<bp→b.length ∣ bp→bp≤n→RInv b nb n bp→q64_L0 kx0 m (n:Int) (cm:Int) nb (bp:Int)
  | 0,bp,nb,h,h2,h3,h4,h5=>by omega
  | m+1,bp,nb,h,h2,h3,h4,h5=>by
    intro _
    unfold q64_T0
    refine brn (fun hlt=>?_) (fun hge=>?_)
    · have hlt:bp<n:=by omega
      have hmn:mn (bp:Int) (cm:Int)=((min bp cm:Nat):Int):=by
        unfold mn
        by_cases hc:(cm:Int)<bp
        · simp only [hc,decide_true,cond_true]; omega
        · simp only [hc,decide_false,cond_false]; omega
      have hmd:b.length ∣ min bp cm:=by
        rcases Nat.le_total bp cm with h | h
        · rw [Nat.min_eq_left h]; exact h3
        · rw [Nat.min_eq_right h]; exact hcd
      -- so much is copied
      have hcl:(List.take (Int.toNat (mn (bp:Int) (cm:Int))) nb).length=min bp cm:=by rw [hmn,Int.toNat_natCast,List.length_take,h5.1]; omega
      have hdl:(List.drop (Int.toNat (bp:Int)) nb).length=n - bp:=by rw [Int.toNat_natCast,List.length_drop,h5.1]
      have hc2:mn (List.length (List.take (Int.toNat (mn (bp:Int) (cm:Int))) nb):Int) (List.length (List.drop (Int.toNat (bp:Int)) nb):Int)=((min (min bp cm) (n - bp):Nat):Int):=by
        rw [hcl,hdl]
        unfold mn
        by_cases hc:((n - bp:Nat):Int)<((min bp cm:Nat):Int)
        · simp only [hc,decide_true,cond_true]; omega
        · simp only [hc,decide_false,cond_false]; omega
      have key:q64_L0 kx0 m (n:Int) (cm:Int) (ovr (Int.toNat (bp:Int)) (List.take (List.length (List.drop (Int.toNat (bp:Int)) nb)) (List.take (Int.toNat (mn (bp:Int) (cm:Int))) nb)) nb) (IntKind.wrap .i64 ((bp:Int)+(mn (List.length (List.take (Int.toNat (mn (bp:Int) (cm:Int))) nb):Int) (List.length (List.drop (Int.toNat (bp:Int)) nb):Int)))):=by
        have hlim:n≤1099511627776:=hn
        rw [hc2,hdl,hmn,Int.toNat_natCast,Int.toNat_natCast,List.take_take,wrap_i64 (by omega) (by omega),show min (n - bp) (min bp cm)=min (min bp cm) (n - bp) from Nat.min_comm _ _]
        have hdvd:b.length ∣ min (min bp cm) (n - bp):=by
          rcases Nat.le_total (min bp cm) (n - bp) with h | h
          · rw [Nat.min_eq_left h]; exact hmd
          · rw [Nat.min_eq_right h]; exact Nat.dvd_sub hnd h3
        have hpos:0<min (min bp cm) (n - bp):=by omega
        have:=q64_l0 kx0 b hb n cm hn hnd hcm hcd hk m (bp+min (min bp cm) (n - bp)) _ (by omega) (by omega) (Nat.dvd_add h3 hdvd) (by omega) (rinv_step hb h5 h3 (by omega) (by omega))
        simpa using this
      have a1:0≤(bp:Int)∧(bp:Int)≤(List.length nb:Int):=by rw [h5.1]; omega
      have a2:0≤mn (bp:Int) (cm:Int)∧mn (bp:Int) (cm:Int)≤(List.length nb:Int):=by rw [h5.1,hmn]; omega
      exact ⟨asrt a1 (asrt a2 key),asrt a2 (asrt a1 key),trivial⟩
    · obtain rfl:bp=n:=by omega
      exact hk nb h5
theorem q64_sp (b:LI) (count:Int) (K:Res→List Cell→Prop) (hw:wfA q64_A (b,count,())) (hp:q64_P b count) (h:∀ r:LI,r=q64_F b count→K (.one (.fr 5 yU r)) []):q64_raw b count K:=by
  obtain ⟨h0,h1,h2,h3⟩:=hp
  obtain ⟨c,rfl⟩:=Int.eq_ofNat_of_zero_le h0
  unfold q64_F at h
  rw [Int.toNat_natCast] at h
  unfold q64_raw
  refine brn (fun hz=>h _ ?_) (fun hz=>brn (fun hn=>absurd hn (by omega)) (fun _ _=>?_))
  · obtain rfl:c=0:=by omega
    rfl
  unfold q64_J3
  intro r1 hr1 _
  have hmul:r1=(0,(b.length:Int) * (c:Int)):=by
    rw [hr1,wrap_u64 (by omega) (by omega),wrap_u64 (by omega) (by omega)]
    exact mul_small (by omega) (by omega) (by omega) (by omega)
  have hlc:(b.length:Int) * (c:Int)=((c * b.length:Nat):Int):=by rw [Int.mul_comm]; simp
  have hlim:((c * b.length:Nat):Int)≤1099511627776:=by rw [← hlc]; exact h3
  rw [hmul,hlc]
  refine brn (fun hn=>absurd hn (by simp)) (fun _=>brn (fun hn=>absurd hn (by show ¬ (9223372036854775807:Int)<((c * b.length:Nat):Int); omega)) (fun _ _=>?_))
  show q64_J2 _ b ((c * b.length:Nat):Int)
  unfold q64_J2
  refine brn (fun hz=>?_) (fun hz=>?_)
  · intro _ _
    refine h _ ?_
    have hb:b=[]:=List.eq_nil_of_length_eq_zero (by omega)
    subst hb
    clear h hlc hlim hmul hr1 hw h3
    have:∀ n,repB [] n=[]:=fun n=>List.eq_nil_of_length_eq_zero (by rw [repB_length]; simp)
    exact (this c).symm
  have hb:0<b.length:=by omega
  have hge:b.length≤c * b.length:=Nat.le_mul_of_pos_left _ (by omega)
  rw [wrap_i64 (n:=((c * b.length:Nat):Int)) (by omega) (by omega)]
  have main:∀ (cm:Nat),0<cm→b.length ∣ cm→q64_J1 (fun (x4:LI)=>wfD q64_d1r (x4,())→wfD q64_d2r (x4,())→wfD q64_d3r (x4,())→K (.one (.fr 5 yU x4)) []) b ((c * b.length:Nat):Int) (cm:Int):=by
    intro cm hcm hcd
    unfold q64_J1
    refine ⟨⟨by omega,hlim⟩,fun r2 hr2 _=>asrt ?_ fun _=>?_⟩
    · have:r2.length=c * b.length:=hr2
      rw [this]; omega
    have hr2:r2.length=c * b.length:=hr2
    have htk:List.take (Int.toNat ((c * b.length:Nat):Int)) r2=r2:=by rw [Int.toNat_natCast,← hr2,List.take_length]
    have hmn:mn (List.length b:Int) (List.length r2:Int)=(b.length:Int):=by
      unfold mn
      have:¬ ((r2.length:Int)<b.length):=by rw [hr2]; omega
      simp only [this,decide_false,cond_false]
    rw [htk,hmn]
    refine ⟨c * b.length+1,q64_l0 _ b hb (c * b.length) cm (by show _≤1099511627776; omega) ⟨c,Nat.mul_comm _ _⟩ hcm hcd (fun nb hnb _ h1 h2 h3=>h nb ?_) _ _ _ (by omega) hb (Nat.dvd_refl _) hge ⟨?_,fun i hi=>?_⟩⟩
    · refine List.ext_getElem? fun i=>?_
      by_cases hi:i<c * b.length
      · rw [hnb.2 i hi,repB_get b c i hi]
      · rw [List.getElem?_eq_none (by rw [hnb.1]; omega),List.getElem?_eq_none (by rw [repB_length]; omega)]
    · rw [ovr_length,hr2]
    · rw [ovr_get _ _ _ _ (by rw [hr2]; omega),List.take_of_length_le (by rw [hr2]; exact hge),if_pos (by omega),Nat.sub_zero,Nat.mod_eq_of_lt hi]
  refine brn (fun hbig=>asrt (by omega) ?_) (fun hsm _=>main (c * b.length) (by omega) ⟨c,Nat.mul_comm _ _⟩)
  have hq:Int.tdiv (8192:Int) (List.length b:Int)=((8192 / b.length:Nat):Int):=by
    rw [Int.tdiv_eq_ediv_of_nonneg (by omega)]; rfl
  have hq2:8192 / b.length≤8192:=Nat.div_le_self _ _
  have hq3:8192 / b.length * b.length≤8192:=Nat.div_mul_le_self _ _
  rw [hq]
  generalize 8192 / b.length=q at hq2 hq3 ⊢
  have hq4:(q:Int) * (b.length:Int)=((q * b.length:Nat):Int):=by simp
  rw [wrap_i64 (n:=(q:Int)) (by omega) (by omega),hq4]
  generalize hql:q * b.length=ql at hq3 ⊢
  rw [wrap_i64 (n:=(ql:Int)) (by omega) (by omega)]
  refine brn (fun hz _=>main b.length hb (Nat.dvd_refl _)) (fun hz _=>main ql (by omega) ⟨q,by rw [← hql]; exact Nat.mul_comm _ _⟩)

def q64_C (v:valsA q64_A) (K:Res→List Cell→Prop):Prop:=q64_P v.1 v.2.1∧∀ r:LI,r=q64_F v.1 v.2.1→K (.one (.fr 5 yU r)) []
def q64_S:App:=specW q64_A q64_C
theorem q64_wv (K:Res→List Cell→Prop):∀ v:valsA q64_A,runF tb (getG q64_G) q64_B3 Tryz.f49 [true] (mkA q64_A v) K=q64_raw v.1 v.2.1 K
  | (b0,count1,())=>by kernel_rfl
theorem q64_ok:AppOk Tryz.prog 49 q64_S:=
  AppOk.specW (spec_ok ((runF_ok tb_M tb_ok q64_Gok (q64_b3) (f:=49) (fn:=Tryz.f49) (by kernel_rfl) (by kernel_rfl) q64_st [true])) fun v K hw h=>(q64_wv K v).mpr (q64_sp v.1 v.2.1 K hw h.1 h.2))

end Go.VE
namespace Go.VE
open Go Go.Proofs
def q51_A:List AS:=[.v yI]
def q51_Pk (k:Nat) (n:Int):Prop:=0≤n∧n<10000000000∧n.toNat<10 ^ k∧0<k
def q51_F (n:Int):LI:=dec n.toNat
theorem q51_0 (n:Int):¬ q51_Pk 0 n:=fun h=>absurd h.2.2.2 (Nat.lt_irrefl 0)

def q51_Ck (k:Nat) (v:valsA q51_A) (K:Res→List Cell→Prop):Prop:=q51_Pk k v.1∧∀ r:LI,r=q51_F v.1→K (.one (.fr 5 yU r)) []
def q51_Sk (k:Nat):App:=specW q51_A (q51_Ck k)
def q51_G (k:Nat):List (Nat×App):=[(50,q51_Sk k)]
theorem q51_Gok (k:Nat) (h:AppOk Tryz.prog 50 (q51_Sk k)):GOk Tryz.prog (getG (q51_G k)):=GOk.cons h (GOk.nil)
def q51_raw (k:Nat) (n0:Int) (K:Res→List Cell→Prop):Prop:=
 bif (decide (n0<(10:Int))) then
 K (.one (.fr 5 yU ([(IntKind.wrap .u8 (IntKind.wrap .i64 ((48:Int)+n0)))]:LI))) []
 else
 q51_Pk k (IntKind.wrap .i64 (Int.tdiv n0 (10:Int)))∧(
 ∀ (r1:LI),r1=q51_F (IntKind.wrap .i64 (Int.tdiv n0 (10:Int)))→(
 wfR (.one (.fr 5 yU r1))→(
 bif decide (List.length r1+List.length ([(IntKind.wrap .u8 (IntKind.wrap .i64 ((48:Int)+(Int.tmod n0 (10:Int)))))]:LI)≤lim) then
 K (.one (.fr 5 yU (r1++([(IntKind.wrap .u8 (IntKind.wrap .i64 ((48:Int)+(Int.tmod n0 (10:Int)))))]:LI)))) []
 else False)))
theorem q51_walk (k:Nat) (n0:Int) (K:Res→List Cell→Prop):runF tb (getG (q51_G k)) [] Tryz.f50 [true] (mkA q51_A (n0,())) K=q51_raw k n0 K:=by kernel_rfl
theorem q51_wv (k:Nat) (K:Res→List Cell→Prop):∀ v:valsA q51_A,runF tb (getG (q51_G k)) [] Tryz.f50 [true] (mkA q51_A v) K=q51_raw k v.1 K
  | (n0,())=>q51_walk k n0 K

theorem q51_sp (k:Nat) (n0:Int) (K:Res→List Cell→Prop) (hw:wfA q51_A (n0,())) (hp:q51_Pk (k+1) n0) (h:∀ r:LI,r=q51_F n0→K (.one (.fr 5 yU r)) []):q51_raw k n0 K:=by
  obtain ⟨h0,h1,h2,_⟩:=hp
  unfold q51_raw
  obtain ⟨m,rfl⟩:=Int.eq_ofNat_of_zero_le h0
  have h1:m<10000000000:=by omega
  have h3:m<10 ^ (k+1):=h2
  refine brn (fun hlt=>?_) (fun hge=>?_)
  · rw [wrap_u8 (by rw [wrap_i64 (by omega) (by omega)]; omega) (by rw [wrap_i64 (by omega) (by omega)]; omega),wrap_i64 (by omega) (by omega)]
    exact h _ (by unfold q51_F; rw [Int.toNat_natCast,dec_small (by omega)])
  · have q1:Int.tdiv (m:Int) 10=((m / 10:Nat):Int):=rfl
    have q2:Int.tmod (m:Int) 10=((m % 10:Nat):Int):=rfl
    have hk:0<k:=by
      cases k with
      | zero=>simp at h3; omega
      | succ k=>omega
    rw [q1,q2,wrap_i64 (by omega) (by omega)]
    refine ⟨⟨by omega,by omega,by rw [Int.toNat_natCast]; rw [Nat.pow_succ] at h3; omega,hk⟩,fun r hr _=>?_⟩
    subst r
    have hl:=decL_len 10 (m / 10)
    unfold q51_F dec
    rw [Int.toNat_natCast,wrap_i64 (n:=48+((m % 10:Nat):Int)) (by omega) (by omega),wrap_u8 (by omega) (by omega)]
    refine asrt (by simp only [List.length_cons,List.length_nil]; unfold lim; omega) (h _ ?_)
    unfold q51_F
    rw [Int.toNat_natCast,dec_great (by omega) h1]
    rfl

theorem q51_okk:∀ k,AppOk Tryz.prog 50 (q51_Sk k)
  | 0=>AppOk.none fun v K h=>q51_0 v.1 h.1
  | k+1=>AppOk.specW (spec_ok (runF_ok tb_M tb_ok (q51_Gok k (q51_okk k)) LabsOk.nil (f:=50) (fn:=Tryz.f50) (by kernel_rfl) (by kernel_rfl) (by kernel_rfl) [true]) fun v K hw h=>(q51_wv k K v).mpr (q51_sp k v.1 K hw h.1 h.2))
def q51_P (n0:Int):Prop:=∃ k,q51_Pk k n0
def q51_C (v:valsA q51_A) (K:Res→List Cell→Prop):Prop:=q51_P v.1∧∀ r:LI,r=q51_F v.1→K (.one (.fr 5 yU r)) []
def q51_S:App:=specW q51_A q51_C
theorem q51_ok:AppOk Tryz.prog 50 q51_S:=fun ags K hs=>(AppOk.any (b:=q51_Ck) q51_okk) ags K (by
  obtain ⟨v,rfl,hb⟩:=rdA_of _ ags _ hs
  exact rdA_mk q51_A v (fun v=>∃ k,q51_Ck k v fun r o=>wfR r→K r o) (hb.1.elim fun k hk=>⟨k,hk,hb.2⟩))
end Go.VE
namespace Go.VE
set_option maxRecDepth 20000
open Go Go.Proofs
def q65_G:List (Nat×App):=[(49,q64_S),(50,q51_S),(48,q58_S),(13,q63_S),(51,q75_S)]
theorem q65_Gok:GOk Tryz.prog (getG q65_G):=GOk.cons q64_ok (GOk.cons q51_ok (GOk.cons q58_ok (GOk.cons q63_ok (GOk.cons q75_ok (GOk.nil)))))
theorem q65_st:storesC (bodyOf Tryz.f16)=true:=by kernel_rfl
def q65_d0:List LS:=[.b 1 8 [],.o 3 29 5 yU,.v 41 .bool,.c 8 tyX]
def q65_d0n:List LS:=[.b 1 8 [],.o 3 29 5 yU,.c 8 tyX]
def q65_dx0:DX:=⟨some q65_d0n,none,[]⟩
def q65_y0n (k:Ex→St→Prop) (out3:LI) (x1b:tEx):Prop:=wfD q65_d0n (out3,x1b,())→k .nrm (mkD 123 q65_d0n (out3,x1b,()))
def q65_J0 (kn:LI→tEx→Prop) (out3:LI) (x41:Bool) (x1b:tEx):Prop:=
 bif x41 then
 q64_P x1b.2.2.2.1 x1b.2.2.2.2.2.2.1∧(
 ∀ (r1:LI),r1=q64_F x1b.2.2.2.1 x1b.2.2.2.2.2.2.1→(
 wfR (.one (.fr 5 yU r1))→(
 bif decide (List.length out3+List.length r1≤lim) then
 kn (out3++r1) x1b
 else False)))
 else
 bif decide (List.length out3+List.length x1b.2.2.2.1≤lim) then
 kn (out3++x1b.2.2.2.1) x1b
 else False
def q65_g0 (k:Ex→St→Prop) (v:vals q65_d0):Prop:=q65_J0 (q65_y0n k) v.1 v.2.1 v.2.2.1
theorem q65_v0 (k:Ex→St→Prop):∀ v:vals q65_d0,ex tb (getG q65_G) [] (at' (bodyOf Tryz.f16) [1,0,1,0,1,1,1,1]) [1,0,1,0,1,1,1,1] (mkD 123 q65_d0 v) (wk 123 q65_dx0 k)=q65_g0 k v
  | (out3,x41,x1b,())=>by kernel_rfl
def q65_X0:Pce:=fun st k=>ckD 123 q65_d0 st fun v=>wfD q65_d0 v→q65_g0 k v
theorem q65_x0:SemOk Tryz.prog (at' (bodyOf Tryz.f16) [1,0,1,0,1,1,1,1]) q65_X0:=
  (SemOk.wk (N:=123) (ds:=q65_d0) (dx:=q65_dx0) (ex_sound tb_M tb_ok q65_Gok (LabsOk.nil) (at' (bodyOf Tryz.f16) [1,0,1,0,1,1,1,1]) [1,0,1,0,1,1,1,1] rfl (storesC_at q65_st [1,0,1,0,1,1,1,1]))).mono fun st k h=>ckD_mono h fun v hv hw=>Eq.mpr (q65_v0 k v) (hv hw)
def q65_B0:Labs:=([1,0,1,0,1,1,1,1],q65_X0)::[]
theorem q65_b0:LabsOk Tryz.prog (bodyOf Tryz.f16) q65_B0:=LabsOk.cons q65_x0 (LabsOk.nil)
def q65_d1:List LS:=[.b 1 8 [],.o 3 29 5 yU,.v 61 .str,.v 78 .bool,.c 8 tyX]
def q65_d1n:List LS:=[.b 1 8 [],.o 3 29 5 yU,.c 8 tyX]
def q65_dx1:DX:=⟨some q65_d1n,none,[]⟩
def q65_y1n (k:Ex→St→Prop) (out3:LI) (x1b:tEx):Prop:=wfD q65_d1n (out3,x1b,())→k .nrm (mkD 123 q65_d1n (out3,x1b,()))
def q65_J1 (kn:LI→tEx→Prop) (out3:LI) (x61:LI) (x78:Bool) (x1b:tEx):Prop:=
 bif x78 then
 bif decide (List.length out3+List.length ([(32:Int)]:LI)≤lim) then
 q58_P x1b.2.2.2.2.1∧(
 ∀ (r3:LI),r3=q58_F x1b.2.2.2.2.1→(
 wfR (.one (.fr 5 yU r3))→(
 bif decide (List.length (out3++([(32:Int)]:LI))+List.length r3≤lim) then
 kn ((out3++([(32:Int)]:LI))++r3) x1b
 else False)))
 else False
 else
 bif (decide (x61=([115]:LI))) then
 bif decide (List.length out3+List.length ([(47:Int)]:LI)≤lim) then
 bif decide (List.length (out3++([(47:Int)]:LI))+List.length x1b.2.2.2.2.2.2.2.1≤lim) then
 bif decide (List.length ((out3++([(47:Int)]:LI))++x1b.2.2.2.2.2.2.2.1)+List.length ([(47:Int)]:LI)≤lim) then
 bif decide (List.length (((out3++([(47:Int)]:LI))++x1b.2.2.2.2.2.2.2.1)++([(47:Int)]:LI))+List.length x1b.2.2.2.2.2.2.2.2.1≤lim) then
 bif x1b.2.2.2.2.2.2.2.2.2 then
 bif decide (List.length ((((out3++([(47:Int)]:LI))++x1b.2.2.2.2.2.2.2.1)++([(47:Int)]:LI))++x1b.2.2.2.2.2.2.2.2.1)+List.length ([47,103]:LI)≤lim) then
 kn (((((out3++([(47:Int)]:LI))++x1b.2.2.2.2.2.2.2.1)++([(47:Int)]:LI))++x1b.2.2.2.2.2.2.2.2.1)++([47,103]:LI)) x1b
 else False
 else
 kn ((((out3++([(47:Int)]:LI))++x1b.2.2.2.2.2.2.2.1)++([(47:Int)]:LI))++x1b.2.2.2.2.2.2.2.2.1) x1b
 else False
 else False
 else False
 else False
 else
 kn out3 x1b
def q65_g1 (k:Ex→St→Prop) (v:vals q65_d1):Prop:=q65_J1 (q65_y1n k) v.1 v.2.1 v.2.2.1 v.2.2.2.1
theorem q65_v1 (k:Ex→St→Prop):∀ v:vals q65_d1,ex tb (getG q65_G) q65_B0 (at' (bodyOf Tryz.f16) [1,1,1,0,1,0,1,1,1,1,1,1]) [1,1,1,0,1,0,1,1,1,1,1,1] (mkD 123 q65_d1 v) (wk 123 q65_dx1 k)=q65_g1 k v
  | (out3,x61,x78,x1b,())=>by kernel_rfl
def q65_X1:Pce:=fun st k=>ckD 123 q65_d1 st fun v=>wfD q65_d1 v→q65_g1 k v
theorem q65_x1:SemOk Tryz.prog (at' (bodyOf Tryz.f16) [1,1,1,0,1,0,1,1,1,1,1,1]) q65_X1:=
  (SemOk.wk (N:=123) (ds:=q65_d1) (dx:=q65_dx1) (ex_sound tb_M tb_ok q65_Gok (q65_b0) (at' (bodyOf Tryz.f16) [1,1,1,0,1,0,1,1,1,1,1,1]) [1,1,1,0,1,0,1,1,1,1,1,1] rfl (storesC_at q65_st [1,1,1,0,1,0,1,1,1,1,1,1]))).mono fun st k h=>ckD_mono h fun v hv hw=>Eq.mpr (q65_v1 k v) (hv hw)
def q65_B1:Labs:=([1,1,1,0,1,0,1,1,1,1,1,1],q65_X1)::q65_B0
theorem q65_b1:LabsOk Tryz.prog (bodyOf Tryz.f16) q65_B1:=LabsOk.cons q65_x1 (q65_b0)
def q65_d2:List LS:=[.b 1 8 [],.o 3 29 5 yU,.v 61 .str,.v 62 .bool,.c 8 tyX]
def q65_d2n:List LS:=[.b 1 8 [],.o 3 29 5 yU,.c 8 tyX]
def q65_dx2:DX:=⟨some q65_d2n,none,[]⟩
def q65_y2n (k:Ex→St→Prop) (out3:LI) (x1b:tEx):Prop:=wfD q65_d2n (out3,x1b,())→k .nrm (mkD 123 q65_d2n (out3,x1b,()))
def q65_J2 (kn:LI→tEx→Prop) (out3:LI) (x61:LI) (x62:Bool) (x1b:tEx):Prop:=
 bif x62 then
 bif (decide ((0:Int)<x1b.2.2.2.2.2.2.1)) then
 bif decide (List.length out3+List.length ([(32:Int)]:LI)≤lim) then
 q51_P x1b.2.2.2.2.2.2.1∧(
 ∀ (r2:LI),r2=q51_F x1b.2.2.2.2.2.2.1→(
 wfR (.one (.fr 5 yU r2))→(
 bif decide (List.length (out3++([(32:Int)]:LI))+List.length r2≤lim) then
 kn ((out3++([(32:Int)]:LI))++r2) x1b
 else False)))
 else False
 else
 kn out3 x1b
 else
 bif (decide (x61=([116]:LI))) then
 (wfD q65_d1 (out3,x61,(decide (x61=([116]:LI))),x1b,())→q65_J1 (fun (out3:LI) (x1b:tEx)=>wfD q65_d1n (out3,x1b,())→(
 kn out3 x1b)) out3 x61 (decide (x61=([116]:LI))) x1b)
 else
 (wfD q65_d1 (out3,x61,(decide (x61=([109]:LI))),x1b,())→q65_J1 (fun (out3:LI) (x1b:tEx)=>wfD q65_d1n (out3,x1b,())→(
 kn out3 x1b)) out3 x61 (decide (x61=([109]:LI))) x1b)
def q65_g2 (k:Ex→St→Prop) (v:vals q65_d2):Prop:=q65_J2 (q65_y2n k) v.1 v.2.1 v.2.2.1 v.2.2.2.1
theorem q65_v2 (k:Ex→St→Prop):∀ v:vals q65_d2,ex tb (getG q65_G) q65_B1 (at' (bodyOf Tryz.f16) [1,0,1,0,1,1,1,1,1,1]) [1,0,1,0,1,1,1,1,1,1] (mkD 123 q65_d2 v) (wk 123 q65_dx2 k)=q65_g2 k v
  | (out3,x61,x62,x1b,())=>by kernel_rfl
def q65_X2:Pce:=fun st k=>ckD 123 q65_d2 st fun v=>wfD q65_d2 v→q65_g2 k v
theorem q65_x2:SemOk Tryz.prog (at' (bodyOf Tryz.f16) [1,0,1,0,1,1,1,1,1,1]) q65_X2:=
  (SemOk.wk (N:=123) (ds:=q65_d2) (dx:=q65_dx2) (ex_sound tb_M tb_ok q65_Gok (q65_b1) (at' (bodyOf Tryz.f16) [1,0,1,0,1,1,1,1,1,1]) [1,0,1,0,1,1,1,1,1,1] rfl (storesC_at q65_st [1,0,1,0,1,1,1,1,1,1]))).mono fun st k h=>ckD_mono h fun v hv hw=>Eq.mpr (q65_v2 k v) (hv hw)
def q65_B2:Labs:=([1,0,1,0,1,1,1,1,1,1],q65_X2)::q65_B1
theorem q65_b2:LabsOk Tryz.prog (bodyOf Tryz.f16) q65_B2:=LabsOk.cons q65_x2 (q65_b1)
def q65_d3:List LS:=[.b 1 8 [],.o 3 29 5 yU,.c 8 tyX]
def q65_d3r:List LS:=[.v 2 yB]
def q65_dx3:DX:=⟨none,some q65_d3r,[]⟩
def q65_y3r (k:Ex→St→Prop) (x2:LI):Prop:=wfD q65_d3r (x2,())→k .ret (mkD 123 q65_d3r (x2,()))
def q65_J3 (kr:LI→Prop) (out3:LI) (x1b:tEx):Prop:=
 q63_P out3∧(
 ∀ (r4:tEx×Int),r4=q63_F out3→(
 wfR (.tup [.v tyX r4.1,.v yI r4.2])→(
 bif (!decide (r4.2=(0:Int))) then
 kr ([]:LI)
 else
 ∀ (r5:Bool),r5=q75_F x1b r4.1→(
 wB r5→(
 bif (!r5) then
 kr ([]:LI)
 else
 kr out3)))))
def q65_g3 (k:Ex→St→Prop) (v:vals q65_d3):Prop:=q65_J3 (q65_y3r k) v.1 v.2.1
theorem q65_v3 (k:Ex→St→Prop):∀ v:vals q65_d3,ex tb (getG q65_G) q65_B2 (at' (bodyOf Tryz.f16) [1,1,1,1,1,1,1]) [1,1,1,1,1,1,1] (mkD 123 q65_d3 v) (wk 123 q65_dx3 k)=q65_g3 k v
  | (out3,x1b,())=>by kernel_rfl
def q65_X3:Pce:=fun st k=>ckD 123 q65_d3 st fun v=>wfD q65_d3 v→q65_g3 k v
theorem q65_x3:SemOk Tryz.prog (at' (bodyOf Tryz.f16) [1,1,1,1,1,1,1]) q65_X3:=
  (SemOk.wk (N:=123) (ds:=q65_d3) (dx:=q65_dx3) (ex_sound tb_M tb_ok q65_Gok (q65_b2) (at' (bodyOf Tryz.f16) [1,1,1,1,1,1,1]) [1,1,1,1,1,1,1] rfl (storesC_at q65_st [1,1,1,1,1,1,1]))).mono fun st k h=>ckD_mono h fun v hv hw=>Eq.mpr (q65_v3 k v) (hv hw)
def q65_B3:Labs:=([1,1,1,1,1,1,1],q65_X3)::q65_B2
theorem q65_b3:LabsOk Tryz.prog (bodyOf Tryz.f16) q65_B3:=LabsOk.cons q65_x3 (q65_b2)
def q65_d4:List LS:=[.b 1 8 [],.o 3 29 5 yU,.c 8 tyX]
def q65_d4r:List LS:=[.v 2 yB]
def q65_dx4:DX:=⟨none,some q65_d4r,[]⟩
def q65_y4r (k:Ex→St→Prop) (x2:LI):Prop:=wfD q65_d4r (x2,())→k .ret (mkD 123 q65_d4r (x2,()))
def q65_J4 (kr:LI→Prop) (out3:LI) (x1b:tEx):Prop:=
 bif (decide (x1b.2.2.2.1=([100]:LI))) then
 (wfD q65_d2 (out3,x1b.2.2.2.1,(decide (x1b.2.2.2.1=([100]:LI))),x1b,())→q65_J2 (fun (out3:LI) (x1b:tEx)=>wfD q65_d2n (out3,x1b,())→(
 (wfD q65_d3 (out3,x1b,())→q65_J3 (fun (x2:LI)=>wfD q65_d3r (x2,())→(
 kr x2)) out3 x1b))) out3 x1b.2.2.2.1 (decide (x1b.2.2.2.1=([100]:LI))) x1b)
 else
 bif (decide (x1b.2.2.2.1=([121]:LI))) then
 (wfD q65_d2 (out3,x1b.2.2.2.1,(decide (x1b.2.2.2.1=([121]:LI))),x1b,())→q65_J2 (fun (out3:LI) (x1b:tEx)=>wfD q65_d2n (out3,x1b,())→(
 (wfD q65_d3 (out3,x1b,())→q65_J3 (fun (x2:LI)=>wfD q65_d3r (x2,())→(
 kr x2)) out3 x1b))) out3 x1b.2.2.2.1 (decide (x1b.2.2.2.1=([121]:LI))) x1b)
 else
 bif (decide (x1b.2.2.2.1=([106]:LI))) then
 (wfD q65_d2 (out3,x1b.2.2.2.1,(decide (x1b.2.2.2.1=([106]:LI))),x1b,())→q65_J2 (fun (out3:LI) (x1b:tEx)=>wfD q65_d2n (out3,x1b,())→(
 (wfD q65_d3 (out3,x1b,())→q65_J3 (fun (x2:LI)=>wfD q65_d3r (x2,())→(
 kr x2)) out3 x1b))) out3 x1b.2.2.2.1 (decide (x1b.2.2.2.1=([106]:LI))) x1b)
 else
 (wfD q65_d2 (out3,x1b.2.2.2.1,(decide (x1b.2.2.2.1=([106,33]:LI))),x1b,())→q65_J2 (fun (out3:LI) (x1b:tEx)=>wfD q65_d2n (out3,x1b,())→(
 (wfD q65_d3 (out3,x1b,())→q65_J3 (fun (x2:LI)=>wfD q65_d3r (x2,())→(
 kr x2)) out3 x1b))) out3 x1b.2.2.2.1 (decide (x1b.2.2.2.1=([106,33]:LI))) x1b)
def q65_g4 (k:Ex→St→Prop) (v:vals q65_d4):Prop:=q65_J4 (q65_y4r k) v.1 v.2.1
theorem q65_v4 (k:Ex→St→Prop):∀ v:vals q65_d4,ex tb (getG q65_G) q65_B3 (at' (bodyOf Tryz.f16) [1,1,1,1,1,1]) [1,1,1,1,1,1] (mkD 123 q65_d4 v) (wk 123 q65_dx4 k)=q65_g4 k v
  | (out3,x1b,())=>by kernel_rfl
def q65_X4:Pce:=fun st k=>ckD 123 q65_d4 st fun v=>wfD q65_d4 v→q65_g4 k v
theorem q65_x4:SemOk Tryz.prog (at' (bodyOf Tryz.f16) [1,1,1,1,1,1]) q65_X4:=
  (SemOk.wk (N:=123) (ds:=q65_d4) (dx:=q65_dx4) (ex_sound tb_M tb_ok q65_Gok (q65_b3) (at' (bodyOf Tryz.f16) [1,1,1,1,1,1]) [1,1,1,1,1,1] rfl (storesC_at q65_st [1,1,1,1,1,1]))).mono fun st k h=>ckD_mono h fun v hv hw=>Eq.mpr (q65_v4 k v) (hv hw)
def q65_B4:Labs:=([1,1,1,1,1,1],q65_X4)::q65_B3
theorem q65_b4:LabsOk Tryz.prog (bodyOf Tryz.f16) q65_B4:=LabsOk.cons q65_x4 (q65_b3)
def q65_d5:List LS:=[.b 1 8 [],.o 3 29 5 yU,.c 8 tyX]
def q65_d5r:List LS:=[.v 2 yB]
def q65_dx5:DX:=⟨none,some q65_d5r,[]⟩
def q65_y5r (k:Ex→St→Prop) (x2:LI):Prop:=wfD q65_d5r (x2,())→k .ret (mkD 123 q65_d5r (x2,()))
def q65_J5 (kr:LI→Prop) (out3:LI) (x1b:tEx):Prop:=
 bif (!decide (x1b.2.2.2.2.2.1=(0:Int))) then
 bif decide (List.length out3+List.length ([(32:Int),x1b.2.2.2.2.2.1]:LI)≤lim) then
 (wfD q65_d4 ((out3++([(32:Int),x1b.2.2.2.2.2.1]:LI)),x1b,())→q65_J4 (fun (x2:LI)=>wfD q65_d4r (x2,())→(
 kr x2)) (out3++([(32:Int),x1b.2.2.2.2.2.1]:LI)) x1b)
 else False
 else
 (wfD q65_d4 (out3,x1b,())→q65_J4 (fun (x2:LI)=>wfD q65_d4r (x2,())→(
 kr x2)) out3 x1b)
def q65_g5 (k:Ex→St→Prop) (v:vals q65_d5):Prop:=q65_J5 (q65_y5r k) v.1 v.2.1
theorem q65_v5 (k:Ex→St→Prop):∀ v:vals q65_d5,ex tb (getG q65_G) q65_B4 (at' (bodyOf Tryz.f16) [1,1,1,1,1]) [1,1,1,1,1] (mkD 123 q65_d5 v) (wk 123 q65_dx5 k)=q65_g5 k v
  | (out3,x1b,())=>by kernel_rfl
def q65_X5:Pce:=fun st k=>ckD 123 q65_d5 st fun v=>wfD q65_d5 v→q65_g5 k v
theorem q65_x5:SemOk Tryz.prog (at' (bodyOf Tryz.f16) [1,1,1,1,1]) q65_X5:=
  (SemOk.wk (N:=123) (ds:=q65_d5) (dx:=q65_dx5) (ex_sound tb_M tb_ok q65_Gok (q65_b4) (at' (bodyOf Tryz.f16) [1,1,1,1,1]) [1,1,1,1,1] rfl (storesC_at q65_st [1,1,1,1,1]))).mono fun st k h=>ckD_mono h fun v hv hw=>Eq.mpr (q65_v5 k v) (hv hw)
def q65_B5:Labs:=([1,1,1,1,1],q65_X5)::q65_B4
theorem q65_b5:LabsOk Tryz.prog (bodyOf Tryz.f16) q65_B5:=LabsOk.cons q65_x5 (q65_b4)
def q65_d6:List LS:=[.b 1 8 [],.o 3 29 5 yU,.c 8 tyX]
def q65_d6r:List LS:=[.v 2 yB]
def q65_dx6:DX:=⟨none,some q65_d6r,[]⟩
def q65_y6r (k:Ex→St→Prop) (x2:LI):Prop:=wfD q65_d6r (x2,())→k .ret (mkD 123 q65_d6r (x2,()))
def q65_J6 (kr:LI→Prop) (out3:LI) (x1b:tEx):Prop:=
 bif (decide (x1b.2.2.2.1=([62]:LI))) then
 (wfD q65_d0 (out3,(decide (x1b.2.2.2.1=([62]:LI))),x1b,())→q65_J0 (fun (out3:LI) (x1b:tEx)=>wfD q65_d0n (out3,x1b,())→(
 (wfD q65_d5 (out3,x1b,())→q65_J5 (fun (x2:LI)=>wfD q65_d5r (x2,())→(
 kr x2)) out3 x1b))) out3 (decide (x1b.2.2.2.1=([62]:LI))) x1b)
 else
 (wfD q65_d0 (out3,(decide (x1b.2.2.2.1=([60]:LI))),x1b,())→q65_J0 (fun (out3:LI) (x1b:tEx)=>wfD q65_d0n (out3,x1b,())→(
 (wfD q65_d5 (out3,x1b,())→q65_J5 (fun (x2:LI)=>wfD q65_d5r (x2,())→(
 kr x2)) out3 x1b))) out3 (decide (x1b.2.2.2.1=([60]:LI))) x1b)
def q65_g6 (k:Ex→St→Prop) (v:vals q65_d6):Prop:=q65_J6 (q65_y6r k) v.1 v.2.1
theorem q65_v6 (k:Ex→St→Prop):∀ v:vals q65_d6,ex tb (getG q65_G) q65_B5 (at' (bodyOf Tryz.f16) [1,1,1,1]) [1,1,1,1] (mkD 123 q65_d6 v) (wk 123 q65_dx6 k)=q65_g6 k v
  | (out3,x1b,())=>by kernel_rfl
def q65_X6:Pce:=fun st k=>ckD 123 q65_d6 st fun v=>wfD q65_d6 v→q65_g6 k v
theorem q65_x6:SemOk Tryz.prog (at' (bodyOf Tryz.f16) [1,1,1,1]) q65_X6:=
  (SemOk.wk (N:=123) (ds:=q65_d6) (dx:=q65_dx6) (ex_sound tb_M tb_ok q65_Gok (q65_b5) (at' (bodyOf Tryz.f16) [1,1,1,1]) [1,1,1,1] rfl (storesC_at q65_st [1,1,1,1]))).mono fun st k h=>ckD_mono h fun v hv hw=>Eq.mpr (q65_v6 k v) (hv hw)
def q65_B6:Labs:=([1,1,1,1],q65_X6)::q65_B5
theorem q65_b6:LabsOk Tryz.prog (bodyOf Tryz.f16) q65_B6:=LabsOk.cons q65_x6 (q65_b5)
def q65_raw (x0:tEx) (K:Res→List Cell→Prop):Prop:=
 bif (decide (x0.2.2.2.2.2.2.1<(0:Int))) then
 K (.one (.v yB ([]:LI))) []
 else
 bif (decide ((9999:Int)<x0.2.2.2.2.2.2.1)) then
 K (.one (.v yB ([]:LI))) []
 else
 bif x0.2.2.1 then
 bif decide (List.length ([]:LI)+List.length ([(37:Int)]:LI)≤lim) then
 (wfD q65_d6 ((([]:LI)++([(37:Int)]:LI)),x0,())→q65_J6 (fun (x2:LI)=>wfD q65_d6r (x2,())→(
 K (.one (.v yB x2)) [])) (([]:LI)++([(37:Int)]:LI)) x0)
 else False
 else
 q58_P x0.1∧(
 ∀ (r6:LI),r6=q58_F x0.1→(
 wfR (.one (.fr 5 yU r6))→(
 bif decide (List.length ([]:LI)+List.length r6≤lim) then
 bif x0.2.1.2.2.2.2.2 then
 bif decide (List.length (([]:LI)++r6)+List.length ([(44:Int)]:LI)≤lim) then
 q58_P x0.2.1∧(
 ∀ (r7:LI),r7=q58_F x0.2.1→(
 wfR (.one (.fr 5 yU r7))→(
 bif decide (List.length ((([]:LI)++r6)++([(44:Int)]:LI))+List.length r7≤lim) then
 (wfD q65_d6 ((((([]:LI)++r6)++([(44:Int)]:LI))++r7),x0,())→q65_J6 (fun (x2:LI)=>wfD q65_d6r (x2,())→(
 K (.one (.v yB x2)) [])) (((([]:LI)++r6)++([(44:Int)]:LI))++r7) x0)
 else False)))
 else False
 else
 (wfD q65_d6 ((([]:LI)++r6),x0,())→q65_J6 (fun (x2:LI)=>wfD q65_d6r (x2,())→(
 K (.one (.v yB x2)) [])) (([]:LI)++r6) x0)
 else False)))
def q65_A:List AS:=[.v tyX]

def q65_J0_P (out3:LI) (x41:Bool) (x1b:tEx):Prop:=
 bif x41 then
 q64_P x1b.2.2.2.1 x1b.2.2.2.2.2.2.1∧(
 let r1:LI:=q64_F x1b.2.2.2.1 x1b.2.2.2.2.2.2.1
 (List.length out3+List.length r1≤lim))
 else
 (List.length out3+List.length x1b.2.2.2.1≤lim)
def q65_J0_F (out3:LI) (x41:Bool) (x1b:tEx):LI×tEx:=
 bif x41 then
 let r1:LI:=q64_F x1b.2.2.2.1 x1b.2.2.2.2.2.2.1
 ((out3++r1),x1b)
 else
 ((out3++x1b.2.2.2.1),x1b)
theorem q65_J0_sp (kn:LI→tEx→Prop) (out3:LI) (x41:Bool) (x1b:tEx) (hp:q65_J0_P out3 x41 x1b) (hn:∀ q:LI×tEx,q=q65_J0_F out3 x41 x1b→kn q.1 q.2):q65_J0 kn out3 x41 x1b:=
 have h:=hn; br1 hp h (fun _ hp h=>an1 hp fun hp=>al (as0 hp (h _ rfl)))
 fun _ hp h=>as0 hp (h _ rfl)
def q65_J1_P (out3:LI) (x61:LI) (x78:Bool) (x1b:tEx):Prop:=
 bif x78 then
 (List.length out3+List.length ([(32:Int)]:LI)≤lim)∧(
 q58_P x1b.2.2.2.2.1∧(
 let r3:LI:=q58_F x1b.2.2.2.2.1
 (List.length (out3++([(32:Int)]:LI))+List.length r3≤lim)))
 else
 bif (decide (x61=([115]:LI))) then
 (List.length out3+List.length ([(47:Int)]:LI)≤lim)∧(
 (List.length (out3++([(47:Int)]:LI))+List.length x1b.2.2.2.2.2.2.2.1≤lim)∧(
 (List.length ((out3++([(47:Int)]:LI))++x1b.2.2.2.2.2.2.2.1)+List.length ([(47:Int)]:LI)≤lim)∧(
 (List.length (((out3++([(47:Int)]:LI))++x1b.2.2.2.2.2.2.2.1)++([(47:Int)]:LI))+List.length x1b.2.2.2.2.2.2.2.2.1≤lim)∧(
 bif x1b.2.2.2.2.2.2.2.2.2 then
 (List.length ((((out3++([(47:Int)]:LI))++x1b.2.2.2.2.2.2.2.1)++([(47:Int)]:LI))++x1b.2.2.2.2.2.2.2.2.1)+List.length ([47,103]:LI)≤lim)
 else
 True))))
 else
 True
def q65_J1_F (out3:LI) (x61:LI) (x78:Bool) (x1b:tEx):LI×tEx:=
 bif x78 then
 let r3:LI:=q58_F x1b.2.2.2.2.1
 (((out3++([(32:Int)]:LI))++r3),x1b)
 else
 bif (decide (x61=([115]:LI))) then
 bif x1b.2.2.2.2.2.2.2.2.2 then
 ((((((out3++([(47:Int)]:LI))++x1b.2.2.2.2.2.2.2.1)++([(47:Int)]:LI))++x1b.2.2.2.2.2.2.2.2.1)++([47,103]:LI)),x1b)
 else
 (((((out3++([(47:Int)]:LI))++x1b.2.2.2.2.2.2.2.1)++([(47:Int)]:LI))++x1b.2.2.2.2.2.2.2.2.1),x1b)
 else
 (out3,x1b)
theorem q65_J1_sp (kn:LI→tEx→Prop) (out3:LI) (x61:LI) (x78:Bool) (x1b:tEx) (hp:q65_J1_P out3 x61 x78 x1b) (hn:∀ q:LI×tEx,q=q65_J1_F out3 x61 x78 x1b→kn q.1 q.2):q65_J1 kn out3 x61 x78 x1b:=
 have h:=hn; br1 hp h (fun _ hp h=>as1 hp fun hp=>an1 hp fun hp=>al (as0 hp (h _ rfl)))
 fun _ hp h=>br1 hp h (fun _ hp h=>as1 hp fun hp=>as1 hp fun hp=>as1 hp fun hp=>as1 hp fun hp=>br1 hp h (fun _ hp h=>as0 hp (h _ rfl))
 fun _ hp h=>h _ rfl)
 fun _ hp h=>h _ rfl
def q65_J2_P (out3:LI) (x61:LI) (x62:Bool) (x1b:tEx):Prop:=
 bif x62 then
 bif (decide ((0:Int)<x1b.2.2.2.2.2.2.1)) then
 (List.length out3+List.length ([(32:Int)]:LI)≤lim)∧(
 q51_P x1b.2.2.2.2.2.2.1∧(
 let r2:LI:=q51_F x1b.2.2.2.2.2.2.1
 (List.length (out3++([(32:Int)]:LI))+List.length r2≤lim)))
 else
 True
 else
 bif (decide (x61=([116]:LI))) then
 q65_J1_P out3 x61 (decide (x61=([116]:LI))) x1b
 else
 q65_J1_P out3 x61 (decide (x61=([109]:LI))) x1b
def q65_J2_F (out3:LI) (x61:LI) (x62:Bool) (x1b:tEx):LI×tEx:=
 bif x62 then
 bif (decide ((0:Int)<x1b.2.2.2.2.2.2.1)) then
 let r2:LI:=q51_F x1b.2.2.2.2.2.2.1
 (((out3++([(32:Int)]:LI))++r2),x1b)
 else
 (out3,x1b)
 else
 bif (decide (x61=([116]:LI))) then
 let q1n:LI×tEx:=q65_J1_F out3 x61 (decide (x61=([116]:LI))) x1b
 let out3:LI:=q1n.1
 let x1b:tEx:=q1n.2
 (out3,x1b)
 else
 let q1n:LI×tEx:=q65_J1_F out3 x61 (decide (x61=([109]:LI))) x1b
 let out3:LI:=q1n.1
 let x1b:tEx:=q1n.2
 (out3,x1b)
theorem q65_J2_sp (kn:LI→tEx→Prop) (out3:LI) (x61:LI) (x62:Bool) (x1b:tEx) (hp:q65_J2_P out3 x61 x62 x1b) (hn:∀ q:LI×tEx,q=q65_J2_F out3 x61 x62 x1b→kn q.1 q.2):q65_J2 kn out3 x61 x62 x1b:=
 have h:=hn; br1 hp h (fun _ hp h=>br1 hp h (fun _ hp h=>as1 hp fun hp=>an1 hp fun hp=>al (as0 hp (h _ rfl)))
 fun _ hp h=>h _ rfl)
 fun _ hp h=>br1 hp h (fun _ hp h=>fun _=>q65_J1_sp _ _ _ _ _ hp (al (h _ rfl)))
 fun _ hp h=>fun _=>q65_J1_sp _ _ _ _ _ hp (al (h _ rfl))
def q65_J3_P (out3:LI) (x1b:tEx):Prop:=
 q63_P out3
def q65_J3_F (out3:LI) (x1b:tEx):LI:=
 let r4:tEx×Int:=q63_F out3
 bif (!decide (r4.2=(0:Int))) then
 (([]:LI))
 else
 let r5:Bool:=q75_F x1b r4.1
 bif (!r5) then
 (([]:LI))
 else
 (out3)
theorem q65_J3_sp (kr:LI→Prop) (out3:LI) (x1b:tEx) (hp:q65_J3_P out3 x1b) (hr:∀ q:LI,q=q65_J3_F out3 x1b→kr q):q65_J3 kr out3 x1b:=
 have h:=hr; ⟨hp,al (br0 h (fun _ h=>h _ rfl)
 fun _ h=>al (br0 h (fun _ h=>h _ rfl)
 fun _ h=>h _ rfl))⟩
def q65_J4_P (out3:LI) (x1b:tEx):Prop:=
 bif (decide (x1b.2.2.2.1=([100]:LI))) then
 q65_J2_P out3 x1b.2.2.2.1 (decide (x1b.2.2.2.1=([100]:LI))) x1b∧(
 let q2n:LI×tEx:=q65_J2_F out3 x1b.2.2.2.1 (decide (x1b.2.2.2.1=([100]:LI))) x1b
 let out3:LI:=q2n.1
 let x1b:tEx:=q2n.2
 q65_J3_P out3 x1b)
 else
 bif (decide (x1b.2.2.2.1=([121]:LI))) then
 q65_J2_P out3 x1b.2.2.2.1 (decide (x1b.2.2.2.1=([121]:LI))) x1b∧(
 let q2n:LI×tEx:=q65_J2_F out3 x1b.2.2.2.1 (decide (x1b.2.2.2.1=([121]:LI))) x1b
 let out3:LI:=q2n.1
 let x1b:tEx:=q2n.2
 q65_J3_P out3 x1b)
 else
 bif (decide (x1b.2.2.2.1=([106]:LI))) then
 q65_J2_P out3 x1b.2.2.2.1 (decide (x1b.2.2.2.1=([106]:LI))) x1b∧(
 let q2n:LI×tEx:=q65_J2_F out3 x1b.2.2.2.1 (decide (x1b.2.2.2.1=([106]:LI))) x1b
 let out3:LI:=q2n.1
 let x1b:tEx:=q2n.2
 q65_J3_P out3 x1b)
 else
 q65_J2_P out3 x1b.2.2.2.1 (decide (x1b.2.2.2.1=([106,33]:LI))) x1b∧(
 let q2n:LI×tEx:=q65_J2_F out3 x1b.2.2.2.1 (decide (x1b.2.2.2.1=([106,33]:LI))) x1b
 let out3:LI:=q2n.1
 let x1b:tEx:=q2n.2
 q65_J3_P out3 x1b)
def q65_J4_F (out3:LI) (x1b:tEx):LI:=
 bif (decide (x1b.2.2.2.1=([100]:LI))) then
 let q2n:LI×tEx:=q65_J2_F out3 x1b.2.2.2.1 (decide (x1b.2.2.2.1=([100]:LI))) x1b
 let out3:LI:=q2n.1
 let x1b:tEx:=q2n.2
 let q3r:LI:=q65_J3_F out3 x1b
 let x2:LI:=q3r
 (x2)
 else
 bif (decide (x1b.2.2.2.1=([121]:LI))) then
 let q2n:LI×tEx:=q65_J2_F out3 x1b.2.2.2.1 (decide (x1b.2.2.2.1=([121]:LI))) x1b
 let out3:LI:=q2n.1
 let x1b:tEx:=q2n.2
 let q3r:LI:=q65_J3_F out3 x1b
 let x2:LI:=q3r
 (x2)
 else
 bif (decide (x1b.2.2.2.1=([106]:LI))) then
 let q2n:LI×tEx:=q65_J2_F out3 x1b.2.2.2.1 (decide (x1b.2.2.2.1=([106]:LI))) x1b
 let out3:LI:=q2n.1
 let x1b:tEx:=q2n.2
 let q3r:LI:=q65_J3_F out3 x1b
 let x2:LI:=q3r
 (x2)
 else
 let q2n:LI×tEx:=q65_J2_F out3 x1b.2.2.2.1 (decide (x1b.2.2.2.1=([106,33]:LI))) x1b
 let out3:LI:=q2n.1
 let x1b:tEx:=q2n.2
 let q3r:LI:=q65_J3_F out3 x1b
 let x2:LI:=q3r
 (x2)
theorem q65_J4_sp (kr:LI→Prop) (out3:LI) (x1b:tEx) (hp:q65_J4_P out3 x1b) (hr:∀ q:LI,q=q65_J4_F out3 x1b→kr q):q65_J4 kr out3 x1b:=
 have h:=hr; br1 hp h (fun _ hp h=>fun _=>q65_J2_sp _ _ _ _ _ hp.1 (have hp:=hp.2; al (fun _=>q65_J3_sp _ _ _ hp (al (h _ rfl)))))
 fun _ hp h=>br1 hp h (fun _ hp h=>fun _=>q65_J2_sp _ _ _ _ _ hp.1 (have hp:=hp.2; al (fun _=>q65_J3_sp _ _ _ hp (al (h _ rfl)))))
 fun _ hp h=>br1 hp h (fun _ hp h=>fun _=>q65_J2_sp _ _ _ _ _ hp.1 (have hp:=hp.2; al (fun _=>q65_J3_sp _ _ _ hp (al (h _ rfl)))))
 fun _ hp h=>fun _=>q65_J2_sp _ _ _ _ _ hp.1 (have hp:=hp.2; al (fun _=>q65_J3_sp _ _ _ hp (al (h _ rfl))))
def q65_J5_P (out3:LI) (x1b:tEx):Prop:=
 bif (!decide (x1b.2.2.2.2.2.1=(0:Int))) then
 (List.length out3+List.length ([(32:Int),x1b.2.2.2.2.2.1]:LI)≤lim)∧(
 q65_J4_P (out3++([(32:Int),x1b.2.2.2.2.2.1]:LI)) x1b)
 else
 q65_J4_P out3 x1b
def q65_J5_F (out3:LI) (x1b:tEx):LI:=
 bif (!decide (x1b.2.2.2.2.2.1=(0:Int))) then
 let q4r:LI:=q65_J4_F (out3++([(32:Int),x1b.2.2.2.2.2.1]:LI)) x1b
 let x2:LI:=q4r
 (x2)
 else
 let q4r:LI:=q65_J4_F out3 x1b
 let x2:LI:=q4r
 (x2)
theorem q65_J5_sp (kr:LI→Prop) (out3:LI) (x1b:tEx) (hp:q65_J5_P out3 x1b) (hr:∀ q:LI,q=q65_J5_F out3 x1b→kr q):q65_J5 kr out3 x1b:=
 have h:=hr; br1 hp h (fun _ hp h=>as1 hp fun hp=>fun _=>q65_J4_sp _ _ _ hp (al (h _ rfl)))
 fun _ hp h=>fun _=>q65_J4_sp _ _ _ hp (al (h _ rfl))
def q65_J6_P (out3:LI) (x1b:tEx):Prop:=
 bif (decide (x1b.2.2.2.1=([62]:LI))) then
 q65_J0_P out3 (decide (x1b.2.2.2.1=([62]:LI))) x1b∧(
 let q0n:LI×tEx:=q65_J0_F out3 (decide (x1b.2.2.2.1=([62]:LI))) x1b
 let out3:LI:=q0n.1
 let x1b:tEx:=q0n.2
 q65_J5_P out3 x1b)
 else
 q65_J0_P out3 (decide (x1b.2.2.2.1=([60]:LI))) x1b∧(
 let q0n:LI×tEx:=q65_J0_F out3 (decide (x1b.2.2.2.1=([60]:LI))) x1b
 let out3:LI:=q0n.1
 let x1b:tEx:=q0n.2
 q65_J5_P out3 x1b)
def q65_J6_F (out3:LI) (x1b:tEx):LI:=
 bif (decide (x1b.2.2.2.1=([62]:LI))) then
 let q0n:LI×tEx:=q65_J0_F out3 (decide (x1b.2.2.2.1=([62]:LI))) x1b
 let out3:LI:=q0n.1
 let x1b:tEx:=q0n.2
 let q5r:LI:=q65_J5_F out3 x1b
 let x2:LI:=q5r
 (x2)
 else
 let q0n:LI×tEx:=q65_J0_F out3 (decide (x1b.2.2.2.1=([60]:LI))) x1b
 let out3:LI:=q0n.1
 let x1b:tEx:=q0n.2
 let q5r:LI:=q65_J5_F out3 x1b
 let x2:LI:=q5r
 (x2)
theorem q65_J6_sp (kr:LI→Prop) (out3:LI) (x1b:tEx) (hp:q65_J6_P out3 x1b) (hr:∀ q:LI,q=q65_J6_F out3 x1b→kr q):q65_J6 kr out3 x1b:=
 have h:=hr; br1 hp h (fun _ hp h=>fun _=>q65_J0_sp _ _ _ _ hp.1 (have hp:=hp.2; al (fun _=>q65_J5_sp _ _ _ hp (al (h _ rfl)))))
 fun _ hp h=>fun _=>q65_J0_sp _ _ _ _ hp.1 (have hp:=hp.2; al (fun _=>q65_J5_sp _ _ _ hp (al (h _ rfl))))
def q65_P (x0:tEx):Prop:=
 bif (decide (x0.2.2.2.2.2.2.1<(0:Int))) then
 True
 else
 bif (decide ((9999:Int)<x0.2.2.2.2.2.2.1)) then
 True
 else
 bif x0.2.2.1 then
 (List.length ([]:LI)+List.length ([(37:Int)]:LI)≤lim)∧(
 q65_J6_P (([]:LI)++([(37:Int)]:LI)) x0)
 else
 q58_P x0.1∧(
 let r6:LI:=q58_F x0.1
 (List.length ([]:LI)+List.length r6≤lim)∧(
 bif x0.2.1.2.2.2.2.2 then
 (List.length (([]:LI)++r6)+List.length ([(44:Int)]:LI)≤lim)∧(
 q58_P x0.2.1∧(
 let r7:LI:=q58_F x0.2.1
 (List.length ((([]:LI)++r6)++([(44:Int)]:LI))+List.length r7≤lim)∧(
 q65_J6_P (((([]:LI)++r6)++([(44:Int)]:LI))++r7) x0)))
 else
 q65_J6_P (([]:LI)++r6) x0))
def q65_F (x0:tEx):LI:=
 bif (decide (x0.2.2.2.2.2.2.1<(0:Int))) then
 ([]:LI)
 else
 bif (decide ((9999:Int)<x0.2.2.2.2.2.2.1)) then
 ([]:LI)
 else
 bif x0.2.2.1 then
 let q6r:LI:=q65_J6_F (([]:LI)++([(37:Int)]:LI)) x0
 let x2:LI:=q6r
 x2
 else
 let r6:LI:=q58_F x0.1
 bif x0.2.1.2.2.2.2.2 then
 let r7:LI:=q58_F x0.2.1
 let q6r:LI:=q65_J6_F (((([]:LI)++r6)++([(44:Int)]:LI))++r7) x0
 let x2:LI:=q6r
 x2
 else
 let q6r:LI:=q65_J6_F (([]:LI)++r6) x0
 let x2:LI:=q6r
 x2
theorem q65_sp (x0:tEx) (K:Res→List Cell→Prop) (_:wfA q65_A (x0,())) (hp:q65_P x0) (h:∀ r:LI,r=q65_F x0→K (.one (.v yB r)) []):q65_raw x0 K:=
 br1 hp h (fun _ hp h=>h _ rfl)
 fun _ hp h=>br1 hp h (fun _ hp h=>h _ rfl)
 fun _ hp h=>br1 hp h (fun _ hp h=>as1 hp fun hp=>fun _=>q65_J6_sp _ _ _ hp (al (h _ rfl)))
 fun _ hp h=>an1 hp fun hp=>al (as1 hp fun hp=>br1 hp h (fun _ hp h=>as1 hp fun hp=>an1 hp fun hp=>al (as1 hp fun hp=>fun _=>q65_J6_sp _ _ _ hp (al (h _ rfl))))
 fun _ hp h=>fun _=>q65_J6_sp _ _ _ hp (al (h _ rfl)))
def q65_C (v:valsA q65_A) (K:Res→List Cell→Prop):Prop:=q65_P v.1∧∀ r:LI,r=q65_F v.1→K (.one (.v yB r)) []
def q65_S:App:=specW q65_A q65_C
theorem q65_wv (K:Res→List Cell→Prop):∀ v:valsA q65_A,runF tb (getG q65_G) q65_B6 Tryz.f16 [false] (mkA q65_A v) K=q65_raw v.1 K
  | (x0,())=>by kernel_rfl
theorem q65_ok:AppOk Tryz.prog 16 q65_S:=
  AppOk.specW (spec_ok ((runF_ok tb_M tb_ok q65_Gok (q65_b6) (f:=16) (fn:=Tryz.f16) (by kernel_rfl) (by kernel_rfl) q65_st [false])) fun v K hw h=>(q65_wv K v).mpr (q65_sp v.1 K hw h.1 h.2))

end Go.VE
namespace Go.VE
def rgS (x:ExD):LI:=if x.2.2.1=true then [37] else adS x.1++(if x.2.1.2.2.2.2.2=true then 44::adS x.2.1 else [])
def nmS (x:ExD):LI:=if x.2.2.2.1=[62]∨x.2.2.2.1=[60] then repB x.2.2.2.1 x.2.2.2.2.2.2.1.toNat else x.2.2.2.1
def rS (x:ExD):LI:=if x.2.2.2.2.2.1=0 then [] else [32,x.2.2.2.2.2.1]
def tlS (x:ExD):LI:=if x.2.2.2.1=[100]∨x.2.2.2.1=[121]∨x.2.2.2.1=[106]∨x.2.2.2.1=[106,33] then (if 0<x.2.2.2.2.2.2.1 then 32::dec x.2.2.2.2.2.2.1.toNat else [])
  else if x.2.2.2.1=[116]∨x.2.2.2.1=[109] then 32::adS x.2.2.2.2.1
  else if x.2.2.2.1=[115] then 47::(x.2.2.2.2.2.2.2.1++(47::(x.2.2.2.2.2.2.2.2.1++(if x.2.2.2.2.2.2.2.2.2=true then [47,103] else []))))
  else []
def spS (x:ExD):LI:=rgS x++(nmS x++(rS x++tlS x))
def szX (x:ExD):Nat:=x.1.2.2.2.1.length+x.2.1.2.2.2.1.length+x.2.2.2.1.length+x.2.2.2.2.1.2.2.2.1.length+x.2.2.2.2.2.2.2.1.length+x.2.2.2.2.2.2.2.2.1.length
def chk (x:ExD) (out:LI):LI:=match parM out with
  | .inl y=>if q75_F x y=true then out else []
  | .inr _=>[]
theorem chk_s (out:LI) (ho:out.length≤lim) (x:ExD):q65_J3_P out x∧q65_J3_F out x=chk x out:=by
  obtain ⟨p,f⟩:=parse_s out ho
  refine ⟨p,?_⟩
  unfold q65_J3_F chk
  simp only [f]
  cases hp:parM out with
  | inl y=>
    simp only [toB]
    cases q75_F x y <;> rfl
  | inr e=>
    rcases par_err hp with rfl | rfl <;> rfl
section
variable (x:ExD) (h0:0≤x.2.2.2.2.2.2.1) (h9:x.2.2.2.2.2.2.1≤9999)
theorem rgS_len:(rgS x).length≤x.1.2.2.2.1.length+x.2.1.2.2.2.1.length+50:=by
  unfold rgS
  have h1:=adS_len x.1
  have h2:=adS_len x.2.1
  repeat' split
  all_goals ((try simp only [List.length_append,List.length_cons,List.length_nil]); omega)
theorem rS_len:(rS x).length≤2:=by
  unfold rS
  split <;> simp
include h9 in
theorem nmS_len:(nmS x).length≤x.2.2.2.1.length+9999:=by
  unfold nmS
  split
  · rename_i h
    rw [repB_length]
    have:x.2.2.2.1.length=1:=by rcases h with h | h <;> rw [h] <;> rfl
    rw [this]; omega
  · omega
theorem tlS_len:(tlS x).length≤x.2.2.2.2.1.2.2.2.1.length+x.2.2.2.2.2.2.2.1.length+x.2.2.2.2.2.2.2.2.1.length+50:=by
  unfold tlS
  have h1:=adS_len x.2.2.2.2.1
  have h2:=dec_len x.2.2.2.2.2.2.1.toNat
  repeat' split
  all_goals ((try simp only [List.length_append,List.length_cons,List.length_nil]); omega)
theorem j1_sp (out:LI) (ho:out.length+szX x+100≤lim) (fl:Bool) (hfl:fl=(decide (x.2.2.2.1=[116]) || decide (x.2.2.2.1=[109]))) (hd:¬ (x.2.2.2.1=[100]∨x.2.2.2.1=[121]∨x.2.2.2.1=[106]∨x.2.2.2.1=[106,33])) :
    q65_J1_P out x.2.2.2.1 fl x∧q65_J1_F out x.2.2.2.1 fl x=(out++tlS x,x):=by
  obtain ⟨a,b,w,nm,d,rg,cn,old,new,all⟩:=x
  unfold szX at ho
  dsimp only at ho hfl hd ⊢
  unfold q65_J1_P q65_J1_F tlS
  dsimp only
  rw [if_neg hd]
  by_cases c1:nm=[116]∨nm=[109]
  · rw [show fl=true by rw [hfl]; rcases c1 with h | h <;> simp [h],if_pos c1]
    obtain ⟨sp,sf⟩:=addr_s d (by omega)
    have:=adS_len d
    rw [sf]
    refine ⟨⟨by simp only [List.length_cons,List.length_nil]; omega,sp,by simp only [List.length_append,List.length_cons,List.length_nil]; omega⟩,?_⟩
    simp
  · rw [show fl=false by rw [hfl]; simp at c1; simp [c1],if_neg c1]
    by_cases c2:nm=[115]
    · rw [decide_eq_true c2,if_pos c2]
      refine ⟨⟨by simp only [List.length_cons,List.length_nil]; omega,by simp only [List.length_append,List.length_cons,List.length_nil]; omega,by simp only [List.length_append,List.length_cons,List.length_nil]; omega,by simp only [List.length_append,List.length_cons,List.length_nil]; omega,?_⟩,?_⟩
      · refine brb (fun _=>?_) (fun _=>trivial)
        simp only [List.length_append,List.length_cons,List.length_nil]; omega
      · cases all <;> simp
    · rw [decide_eq_false c2,if_neg c2]
      exact ⟨trivial,by simp⟩
include h0 h9 in
theorem j2_sp (out:LI) (ho:out.length+szX x+100≤lim) (fl:Bool) (hfl:fl=decide (x.2.2.2.1=[100]∨x.2.2.2.1=[121]∨x.2.2.2.1=[106]∨x.2.2.2.1=[106,33])) :
    q65_J2_P out x.2.2.2.1 fl x∧q65_J2_F out x.2.2.2.1 fl x=(out++tlS x,x):=by
  have hsz:szX x≤lim:=by omega
  unfold q65_J2_P q65_J2_F
  by_cases c0:x.2.2.2.1=[100]∨x.2.2.2.1=[121]∨x.2.2.2.1=[106]∨x.2.2.2.1=[106,33]
  · rw [show fl=true by rw [hfl]; exact decide_eq_true c0]
    have e:tlS x=if 0<x.2.2.2.2.2.2.1 then 32::dec x.2.2.2.2.2.2.1.toNat else []:=by unfold tlS; rw [if_pos c0]
    rw [e]
    by_cases c1:0<x.2.2.2.2.2.2.1
    · rw [decide_eq_true c1,if_pos c1]
      have hdl:=dec_len x.2.2.2.2.2.2.1.toNat
      refine ⟨⟨by simp only [List.length_cons,List.length_nil]; omega,⟨10,by omega,by omega,by omega,by omega⟩,?_⟩,?_⟩
      · show (out++[32]).length+(dec x.2.2.2.2.2.2.1.toNat).length≤lim
        simp only [List.length_append,List.length_cons,List.length_nil]; omega
      · show ((out++[32])++dec x.2.2.2.2.2.2.1.toNat,x)=_
        rw [List.append_assoc]; rfl
    · rw [decide_eq_false c1,if_neg c1,List.append_nil]
      exact ⟨trivial,rfl⟩
  · rw [show fl=false by rw [hfl]; exact decide_eq_false c0]
    by_cases c1:x.2.2.2.1=[116]
    · obtain ⟨p,f⟩:=j1_sp x out ho true (by rw [decide_eq_true c1]; rfl) c0
      rw [decide_eq_true c1]
      simp only [f]
      exact ⟨p,rfl⟩
    · obtain ⟨p,f⟩:=j1_sp x out ho (decide (x.2.2.2.1=[109])) (by rw [decide_eq_false c1]; rfl) c0
      rw [decide_eq_false c1]
      simp only [cond_false,f]
      exact ⟨p,trivial⟩
include h0 h9 in
theorem j4_sp (out:LI) (ho:out.length+szX x+200≤lim):q65_J4_P out x∧q65_J4_F out x=chk x (out++tlS x):=by
  have htl:=tlS_len x
  have hz:x.2.2.2.2.1.2.2.2.1.length+x.2.2.2.2.2.2.2.1.length+x.2.2.2.2.2.2.2.2.1.length≤szX x:=by unfold szX; omega
  have hk:=chk_s (out++tlS x) (by rw [List.length_append]; omega) x
  have j:=j2_sp x h0 h9 out (by omega)
  unfold q65_J4_P q65_J4_F
  by_cases c1:x.2.2.2.1=[100]
  · have j:=j true (by rw [decide_eq_true (.inl c1)])
    rw [decide_eq_true c1]
    simp only [cond_true,j.2]
    exact ⟨⟨j.1,hk.1⟩,hk.2⟩
  rw [decide_eq_false c1]
  by_cases c2:x.2.2.2.1=[121]
  · have j:=j true (by rw [decide_eq_true (.inr (.inl c2))])
    rw [decide_eq_true c2]
    simp only [cond_true,cond_false,j.2]
    exact ⟨⟨j.1,hk.1⟩,hk.2⟩
  rw [decide_eq_false c2]
  by_cases c3:x.2.2.2.1=[106]
  · have j:=j true (by rw [decide_eq_true (.inr (.inr (.inl c3)))])
    rw [decide_eq_true c3]
    simp only [cond_true,cond_false,j.2]
    exact ⟨⟨j.1,hk.1⟩,hk.2⟩
  rw [decide_eq_false c3]
  have j:=j (decide (x.2.2.2.1=[106,33])) (by simp [c1,c2,c3])
  simp only [cond_false,j.2]
  exact ⟨⟨j.1,hk.1⟩,hk.2⟩
include h0 h9 in
theorem j5_sp (out:LI) (ho:out.length+szX x+300≤lim):q65_J5_P out x∧q65_J5_F out x=chk x (out++(rS x++tlS x)):=by
  unfold q65_J5_P q65_J5_F rS
  by_cases c:x.2.2.2.2.2.1=0
  · have j:=j4_sp x h0 h9 out (by omega)
    rw [decide_eq_true c,if_pos c,List.nil_append]
    exact j
  · have j:=j4_sp x h0 h9 (out++[32,x.2.2.2.2.2.1]) (by simp only [List.length_append,List.length_cons,List.length_nil]; omega)
    rw [List.append_assoc] at j
    rw [decide_eq_false c,if_neg c]
    exact ⟨⟨by simp only [List.length_cons,List.length_nil]; omega,j.1⟩,j.2⟩
include h0 h9 in
theorem j6_sp (out:LI) (ho:out.length+szX x+szX x+20000≤lim):q65_J6_P out x∧q65_J6_F out x=chk x (out++(nmS x++(rS x++tlS x))):=by
  have hn:=nmS_len x h9
  have hz:x.2.2.2.1.length≤szX x:=by unfold szX; omega
  have j:=j5_sp x h0 h9 (out++nmS x) (by rw [List.length_append]; omega)
  rw [List.append_assoc] at j
  have j0:q65_J0_P out (decide (x.2.2.2.1=[62]) || decide (x.2.2.2.1=[60])) x∧q65_J0_F out (decide (x.2.2.2.1=[62]) || decide (x.2.2.2.1=[60])) x=(out++nmS x,x):=by
    unfold q65_J0_P q65_J0_F nmS
    by_cases c:x.2.2.2.1=[62]∨x.2.2.2.1=[60]
    · rw [show (decide (x.2.2.2.1=[62]) || decide (x.2.2.2.1=[60]))=true by rcases c with h | h <;> simp [h],if_pos c]
      have hl:x.2.2.2.1.length=1:=by rcases c with h | h <;> rw [h] <;> rfl
      refine ⟨⟨⟨h0,by omega,by rw [hl]; omega,by rw [hl]; omega⟩,?_⟩,rfl⟩
      show out.length+(repB x.2.2.2.1 x.2.2.2.2.2.2.1.toNat).length≤lim
      rw [repB_length,hl]; omega
    · rw [show (decide (x.2.2.2.1=[62]) || decide (x.2.2.2.1=[60]))=false by simp at c; simp [c],if_neg c]
      exact ⟨show out.length+x.2.2.2.1.length≤lim by omega,rfl⟩
  unfold q65_J6_P q65_J6_F
  by_cases c1:x.2.2.2.1=[62]
  · rw [decide_eq_true c1,Bool.true_or] at j0
    rw [decide_eq_true c1]
    simp only [cond_true,j0.2]
    exact ⟨⟨j0.1,j.1⟩,j.2⟩
  · rw [decide_eq_false c1,Bool.false_or] at j0
    rw [decide_eq_false c1]
    simp only [cond_false,j0.2]
    exact ⟨⟨j0.1,j.1⟩,j.2⟩
end
theorem spell_s (x:ExD) (hx:3 * szX x+30000≤lim):q65_P x∧q65_F x=if x.2.2.2.2.2.2.1<0∨9999<x.2.2.2.2.2.2.1 then [] else chk x (spS x):=by
  unfold q65_P q65_F
  by_cases h0:x.2.2.2.2.2.2.1<0
  · rw [decide_eq_true h0,if_pos (.inl h0)]; exact ⟨trivial,rfl⟩
  rw [decide_eq_false h0]
  by_cases h9:9999<x.2.2.2.2.2.2.1
  · rw [decide_eq_true h9,if_pos (.inr h9)]; exact ⟨trivial,rfl⟩
  rw [decide_eq_false h9,if_neg (by omega)]
  have hz1:x.1.2.2.2.1.length+x.2.1.2.2.2.1.length≤szX x:=by unfold szX; omega
  have hr:=rgS_len x
  have j:=j6_sp x (by omega) (by omega) (rgS x) (by omega)
  unfold spS
  cases hw:x.2.2.1
  · obtain ⟨sp,sf⟩:=addr_s x.1 (by omega)
    obtain ⟨tp,tf⟩:=addr_s x.2.1 (by omega)
    have l1:=adS_len x.1
    have l2:=adS_len x.2.1
    simp only [cond_false,sf,tf]
    cases hg:x.2.1.2.2.2.2.2
    · have e:rgS x=[]++adS x.1:=by unfold rgS; rw [hw,hg]; simp
      rw [e] at j
      rw [e]
      exact ⟨⟨sp,by simp only [List.length_nil]; omega,j.1⟩,j.2⟩
    · have e:rgS x=([]++adS x.1++[44])++adS x.2.1:=by unfold rgS; rw [hw,hg]; simp
      rw [e] at j
      rw [e]
      exact ⟨⟨sp,by simp only [List.length_nil]; omega,by simp only [List.length_append,List.length_cons,List.length_nil]; omega,tp,by simp only [List.length_append,List.length_cons,List.length_nil]; omega,j.1⟩,j.2⟩
  · have e:rgS x=[]++[37]:=by unfold rgS; rw [hw]; simp
    rw [e] at j
    rw [e]
    exact ⟨⟨by simp only [List.length_cons,List.length_nil]; omega,j.1⟩,j.2⟩
end Go.VE
namespace Go.VE
theorem bk_cons {c:Int} {t:LI} (h1:c≠32) (h2:c≠9):bk (c::t)=c::t:=by
  unfold bk; rw [bls_cons,if_neg (by simp [h1,h2])]; rfl
theorem bk_sp (t:LI):bk (32::t)=bk t:=by
  unfold bk; rw [bls_cons,if_pos (.inl rfl)]; rfl
def RegOk (dg:Bool) (c:Int):Prop:=c=0∨(c≠0∧q83_F c=true∧(isDg c=true→dg=true))
inductive CanX (a b:Adr) (w:Bool):ExD→Prop
  | dy (c rg n:Int):c=100∨c=121→RegOk false rg→0≤n→n≤9999→CanX a b w (a,b,w,[c],adr0,rg,n,[],[],false)
  | pu (e:Bool) (rg:Int):RegOk true rg→CanX a b w (a,b,w,if e=true then [112,117,33] else [112,117],adr0,rg,0,[],[],false)
  | j (e:Bool) (n:Int):0≤n→n≤9999→CanX a b w (a,b,w,if e=true then [106,33] else [106],adr0,0,n,[],[],false)
  | sh (c n:Int):c=62∨c=60→1≤n→n≤9999→CanX a b w (a,b,w,[c],adr0,0,n,[],[],false)
  | tm (c:Int) (d:Adr):c=116∨c=109→CanA d→CanX a b w (a,b,w,[c],d,0,0,[],[],false)
  | s (old new:LI) (all:Bool):clo (old++[47]) 47=old.length→(all=true→clo (new++[47]) 47=new.length)→(all=false→clo new 47=new.length∧alo new=false)→CanX a b w (a,b,w,[115],adr0,0,0,old,new,all)
theorem rg_ok (dg:Bool) (l:LI):RegOk dg (rg dg l).1:=by
  unfold rg
  split
  · exact .inl rfl
  · rename_i c r _
    by_cases h:c=0∨q83_F c=false∨(isDg c=true∧dg=false)
    · rw [if_pos h]; exact .inl rfl
    · rw [if_neg h]
      refine .inr ⟨fun h0=>h (.inl h0),?_,fun hd=>?_⟩
      · cases hv:q83_F c
        · exact absurd (.inr (.inl hv)) h
        · rfl
      · cases dg
        · exact absurd (.inr (.inr ⟨hd,rfl⟩)) h
        · rfl
theorem cnM_rng {l:LI} {n:Int} {t:LI} (h:cnM l=.inl (n,t)):0≤n∧n≤9999:=by
  unfold cnM at h
  split at h
  · split at h
    · cases h
    · cases h; exact cnt_range _ 0 (by omega) (by omega)
  · cases h; omega
theorem gvM_can {l:LI} {d:Adr} {t:LI} (h:gvM l=.inl (d,t)):CanA d:=by
  unfold gvM at h
  split at h
  · cases h
  · rename_i a r ha
    split at h
    · rename_i hg
      cases h
      rcases adM_can ha with rfl | hc
      · cases hg
      · exact hc
    · cases h
theorem ptM_can {l:LI} {o:LI} {e:Bool} {t:LI} (h:ptM l=.inl ((o,e),t)):(e=true→clo (o++[47]) 47=o.length)∧(e=false→clo o 47=o.length∧alo o=false):=by
  unfold ptM at h
  have hle:=clo_le l 47
  split at h
  · rename_i hc
    cases h
    refine ⟨fun _=>?_,fun h=>(by cases h)⟩
    rw [clo_take (by decide) l (fun hh=>by omega),List.length_take]; omega
  · rename_i hc
    split at h
    · cases h
    · rename_i ha
      cases h
      exact ⟨fun h=>(by cases h),fun _=>⟨by omega,by simpa using ha⟩⟩
theorem cm_can {a b:Adr} {w:Bool} {l:LI} {x:ExD} {t:LI} (h:cmM a b w l=.inl (x,t)):CanX a b w x:=by
  cases l with
  | nil=>cases h
  | cons c r=>
    rw [cmM_cons] at h
    split at h
    · rename_i hc
      split at h
      · rename_i n u hn; cases h
        obtain ⟨h1,h2⟩:=cnM_rng hn
        exact .dy c _ n hc (rg_ok _ _) h1 h2
      · cases h
    · split at h
      · split at h
        · cases h
        · cases h; exact .pu _ _ (rg_ok _ _)
      · split at h
        · split at h
          · rename_i n u hn; cases h
            obtain ⟨h1,h2⟩:=cnM_rng hn
            exact .j _ n h1 h2
          · cases h
        · split at h
          · rename_i hc
            cases h
            exact .sh c _ hc (by split <;> omega) (by split <;> omega)
          · split at h
            · split at h
              · cases h
              · split at h
                · rename_i d u hg; cases h; exact .tm 116 d (.inl rfl) (gvM_can hg)
                · cases h
            · split at h
              · rename_i hc
                split at h
                · rename_i d u hg; cases h; exact .tm c d hc (gvM_can hg)
                · cases h
              · split at h
                · unfold rpM at h
                  split at h
                  · cases h
                  · split at h
                    · cases h
                    · cases h
                    · rename_i old u hp
                      have ho:=(ptM_can hp).1 rfl
                      split at h
                      · cases h
                      · rename_i new v hp2
                        cases h
                        have hn:=(ptM_can hp2).1 rfl
                        exact .s old new _ ho (fun _=>hn) (fun _=>clo_alone (by decide) new hn)
                      · rename_i new v hp2
                        cases h
                        exact .s old new false ho (fun h=>(by cases h)) (fun _=>(ptM_can hp2).2 rfl)
                · cases h
theorem cnt_dec0:∀ a b:Fin 100,cnt 0 (dec (100 * a.val+b.val))=((100 * a.val+b.val:Nat):Int):=by decide +kernel
theorem cnt_dec {n:Nat} (h:n≤9999):cnt 0 (dec n)=n:=by
  have:=cnt_dec0 ⟨n / 100,by omega⟩ ⟨n % 100,by omega⟩
  simpa [Nat.div_add_mod] using this
def cnS (n:Int):LI:=if 0<n then 32::dec n.toNat else []
theorem dec_head (n:Nat):∃ c t,dec n=c::t∧isDg c=true:=by
  cases h:dec n with
  | nil=>exact absurd h (dec_ne n)
  | cons c t=>exact ⟨c,t,rfl,dec_dg (n:=n) (by rw [h]; exact List.mem_cons_self)⟩
theorem bk_dec (n:Nat):bk (dec n)=dec n:=by
  obtain ⟨c,t,e,hd⟩:=dec_head n
  have:=isDg_of hd
  rw [e]; exact bk_cons (by omega) (by omega)
theorem cnM_dec {n:Int} (h0:0<n) (h9:n≤9999):cnM (dec n.toNat)=.inl (n,[]):=by
  have hd:=dgs_dec n.toNat (r:=[]) (fun c t h=>by cases h)
  rw [List.append_nil] at hd
  have hc:=cnt_dec (n:=n.toNat) (by omega)
  obtain ⟨c,t,e,hdg⟩:=dec_head n.toNat
  unfold cnM
  rw [bk_dec,if_pos (by rw [e]; exact hdg),hc,if_neg (by omega),hd,List.drop_length,show ((n.toNat:Nat):Int)=n by omega]
theorem cnM_sp (l:LI):cnM (32::l)=cnM l:=by unfold cnM; rw [bk_sp]
theorem cnM_cnS {n:Int} (h0:0≤n) (h9:n≤9999):cnM (cnS n)=.inl (n,[]):=by
  unfold cnS
  by_cases h:0<n
  · rw [if_pos h,cnM_sp]; exact cnM_dec h h9
  · rw [if_neg h,show n=0 by omega]; rfl
def rgSt (c:Int):LI:=if c=0 then [] else [32,c]
theorem valid_nb {c:Int} (h:q83_F c=true):c≠32∧c≠9:=by
  refine ⟨fun e=>?_,fun e=>?_⟩
  · subst e; exact absurd h (by decide)
  · subst e; exact absurd h (by decide)
theorem rg_back {dg:Bool} {c:Int} (h:RegOk dg c) (t:LI) (hc:c≠0):rg dg (rgSt c++t)=(c,t):=by
  rcases h with h | ⟨h0,hv,hd⟩
  · exact absurd h hc
  obtain ⟨n1,n2⟩:=valid_nb hv
  unfold rgSt rg
  rw [if_neg hc,List.cons_append,List.cons_append,List.nil_append,bk_sp,bk_cons n1 n2]
  dsimp only
  rw [if_neg]
  rintro (h | h | ⟨h,h2⟩)
  · exact hc h
  · rw [hv] at h; cases h
  · rw [hd h] at h2; cases h2
theorem dy_back {c n:Int} (h:RegOk false c) (h0:0≤n) (h9:n≤9999):(rg false (rgSt c++cnS n)).1=c∧cnM (rg false (rgSt c++cnS n)).2=.inl (n,[]):=by
  by_cases hc:c=0
  · subst hc
    rw [show rgSt 0=[] from rfl,List.nil_append]
    unfold cnS
    by_cases hn:0<n
    · rw [if_pos hn]
      obtain ⟨d,t,e,hdg⟩:=dec_head n.toNat
      have hb:rg false (32::dec n.toNat)=(0,dec n.toNat):=by
        unfold rg
        rw [bk_sp,bk_dec,e]
        dsimp only
        rw [if_pos (.inr (.inr ⟨hdg,rfl⟩))]
      rw [hb]
      exact ⟨rfl,cnM_dec hn h9⟩
    · rw [if_neg hn,show n=0 by omega]
      exact ⟨rfl,rfl⟩
  · rw [rg_back h _ hc]
    exact ⟨rfl,cnM_cnS h0 h9⟩
theorem pu_back {c:Int} (h:RegOk true c):rg true (rgSt c)=(c,[]):=by
  by_cases hc:c=0
  · subst hc; rfl
  · have:=rg_back h [] hc
    rwa [List.append_nil] at this
theorem reps_rep (c:Int):∀ n,reps c (repB [c] n)=n∧(repB [c] n).length=n
  | 0=>⟨rfl,rfl⟩
  | n+1=>by
    obtain ⟨h1,h2⟩:=reps_rep c n
    rw [repB,List.singleton_append,reps_cons,if_pos rfl,h1,List.length_cons,h2]
    exact ⟨rfl,rfl⟩
theorem adS_head {a:Adr} (h:CanA a):∃ c t,adS a=c::t∧c≠32∧c≠9∧c≠37∧c≠44:=by
  rw [adS_eq h,adT_eq]
  cases h with
  | num n x hn1 hn2 h1 h2=>
    obtain ⟨d,t,e,hdg⟩:=dec_head n.toNat
    have:=isDg_of hdg
    have e2:bsS (110,n,0,[],x,true)=dec n.toNat:=by unfold bsS nI; rw [if_pos rfl,if_neg (by dsimp only; omega)]
    rw [e2,e]
    exact ⟨d,_,rfl,by omega,by omega,by omega,by omega⟩
  | here c x hc h1 h2=>
    rcases hc with rfl | rfl
    · exact ⟨46,_,rfl,by decide,by decide,by decide,by decide⟩
    · exact ⟨36,_,rfl,by decide,by decide,by decide,by decide⟩
  | mark n x h1 h2=>exact ⟨39,_,rfl,by decide,by decide,by decide,by decide⟩
  | text c x t hc ht h1 h2=>
    rcases hc with rfl | rfl
    · exact ⟨47,_,rfl,by decide,by decide,by decide,by decide⟩
    · exact ⟨63,_,rfl,by decide,by decide,by decide,by decide⟩
  | none x h1 h2=>
    obtain ⟨b,n,e,_,hb,_⟩:=adX_form x h1 h2
    have e2:(if x=0∧(0:Int)≠0 then ([]:LI) else adX x)=adX x:=by simp
    dsimp only
    rw [show bsS (0,0,0,[],x,true)=[] from rfl,e2,e]
    rcases hb with rfl | rfl
    · exact ⟨43,_,rfl,by decide,by decide,by decide,by decide⟩
    · exact ⟨45,_,rfl,by decide,by decide,by decide,by decide⟩
theorem gv_back {d:Adr} (h:CanA d):gvM (32::adS d)=.inl (d,[]):=by
  obtain ⟨c,t,e,n1,n2,_⟩:=adS_head h
  have hb:bk (32::adS d)=adS d:=by rw [bk_sp,e,bk_cons n1 n2]
  have:=back_s h (r:=[]) (fun c t h=>by cases h)
  rw [List.append_nil] at this
  unfold gvM
  rw [hb,this]
  dsimp only
  rw [if_pos h.given]
abbrev hdL:LI:=[100,121,112,106,62,60,116,109,115]
theorem tk33_rg (c:Int):tk 33 (rgSt c)=(false,rgSt c):=by
  unfold rgSt
  split
  · rfl
  · rfl
theorem tk33_cn (n:Int):tk 33 (cnS n)=(false,cnS n):=by
  unfold cnS
  split
  · rfl
  · rfl
theorem cm_back {a b:Adr} {w:Bool} {x:ExD} (h:CanX a b w x):∃ c t,nmS x++(rS x++tlS x)=c::t∧c∈hdL∧cmM a b w (c::t)=.inl (x,[]):=by
  cases h with
  | dy c rg n hc hr h0 h9=>
    refine ⟨c,rgSt rg++cnS n,?_,by rcases hc with rfl | rfl <;> simp,?_⟩
    · rcases hc with rfl | rfl <;> rfl
    · obtain ⟨q1,q2⟩:=dy_back hr h0 h9
      rw [cmM_cons,if_pos hc,q1,q2]
  | pu e rg hr=>
    cases e
    · refine ⟨112,117::rgSt rg,?_,by simp,?_⟩
      · show [112,117]++(rgSt rg++[])=_
        rw [List.append_nil]; rfl
      · have:cmM a b w (112::117::rgSt rg)=.inl ((a,b,w,if (tk 33 (rgSt rg)).1=true then [112,117,33] else [112,117],adr0,(Go.VE.rg true (tk 33 (rgSt rg)).2).1,0,[],[],false),(Go.VE.rg true (tk 33 (rgSt rg)).2).2):=rfl
        rw [this,tk33_rg,pu_back hr]
        all_goals rfl
    · refine ⟨112,117::33::rgSt rg,?_,by simp,?_⟩
      · show [112,117,33]++(rgSt rg++[])=_
        rw [List.append_nil]; rfl
      · have:cmM a b w (112::117::33::rgSt rg)=.inl ((a,b,w,[112,117,33],adr0,(Go.VE.rg true (rgSt rg)).1,0,[],[],false),(Go.VE.rg true (rgSt rg)).2):=rfl
        rw [this,pu_back hr]
        all_goals rfl
  | j e n h0 h9=>
    cases e
    · refine ⟨106,cnS n,rfl,by simp,?_⟩
      have:cmM a b w (106::cnS n)=(match cnM (tk 33 (cnS n)).2 with
      | .inl (m,t)=>.inl ((a,b,w,if (tk 33 (cnS n)).1=true then [106,33] else [106],adr0,0,m,[],[],false),t)
      | .inr e=>.inr e):=rfl
      rw [this,tk33_cn,cnM_cnS h0 h9]
      all_goals rfl
    · refine ⟨106,33::cnS n,rfl,by simp,?_⟩
      have:cmM a b w (106::33::cnS n)=(match cnM (cnS n) with
      | .inl (m,t)=>.inl ((a,b,w,[106,33],adr0,0,m,[],[],false),t)
      | .inr e=>.inr e):=rfl
      rw [this,cnM_cnS h0 h9]
      all_goals rfl
  | sh c n hc h1 h9=>
    obtain ⟨k,hk⟩:∃ k:Nat,n.toNat=k+1:=⟨n.toNat - 1,by omega⟩
    obtain ⟨q1,q2⟩:=reps_rep c k
    refine ⟨c,repB [c] k,?_,by rcases hc with rfl | rfl <;> simp,?_⟩
    · have e1:nmS (a,b,w,[c],adr0,0,n,[],[],false)=repB [c] n.toNat:=by
        unfold nmS; rw [if_pos (by rcases hc with rfl | rfl <;> simp)]
      have e2:tlS (a,b,w,[c],adr0,0,n,[],[],false)=[]:=by rcases hc with rfl | rfl <;> rfl
      rw [e1,e2,hk]
      show [c]++repB [c] k++([]++[])=_
      simp
    · have hcm:cmM a b w (c::repB [c] k)=.inl ((a,b,w,[c],adr0,0,if 9999<1+(reps c (repB [c] k):Int) then 9999 else 1+(reps c (repB [c] k):Int),[],[],false),(repB [c] k).drop (reps c (repB [c] k))):=by
        rw [cmM_cons,if_neg (by rcases hc with h | h <;> omega),if_neg (by rcases hc with h | h <;> omega),if_neg (by rcases hc with h | h <;> omega),if_pos hc]
      rw [hcm,q1,if_neg (by omega),show 1+(k:Int)=n by omega,List.drop_eq_nil_of_le (by omega)]
  | tm c d hc hd=>
    refine ⟨c,32::adS d,?_,by rcases hc with rfl | rfl <;> simp,?_⟩
    · rcases hc with rfl | rfl <;> rfl
    · have hcm:cmM a b w (c::32::adS d)=(match gvM (32::adS d) with
        | .inl (d,t)=>.inl ((a,b,w,[c],d,0,0,[],[],false),t)
        | .inr e=>.inr e):=by
        rw [cmM_cons,if_neg (by rcases hc with h | h <;> omega),if_neg (by rcases hc with h | h <;> omega),if_neg (by rcases hc with h | h <;> omega),if_neg (by rcases hc with h | h <;> omega),if_neg (by rcases hc with h | h <;> omega),if_pos hc]
        all_goals (rcases gvM (32::adS d) with ⟨d,t⟩ | e <;> rfl)
      rw [hcm,gv_back hd]
  | s old new all ho h1 h2=>
    refine ⟨115,47::(old++(47::(new++(if all=true then [47,103] else [])))),rfl,by simp,?_⟩
    have hcm:cmM a b w (115::47::(old++(47::(new++(if all=true then [47,103] else [])))))=rpM a b w (47::(old++(47::(new++(if all=true then [47,103] else []))))):=rfl
    rw [hcm]
    have p1:∀ r,ptM (old++47::r)=.inl ((old,true),r):=fun r=>by
      have hc:=clo_app (by decide) old r ho
      unfold ptM
      rw [hc,if_pos (by simp only [List.length_append,List.length_cons]; omega),List.take_left]
      rw [show old++47::r=(old++[47])++r by simp,show old.length+1=(old++[47]).length by simp,List.drop_left]
    have hT:∀ r nw u,ptM r=.inl ((nw,true),u)→rpM a b w (47::(old++47::r))=.inl ((a,b,w,[115],adr0,0,0,old,nw,(tk 103 u).1),(tk 103 u).2):=fun r nw u h=>by
      unfold rpM
      rw [tk_cons,if_pos rfl]
      dsimp only
      rw [p1]
      dsimp only
      rw [h]
      all_goals rfl
    have hF:∀ r nw u,ptM r=.inl ((nw,false),u)→rpM a b w (47::(old++47::r))=.inl ((a,b,w,[115],adr0,0,0,old,nw,false),u):=fun r nw u h=>by
      unfold rpM
      rw [tk_cons,if_pos rfl]
      dsimp only
      rw [p1]
      dsimp only
      rw [h]
      all_goals rfl
    cases all
    · obtain ⟨q1,q2⟩:=h2 rfl
      have:ptM (new++[])=.inl ((new,false),[]):=by
        rw [List.append_nil]
        unfold ptM
        rw [q1,if_neg (by omega),if_neg (by rw [q2]; simp)]
      rw [if_neg (by simp)]
      exact hF _ _ _ this
    · have hc:=clo_app (by decide) new [103] (h1 rfl)
      have:ptM (new++[47,103])=.inl ((new,true),[103]):=by
        unfold ptM
        rw [hc,if_pos (by simp only [List.length_append,List.length_cons,List.length_nil]; omega),List.take_left]
        rw [show new++[47,103]=(new++[47])++[103] by simp,show new.length+1=(new++[47]).length by simp,List.drop_left]
      rw [if_pos rfl]
      exact hT _ _ _ this
inductive RgOk:Bool→Adr→Adr→Bool→Prop
  | whole:RgOk true adr0 adr0 true
  | no:RgOk false adr0 adr0 false
  | one (a:Adr):CanA a→RgOk true a adr0 false
  | two (a b:Adr):CanA a→CanA b→RgOk true a b false
theorem here_can {a:Adr} (h:a=adr0∨CanA a):CanA (hereM a):=by
  unfold hereM
  rcases h with rfl | h
  · exact CanA.here 46 0 (.inl rfl) (by omega) (by omega)
  · rw [if_pos h.given]; exact h
theorem spM_ok {l:LI} {g w:Bool} {a b:Adr} {r:LI} (h:spM l=.inl ((g,a,b,w),r)):RgOk g a b w:=by
  unfold spM at h
  split at h
  · cases h; exact .whole
  · split at h
    · cases h
    · rename_i a' r' ha
      have hc:=adM_can ha
      split at h
      · split at h
        · cases h
        · rename_i b' u hb
          cases h
          exact .two _ _ (here_can hc) (here_can (adM_can hb))
      · cases h
        rcases hc with rfl | hc
        · exact .no
        · rw [hc.given]; exact .one _ hc
def TlOk (T:LI):Prop:=T=[]∨∃ c t,T=c::t∧c∈hdL
theorem hdL_ne {c:Int} (h:c∈hdL):isDg c=false∧c≠43∧c≠45∧c≠32∧c≠9∧c≠37∧c≠44∧¬ (c=46∨c=36)∧c≠39∧¬ (c=47∨c=63):=by
  simp only [hdL,List.mem_cons,List.not_mem_nil,or_false] at h
  rcases h with rfl | rfl | rfl | rfl | rfl | rfl | rfl | rfl | rfl <;> decide
theorem TlOk.ns {T:LI} (h:TlOk T):nsH T:=by
  intro c t e
  rcases h with rfl | ⟨d,u,rfl,hd⟩
  · cases e
  · injection e with e1 _; subst e1
    obtain ⟨q1,q2,q3,_⟩:=hdL_ne hd
    exact ⟨q1,q2,q3⟩
theorem TlOk.bk {T:LI} (h:TlOk T):bk T=T:=by
  rcases h with rfl | ⟨d,u,rfl,hd⟩
  · rfl
  · obtain ⟨_,_,_,q1,q2,_⟩:=hdL_ne hd
    exact bk_cons q1 q2
theorem TlOk.tk {T:LI} (h:TlOk T) (b:Int) (hb:b=37∨b=44):tk b T=(false,T):=by
  rcases h with rfl | ⟨d,u,rfl,hd⟩
  · rfl
  · obtain ⟨_,_,_,_,_,q1,q2,_⟩:=hdL_ne hd
    rw [tk_cons,if_neg (by rcases hb with rfl | rfl <;> assumption)]
theorem tk37_can {a:Adr} (h:CanA a) (r:LI):tk 37 (adS a++r)=(false,adS a++r)∧bk (adS a++r)=adS a++r:=by
  obtain ⟨c,t,e,n1,n2,n3,_⟩:=adS_head h
  rw [e,List.cons_append]
  exact ⟨by rw [tk_cons,if_neg n3],bk_cons n1 n2⟩
theorem adM_none {T:LI} (h:TlOk T):adM T=.inl (adr0,T):=by
  have hs:=h.ns
  have hb:bsM T=.inl (adr0,T):=by
    rcases h with rfl | ⟨d,u,rfl,hd⟩
    · rfl
    · obtain ⟨q1,_,_,_,_,_,_,q2,q3,q4⟩:=hdL_ne hd
      rw [bsM_cons,if_neg (by rw [q1]; simp),if_neg q2,if_neg q3,if_neg q4]
  unfold adM
  rw [hb]
  show adF T adr0=_
  unfold adF
  rw [show adr0.2.2.2.2.1=0 from rfl,show adr0.2.2.2.2.2=false from rfl,adds_end hs]
  rfl
def rgP (a b:Adr) (w:Bool):LI:=if w=true then [37] else adS a++(if b.2.2.2.2.2=true then 44::adS b else [])
theorem spM_back {g w:Bool} {a b:Adr} (h:RgOk g a b w) {T:LI} (hT:TlOk T):spM (bk (rgP a b w++T))=.inl ((g,a,b,w),T):=by
  cases h with
  | whole=>
    show spM (bk (37::T))=_
    rw [bk_cons (by decide) (by decide)]
    unfold spM
    rw [tk_cons,if_pos rfl]
  | no=>
    show spM (bk T)=_
    rw [hT.bk]
    unfold spM
    rw [hT.tk 37 (.inl rfl)]
    dsimp only
    rw [adM_none hT]
    dsimp only
    rw [hT.bk,hT.tk 44 (.inr rfl)]
    all_goals rfl
  | one a ha=>
    have e:rgP a adr0 false++T=adS a++T:=by
      show (adS a++[])++T=_
      rw [List.append_nil]
    obtain ⟨q1,q2⟩:=tk37_can ha T
    rw [e,q2]
    unfold spM
    rw [q1]
    dsimp only
    rw [back_s ha hT.ns]
    dsimp only
    rw [hT.bk,hT.tk 44 (.inr rfl),ha.given]
  | two a b ha hb=>
    have e:rgP a b false++T=adS a++(44::(adS b++T)):=by
      unfold rgP
      rw [if_neg (by simp),if_pos hb.given]
      simp
    obtain ⟨q1,q2⟩:=tk37_can ha (44::(adS b++T))
    obtain ⟨_,q3⟩:=tk37_can hb T
    have hs:nsH (44::(adS b++T)):=fun c t h=>by
      injection h with h _; subst h
      exact ⟨rfl,by decide,by decide⟩
    rw [e,q2]
    unfold spM
    rw [q1]
    dsimp only
    rw [back_s ha hs]
    dsimp only
    rw [bk_cons (by decide) (by decide),tk_cons,if_pos rfl]
    dsimp only
    rw [q3,back_s hb hT.ns]
    dsimp only
    unfold hereM
    rw [if_pos ha.given,if_pos hb.given]
theorem rgP_ne {a b:Adr} {w:Bool} (h:RgOk true a b w):rgP a b w≠[]:=by
  cases h with
  | whole=>exact List.cons_ne_nil _ _
  | one a ha=>
    obtain ⟨c,t,e,_⟩:=adS_head ha
    unfold rgP
    rw [if_neg (by simp),e]
    simp
  | two a b ha hb=>
    obtain ⟨c,t,e,_⟩:=adS_head ha
    unfold rgP
    rw [if_neg (by simp),e]
    simp
theorem canX_fst {a b:Adr} {w:Bool} {x:ExD} (h:CanX a b w x):x.1=a∧x.2.1=b∧x.2.2.1=w∧0≤x.2.2.2.2.2.2.1∧x.2.2.2.2.2.2.1≤9999:=by
  cases h with
  | dy c rg n hc hr h0 h9=>exact ⟨rfl,rfl,rfl,h0,h9⟩
  | pu e rg hr=>exact ⟨rfl,rfl,rfl,Int.le_refl 0,show (0:Int)≤9999 by decide⟩
  | j e n h0 h9=>exact ⟨rfl,rfl,rfl,h0,h9⟩
  | sh c n hc h1 h9=>exact ⟨rfl,rfl,rfl,show 0≤n by omega,h9⟩
  | tm c d hc hd=>exact ⟨rfl,rfl,rfl,Int.le_refl 0,show (0:Int)≤9999 by decide⟩
  | s old new all ho h1 h2=>exact ⟨rfl,rfl,rfl,Int.le_refl 0,show (0:Int)≤9999 by decide⟩
theorem round {l:LI} {x:ExD} (h:parM l=.inl x):parM (spS x)=.inl x∧spS x≠[]∧0≤x.2.2.2.2.2.2.1∧x.2.2.2.2.2.2.1≤9999:=by
  unfold parM at h
  split at h
  · cases h
  · rename_i g a b w r hsp
    have hr:=spM_ok hsp
    -- what stands behind the range,spelled
    have key:x.1=a∧x.2.1=b∧x.2.2.1=w∧0≤x.2.2.2.2.2.2.1∧x.2.2.2.2.2.2.1≤9999∧TlOk (nmS x++(rS x++tlS x))∧bhM g a b w (nmS x++(rS x++tlS x))=.inl (x,[])∧(nmS x++(rS x++tlS x)=[]→g=true):=by
      unfold bhM at h
      by_cases he:bk r=[]
      · rw [if_pos he] at h
        cases hg:g
        · rw [hg] at h; cases h
        · rw [hg,if_pos rfl] at h
          have hx:x=exB a b w:=by
            unfold enM at h
            dsimp only at h
            rw [if_pos (show bk ([]:LI)=[] from rfl)] at h
            cases h; rfl
          subst hx
          exact ⟨rfl,rfl,rfl,Int.le_refl 0,(show (0:Int)≤9999 by decide),.inl rfl,rfl,fun _=>rfl⟩
      · rw [if_neg he] at h
        unfold enM at h
        split at h
        · cases h
        · rename_i y t hy
          split at h
          · cases h
            have hc:=cm_can hy
            obtain ⟨q1,q2,q3,q4,q5⟩:=canX_fst hc
            obtain ⟨c,u,e,hm,hb⟩:=cm_back hc
            refine ⟨q1,q2,q3,q4,q5,.inr ⟨c,u,e,hm⟩,?_,fun h0=>by rw [h0] at e; cases e⟩
            rw [e]
            unfold bhM
            rw [if_neg (by simp)]
            exact hb
          · cases h
    obtain ⟨k1,k2,k3,k4,k5,hT,hb,hg⟩:=key
    have e:spS x=rgP a b w++(nmS x++(rS x++tlS x)):=by
      unfold spS rgS rgP
      rw [k1,k2,k3]
    refine ⟨?_,?_,k4,k5⟩
    · rw [e]
      unfold parM
      rw [spM_back hr hT]
      dsimp only
      rw [hT.bk,hb]
      unfold enM
      dsimp only
      rw [if_pos (show bk ([]:LI)=[] from rfl)]
    · rw [e]
      intro h0
      have h1:=List.append_eq_nil_iff.1 h0
      have:=hg h1.2
      subst this
      exact rgP_ne hr h1.1
theorem adM_tx {l:LI} {a:Adr} {r:LI} (h:adM l=.inl (a,r)):a.2.2.2.1.length≤l.length:=by
  unfold adM at h
  split at h
  · cases h
  · rename_i b t hb
    have hab:a.2.2.2.1=b.2.2.2.1:=by
      unfold adF at h
      split at h
      · cases h
      · split at h
        · cases h
        · cases h; rfl
    rw [hab]
    cases l with
    | nil=>cases hb; exact Nat.le_refl _
    | cons c u=>
      rw [bsM_cons] at hb
      split at hb
      · split at hb
        · cases hb; exact Nat.zero_le _
        · cases hb
      · split at hb
        · cases hb; exact Nat.zero_le _
        · split at hb
          · cases u with
            | nil=>cases hb
            | cons n u=>cases hb; exact Nat.zero_le _
          · split at hb
            · split at hb
              · cases hb
              · cases hb
                show (u.take (clo u c)).length≤u.length+1
                rw [List.length_take]; omega
            · cases hb; exact Nat.zero_le _
theorem here_tx (a:Adr):(hereM a).2.2.2.1.length≤a.2.2.2.1.length:=by
  unfold hereM
  split
  · exact Nat.le_refl _
  · exact Nat.zero_le _
theorem bk_le (l:LI):(bk l).length≤l.length:=suf_len (bk_suf l)
theorem tk_le (b:Int) (l:LI):(tk b l).2.length≤l.length:=suf_len (tk_suf b l)
theorem spM_tx {l:LI} {g w:Bool} {a b:Adr} {r:LI} (h:spM l=.inl ((g,a,b,w),r)):a.2.2.2.1.length≤l.length∧b.2.2.2.1.length≤l.length:=by
  unfold spM at h
  split at h
  · cases h; exact ⟨Nat.zero_le _,Nat.zero_le _⟩
  · split at h
    · cases h
    · rename_i a' r' ha
      have h1:=adM_tx ha
      have h2:=suf_len (adM_suf _ ha)
      have h3:=here_tx a'
      have h4:=tk_le 44 (bk r')
      have h5:=bk_le r'
      split at h
      · rename_i u hk
        rw [hk] at h4
        have h6:=bk_le u
        split at h
        · cases h
        · rename_i b' v hb
          have h7:=adM_tx hb
          have h8:=here_tx b'
          cases h
          dsimp only at h4
          exact ⟨by omega,by omega⟩
      · cases h; exact ⟨h1,Nat.zero_le _⟩
theorem gvM_tx {l:LI} {d:Adr} {t:LI} (h:gvM l=.inl (d,t)):d.2.2.2.1.length≤l.length:=by
  unfold gvM at h
  have:=bk_le l
  split at h
  · cases h
  · rename_i a r ha
    have:=adM_tx ha
    split at h
    · cases h; omega
    · cases h
theorem ptM_tx {l:LI} {o:LI} {e:Bool} {t:LI} (h:ptM l=.inl ((o,e),t)):o.length≤l.length:=by
  unfold ptM at h
  split at h
  · cases h; rw [List.length_take]; omega
  · split at h
    · cases h
    · cases h; exact Nat.le_refl _
theorem cmM_tx {a b:Adr} {w:Bool} {l:LI} {x:ExD} {t:LI} (h:cmM a b w l=.inl (x,t)):x.2.2.2.1.length+x.2.2.2.2.1.2.2.2.1.length+x.2.2.2.2.2.2.2.1.length+x.2.2.2.2.2.2.2.2.1.length≤3 * l.length+3:=by
  cases l with
  | nil=>cases h
  | cons c r=>
    simp only [List.length_cons]
    rw [cmM_cons] at h
    split at h
    · split at h
      · cases h; show 1+0+0+0≤_; omega
      · cases h
    · split at h
      · split at h
        · cases h
        · cases h
          show (List.length (if _ then _ else _))+0+0+0≤_
          split <;> simp only [List.length_cons,List.length_nil] <;> omega
      · split at h
        · split at h
          · cases h
            show (List.length (if _ then _ else _))+0+0+0≤_
            split <;> simp only [List.length_cons,List.length_nil] <;> omega
          · cases h
        · split at h
          · cases h; show 1+0+0+0≤_; omega
          · split at h
            · have h1:=tk_le 111 r
              split at h
              · cases h
              · rename_i u hk
                rw [hk] at h1
                dsimp only at h1
                split at h
                · rename_i d v hg
                  have:=gvM_tx hg
                  cases h
                  show 1+d.2.2.2.1.length+0+0≤_; omega
                · cases h
            · split at h
              · split at h
                · rename_i d v hg
                  have:=gvM_tx hg
                  cases h
                  show 1+d.2.2.2.1.length+0+0≤_; omega
                · cases h
              · split at h
                · unfold rpM at h
                  have h1:=tk_le 47 r
                  split at h
                  · cases h
                  · rename_i u hk
                    rw [hk] at h1
                    dsimp only at h1
                    split at h
                    · cases h
                    · cases h
                    · rename_i old v hp
                      have h2:=ptM_tx hp
                      have h3:=suf_len (ptM_suf hp)
                      split at h
                      · cases h
                      · rename_i new z hp2
                        have h4:=ptM_tx hp2
                        cases h
                        show 1+0+old.length+new.length≤_; omega
                      · rename_i new z hp2
                        have h4:=ptM_tx hp2
                        cases h
                        show 1+0+old.length+new.length≤_; omega
                · cases h
theorem par_sz {l:LI} {x:ExD} (h:parM l=.inl x):szX x≤5 * l.length+3:=by
  unfold parM at h
  split at h
  · cases h
  · rename_i g a b w r hsp
    have h0:=bk_le l
    obtain ⟨h1,h2⟩:=spM_tx hsp
    have h3:=suf_len (spM_suf hsp)
    have h4:=bk_le r
    unfold enM at h
    split at h
    · cases h
    · rename_i y t hy
      split at h
      · cases h
        unfold bhM at hy
        split at hy
        · split at hy
          · cases hy
            show a.2.2.2.1.length+b.2.2.2.1.length+0+0+0+0≤_; omega
          · cases hy
        · have h5:=cmM_tx hy
          obtain ⟨q1,q2,_⟩:=canX_fst (cm_can hy)
          unfold szX
          rw [q1,q2]
          omega
      · cases h
theorem bulk_bytes:∀ xs:List Int,bulk (.sl (.int .u8)) xs=xs.length+1:=by
  intro xs
  show (xs.map (bulk (.int .u8))).sum+1=_
  congr 1
  induction xs with
  | nil=>rfl
  | cons x xs ih=>rw [List.map_cons,List.sum_cons,ih,List.length_cons]; show 1+xs.length=_; omega
end Go.VE
namespace Go.VE
set_option maxRecDepth 20000
open Go Go.Proofs
def q86_G:List (Nat×App):=[]
theorem q86_Gok:GOk Tryz.prog (getG q86_G):=GOk.nil
def q86_raw (t0:LI) (at1:Int) (K:Res→List Cell→Prop):Prop:=
 bif (decide ((0:Int)≤at1)) then
 K (.one (.v .bool (decide (at1≤(List.length t0:Int))))) []
 else
 K (.one (.v .bool false)) []
def q86_A:List AS:=[.v yB,.v yI]

def q86_F (t0:LI) (at1:Int):Bool:=
 bif (decide ((0:Int)≤at1)) then
 (decide (at1≤(List.length t0:Int)))
 else
 false
theorem q86_sp (t0:LI) (at1:Int) (K:Res→List Cell→Prop) (_:wfA q86_A (t0,at1,())) (h:∀ r:Bool,r=q86_F t0 at1→K (.one (.v .bool r)) []):q86_raw t0 at1 K:=
 br0 h (fun _ h=>h _ rfl)
 fun _ h=>h _ rfl
def q86_C (v:valsA q86_A) (K:Res→List Cell→Prop):Prop:=∀ r:Bool,r=q86_F v.1 v.2.1→K (.one (.v .bool r)) []
def q86_S:App:=specW q86_A q86_C
theorem q86_wv (K:Res→List Cell→Prop):∀ v:valsA q86_A,runF tb (getG q86_G) [] Tryz.f68 [true] (mkA q86_A v) K=q86_raw v.1 v.2.1 K
  | (t0,at1,())=>by kernel_rfl
theorem q86_ok:AppOk Tryz.prog 68 q86_S:=
  AppOk.specW (spec_ok ((runF_ok tb_M tb_ok q86_Gok (LabsOk.nil) (f:=68) (fn:=Tryz.f68) (by kernel_rfl) (by kernel_rfl) (by kernel_rfl) [true])) fun v K hw h=>(q86_wv K v).mpr (q86_sp v.1 v.2.1 K hw h))

end Go.VE
namespace Go.VE
open Go Go.Proofs
def q12_A:List AS:=[]
def q12_S:App:=specW q12_A fun _ _=>False
theorem q12_ok:AppOk Tryz.prog 129 q12_S:=AppOk.never
def q13_F (xs:LI) (c:Int):Int:=(List.count c xs:Int)
def q13_S:App:=specW sliceByte_A fun v K=>∀ r:Int,r=q13_F v.1 v.2.1→K (.one (.v yI r)) []
theorem q13_ok:AppOk Tryz.prog 130 q13_S:=
  ext_count (fn:=Tryz.f130) (by kernel_rfl) (by kernel_rfl) (by kernel_rfl) (by kernel_rfl) (by kernel_rfl)

def q76_A:List AS:=[]
def q76_S:App:=specW q76_A fun _ _=>False
theorem q76_ok:AppOk Tryz.prog 131 q76_S:=AppOk.never
end Go.VE
namespace Go.VE
set_option maxRecDepth 20000
open Go Go.Proofs
def q77_G:List (Nat×App):=[(129,q12_S),(130,q13_S),(131,q76_S)]
theorem q77_Gok:GOk Tryz.prog (getG q77_G):=GOk.cons q12_ok (GOk.cons q13_ok (GOk.cons q76_ok (GOk.nil)))
theorem q77_st:storesC (bodyOf Tryz.f69)=true:=by kernel_rfl
def q77_d0:List LS:=[.v 0 yB,.v 1 yB,.v 5 yI]
def q77_dx0:DX:=⟨none,none,[]⟩
def q77_T0 (Y:LI→LI→Int→Prop)  (s0:LI) (sep1:LI) (n5:Int):Prop:=
 False
def q77_L0:Nat→LI→LI→Int→Prop
  | 0,_,_,_=>False
  | n+1,s0,sep1,n5=>wfD q77_d0 (s0,sep1,n5,())→q77_T0 (q77_L0  n)  s0 sep1 n5
def q77_c0:Pce:=ex tb (getG q77_G) [] (at' (bodyOf Tryz.f69) [0,0,1,1,1,1]) [0,0,1,1,1,1]
def q77_g0 (k:Ex→St→Prop) (n:Nat) (v:vals q77_d0):Prop:=q77_L0  n v.1 v.2.1 v.2.2.1
theorem q77_s0 (k:Ex→St→Prop) (Y:vals q77_d0→Prop):∀ v:vals q77_d0,q77_c0 (mkD 35 q77_d0 v) (lpK 35 q77_d0 q77_dx0 k Y)=q77_T0 (fun s0 sep1 n5=>Y (s0,sep1,n5,()))  v.1 v.2.1 v.2.2.1
  | (s0,sep1,n5,())=>by kernel_rfl
theorem q77_v0 (k:Ex→St→Prop):∀ (n:Nat) (v:vals q77_d0),lpD 35 q77_d0 q77_dx0 q77_c0 k n v=q77_g0 k n v
  | 0,(s0,sep1,n5,())=>rfl
  | n+1,(s0,sep1,n5,())=>congrArg (fun Z:Prop=>wfD q77_d0 (s0,sep1,n5,())→Z) ((q77_s0 k _ (s0,sep1,n5,())).trans (congrArg (fun Y=>q77_T0 Y  s0 sep1 n5) (funext fun s0=>funext fun sep1=>funext fun n5=>q77_v0 k n (s0,sep1,n5,()))))
def q77_X0:Pce:=fun st k=>ckD 35 q77_d0 st fun v=>wfD q77_d0 v→∃ n,q77_g0 k n v
theorem q77_x0:SemOk Tryz.prog (at' (bodyOf Tryz.f69) [0,1,1,1,1]) q77_X0:=
  (SemOk.loop (ex_sound tb_M tb_ok q77_Gok (LabsOk.nil) (at' (bodyOf Tryz.f69) [0,0,1,1,1,1]) [0,0,1,1,1,1] rfl (storesC_at q77_st [0,0,1,1,1,1])) 35 q77_d0 q77_dx0).mono fun st k h=>ckD_mono h fun v hv hw=>(hv hw).elim fun n hn=>⟨n,Eq.mpr (q77_v0 k n v) hn⟩
def q77_B0:Labs:=([0,1,1,1,1],q77_X0)::[]
theorem q77_b0:LabsOk Tryz.prog (bodyOf Tryz.f69) q77_B0:=LabsOk.cons q77_x0 (LabsOk.nil)
def q77_raw (s0:LI) (sep1:LI) (K:Res→List Cell→Prop):Prop:=
 bif (decide ((List.length sep1:Int)=(0:Int))) then
 False
 else
 bif (decide ((List.length sep1:Int)=(1:Int))) then
 bif decide (0≤(0:Int)∧(0:Int)<(List.length sep1:Int)) then
 ∀ (r1:Int),r1=q13_F s0 (rd (0:Int) sep1 (0:Int))→(
 wI r1→(
 K (.one (.v yI r1)) []))
 else False
 else
 (wfD q77_d0 (s0,sep1,(0:Int),())→∃ n,q77_L0  n s0 sep1 (0:Int))
def q77_A:List AS:=[.v yB,.v yB]
def q77_P (_ sep:LI):Prop:=sep.length=1
def q77_F (s sep:LI):Int:=(List.count (rd (0:Int) sep 0) s:Int)
theorem q77_sp (s sep:LI) (K:Res→List Cell→Prop) (_:wfA q77_A (s,sep,())) (hp:q77_P s sep) (h:∀ r:Int,r=q77_F s sep→K (.one (.v yI r)) []):q77_raw s sep K:=by
  unfold q77_P at hp
  unfold q77_raw
  exact brn (fun h0=>by omega) (fun _=>brn (fun _=>asrt (by omega) fun r hr _=>h r hr) (fun h1=>absurd (by omega) h1))

def q77_C (v:valsA q77_A) (K:Res→List Cell→Prop):Prop:=q77_P v.1 v.2.1∧∀ r:Int,r=q77_F v.1 v.2.1→K (.one (.v yI r)) []
def q77_S:App:=specW q77_A q77_C
theorem q77_wv (K:Res→List Cell→Prop):∀ v:valsA q77_A,runF tb (getG q77_G) q77_B0 Tryz.f69 [true] (mkA q77_A v) K=q77_raw v.1 v.2.1 K
  | (s0,sep1,())=>by kernel_rfl
theorem q77_ok:AppOk Tryz.prog 69 q77_S:=
  AppOk.specW (spec_ok ((runF_ok tb_M tb_ok q77_Gok (q77_b0) (f:=69) (fn:=Tryz.f69) (by kernel_rfl) (by kernel_rfl) q77_st [true])) fun v K hw h=>(q77_wv K v).mpr (q77_sp v.1 v.2.1 K hw h.1 h.2))

def q89_G:List (Nat×App):=[(68,q86_S),(69,q77_S)]
theorem q89_Gok:GOk Tryz.prog (getG q89_G):=GOk.cons q86_ok (GOk.cons q77_ok (GOk.nil))
def q89_raw (t0:LI) (at1:Int) (K:Res→List Cell→Prop):Prop:=
 ∀ (r1:Bool),r1=q86_F t0 at1→(
 wB r1→(
 bif (!r1) then
 K (.tup [.v yI (0:Int),.v yI (2:Int)]) []
 else
 bif decide (0≤at1∧at1≤(List.length t0:Int)) then
 q77_P (List.take (Int.toNat at1) t0) ([(10:Int)]:LI)∧(
 ∀ (r2:Int),r2=q77_F (List.take (Int.toNat at1) t0) ([(10:Int)]:LI)→(
 wI r2→(
 K (.tup [.v yI r2,.v yI (0:Int)]) [])))
 else False))
def q89_A:List AS:=[.v yB,.v yI]

def q89_P (t0:LI) (at1:Int):Prop:=
 let r1:Bool:=q86_F t0 at1
 bif (!r1) then
 True
 else
 (0≤at1∧at1≤(List.length t0:Int))∧(
 q77_P (List.take (Int.toNat at1) t0) ([(10:Int)]:LI))
def q89_F (t0:LI) (at1:Int):Int×Int:=
 let r1:Bool:=q86_F t0 at1
 bif (!r1) then
 ((0:Int),(2:Int))
 else
 let r2:Int:=q77_F (List.take (Int.toNat at1) t0) ([(10:Int)]:LI)
 (r2,(0:Int))
theorem q89_sp (t0:LI) (at1:Int) (K:Res→List Cell→Prop) (_:wfA q89_A (t0,at1,())) (hp:q89_P t0 at1) (h:∀ r:Int×Int,r=q89_F t0 at1→K (.tup [.v yI r.1,.v yI r.2]) []):q89_raw t0 at1 K:=
 al (br1 hp h (fun _ hp h=>h _ rfl)
 fun _ hp h=>as1 hp fun hp=>⟨hp,al (h _ rfl)⟩)
def q89_C (v:valsA q89_A) (K:Res→List Cell→Prop):Prop:=q89_P v.1 v.2.1∧∀ r:Int×Int,r=q89_F v.1 v.2.1→K (.tup [.v yI r.1,.v yI r.2]) []
def q89_S:App:=specW q89_A q89_C
theorem q89_wv (K:Res→List Cell→Prop):∀ v:valsA q89_A,runF tb (getG q89_G) [] Tryz.f24 [true,true] (mkA q89_A v) K=q89_raw v.1 v.2.1 K
  | (t0,at1,())=>by kernel_rfl
theorem q89_ok:AppOk Tryz.prog 24 q89_S:=
  AppOk.specW (spec_ok ((runF_ok tb_M tb_ok q89_Gok (LabsOk.nil) (f:=24) (fn:=Tryz.f24) (by kernel_rfl) (by kernel_rfl) (by kernel_rfl) [true,true])) fun v K hw h=>(q89_wv K v).mpr (q89_sp v.1 v.2.1 K hw h.1 h.2))
theorem q89_any (t:LI) (p:Int):q89_P t p:=by
  unfold q89_P q86_F q77_P
  dsimp only
  by_cases h1:0≤p <;> by_cases h2:p≤t.length <;> simp [h1,h2]

def q78_G:List (Nat×App):=[(69,q77_S)]
theorem q78_Gok:GOk Tryz.prog (getG q78_G):=GOk.cons q77_ok (GOk.nil)
def q78_raw (t0:LI) (K:Res→List Cell→Prop):Prop:=
 q77_P t0 ([(10:Int)]:LI)∧(
 ∀ (r1:Int),r1=q77_F t0 ([(10:Int)]:LI)→(
 wI r1→(
 K (.one (.v yI (IntKind.wrap .i64 (r1+(1:Int))))) [])))
def q78_A:List AS:=[.v yB]

def q78_P (t0:LI):Prop:=
 q77_P t0 ([(10:Int)]:LI)
def q78_F (t0:LI):Int:=
 let r1:Int:=q77_F t0 ([(10:Int)]:LI)
 (IntKind.wrap .i64 (r1+(1:Int)))
theorem q78_sp (t0:LI) (K:Res→List Cell→Prop) (_:wfA q78_A (t0,())) (hp:q78_P t0) (h:∀ r:Int,r=q78_F t0→K (.one (.v yI r)) []):q78_raw t0 K:=
 ⟨hp,al (h _ rfl)⟩
def q78_C (v:valsA q78_A) (K:Res→List Cell→Prop):Prop:=q78_P v.1∧∀ r:Int,r=q78_F v.1→K (.one (.v yI r)) []
def q78_S:App:=specW q78_A q78_C
theorem q78_wv (K:Res→List Cell→Prop):∀ v:valsA q78_A,runF tb (getG q78_G) [] Tryz.f28 [true] (mkA q78_A v) K=q78_raw v.1 K
  | (t0,())=>by kernel_rfl
theorem q78_ok:AppOk Tryz.prog 28 q78_S:=
  AppOk.specW (spec_ok ((runF_ok tb_M tb_ok q78_Gok (LabsOk.nil) (f:=28) (fn:=Tryz.f28) (by kernel_rfl) (by kernel_rfl) (by kernel_rfl) [true])) fun v K hw h=>(q78_wv K v).mpr (q78_sp v.1 K hw h.1 h.2))

end Go.VE
namespace Go.VE
open Go Go.Proofs
def q6_F (xs:LI) (c:Int):Int:=idxB xs c
def q6_S:App:=specW sliceByte_A fun v K=>∀ r:Int,r=q6_F v.1 v.2.1→K (.one (.v yI r)) []
theorem q6_ok:AppOk Tryz.prog 222 q6_S:=
  ext_indexByte (fn:=Tryz.f222) (by kernel_rfl) (by kernel_rfl) (by kernel_rfl) (by kernel_rfl) (by kernel_rfl)

end Go.VE
namespace Go.VE
set_option maxRecDepth 20000
open Go Go.Proofs
def q47_G:List (Nat×App):=[(222,q6_S)]
theorem q47_Gok:GOk Tryz.prog (getG q47_G):=GOk.cons q6_ok (GOk.nil)
def q47_raw (b0:LI) (c1:Int) (K:Res→List Cell→Prop):Prop:=
 ∀ (r1:Int),r1=q6_F b0 c1→(
 wI r1→(
 K (.one (.v yI r1)) []))
def q47_A:List AS:=[.v yB,.v yU]

def q47_F (b0:LI) (c1:Int):Int:=
 let r1:Int:=q6_F b0 c1
 r1
theorem q47_sp (b0:LI) (c1:Int) (K:Res→List Cell→Prop) (_:wfA q47_A (b0,c1,())) (h:∀ r:Int,r=q47_F b0 c1→K (.one (.v yI r)) []):q47_raw b0 c1 K:=
 al (h _ rfl)
def q47_C (v:valsA q47_A) (K:Res→List Cell→Prop):Prop:=∀ r:Int,r=q47_F v.1 v.2.1→K (.one (.v yI r)) []
def q47_S:App:=specW q47_A q47_C
theorem q47_wv (K:Res→List Cell→Prop):∀ v:valsA q47_A,runF tb (getG q47_G) [] Tryz.f189 [true] (mkA q47_A v) K=q47_raw v.1 v.2.1 K
  | (b0,c1,())=>by kernel_rfl
theorem q47_ok:AppOk Tryz.prog 189 q47_S:=
  AppOk.specW (spec_ok ((runF_ok tb_M tb_ok q47_Gok (LabsOk.nil) (f:=189) (fn:=Tryz.f189) (by kernel_rfl) (by kernel_rfl) (by kernel_rfl) [true])) fun v K hw h=>(q47_wv K v).mpr (q47_sp v.1 v.2.1 K hw h))

end Go.VE
namespace Go.VE
open Go Go.Proofs
def q90_A:List AS:=[]
def q90_S:App:=specW q90_A fun _ _=>False
theorem q90_ok:AppOk Tryz.prog 206 q90_S:=AppOk.never
def q52_A:List AS:=[]
def q52_S:App:=specW q52_A fun _ _=>False
theorem q52_ok:AppOk Tryz.prog 207 q52_S:=AppOk.never
end Go.VE
namespace Go.VE
set_option maxRecDepth 20000
open Go Go.Proofs
def q66_G:List (Nat×App):=[(28,q78_S),(189,q47_S),(206,q90_S),(207,q52_S)]
theorem q66_Gok:GOk Tryz.prog (getG q66_G):=GOk.cons q78_ok (GOk.cons q47_ok (GOk.cons q90_ok (GOk.cons q52_ok (GOk.nil))))
theorem q66_st:storesC (bodyOf Tryz.f167)=true:=by kernel_rfl
def q66_d0:List LS:=[.b 9 72 [],.v 12 yI,.v 13 yI,.c 72 tyA]
def q66_d0r:List LS:=[.v 10 yI,.v 11 yI]
def q66_dx0:DX:=⟨none,some q66_d0r,[]⟩
def q66_y0r (k:Ex→St→Prop) (x10:Int) (x11:Int):Prop:=wfD q66_d0r (x10,x11,())→k .ret (mkD 127 q66_d0r (x10,x11,()))
def q66_J0 (kr:Int→Int→Prop) (last12:Int) (l13:Int) (a9b:tAd):Prop:=
 bif (decide (l13<(0:Int))) then
 bif (decide (a9b.2.2.2.2.1≤(0:Int))) then
 kr (0:Int) (231:Int)
 else
 bif (decide (last12<l13)) then
 bif (decide ((0:Int)≤a9b.2.2.2.2.1)) then
 kr (0:Int) (231:Int)
 else
 bif (decide (last12<a9b.2.2.2.2.1)) then
 bif (decide ((0:Int)≤l13)) then
 kr (0:Int) (231:Int)
 else
 bif (decide ((IntKind.wrap .i64 (l13+a9b.2.2.2.2.1))<(0:Int))) then
 kr (0:Int) (231:Int)
 else
 bif (decide (last12<(IntKind.wrap .i64 (l13+a9b.2.2.2.2.1)))) then
 kr (0:Int) (231:Int)
 else
 kr (IntKind.wrap .i64 (l13+a9b.2.2.2.2.1)) (0:Int)
 else
 bif (decide ((IntKind.wrap .i64 (l13+a9b.2.2.2.2.1))<(0:Int))) then
 kr (0:Int) (231:Int)
 else
 bif (decide (last12<(IntKind.wrap .i64 (l13+a9b.2.2.2.2.1)))) then
 kr (0:Int) (231:Int)
 else
 kr (IntKind.wrap .i64 (l13+a9b.2.2.2.2.1)) (0:Int)
 else
 bif (decide (last12<a9b.2.2.2.2.1)) then
 bif (decide ((0:Int)≤l13)) then
 kr (0:Int) (231:Int)
 else
 bif (decide ((IntKind.wrap .i64 (l13+a9b.2.2.2.2.1))<(0:Int))) then
 kr (0:Int) (231:Int)
 else
 bif (decide (last12<(IntKind.wrap .i64 (l13+a9b.2.2.2.2.1)))) then
 kr (0:Int) (231:Int)
 else
 kr (IntKind.wrap .i64 (l13+a9b.2.2.2.2.1)) (0:Int)
 else
 bif (decide ((IntKind.wrap .i64 (l13+a9b.2.2.2.2.1))<(0:Int))) then
 kr (0:Int) (231:Int)
 else
 bif (decide (last12<(IntKind.wrap .i64 (l13+a9b.2.2.2.2.1)))) then
 kr (0:Int) (231:Int)
 else
 kr (IntKind.wrap .i64 (l13+a9b.2.2.2.2.1)) (0:Int)
 else
 bif (decide (last12<l13)) then
 bif (decide ((0:Int)≤a9b.2.2.2.2.1)) then
 kr (0:Int) (231:Int)
 else
 bif (decide (last12<a9b.2.2.2.2.1)) then
 bif (decide ((0:Int)≤l13)) then
 kr (0:Int) (231:Int)
 else
 bif (decide ((IntKind.wrap .i64 (l13+a9b.2.2.2.2.1))<(0:Int))) then
 kr (0:Int) (231:Int)
 else
 bif (decide (last12<(IntKind.wrap .i64 (l13+a9b.2.2.2.2.1)))) then
 kr (0:Int) (231:Int)
 else
 kr (IntKind.wrap .i64 (l13+a9b.2.2.2.2.1)) (0:Int)
 else
 bif (decide ((IntKind.wrap .i64 (l13+a9b.2.2.2.2.1))<(0:Int))) then
 kr (0:Int) (231:Int)
 else
 bif (decide (last12<(IntKind.wrap .i64 (l13+a9b.2.2.2.2.1)))) then
 kr (0:Int) (231:Int)
 else
 kr (IntKind.wrap .i64 (l13+a9b.2.2.2.2.1)) (0:Int)
 else
 bif (decide (last12<a9b.2.2.2.2.1)) then
 bif (decide ((0:Int)≤l13)) then
 kr (0:Int) (231:Int)
 else
 bif (decide ((IntKind.wrap .i64 (l13+a9b.2.2.2.2.1))<(0:Int))) then
 kr (0:Int) (231:Int)
 else
 bif (decide (last12<(IntKind.wrap .i64 (l13+a9b.2.2.2.2.1)))) then
 kr (0:Int) (231:Int)
 else
 kr (IntKind.wrap .i64 (l13+a9b.2.2.2.2.1)) (0:Int)
 else
 bif (decide ((IntKind.wrap .i64 (l13+a9b.2.2.2.2.1))<(0:Int))) then
 kr (0:Int) (231:Int)
 else
 bif (decide (last12<(IntKind.wrap .i64 (l13+a9b.2.2.2.2.1)))) then
 kr (0:Int) (231:Int)
 else
 kr (IntKind.wrap .i64 (l13+a9b.2.2.2.2.1)) (0:Int)
def q66_g0 (k:Ex→St→Prop) (v:vals q66_d0):Prop:=q66_J0 (q66_y0r k) v.1 v.2.1 v.2.2.1
theorem q66_v0 (k:Ex→St→Prop):∀ v:vals q66_d0,ex tb (getG q66_G) [] (at' (bodyOf Tryz.f167) [1,1,1,1,1,1]) [1,1,1,1,1,1] (mkD 127 q66_d0 v) (wk 127 q66_dx0 k)=q66_g0 k v
  | (last12,l13,a9b,())=>by kernel_rfl
def q66_X0:Pce:=fun st k=>ckD 127 q66_d0 st fun v=>wfD q66_d0 v→q66_g0 k v
theorem q66_x0:SemOk Tryz.prog (at' (bodyOf Tryz.f167) [1,1,1,1,1,1]) q66_X0:=
  (SemOk.wk (N:=127) (ds:=q66_d0) (dx:=q66_dx0) (ex_sound tb_M tb_ok q66_Gok (LabsOk.nil) (at' (bodyOf Tryz.f167) [1,1,1,1,1,1]) [1,1,1,1,1,1] rfl (storesC_at q66_st [1,1,1,1,1,1]))).mono fun st k h=>ckD_mono h fun v hv hw=>Eq.mpr (q66_v0 k v) (hv hw)
def q66_B0:Labs:=([1,1,1,1,1,1],q66_X0)::[]
theorem q66_b0:LabsOk Tryz.prog (bodyOf Tryz.f167) q66_B0:=LabsOk.cons q66_x0 (LabsOk.nil)
def q66_d1:List LS:=[.v 0 yB,.v 1 yI,.v 3 yB,.b 9 72 [],.v 12 yI,.v 13 yI,.v 74 .bool,.c 72 tyA]
def q66_d1n:List LS:=[.b 9 72 [],.v 12 yI,.v 13 yI,.c 72 tyA]
def q66_dx1:DX:=⟨some q66_d1n,none,[]⟩
def q66_y1n (k:Ex→St→Prop) (last12:Int) (l13:Int) (a9b:tAd):Prop:=wfD q66_d1n (last12,l13,a9b,())→k .nrm (mkD 127 q66_d1n (last12,l13,a9b,()))
def q66_J1 (kn:Int→Int→tAd→Prop) (t0:LI) (now1:Int) (hunt3:LI) (last12:Int) (l13:Int) (x74:Bool) (a9b:tAd):Prop:=
 bif x74 then
 False
 else
 kn last12 l13 a9b
def q66_g1 (k:Ex→St→Prop) (v:vals q66_d1):Prop:=q66_J1 (q66_y1n k) v.1 v.2.1 v.2.2.1 v.2.2.2.1 v.2.2.2.2.1 v.2.2.2.2.2.1 v.2.2.2.2.2.2.1
theorem q66_v1 (k:Ex→St→Prop):∀ v:vals q66_d1,ex tb (getG q66_G) q66_B0 (at' (bodyOf Tryz.f167) [1,1,1,1,1,1,1,0,1,0,1,1,1,1,1]) [1,1,1,1,1,1,1,0,1,0,1,1,1,1,1] (mkD 127 q66_d1 v) (wk 127 q66_dx1 k)=q66_g1 k v
  | (t0,now1,hunt3,last12,l13,x74,a9b,())=>by kernel_rfl
def q66_X1:Pce:=fun st k=>ckD 127 q66_d1 st fun v=>wfD q66_d1 v→q66_g1 k v
theorem q66_x1:SemOk Tryz.prog (at' (bodyOf Tryz.f167) [1,1,1,1,1,1,1,0,1,0,1,1,1,1,1]) q66_X1:=
  (SemOk.wk (N:=127) (ds:=q66_d1) (dx:=q66_dx1) (ex_sound tb_M tb_ok q66_Gok (q66_b0) (at' (bodyOf Tryz.f167) [1,1,1,1,1,1,1,0,1,0,1,1,1,1,1]) [1,1,1,1,1,1,1,0,1,0,1,1,1,1,1] rfl (storesC_at q66_st [1,1,1,1,1,1,1,0,1,0,1,1,1,1,1]))).mono fun st k h=>ckD_mono h fun v hv hw=>Eq.mpr (q66_v1 k v) (hv hw)
def q66_B1:Labs:=([1,1,1,1,1,1,1,0,1,0,1,1,1,1,1],q66_X1)::q66_B0
theorem q66_b1:LabsOk Tryz.prog (bodyOf Tryz.f167) q66_B1:=LabsOk.cons q66_x1 (q66_b0)
def q66_raw (t0:LI) (now1:Int) (m2:(Unit×Int)) (hunt3:LI) (a4:tAd) (K:Res→List Cell→Prop):Prop:=
 q78_P t0∧(
 ∀ (r1:Int),r1=q78_F t0→(
 wI r1→(
 bif (decide (now1<(1:Int))) then
 K (.tup [.v yI (0:Int),.v yI (2:Int)]) []
 else
 bif (decide (r1<now1)) then
 K (.tup [.v yI (0:Int),.v yI (2:Int)]) []
 else
 bif a4.2.2.2.2.2 then
 ∀ (r2:Int),r2=q47_F ([(110:Int),(46:Int),(36:Int),(39:Int),(47:Int),(63:Int),(0:Int)]:LI) a4.1→(
 wI r2→(
 bif (decide (r2<(0:Int))) then
 K (.tup [.v yI (0:Int),.v yI (2:Int)]) []
 else
 bif (!a4.2.2.2.2.2) then
 K (.tup [.v yI now1,.v yI (0:Int)]) []
 else
 bif (decide (a4.1=(110:Int))) then
 (wfD q66_d0 (r1,a4.2.1,a4,())→q66_J0 (fun (x10:Int) (x11:Int)=>wfD q66_d0r (x10,x11,())→(
 K (.tup [.v yI x10,.v yI x11]) [])) r1 a4.2.1 a4)
 else
 bif (decide (a4.1=(36:Int))) then
 (wfD q66_d0 (r1,r1,a4,())→q66_J0 (fun (x10:Int) (x11:Int)=>wfD q66_d0r (x10,x11,())→(
 K (.tup [.v yI x10,.v yI x11]) [])) r1 r1 a4)
 else
 bif (decide (a4.1=(39:Int))) then
 False
 else
 bif (decide (a4.1=(47:Int))) then
 (wfD q66_d1 (t0,now1,hunt3,r1,now1,(decide (a4.1=(47:Int))),a4,())→q66_J1 (fun (last12:Int) (l13:Int) (a9b:tAd)=>wfD q66_d1n (last12,l13,a9b,())→(
 (wfD q66_d0 (last12,l13,a9b,())→q66_J0 (fun (x10:Int) (x11:Int)=>wfD q66_d0r (x10,x11,())→(
 K (.tup [.v yI x10,.v yI x11]) [])) last12 l13 a9b))) t0 now1 hunt3 r1 now1 (decide (a4.1=(47:Int))) a4)
 else
 (wfD q66_d1 (t0,now1,hunt3,r1,now1,(decide (a4.1=(63:Int))),a4,())→q66_J1 (fun (last12:Int) (l13:Int) (a9b:tAd)=>wfD q66_d1n (last12,l13,a9b,())→(
 (wfD q66_d0 (last12,l13,a9b,())→q66_J0 (fun (x10:Int) (x11:Int)=>wfD q66_d0r (x10,x11,())→(
 K (.tup [.v yI x10,.v yI x11]) [])) last12 l13 a9b))) t0 now1 hunt3 r1 now1 (decide (a4.1=(63:Int))) a4)))
 else
 bif (!a4.2.2.2.2.2) then
 K (.tup [.v yI now1,.v yI (0:Int)]) []
 else
 bif (decide (a4.1=(110:Int))) then
 (wfD q66_d0 (r1,a4.2.1,a4,())→q66_J0 (fun (x10:Int) (x11:Int)=>wfD q66_d0r (x10,x11,())→(
 K (.tup [.v yI x10,.v yI x11]) [])) r1 a4.2.1 a4)
 else
 bif (decide (a4.1=(36:Int))) then
 (wfD q66_d0 (r1,r1,a4,())→q66_J0 (fun (x10:Int) (x11:Int)=>wfD q66_d0r (x10,x11,())→(
 K (.tup [.v yI x10,.v yI x11]) [])) r1 r1 a4)
 else
 bif (decide (a4.1=(39:Int))) then
 False
 else
 bif (decide (a4.1=(47:Int))) then
 (wfD q66_d1 (t0,now1,hunt3,r1,now1,(decide (a4.1=(47:Int))),a4,())→q66_J1 (fun (last12:Int) (l13:Int) (a9b:tAd)=>wfD q66_d1n (last12,l13,a9b,())→(
 (wfD q66_d0 (last12,l13,a9b,())→q66_J0 (fun (x10:Int) (x11:Int)=>wfD q66_d0r (x10,x11,())→(
 K (.tup [.v yI x10,.v yI x11]) [])) last12 l13 a9b))) t0 now1 hunt3 r1 now1 (decide (a4.1=(47:Int))) a4)
 else
 (wfD q66_d1 (t0,now1,hunt3,r1,now1,(decide (a4.1=(63:Int))),a4,())→q66_J1 (fun (last12:Int) (l13:Int) (a9b:tAd)=>wfD q66_d1n (last12,l13,a9b,())→(
 (wfD q66_d0 (last12,l13,a9b,())→q66_J0 (fun (x10:Int) (x11:Int)=>wfD q66_d0r (x10,x11,())→(
 K (.tup [.v yI x10,.v yI x11]) [])) last12 l13 a9b))) t0 now1 hunt3 r1 now1 (decide (a4.1=(63:Int))) a4))))
def q66_A:List AS:=[.v yB,.v yI,.v (.st (.pair (.arr 26 yI) yI)),.v yB,.v tyA]

def q66_J0_F (last12:Int) (l13:Int) (a9b:tAd):Int×Int:=
 bif (decide (l13<(0:Int))) then
 bif (decide (a9b.2.2.2.2.1≤(0:Int))) then
 ((0:Int),(231:Int))
 else
 bif (decide (last12<l13)) then
 bif (decide ((0:Int)≤a9b.2.2.2.2.1)) then
 ((0:Int),(231:Int))
 else
 bif (decide (last12<a9b.2.2.2.2.1)) then
 bif (decide ((0:Int)≤l13)) then
 ((0:Int),(231:Int))
 else
 bif (decide ((IntKind.wrap .i64 (l13+a9b.2.2.2.2.1))<(0:Int))) then
 ((0:Int),(231:Int))
 else
 bif (decide (last12<(IntKind.wrap .i64 (l13+a9b.2.2.2.2.1)))) then
 ((0:Int),(231:Int))
 else
 ((IntKind.wrap .i64 (l13+a9b.2.2.2.2.1)),(0:Int))
 else
 bif (decide ((IntKind.wrap .i64 (l13+a9b.2.2.2.2.1))<(0:Int))) then
 ((0:Int),(231:Int))
 else
 bif (decide (last12<(IntKind.wrap .i64 (l13+a9b.2.2.2.2.1)))) then
 ((0:Int),(231:Int))
 else
 ((IntKind.wrap .i64 (l13+a9b.2.2.2.2.1)),(0:Int))
 else
 bif (decide (last12<a9b.2.2.2.2.1)) then
 bif (decide ((0:Int)≤l13)) then
 ((0:Int),(231:Int))
 else
 bif (decide ((IntKind.wrap .i64 (l13+a9b.2.2.2.2.1))<(0:Int))) then
 ((0:Int),(231:Int))
 else
 bif (decide (last12<(IntKind.wrap .i64 (l13+a9b.2.2.2.2.1)))) then
 ((0:Int),(231:Int))
 else
 ((IntKind.wrap .i64 (l13+a9b.2.2.2.2.1)),(0:Int))
 else
 bif (decide ((IntKind.wrap .i64 (l13+a9b.2.2.2.2.1))<(0:Int))) then
 ((0:Int),(231:Int))
 else
 bif (decide (last12<(IntKind.wrap .i64 (l13+a9b.2.2.2.2.1)))) then
 ((0:Int),(231:Int))
 else
 ((IntKind.wrap .i64 (l13+a9b.2.2.2.2.1)),(0:Int))
 else
 bif (decide (last12<l13)) then
 bif (decide ((0:Int)≤a9b.2.2.2.2.1)) then
 ((0:Int),(231:Int))
 else
 bif (decide (last12<a9b.2.2.2.2.1)) then
 bif (decide ((0:Int)≤l13)) then
 ((0:Int),(231:Int))
 else
 bif (decide ((IntKind.wrap .i64 (l13+a9b.2.2.2.2.1))<(0:Int))) then
 ((0:Int),(231:Int))
 else
 bif (decide (last12<(IntKind.wrap .i64 (l13+a9b.2.2.2.2.1)))) then
 ((0:Int),(231:Int))
 else
 ((IntKind.wrap .i64 (l13+a9b.2.2.2.2.1)),(0:Int))
 else
 bif (decide ((IntKind.wrap .i64 (l13+a9b.2.2.2.2.1))<(0:Int))) then
 ((0:Int),(231:Int))
 else
 bif (decide (last12<(IntKind.wrap .i64 (l13+a9b.2.2.2.2.1)))) then
 ((0:Int),(231:Int))
 else
 ((IntKind.wrap .i64 (l13+a9b.2.2.2.2.1)),(0:Int))
 else
 bif (decide (last12<a9b.2.2.2.2.1)) then
 bif (decide ((0:Int)≤l13)) then
 ((0:Int),(231:Int))
 else
 bif (decide ((IntKind.wrap .i64 (l13+a9b.2.2.2.2.1))<(0:Int))) then
 ((0:Int),(231:Int))
 else
 bif (decide (last12<(IntKind.wrap .i64 (l13+a9b.2.2.2.2.1)))) then
 ((0:Int),(231:Int))
 else
 ((IntKind.wrap .i64 (l13+a9b.2.2.2.2.1)),(0:Int))
 else
 bif (decide ((IntKind.wrap .i64 (l13+a9b.2.2.2.2.1))<(0:Int))) then
 ((0:Int),(231:Int))
 else
 bif (decide (last12<(IntKind.wrap .i64 (l13+a9b.2.2.2.2.1)))) then
 ((0:Int),(231:Int))
 else
 ((IntKind.wrap .i64 (l13+a9b.2.2.2.2.1)),(0:Int))
theorem q66_J0_sp (kr:Int→Int→Prop) (last12:Int) (l13:Int) (a9b:tAd) (hr:∀ q:Int×Int,q=q66_J0_F last12 l13 a9b→kr q.1 q.2):q66_J0 kr last12 l13 a9b:=
 have h:=hr; br0 h (fun _ h=>br0 h (fun _ h=>h _ rfl)
 fun _ h=>br0 h (fun _ h=>br0 h (fun _ h=>h _ rfl)
 fun _ h=>br0 h (fun _ h=>br0 h (fun _ h=>h _ rfl)
 fun _ h=>br0 h (fun _ h=>h _ rfl)
 fun _ h=>br0 h (fun _ h=>h _ rfl)
 fun _ h=>h _ rfl)
 fun _ h=>br0 h (fun _ h=>h _ rfl)
 fun _ h=>br0 h (fun _ h=>h _ rfl)
 fun _ h=>h _ rfl)
 fun _ h=>br0 h (fun _ h=>br0 h (fun _ h=>h _ rfl)
 fun _ h=>br0 h (fun _ h=>h _ rfl)
 fun _ h=>br0 h (fun _ h=>h _ rfl)
 fun _ h=>h _ rfl)
 fun _ h=>br0 h (fun _ h=>h _ rfl)
 fun _ h=>br0 h (fun _ h=>h _ rfl)
 fun _ h=>h _ rfl)
 fun _ h=>br0 h (fun _ h=>br0 h (fun _ h=>h _ rfl)
 fun _ h=>br0 h (fun _ h=>br0 h (fun _ h=>h _ rfl)
 fun _ h=>br0 h (fun _ h=>h _ rfl)
 fun _ h=>br0 h (fun _ h=>h _ rfl)
 fun _ h=>h _ rfl)
 fun _ h=>br0 h (fun _ h=>h _ rfl)
 fun _ h=>br0 h (fun _ h=>h _ rfl)
 fun _ h=>h _ rfl)
 fun _ h=>br0 h (fun _ h=>br0 h (fun _ h=>h _ rfl)
 fun _ h=>br0 h (fun _ h=>h _ rfl)
 fun _ h=>br0 h (fun _ h=>h _ rfl)
 fun _ h=>h _ rfl)
 fun _ h=>br0 h (fun _ h=>h _ rfl)
 fun _ h=>br0 h (fun _ h=>h _ rfl)
 fun _ h=>h _ rfl
def q66_J1_P (t0:LI) (now1:Int) (hunt3:LI) (last12:Int) (l13:Int) (x74:Bool) (a9b:tAd):Prop:=
 bif x74 then
 False
 else
 True
def q66_J1_F (t0:LI) (now1:Int) (hunt3:LI) (last12:Int) (l13:Int) (x74:Bool) (a9b:tAd):Int×Int×tAd:=
 bif x74 then
 default
 else
 (last12,l13,a9b)
theorem q66_J1_sp (kn:Int→Int→tAd→Prop) (t0:LI) (now1:Int) (hunt3:LI) (last12:Int) (l13:Int) (x74:Bool) (a9b:tAd) (hp:q66_J1_P t0 now1 hunt3 last12 l13 x74 a9b) (hn:∀ q:Int×Int×tAd,q=q66_J1_F t0 now1 hunt3 last12 l13 x74 a9b→kn q.1 q.2.1 q.2.2):q66_J1 kn t0 now1 hunt3 last12 l13 x74 a9b:=
 have h:=hn; br1 hp h (fun _ hp h=>hp.elim)
 fun _ hp h=>h _ rfl
def q66_P (t0:LI) (now1:Int) (m2:(Unit×Int)) (hunt3:LI) (a4:tAd):Prop:=
 q78_P t0∧(
 let r1:Int:=q78_F t0
 bif (decide (now1<(1:Int))) then
 True
 else
 bif (decide (r1<now1)) then
 True
 else
 bif a4.2.2.2.2.2 then
 let r2:Int:=q47_F ([(110:Int),(46:Int),(36:Int),(39:Int),(47:Int),(63:Int),(0:Int)]:LI) a4.1
 bif (decide (r2<(0:Int))) then
 True
 else
 bif (!a4.2.2.2.2.2) then
 True
 else
 bif (decide (a4.1=(110:Int))) then
 True
 else
 bif (decide (a4.1=(36:Int))) then
 True
 else
 bif (decide (a4.1=(39:Int))) then
 False
 else
 bif (decide (a4.1=(47:Int))) then
 q66_J1_P t0 now1 hunt3 r1 now1 (decide (a4.1=(47:Int))) a4
 else
 q66_J1_P t0 now1 hunt3 r1 now1 (decide (a4.1=(63:Int))) a4
 else
 bif (!a4.2.2.2.2.2) then
 True
 else
 bif (decide (a4.1=(110:Int))) then
 True
 else
 bif (decide (a4.1=(36:Int))) then
 True
 else
 bif (decide (a4.1=(39:Int))) then
 False
 else
 bif (decide (a4.1=(47:Int))) then
 q66_J1_P t0 now1 hunt3 r1 now1 (decide (a4.1=(47:Int))) a4
 else
 q66_J1_P t0 now1 hunt3 r1 now1 (decide (a4.1=(63:Int))) a4)
def q66_F (t0:LI) (now1:Int) (m2:(Unit×Int)) (hunt3:LI) (a4:tAd):Int×Int:=
 let r1:Int:=q78_F t0
 bif (decide (now1<(1:Int))) then
 ((0:Int),(2:Int))
 else
 bif (decide (r1<now1)) then
 ((0:Int),(2:Int))
 else
 bif a4.2.2.2.2.2 then
 let r2:Int:=q47_F ([(110:Int),(46:Int),(36:Int),(39:Int),(47:Int),(63:Int),(0:Int)]:LI) a4.1
 bif (decide (r2<(0:Int))) then
 ((0:Int),(2:Int))
 else
 bif (!a4.2.2.2.2.2) then
 (now1,(0:Int))
 else
 bif (decide (a4.1=(110:Int))) then
 let q0r:Int×Int:=q66_J0_F r1 a4.2.1 a4
 let x10:Int:=q0r.1
 let x11:Int:=q0r.2
 (x10,x11)
 else
 bif (decide (a4.1=(36:Int))) then
 let q0r:Int×Int:=q66_J0_F r1 r1 a4
 let x10:Int:=q0r.1
 let x11:Int:=q0r.2
 (x10,x11)
 else
 bif (decide (a4.1=(39:Int))) then
 default
 else
 bif (decide (a4.1=(47:Int))) then
 let q1n:Int×Int×tAd:=q66_J1_F t0 now1 hunt3 r1 now1 (decide (a4.1=(47:Int))) a4
 let last12:Int:=q1n.1
 let l13:Int:=q1n.2.1
 let a9b:tAd:=q1n.2.2
 let q0r:Int×Int:=q66_J0_F last12 l13 a9b
 let x10:Int:=q0r.1
 let x11:Int:=q0r.2
 (x10,x11)
 else
 let q1n:Int×Int×tAd:=q66_J1_F t0 now1 hunt3 r1 now1 (decide (a4.1=(63:Int))) a4
 let last12:Int:=q1n.1
 let l13:Int:=q1n.2.1
 let a9b:tAd:=q1n.2.2
 let q0r:Int×Int:=q66_J0_F last12 l13 a9b
 let x10:Int:=q0r.1
 let x11:Int:=q0r.2
 (x10,x11)
 else
 bif (!a4.2.2.2.2.2) then
 (now1,(0:Int))
 else
 bif (decide (a4.1=(110:Int))) then
 let q0r:Int×Int:=q66_J0_F r1 a4.2.1 a4
 let x10:Int:=q0r.1
 let x11:Int:=q0r.2
 (x10,x11)
 else
 bif (decide (a4.1=(36:Int))) then
 let q0r:Int×Int:=q66_J0_F r1 r1 a4
 let x10:Int:=q0r.1
 let x11:Int:=q0r.2
 (x10,x11)
 else
 bif (decide (a4.1=(39:Int))) then
 default
 else
 bif (decide (a4.1=(47:Int))) then
 let q1n:Int×Int×tAd:=q66_J1_F t0 now1 hunt3 r1 now1 (decide (a4.1=(47:Int))) a4
 let last12:Int:=q1n.1
 let l13:Int:=q1n.2.1
 let a9b:tAd:=q1n.2.2
 let q0r:Int×Int:=q66_J0_F last12 l13 a9b
 let x10:Int:=q0r.1
 let x11:Int:=q0r.2
 (x10,x11)
 else
 let q1n:Int×Int×tAd:=q66_J1_F t0 now1 hunt3 r1 now1 (decide (a4.1=(63:Int))) a4
 let last12:Int:=q1n.1
 let l13:Int:=q1n.2.1
 let a9b:tAd:=q1n.2.2
 let q0r:Int×Int:=q66_J0_F last12 l13 a9b
 let x10:Int:=q0r.1
 let x11:Int:=q0r.2
 (x10,x11)
theorem q66_sp (t0:LI) (now1:Int) (m2:(Unit×Int)) (hunt3:LI) (a4:tAd) (K:Res→List Cell→Prop) (_:wfA q66_A (t0,now1,m2,hunt3,a4,())) (hp:q66_P t0 now1 m2 hunt3 a4) (h:∀ r:Int×Int,r=q66_F t0 now1 m2 hunt3 a4→K (.tup [.v yI r.1,.v yI r.2]) []):q66_raw t0 now1 m2 hunt3 a4 K:=
 an1 hp fun hp=>al (br1 hp h (fun _ hp h=>h _ rfl)
 fun _ hp h=>br1 hp h (fun _ hp h=>h _ rfl)
 fun _ hp h=>br1 hp h (fun _ hp h=>al (br1 hp h (fun _ hp h=>h _ rfl)
 fun _ hp h=>br1 hp h (fun _ hp h=>h _ rfl)
 fun _ hp h=>br1 hp h (fun _ hp h=>fun _=>q66_J0_sp _ _ _ _ (al (h _ rfl)))
 fun _ hp h=>br1 hp h (fun _ hp h=>fun _=>q66_J0_sp _ _ _ _ (al (h _ rfl)))
 fun _ hp h=>br1 hp h (fun _ hp h=>hp.elim)
 fun _ hp h=>br1 hp h (fun _ hp h=>fun _=>q66_J1_sp _ _ _ _ _ _ _ _ hp (al (fun _=>q66_J0_sp _ _ _ _ (al (h _ rfl)))))
 fun _ hp h=>fun _=>q66_J1_sp _ _ _ _ _ _ _ _ hp (al (fun _=>q66_J0_sp _ _ _ _ (al (h _ rfl))))))
 fun _ hp h=>br1 hp h (fun _ hp h=>h _ rfl)
 fun _ hp h=>br1 hp h (fun _ hp h=>fun _=>q66_J0_sp _ _ _ _ (al (h _ rfl)))
 fun _ hp h=>br1 hp h (fun _ hp h=>fun _=>q66_J0_sp _ _ _ _ (al (h _ rfl)))
 fun _ hp h=>br1 hp h (fun _ hp h=>hp.elim)
 fun _ hp h=>br1 hp h (fun _ hp h=>fun _=>q66_J1_sp _ _ _ _ _ _ _ _ hp (al (fun _=>q66_J0_sp _ _ _ _ (al (h _ rfl)))))
 fun _ hp h=>fun _=>q66_J1_sp _ _ _ _ _ _ _ _ hp (al (fun _=>q66_J0_sp _ _ _ _ (al (h _ rfl)))))
def q66_C (v:valsA q66_A) (K:Res→List Cell→Prop):Prop:=q66_P v.1 v.2.1 v.2.2.1 v.2.2.2.1 v.2.2.2.2.1∧∀ r:Int×Int,r=q66_F v.1 v.2.1 v.2.2.1 v.2.2.2.1 v.2.2.2.2.1→K (.tup [.v yI r.1,.v yI r.2]) []
def q66_S:App:=specW q66_A q66_C
theorem q66_wv (K:Res→List Cell→Prop):∀ v:valsA q66_A,runF tb (getG q66_G) q66_B1 Tryz.f167 [true,true] (mkA q66_A v) K=q66_raw v.1 v.2.1 v.2.2.1 v.2.2.2.1 v.2.2.2.2.1 K
  | (t0,now1,m2,hunt3,a4,())=>by kernel_rfl
theorem q66_ok:AppOk Tryz.prog 167 q66_S:=
  AppOk.specW (spec_ok ((runF_ok tb_M tb_ok q66_Gok (q66_b1) (f:=167) (fn:=Tryz.f167) (by kernel_rfl) (by kernel_rfl) q66_st [true,true])) fun v K hw h=>(q66_wv K v).mpr (q66_sp v.1 v.2.1 v.2.2.1 v.2.2.2.1 v.2.2.2.2.1 K hw h.1 h.2))

def q37_G:List (Nat×App):=[(167,q66_S)]
theorem q37_Gok:GOk Tryz.prog (getG q37_G):=GOk.cons q66_ok (GOk.nil)
def q37_raw (w0:tWk) (a1:tAd) (K:Res→List Cell→Prop):Prop:=
 q66_P w0.1 w0.2.2.1 w0.2.2.2.2.1 w0.2.2.2.2.2.2.1 a1∧(
 ∀ (r1:Int×Int),r1=q66_F w0.1 w0.2.2.1 w0.2.2.2.2.1 w0.2.2.2.2.2.2.1 a1→(
 wfR (.tup [.v yI r1.1,.v yI r1.2])→(
 K (.tup [.v yI r1.1,.v yI r1.2]) [⟨.st (.pair yB (.pair yI (.pair yI (.pair yI (.pair (.st (.pair (.arr 26 yI) yI)) (.pair tyB (.pair yB (.pair tyX (.pair yI yI))))))))),w0⟩])))
def q37_A:List AS:=[.r none tyW,.v tyA]

def q37_P (w0:tWk) (a1:tAd):Prop:=
 q66_P w0.1 w0.2.2.1 w0.2.2.2.2.1 w0.2.2.2.2.2.2.1 a1
def q37_F (w0:tWk) (a1:tAd):Int×Int:=
 let r1:Int×Int:=q66_F w0.1 w0.2.2.1 w0.2.2.2.2.1 w0.2.2.2.2.2.2.1 a1
 (r1.1,r1.2)
theorem q37_sp (w0:tWk) (a1:tAd) (K:Res→List Cell→Prop) (_:wfA q37_A (w0,a1,())) (hp:q37_P w0 a1) (h:∀ r:Int×Int,r=q37_F w0 a1→K (.tup [.v yI r.1,.v yI r.2]) [⟨.st (.pair yB (.pair yI (.pair yI (.pair yI (.pair (.st (.pair (.arr 26 yI) yI)) (.pair tyB (.pair yB (.pair tyX (.pair yI yI))))))))),w0⟩]):q37_raw w0 a1 K:=
 ⟨hp,al (h _ rfl)⟩
def q37_C (v:valsA q37_A) (K:Res→List Cell→Prop):Prop:=q37_P v.1 v.2.1∧∀ r:Int×Int,r=q37_F v.1 v.2.1→K (.tup [.v yI r.1,.v yI r.2]) [⟨.st (.pair yB (.pair yI (.pair yI (.pair yI (.pair (.st (.pair (.arr 26 yI) yI)) (.pair tyB (.pair yB (.pair tyX (.pair yI yI))))))))),v.1⟩]
def q37_S:App:=specW q37_A q37_C
theorem q37_wv (K:Res→List Cell→Prop):∀ v:valsA q37_A,runF tb (getG q37_G) [] Tryz.f115 [true,true] (mkA q37_A v) K=q37_raw v.1 v.2.1 K
  | (w0,a1,())=>by kernel_rfl
theorem q37_ok:AppOk Tryz.prog 115 q37_S:=
  AppOk.specW (spec_ok ((runF_ok tb_M tb_ok q37_Gok (LabsOk.nil) (f:=115) (fn:=Tryz.f115) (by kernel_rfl) (by kernel_rfl) (by kernel_rfl) [true,true])) fun v K hw h=>(q37_wv K v).mpr (q37_sp v.1 v.2.1 K hw h.1 h.2))

def q28_G:List (Nat×App):=[(115,q37_S)]
theorem q28_Gok:GOk Tryz.prog (getG q28_G):=GOk.cons q37_ok (GOk.nil)
theorem q28_st:storesC (bodyOf Tryz.f62)=true:=by kernel_rfl
def q28_d0:List LS:=[.b 0 7 [],.v 92 .bool,.c 7 tyW]
def q28_d0n:List LS:=[.c 7 tyW]
def q28_dx0:DX:=⟨some q28_d0n,none,[]⟩
def q28_y0n (k:Ex→St→Prop) (w0b:tWk):Prop:=wfD q28_d0n (w0b,())→k .nrm (mkD 129 q28_d0n (w0b,()))
def q28_J0 (kn:tWk→Prop) (x92:Bool) (w0b:tWk):Prop:=
 bif x92 then
 bif (decide ((0:Int)<w0b.2.2.2.2.2.2.2.1.2.2.2.2.2.2.1)) then
 (
 (
 kn (w0b.1,w0b.2.1,w0b.2.2.1,w0b.2.2.2.1,w0b.2.2.2.2.1,w0b.2.2.2.2.2.1,w0b.2.2.2.2.2.2.1,w0b.2.2.2.2.2.2.2.1,w0b.2.2.2.2.2.2.2.2.2,(mn (IntKind.wrap .i64 ((IntKind.wrap .i64 (w0b.2.2.2.2.2.2.2.2.2+w0b.2.2.2.2.2.2.2.1.2.2.2.2.2.2.1)) - (1:Int))) w0b.2.2.2.1)))∧(
 kn (w0b.1,w0b.2.1,w0b.2.2.1,w0b.2.2.2.1,w0b.2.2.2.2.1,w0b.2.2.2.2.2.1,w0b.2.2.2.2.2.2.1,w0b.2.2.2.2.2.2.2.1,w0b.2.2.2.2.2.2.2.2.2,(mn (IntKind.wrap .i64 ((IntKind.wrap .i64 (w0b.2.2.2.2.2.2.2.2.2+w0b.2.2.2.2.2.2.2.1.2.2.2.2.2.2.1)) - (1:Int))) w0b.2.2.2.1)))∧True)∧(
 (
 kn (w0b.1,w0b.2.1,w0b.2.2.1,w0b.2.2.2.1,w0b.2.2.2.2.1,w0b.2.2.2.2.2.1,w0b.2.2.2.2.2.2.1,w0b.2.2.2.2.2.2.2.1,w0b.2.2.2.2.2.2.2.2.2,(mn (IntKind.wrap .i64 ((IntKind.wrap .i64 (w0b.2.2.2.2.2.2.2.2.2+w0b.2.2.2.2.2.2.2.1.2.2.2.2.2.2.1)) - (1:Int))) w0b.2.2.2.1)))∧(
 kn (w0b.1,w0b.2.1,w0b.2.2.1,w0b.2.2.2.1,w0b.2.2.2.2.1,w0b.2.2.2.2.2.1,w0b.2.2.2.2.2.2.1,w0b.2.2.2.2.2.2.2.1,w0b.2.2.2.2.2.2.2.2.2,(mn (IntKind.wrap .i64 ((IntKind.wrap .i64 (w0b.2.2.2.2.2.2.2.2.2+w0b.2.2.2.2.2.2.2.1.2.2.2.2.2.2.1)) - (1:Int))) w0b.2.2.2.1)))∧True)∧(
 (
 kn (w0b.1,w0b.2.1,w0b.2.2.1,w0b.2.2.2.1,w0b.2.2.2.2.1,w0b.2.2.2.2.2.1,w0b.2.2.2.2.2.2.1,w0b.2.2.2.2.2.2.2.1,w0b.2.2.2.2.2.2.2.2.2,(mn (IntKind.wrap .i64 ((IntKind.wrap .i64 (w0b.2.2.2.2.2.2.2.2.2+w0b.2.2.2.2.2.2.2.1.2.2.2.2.2.2.1)) - (1:Int))) w0b.2.2.2.1)))∧(
 kn (w0b.1,w0b.2.1,w0b.2.2.1,w0b.2.2.2.1,w0b.2.2.2.2.1,w0b.2.2.2.2.2.1,w0b.2.2.2.2.2.2.1,w0b.2.2.2.2.2.2.2.1,w0b.2.2.2.2.2.2.2.2.2,(mn (IntKind.wrap .i64 ((IntKind.wrap .i64 (w0b.2.2.2.2.2.2.2.2.2+w0b.2.2.2.2.2.2.2.1.2.2.2.2.2.2.1)) - (1:Int))) w0b.2.2.2.1)))∧True)∧True
 else
 kn w0b
 else
 kn w0b
def q28_g0 (k:Ex→St→Prop) (v:vals q28_d0):Prop:=q28_J0 (q28_y0n k) v.1 v.2.1
theorem q28_v0 (k:Ex→St→Prop):∀ v:vals q28_d0,ex tb (getG q28_G) [] (at' (bodyOf Tryz.f62) [1,0,1,0,1,1,1]) [1,0,1,0,1,1,1] (mkD 129 q28_d0 v) (wk 129 q28_dx0 k)=q28_g0 k v
  | (x92,w0b,())=>by kernel_rfl
def q28_X0:Pce:=fun st k=>ckD 129 q28_d0 st fun v=>wfD q28_d0 v→q28_g0 k v
theorem q28_x0:SemOk Tryz.prog (at' (bodyOf Tryz.f62) [1,0,1,0,1,1,1]) q28_X0:=
  (SemOk.wk (N:=129) (ds:=q28_d0) (dx:=q28_dx0) (ex_sound tb_M tb_ok q28_Gok (LabsOk.nil) (at' (bodyOf Tryz.f62) [1,0,1,0,1,1,1]) [1,0,1,0,1,1,1] rfl (storesC_at q28_st [1,0,1,0,1,1,1]))).mono fun st k h=>ckD_mono h fun v hv hw=>Eq.mpr (q28_v0 k v) (hv hw)
def q28_B0:Labs:=([1,0,1,0,1,1,1],q28_X0)::[]
theorem q28_b0:LabsOk Tryz.prog (bodyOf Tryz.f62) q28_B0:=LabsOk.cons q28_x0 (LabsOk.nil)
def q28_d1:List LS:=[.c 7 tyW]
def q28_d1r:List LS:=[.v 2 yI,.c 7 tyW]
def q28_dx1:DX:=⟨none,some q28_d1r,[]⟩
def q28_y1r (k:Ex→St→Prop) (x2:Int) (w0b:tWk):Prop:=wfD q28_d1r (x2,w0b,())→k .ret (mkD 129 q28_d1r (x2,w0b,()))
def q28_J1 (kr:Int→tWk→Prop) (w0b:tWk):Prop:=
 kr (0:Int) w0b
def q28_g1 (k:Ex→St→Prop) (v:vals q28_d1):Prop:=q28_J1 (q28_y1r k) v.1
theorem q28_v1 (k:Ex→St→Prop):∀ v:vals q28_d1,ex tb (getG q28_G) q28_B0 (at' (bodyOf Tryz.f62) [1,1,1,1]) [1,1,1,1] (mkD 129 q28_d1 v) (wk 129 q28_dx1 k)=q28_g1 k v
  | (w0b,())=>by kernel_rfl
def q28_X1:Pce:=fun st k=>ckD 129 q28_d1 st fun v=>wfD q28_d1 v→q28_g1 k v
theorem q28_x1:SemOk Tryz.prog (at' (bodyOf Tryz.f62) [1,1,1,1]) q28_X1:=
  (SemOk.wk (N:=129) (ds:=q28_d1) (dx:=q28_dx1) (ex_sound tb_M tb_ok q28_Gok (q28_b0) (at' (bodyOf Tryz.f62) [1,1,1,1]) [1,1,1,1] rfl (storesC_at q28_st [1,1,1,1]))).mono fun st k h=>ckD_mono h fun v hv hw=>Eq.mpr (q28_v1 k v) (hv hw)
def q28_B1:Labs:=([1,1,1,1],q28_X1)::q28_B0
theorem q28_b1:LabsOk Tryz.prog (bodyOf Tryz.f62) q28_B1:=LabsOk.cons q28_x1 (q28_b0)
def q28_d2:List LS:=[.b 0 7 [],.c 7 tyW]
def q28_d2r:List LS:=[.v 2 yI,.c 7 tyW]
def q28_dx2:DX:=⟨none,some q28_d2r,[]⟩
def q28_y2r (k:Ex→St→Prop) (x2:Int) (w0b:tWk):Prop:=wfD q28_d2r (x2,w0b,())→k .ret (mkD 129 q28_d2r (x2,w0b,()))
def q28_J2 (kr:Int→tWk→Prop) (w0b:tWk):Prop:=
 bif (decide (w0b.2.2.2.2.2.2.2.2.2<w0b.2.2.2.2.2.2.2.2.1)) then
 kr (231:Int) w0b
 else
 bif (decide (w0b.2.2.2.2.2.2.2.2.1=(0:Int))) then
 bif (!decide (w0b.2.2.2.2.2.2.2.1.2.2.2.1=([112,117]:LI))) then
 kr (231:Int) w0b
 else
 bif (decide (w0b.2.2.2.2.2.2.2.1.2.2.2.1=([100]:LI))) then
 (wfD q28_d0 ((decide (w0b.2.2.2.2.2.2.2.1.2.2.2.1=([100]:LI))),w0b,())→q28_J0 (fun (w0b:tWk)=>wfD q28_d0n (w0b,())→(
 (wfD q28_d1 (w0b,())→q28_J1 (fun (x2:Int) (w0b:tWk)=>wfD q28_d1r (x2,w0b,())→(
 kr x2 w0b)) w0b))) (decide (w0b.2.2.2.2.2.2.2.1.2.2.2.1=([100]:LI))) w0b)
 else
 bif (decide (w0b.2.2.2.2.2.2.2.1.2.2.2.1=([121]:LI))) then
 (wfD q28_d0 ((decide (w0b.2.2.2.2.2.2.2.1.2.2.2.1=([121]:LI))),w0b,())→q28_J0 (fun (w0b:tWk)=>wfD q28_d0n (w0b,())→(
 (wfD q28_d1 (w0b,())→q28_J1 (fun (x2:Int) (w0b:tWk)=>wfD q28_d1r (x2,w0b,())→(
 kr x2 w0b)) w0b))) (decide (w0b.2.2.2.2.2.2.2.1.2.2.2.1=([121]:LI))) w0b)
 else
 bif (decide (w0b.2.2.2.2.2.2.2.1.2.2.2.1=([106]:LI))) then
 (wfD q28_d0 ((decide (w0b.2.2.2.2.2.2.2.1.2.2.2.1=([106]:LI))),w0b,())→q28_J0 (fun (w0b:tWk)=>wfD q28_d0n (w0b,())→(
 (wfD q28_d1 (w0b,())→q28_J1 (fun (x2:Int) (w0b:tWk)=>wfD q28_d1r (x2,w0b,())→(
 kr x2 w0b)) w0b))) (decide (w0b.2.2.2.2.2.2.2.1.2.2.2.1=([106]:LI))) w0b)
 else
 (wfD q28_d0 ((decide (w0b.2.2.2.2.2.2.2.1.2.2.2.1=([106,33]:LI))),w0b,())→q28_J0 (fun (w0b:tWk)=>wfD q28_d0n (w0b,())→(
 (wfD q28_d1 (w0b,())→q28_J1 (fun (x2:Int) (w0b:tWk)=>wfD q28_d1r (x2,w0b,())→(
 kr x2 w0b)) w0b))) (decide (w0b.2.2.2.2.2.2.2.1.2.2.2.1=([106,33]:LI))) w0b)
 else
 bif (decide (w0b.2.2.2.2.2.2.2.1.2.2.2.1=([100]:LI))) then
 (wfD q28_d0 ((decide (w0b.2.2.2.2.2.2.2.1.2.2.2.1=([100]:LI))),w0b,())→q28_J0 (fun (w0b:tWk)=>wfD q28_d0n (w0b,())→(
 (wfD q28_d1 (w0b,())→q28_J1 (fun (x2:Int) (w0b:tWk)=>wfD q28_d1r (x2,w0b,())→(
 kr x2 w0b)) w0b))) (decide (w0b.2.2.2.2.2.2.2.1.2.2.2.1=([100]:LI))) w0b)
 else
 bif (decide (w0b.2.2.2.2.2.2.2.1.2.2.2.1=([121]:LI))) then
 (wfD q28_d0 ((decide (w0b.2.2.2.2.2.2.2.1.2.2.2.1=([121]:LI))),w0b,())→q28_J0 (fun (w0b:tWk)=>wfD q28_d0n (w0b,())→(
 (wfD q28_d1 (w0b,())→q28_J1 (fun (x2:Int) (w0b:tWk)=>wfD q28_d1r (x2,w0b,())→(
 kr x2 w0b)) w0b))) (decide (w0b.2.2.2.2.2.2.2.1.2.2.2.1=([121]:LI))) w0b)
 else
 bif (decide (w0b.2.2.2.2.2.2.2.1.2.2.2.1=([106]:LI))) then
 (wfD q28_d0 ((decide (w0b.2.2.2.2.2.2.2.1.2.2.2.1=([106]:LI))),w0b,())→q28_J0 (fun (w0b:tWk)=>wfD q28_d0n (w0b,())→(
 (wfD q28_d1 (w0b,())→q28_J1 (fun (x2:Int) (w0b:tWk)=>wfD q28_d1r (x2,w0b,())→(
 kr x2 w0b)) w0b))) (decide (w0b.2.2.2.2.2.2.2.1.2.2.2.1=([106]:LI))) w0b)
 else
 (wfD q28_d0 ((decide (w0b.2.2.2.2.2.2.2.1.2.2.2.1=([106,33]:LI))),w0b,())→q28_J0 (fun (w0b:tWk)=>wfD q28_d0n (w0b,())→(
 (wfD q28_d1 (w0b,())→q28_J1 (fun (x2:Int) (w0b:tWk)=>wfD q28_d1r (x2,w0b,())→(
 kr x2 w0b)) w0b))) (decide (w0b.2.2.2.2.2.2.2.1.2.2.2.1=([106,33]:LI))) w0b)
def q28_g2 (k:Ex→St→Prop) (v:vals q28_d2):Prop:=q28_J2 (q28_y2r k) v.1
theorem q28_v2 (k:Ex→St→Prop):∀ v:vals q28_d2,ex tb (getG q28_G) q28_B1 (at' (bodyOf Tryz.f62) [1,1]) [1,1] (mkD 129 q28_d2 v) (wk 129 q28_dx2 k)=q28_g2 k v
  | (w0b,())=>by kernel_rfl
def q28_X2:Pce:=fun st k=>ckD 129 q28_d2 st fun v=>wfD q28_d2 v→q28_g2 k v
theorem q28_x2:SemOk Tryz.prog (at' (bodyOf Tryz.f62) [1,1]) q28_X2:=
  (SemOk.wk (N:=129) (ds:=q28_d2) (dx:=q28_dx2) (ex_sound tb_M tb_ok q28_Gok (q28_b1) (at' (bodyOf Tryz.f62) [1,1]) [1,1] rfl (storesC_at q28_st [1,1]))).mono fun st k h=>ckD_mono h fun v hv hw=>Eq.mpr (q28_v2 k v) (hv hw)
def q28_B2:Labs:=([1,1],q28_X2)::q28_B1
theorem q28_b2:LabsOk Tryz.prog (bodyOf Tryz.f62) q28_B2:=LabsOk.cons q28_x2 (q28_b1)
def q28_raw (w0:tWk) (K:Res→List Cell→Prop):Prop:=
 bif w0.2.2.2.2.2.2.2.1.2.2.1 then
 (wfD q28_d2 ((w0.1,w0.2.1,w0.2.2.1,w0.2.2.2.1,w0.2.2.2.2.1,w0.2.2.2.2.2.1,w0.2.2.2.2.2.2.1,w0.2.2.2.2.2.2.2.1,(1:Int),w0.2.2.2.1),())→q28_J2 (fun (x2:Int) (w0b:tWk)=>wfD q28_d2r (x2,w0b,())→(
 K (.one (.v yI x2)) [⟨.st (.pair yB (.pair yI (.pair yI (.pair yI (.pair (.st (.pair (.arr 26 yI) yI)) (.pair tyB (.pair yB (.pair tyX (.pair yI yI))))))))),w0b⟩])) (w0.1,w0.2.1,w0.2.2.1,w0.2.2.2.1,w0.2.2.2.2.1,w0.2.2.2.2.2.1,w0.2.2.2.2.2.2.1,w0.2.2.2.2.2.2.2.1,(1:Int),w0.2.2.2.1))
 else
 q37_P w0 w0.2.2.2.2.2.2.2.1.1∧(
 ∀ (r1:Int×Int),r1=q37_F w0 w0.2.2.2.2.2.2.2.1.1→(
 wfR (.tup [.v yI r1.1,.v yI r1.2])→(
 bif (!decide (r1.2=(0:Int))) then
 K (.one (.v yI r1.2)) [⟨.st (.pair yB (.pair yI (.pair yI (.pair yI (.pair (.st (.pair (.arr 26 yI) yI)) (.pair tyB (.pair yB (.pair tyX (.pair yI yI))))))))),w0⟩]
 else
 bif w0.2.2.2.2.2.2.2.1.2.1.2.2.2.2.2 then
 q37_P (w0.1,w0.2.1,w0.2.2.1,w0.2.2.2.1,w0.2.2.2.2.1,w0.2.2.2.2.2.1,w0.2.2.2.2.2.2.1,w0.2.2.2.2.2.2.2.1,r1.1,r1.1) w0.2.2.2.2.2.2.2.1.2.1∧(
 ∀ (r2:Int×Int),r2=q37_F (w0.1,w0.2.1,w0.2.2.1,w0.2.2.2.1,w0.2.2.2.2.1,w0.2.2.2.2.2.1,w0.2.2.2.2.2.2.1,w0.2.2.2.2.2.2.2.1,r1.1,r1.1) w0.2.2.2.2.2.2.2.1.2.1→(
 wfR (.tup [.v yI r2.1,.v yI r2.2])→(
 bif (!decide (r2.2=(0:Int))) then
 K (.one (.v yI r2.2)) [⟨.st (.pair yB (.pair yI (.pair yI (.pair yI (.pair (.st (.pair (.arr 26 yI) yI)) (.pair tyB (.pair yB (.pair tyX (.pair yI yI))))))))),(w0.1,w0.2.1,w0.2.2.1,w0.2.2.2.1,w0.2.2.2.2.1,w0.2.2.2.2.2.1,w0.2.2.2.2.2.2.1,w0.2.2.2.2.2.2.2.1,r1.1,r2.1)⟩]
 else
 (wfD q28_d2 ((w0.1,w0.2.1,w0.2.2.1,w0.2.2.2.1,w0.2.2.2.2.1,w0.2.2.2.2.2.1,w0.2.2.2.2.2.2.1,w0.2.2.2.2.2.2.2.1,r1.1,r2.1),())→q28_J2 (fun (x2:Int) (w0b:tWk)=>wfD q28_d2r (x2,w0b,())→(
 K (.one (.v yI x2)) [⟨.st (.pair yB (.pair yI (.pair yI (.pair yI (.pair (.st (.pair (.arr 26 yI) yI)) (.pair tyB (.pair yB (.pair tyX (.pair yI yI))))))))),w0b⟩])) (w0.1,w0.2.1,w0.2.2.1,w0.2.2.2.1,w0.2.2.2.2.1,w0.2.2.2.2.2.1,w0.2.2.2.2.2.2.1,w0.2.2.2.2.2.2.2.1,r1.1,r2.1)))))
 else
 (wfD q28_d2 ((w0.1,w0.2.1,w0.2.2.1,w0.2.2.2.1,w0.2.2.2.2.1,w0.2.2.2.2.2.1,w0.2.2.2.2.2.2.1,w0.2.2.2.2.2.2.2.1,r1.1,r1.1),())→q28_J2 (fun (x2:Int) (w0b:tWk)=>wfD q28_d2r (x2,w0b,())→(
 K (.one (.v yI x2)) [⟨.st (.pair yB (.pair yI (.pair yI (.pair yI (.pair (.st (.pair (.arr 26 yI) yI)) (.pair tyB (.pair yB (.pair tyX (.pair yI yI))))))))),w0b⟩])) (w0.1,w0.2.1,w0.2.2.1,w0.2.2.2.1,w0.2.2.2.2.1,w0.2.2.2.2.2.1,w0.2.2.2.2.2.2.1,w0.2.2.2.2.2.2.2.1,r1.1,r1.1)))))
def q28_A:List AS:=[.r none tyW]

def q28_J0_F (x92:Bool) (w0b:tWk):tWk:=
 bif x92 then
 bif (decide ((0:Int)<w0b.2.2.2.2.2.2.2.1.2.2.2.2.2.2.1)) then
 ((w0b.1,w0b.2.1,w0b.2.2.1,w0b.2.2.2.1,w0b.2.2.2.2.1,w0b.2.2.2.2.2.1,w0b.2.2.2.2.2.2.1,w0b.2.2.2.2.2.2.2.1,w0b.2.2.2.2.2.2.2.2.2,(mn (IntKind.wrap .i64 ((IntKind.wrap .i64 (w0b.2.2.2.2.2.2.2.2.2+w0b.2.2.2.2.2.2.2.1.2.2.2.2.2.2.1)) - (1:Int))) w0b.2.2.2.1)))
 else
 (w0b)
 else
 (w0b)
theorem q28_J0_sp (kn:tWk→Prop) (x92:Bool) (w0b:tWk) (hn:∀ q:tWk,q=q28_J0_F x92 w0b→kn q):q28_J0 kn x92 w0b:=
 have h:=hn; br0 h (fun _ h=>br0 h (fun _ h=>⟨⟨h _ rfl,
 h _ rfl,trivial⟩,
 ⟨h _ rfl,
 h _ rfl,trivial⟩,
 ⟨h _ rfl,
 h _ rfl,trivial⟩,trivial⟩)
 fun _ h=>h _ rfl)
 fun _ h=>h _ rfl
def q28_J1_F (w0b:tWk):Int×tWk:=
 ((0:Int),w0b)
theorem q28_J1_sp (kr:Int→tWk→Prop) (w0b:tWk) (hr:∀ q:Int×tWk,q=q28_J1_F w0b→kr q.1 q.2):q28_J1 kr w0b:=
 have h:=hr; h _ rfl
def q28_J2_F (w0b:tWk):Int×tWk:=
 bif (decide (w0b.2.2.2.2.2.2.2.2.2<w0b.2.2.2.2.2.2.2.2.1)) then
 ((231:Int),w0b)
 else
 bif (decide (w0b.2.2.2.2.2.2.2.2.1=(0:Int))) then
 bif (!decide (w0b.2.2.2.2.2.2.2.1.2.2.2.1=([112,117]:LI))) then
 ((231:Int),w0b)
 else
 bif (decide (w0b.2.2.2.2.2.2.2.1.2.2.2.1=([100]:LI))) then
 let q0n:tWk:=q28_J0_F (decide (w0b.2.2.2.2.2.2.2.1.2.2.2.1=([100]:LI))) w0b
 let w0b:tWk:=q0n
 let q1r:Int×tWk:=q28_J1_F w0b
 let x2:Int:=q1r.1
 let w0b:tWk:=q1r.2
 (x2,w0b)
 else
 bif (decide (w0b.2.2.2.2.2.2.2.1.2.2.2.1=([121]:LI))) then
 let q0n:tWk:=q28_J0_F (decide (w0b.2.2.2.2.2.2.2.1.2.2.2.1=([121]:LI))) w0b
 let w0b:tWk:=q0n
 let q1r:Int×tWk:=q28_J1_F w0b
 let x2:Int:=q1r.1
 let w0b:tWk:=q1r.2
 (x2,w0b)
 else
 bif (decide (w0b.2.2.2.2.2.2.2.1.2.2.2.1=([106]:LI))) then
 let q0n:tWk:=q28_J0_F (decide (w0b.2.2.2.2.2.2.2.1.2.2.2.1=([106]:LI))) w0b
 let w0b:tWk:=q0n
 let q1r:Int×tWk:=q28_J1_F w0b
 let x2:Int:=q1r.1
 let w0b:tWk:=q1r.2
 (x2,w0b)
 else
 let q0n:tWk:=q28_J0_F (decide (w0b.2.2.2.2.2.2.2.1.2.2.2.1=([106,33]:LI))) w0b
 let w0b:tWk:=q0n
 let q1r:Int×tWk:=q28_J1_F w0b
 let x2:Int:=q1r.1
 let w0b:tWk:=q1r.2
 (x2,w0b)
 else
 bif (decide (w0b.2.2.2.2.2.2.2.1.2.2.2.1=([100]:LI))) then
 let q0n:tWk:=q28_J0_F (decide (w0b.2.2.2.2.2.2.2.1.2.2.2.1=([100]:LI))) w0b
 let w0b:tWk:=q0n
 let q1r:Int×tWk:=q28_J1_F w0b
 let x2:Int:=q1r.1
 let w0b:tWk:=q1r.2
 (x2,w0b)
 else
 bif (decide (w0b.2.2.2.2.2.2.2.1.2.2.2.1=([121]:LI))) then
 let q0n:tWk:=q28_J0_F (decide (w0b.2.2.2.2.2.2.2.1.2.2.2.1=([121]:LI))) w0b
 let w0b:tWk:=q0n
 let q1r:Int×tWk:=q28_J1_F w0b
 let x2:Int:=q1r.1
 let w0b:tWk:=q1r.2
 (x2,w0b)
 else
 bif (decide (w0b.2.2.2.2.2.2.2.1.2.2.2.1=([106]:LI))) then
 let q0n:tWk:=q28_J0_F (decide (w0b.2.2.2.2.2.2.2.1.2.2.2.1=([106]:LI))) w0b
 let w0b:tWk:=q0n
 let q1r:Int×tWk:=q28_J1_F w0b
 let x2:Int:=q1r.1
 let w0b:tWk:=q1r.2
 (x2,w0b)
 else
 let q0n:tWk:=q28_J0_F (decide (w0b.2.2.2.2.2.2.2.1.2.2.2.1=([106,33]:LI))) w0b
 let w0b:tWk:=q0n
 let q1r:Int×tWk:=q28_J1_F w0b
 let x2:Int:=q1r.1
 let w0b:tWk:=q1r.2
 (x2,w0b)
theorem q28_J2_sp (kr:Int→tWk→Prop) (w0b:tWk) (hr:∀ q:Int×tWk,q=q28_J2_F w0b→kr q.1 q.2):q28_J2 kr w0b:=
 have h:=hr; br0 h (fun _ h=>h _ rfl)
 fun _ h=>br0 h (fun _ h=>br0 h (fun _ h=>h _ rfl)
 fun _ h=>br0 h (fun _ h=>fun _=>q28_J0_sp _ _ _ (al (fun _=>q28_J1_sp _ _ (al (h _ rfl)))))
 fun _ h=>br0 h (fun _ h=>fun _=>q28_J0_sp _ _ _ (al (fun _=>q28_J1_sp _ _ (al (h _ rfl)))))
 fun _ h=>br0 h (fun _ h=>fun _=>q28_J0_sp _ _ _ (al (fun _=>q28_J1_sp _ _ (al (h _ rfl)))))
 fun _ h=>fun _=>q28_J0_sp _ _ _ (al (fun _=>q28_J1_sp _ _ (al (h _ rfl)))))
 fun _ h=>br0 h (fun _ h=>fun _=>q28_J0_sp _ _ _ (al (fun _=>q28_J1_sp _ _ (al (h _ rfl)))))
 fun _ h=>br0 h (fun _ h=>fun _=>q28_J0_sp _ _ _ (al (fun _=>q28_J1_sp _ _ (al (h _ rfl)))))
 fun _ h=>br0 h (fun _ h=>fun _=>q28_J0_sp _ _ _ (al (fun _=>q28_J1_sp _ _ (al (h _ rfl)))))
 fun _ h=>fun _=>q28_J0_sp _ _ _ (al (fun _=>q28_J1_sp _ _ (al (h _ rfl))))
def q28_P (w0:tWk):Prop:=
 bif w0.2.2.2.2.2.2.2.1.2.2.1 then
 True
 else
 q37_P w0 w0.2.2.2.2.2.2.2.1.1∧(
 let r1:Int×Int:=q37_F w0 w0.2.2.2.2.2.2.2.1.1
 bif (!decide (r1.2=(0:Int))) then
 True
 else
 bif w0.2.2.2.2.2.2.2.1.2.1.2.2.2.2.2 then
 q37_P (w0.1,w0.2.1,w0.2.2.1,w0.2.2.2.1,w0.2.2.2.2.1,w0.2.2.2.2.2.1,w0.2.2.2.2.2.2.1,w0.2.2.2.2.2.2.2.1,r1.1,r1.1) w0.2.2.2.2.2.2.2.1.2.1
 else
 True)
def q28_F (w0:tWk):Int×tWk:=
 bif w0.2.2.2.2.2.2.2.1.2.2.1 then
 let q2r:Int×tWk:=q28_J2_F (w0.1,w0.2.1,w0.2.2.1,w0.2.2.2.1,w0.2.2.2.2.1,w0.2.2.2.2.2.1,w0.2.2.2.2.2.2.1,w0.2.2.2.2.2.2.2.1,(1:Int),w0.2.2.2.1)
 let x2:Int:=q2r.1
 let w0b:tWk:=q2r.2
 (x2,w0b)
 else
 let r1:Int×Int:=q37_F w0 w0.2.2.2.2.2.2.2.1.1
 bif (!decide (r1.2=(0:Int))) then
 (r1.2,w0)
 else
 bif w0.2.2.2.2.2.2.2.1.2.1.2.2.2.2.2 then
 let r2:Int×Int:=q37_F (w0.1,w0.2.1,w0.2.2.1,w0.2.2.2.1,w0.2.2.2.2.1,w0.2.2.2.2.2.1,w0.2.2.2.2.2.2.1,w0.2.2.2.2.2.2.2.1,r1.1,r1.1) w0.2.2.2.2.2.2.2.1.2.1
 bif (!decide (r2.2=(0:Int))) then
 (r2.2,(w0.1,w0.2.1,w0.2.2.1,w0.2.2.2.1,w0.2.2.2.2.1,w0.2.2.2.2.2.1,w0.2.2.2.2.2.2.1,w0.2.2.2.2.2.2.2.1,r1.1,r2.1))
 else
 let q2r:Int×tWk:=q28_J2_F (w0.1,w0.2.1,w0.2.2.1,w0.2.2.2.1,w0.2.2.2.2.1,w0.2.2.2.2.2.1,w0.2.2.2.2.2.2.1,w0.2.2.2.2.2.2.2.1,r1.1,r2.1)
 let x2:Int:=q2r.1
 let w0b:tWk:=q2r.2
 (x2,w0b)
 else
 let q2r:Int×tWk:=q28_J2_F (w0.1,w0.2.1,w0.2.2.1,w0.2.2.2.1,w0.2.2.2.2.1,w0.2.2.2.2.2.1,w0.2.2.2.2.2.2.1,w0.2.2.2.2.2.2.2.1,r1.1,r1.1)
 let x2:Int:=q2r.1
 let w0b:tWk:=q2r.2
 (x2,w0b)
theorem q28_sp (w0:tWk) (K:Res→List Cell→Prop) (_:wfA q28_A (w0,())) (hp:q28_P w0) (h:∀ r:Int×tWk,r=q28_F w0→K (.one (.v yI r.1)) [⟨.st (.pair yB (.pair yI (.pair yI (.pair yI (.pair (.st (.pair (.arr 26 yI) yI)) (.pair tyB (.pair yB (.pair tyX (.pair yI yI))))))))),r.2⟩]):q28_raw w0 K:=
 br1 hp h (fun _ hp h=>fun _=>q28_J2_sp _ _ (al (h _ rfl)))
 fun _ hp h=>an1 hp fun hp=>al (br1 hp h (fun _ hp h=>h _ rfl)
 fun _ hp h=>br1 hp h (fun _ hp h=>⟨hp,al (br0 h (fun _ h=>h _ rfl)
 fun _ h=>fun _=>q28_J2_sp _ _ (al (h _ rfl)))⟩)
 fun _ hp h=>fun _=>q28_J2_sp _ _ (al (h _ rfl)))
def q28_C (v:valsA q28_A) (K:Res→List Cell→Prop):Prop:=q28_P v.1∧∀ r:Int×tWk,r=q28_F v.1→K (.one (.v yI r.1)) [⟨.st (.pair yB (.pair yI (.pair yI (.pair yI (.pair (.st (.pair (.arr 26 yI) yI)) (.pair tyB (.pair yB (.pair tyX (.pair yI yI))))))))),r.2⟩]
def q28_S:App:=specW q28_A q28_C
theorem q28_wv (K:Res→List Cell→Prop):∀ v:valsA q28_A,runF tb (getG q28_G) q28_B2 Tryz.f62 [true] (mkA q28_A v) K=q28_raw v.1 K
  | (w0,())=>by kernel_rfl
theorem q28_ok:AppOk Tryz.prog 62 q28_S:=
  AppOk.specW (spec_ok ((runF_ok tb_M tb_ok q28_Gok (q28_b2) (f:=62) (fn:=Tryz.f62) (by kernel_rfl) (by kernel_rfl) q28_st [true])) fun v K hw h=>(q28_wv K v).mpr (q28_sp v.1 K hw h.1 h.2))

def q79_G:List (Nat×App):=[(189,q47_S)]
theorem q79_Gok:GOk Tryz.prog (getG q79_G):=GOk.cons q47_ok (GOk.nil)
theorem q79_st:storesC (bodyOf Tryz.f168)=true:=by kernel_rfl
def q79_d0:List LS:=[.v 0 yB,.v 1 yI,.v 6 yI]
def q79_d0r:List LS:=[.v 4 yI,.v 5 yI]
def q79_d0x0:List LS:=[.v 6 yI]
def q79_dx0:DX:=⟨none,some q79_d0r,[(0,q79_d0x0)]⟩
def q79_y0r (k:Ex→St→Prop) (x4:Int) (x5:Int):Prop:=wfD q79_d0r (x4,x5,())→k .ret (mkD 25 q79_d0r (x4,x5,()))
def q79_y0x0 (k:Ex→St→Prop) (at6:Int):Prop:=wfD q79_d0x0 (at6,())→k (.exit 0) (mkD 25 q79_d0x0 (at6,()))
def q79_T0 (Y:LI→Int→Int→Prop) (kr:Int→Int→Prop) (kx0:Int→Prop) (t0:LI) (line1:Int) (at6:Int):Prop:=
 bif (decide ((0:Int)<line1)) then
 bif decide (0≤at6∧at6≤(List.length t0:Int)) then
 ∀ (r1:Int),r1=q47_F (List.drop (Int.toNat at6) t0) (10:Int)→(
 wI r1→(
 bif (decide (r1<(0:Int))) then
 kr (0:Int) (2:Int)
 else
 Y t0 (IntKind.wrap .i64 (line1 - (1:Int))) (IntKind.wrap .i64 (at6+(IntKind.wrap .i64 (r1+(1:Int)))))))
 else False
 else
 kx0 at6
def q79_L0 (kr:Int→Int→Prop) (kx0:Int→Prop):Nat→LI→Int→Int→Prop
  | 0,_,_,_=>False
  | n+1,t0,line1,at6=>wfD q79_d0 (t0,line1,at6,())→q79_T0 (q79_L0 kr kx0 n) kr kx0 t0 line1 at6
def q79_c0:Pce:=ex tb (getG q79_G) [] (at' (bodyOf Tryz.f168) [0,0,0,1,1,1]) [0,0,0,1,1,1]
def q79_g0 (k:Ex→St→Prop) (n:Nat) (v:vals q79_d0):Prop:=q79_L0 (q79_y0r k) (q79_y0x0 k) n v.1 v.2.1 v.2.2.1
theorem q79_s0 (k:Ex→St→Prop) (Y:vals q79_d0→Prop):∀ v:vals q79_d0,q79_c0 (mkD 25 q79_d0 v) (lpK 25 q79_d0 q79_dx0 k Y)=q79_T0 (fun t0 line1 at6=>Y (t0,line1,at6,())) (q79_y0r k) (q79_y0x0 k) v.1 v.2.1 v.2.2.1
  | (t0,line1,at6,())=>by kernel_rfl
theorem q79_v0 (k:Ex→St→Prop):∀ (n:Nat) (v:vals q79_d0),lpD 25 q79_d0 q79_dx0 q79_c0 k n v=q79_g0 k n v
  | 0,(t0,line1,at6,())=>rfl
  | n+1,(t0,line1,at6,())=>congrArg (fun Z:Prop=>wfD q79_d0 (t0,line1,at6,())→Z) ((q79_s0 k _ (t0,line1,at6,())).trans (congrArg (fun Y=>q79_T0 Y (q79_y0r k) (q79_y0x0 k) t0 line1 at6) (funext fun t0=>funext fun line1=>funext fun at6=>q79_v0 k n (t0,line1,at6,()))))
def q79_X0:Pce:=fun st k=>ckD 25 q79_d0 st fun v=>wfD q79_d0 v→∃ n,q79_g0 k n v
theorem q79_x0:SemOk Tryz.prog (at' (bodyOf Tryz.f168) [0,0,1,1,1]) q79_X0:=
  (SemOk.loop (ex_sound tb_M tb_ok q79_Gok (LabsOk.nil) (at' (bodyOf Tryz.f168) [0,0,0,1,1,1]) [0,0,0,1,1,1] rfl (storesC_at q79_st [0,0,0,1,1,1])) 25 q79_d0 q79_dx0).mono fun st k h=>ckD_mono h fun v hv hw=>(hv hw).elim fun n hn=>⟨n,Eq.mpr (q79_v0 k n v) hn⟩
def q79_B0:Labs:=([0,0,1,1,1],q79_X0)::[]
theorem q79_b0:LabsOk Tryz.prog (bodyOf Tryz.f168) q79_B0:=LabsOk.cons q79_x0 (LabsOk.nil)
def q79_raw (t0:LI) (line1:Int) (K:Res→List Cell→Prop):Prop:=
 bif (decide (line1<(0:Int))) then
 K (.tup [.v yI (0:Int),.v yI (2:Int)]) []
 else
 (wfD q79_d0 (t0,line1,(0:Int),())→∃ n,q79_L0 (fun (x4:Int) (x5:Int)=>wfD q79_d0r (x4,x5,())→(
 K (.tup [.v yI x4,.v yI x5]) [])) (fun (at6:Int)=>wfD q79_d0x0 (at6,())→(
 K (.tup [.v yI at6,.v yI (0:Int)]) [])) n t0 line1 (0:Int))
def q79_A:List AS:=[.v yB,.v yI]
def goLine (t:LI):Nat→Nat→Option Nat
  | 0,p=>some p
  | n+1,p=>if idxB (t.drop p) 10<0 then none else goLine t n (p+(idxB (t.drop p) 10).toNat+1)
def q79_F (t:LI) (line:Int):Int×Int:=
 if line<0 then (0,2) else match goLine t line.toNat 0 with
 | some p=>((p:Int),0)
 | none=>(0,2)
theorem idxB_lt (xs:LI) (c:Int):-1≤idxB xs c∧idxB xs c<xs.length∨xs=[]∧idxB xs c = -1:=by
  unfold idxB
  split
  · rename_i h; have:=List.idxOf_lt_length_of_mem h; omega
  · cases xs with
    | nil=>exact .inr ⟨rfl,rfl⟩
    | cons a l=>left; simp only [List.length_cons]; omega
theorem q79_l0 (kr:Int→Int→Prop) (kx0:Int→Prop) (t:LI) (ht:t.length≤9223372036854775807):∀ (n m p:Nat),n≤9223372036854775807→p≤t.length→n<m→
    (goLine t n p=none→kr 0 2)→(∀ q,goLine t n p=some q→kx0 (q:Int))→q79_L0 kr kx0 m t (n:Int) (p:Int)
  | _,0,_,_,_,h,_,_=>absurd h (Nat.not_lt_zero _)
  | 0,m+1,p,_,_,_,_,h2=>by
    intro _
    unfold q79_T0
    exact brn (fun h=>absurd h (by omega)) (fun _=>h2 p rfl)
  | n+1,m+1,p,hn,hp,hm,h1,h2=>by
    intro _
    unfold q79_T0
    refine brn (fun _=>asrt (by omega) fun r hr _=>?_) (fun h=>absurd (by omega) h)
    have hr:r=idxB (t.drop p) 10:=by rw [hr]; simp [q47_F,q6_F]
    have hb:=idxB_lt (t.drop p) 10
    rw [List.length_drop] at hb
    rw [← hr] at hb
    refine brn (fun h=>h1 ?_) (fun h=>?_)
    · unfold goLine; rw [← hr,if_pos h]
    · have hd:r<(t.length:Int) - p:=by
        rcases hb with hb | ⟨_,hb⟩ <;> omega
      rw [wrap_i64 (n:=r+1) (by omega) (by omega),wrap_i64 (by omega) (by omega),wrap_i64 (by omega) (by omega)]
      have e1:((n+1:Nat):Int) - 1=(n:Int):=by omega
      have e2:(p:Int)+(r+1)=((p+r.toNat+1:Nat):Int):=by omega
      rw [e1,e2]
      have e3:goLine t (n+1) p=goLine t n (p+r.toNat+1):=by conv=>lhs; unfold goLine; rw [← hr,if_neg h]
      exact q79_l0 kr kx0 t ht n m (p+r.toNat+1) (by omega) (by omega) (by omega) (fun hh=>h1 (by rw [e3]; exact hh)) (fun q hh=>h2 q (by rw [e3]; exact hh))
theorem q79_sp (t:LI) (line:Int) (K:Res→List Cell→Prop) (hw:wfA q79_A (t,line,())) (h:∀ r:Int×Int,r=q79_F t line→K (.tup [.v yI r.1,.v yI r.2]) []):q79_raw t line K:=by
  have ht:t.length≤9223372036854775807:=hw.1.1
  have hl:line≤9223372036854775807:=hw.2.1.2
  unfold q79_raw
  refine brn (fun hn=>h (0,2) (by unfold q79_F; rw [if_pos hn])) (fun hn _=>?_)
  refine ⟨line.toNat+1,?_⟩
  have e:line=(line.toNat:Int):=by omega
  have key:=fun kr kx0 h1 h2=>q79_l0 kr kx0 t ht line.toNat (line.toNat+1) 0 (by omega) (Nat.zero_le _) (Nat.lt_succ_self _) h1 h2
  rw [← e] at key
  refine key _ _ (fun hg _=>h (0,2) ?_) (fun q hg _=>h ((q:Int),0) ?_)
  · unfold q79_F; rw [if_neg hn,hg]
  · unfold q79_F; rw [if_neg hn,hg]

def q79_C (v:valsA q79_A) (K:Res→List Cell→Prop):Prop:=∀ r:Int×Int,r=q79_F v.1 v.2.1→K (.tup [.v yI r.1,.v yI r.2]) []
def q79_S:App:=specW q79_A q79_C
theorem q79_wv (K:Res→List Cell→Prop):∀ v:valsA q79_A,runF tb (getG q79_G) q79_B0 Tryz.f168 [true,true] (mkA q79_A v) K=q79_raw v.1 v.2.1 K
  | (t0,line1,())=>by kernel_rfl
theorem q79_ok:AppOk Tryz.prog 168 q79_S:=
  AppOk.specW (spec_ok ((runF_ok tb_M tb_ok q79_Gok (q79_b0) (f:=168) (fn:=Tryz.f168) (by kernel_rfl) (by kernel_rfl) q79_st [true,true])) fun v K hw h=>(q79_wv K v).mpr (q79_sp v.1 v.2.1 K hw h))
theorem goLine_le (t:LI):∀ (n p q:Nat),p≤t.length→goLine t n p=some q→q≤t.length
  | 0,p,q,hp,h=>by simp only [goLine,Option.some.injEq] at h; omega
  | n+1,p,q,hp,h=>by
    unfold goLine at h
    have hb:=idxB_lt (t.drop p) 10
    rw [List.length_drop] at hb
    split at h
    · cases h
    · exact goLine_le t n _ q (by rcases hb with hb | ⟨_,hb⟩ <;> omega) h
theorem q79_F_le (t:LI) (n:Int):0≤(q79_F t n).1∧(q79_F t n).1≤t.length:=by
  unfold q79_F
  split
  · simp
  · split
    · rename_i q hq; have:=goLine_le t _ 0 q (Nat.zero_le _) hq; simp only; omega
    · simp

def q84_G:List (Nat×App):=[(189,q47_S)]
theorem q84_Gok:GOk Tryz.prog (getG q84_G):=GOk.cons q47_ok (GOk.nil)
def q84_raw (t0:LI) (at1:Int) (K:Res→List Cell→Prop):Prop:=
 bif decide (0≤at1∧at1≤(List.length t0:Int)) then
 ∀ (r1:Int),r1=q47_F (List.drop (Int.toNat at1) t0) (10:Int)→(
 wI r1→(
 bif (decide ((0:Int)≤r1)) then
 K (.one (.v yI (IntKind.wrap .i64 (at1+r1)))) []
 else
 K (.one (.v yI (List.length t0:Int))) []))
 else False
def q84_A:List AS:=[.v yB,.v yI]

def q84_P (t0:LI) (at1:Int):Prop:=
 (0≤at1∧at1≤(List.length t0:Int))
def q84_F (t0:LI) (at1:Int):Int:=
 let r1:Int:=q47_F (List.drop (Int.toNat at1) t0) (10:Int)
 bif (decide ((0:Int)≤r1)) then
 (IntKind.wrap .i64 (at1+r1))
 else
 (List.length t0:Int)
theorem q84_sp (t0:LI) (at1:Int) (K:Res→List Cell→Prop) (_:wfA q84_A (t0,at1,())) (hp:q84_P t0 at1) (h:∀ r:Int,r=q84_F t0 at1→K (.one (.v yI r)) []):q84_raw t0 at1 K:=
 as0 hp (al (br0 h (fun _ h=>h _ rfl)
 fun _ h=>h _ rfl))
def q84_C (v:valsA q84_A) (K:Res→List Cell→Prop):Prop:=q84_P v.1 v.2.1∧∀ r:Int,r=q84_F v.1 v.2.1→K (.one (.v yI r)) []
def q84_S:App:=specW q84_A q84_C
theorem q84_wv (K:Res→List Cell→Prop):∀ v:valsA q84_A,runF tb (getG q84_G) [] Tryz.f169 [true] (mkA q84_A v) K=q84_raw v.1 v.2.1 K
  | (t0,at1,())=>by kernel_rfl
theorem q84_ok:AppOk Tryz.prog 169 q84_S:=
  AppOk.specW (spec_ok ((runF_ok tb_M tb_ok q84_Gok (LabsOk.nil) (f:=169) (fn:=Tryz.f169) (by kernel_rfl) (by kernel_rfl) (by kernel_rfl) [true])) fun v K hw h=>(q84_wv K v).mpr (q84_sp v.1 v.2.1 K hw h.1 h.2))

def q80_G:List (Nat×App):=[(168,q79_S),(169,q84_S)]
theorem q80_Gok:GOk Tryz.prog (getG q80_G):=GOk.cons q79_ok (GOk.cons q84_ok (GOk.nil))
theorem q80_st:storesC (bodyOf Tryz.f116)=true:=by kernel_rfl
def q80_d0:List LS:=[.v 0 yB,.v 6 yI,.v 8 yI,.v 9 yI]
def q80_d0r:List LS:=[.v 4 yI,.v 5 yI]
def q80_d0x0:List LS:=[.v 6 yI,.v 8 yI]
def q80_dx0:DX:=⟨none,some q80_d0r,[(0,q80_d0x0)]⟩
def q80_y0r (k:Ex→St→Prop) (x4:Int) (x5:Int):Prop:=wfD q80_d0r (x4,x5,())→k .ret (mkD 45 q80_d0r (x4,x5,()))
def q80_y0x0 (k:Ex→St→Prop) (from6:Int) (to8:Int):Prop:=wfD q80_d0x0 (from6,to8,())→k (.exit 0) (mkD 45 q80_d0x0 (from6,to8,()))
def q80_T0 (Y:LI→Int→Int→Int→Prop) (kr:Int→Int→Prop) (kx0:Int→Int→Prop) (t0:LI) (from6:Int) (to8:Int) (i9:Int):Prop:=
 bif (decide (i9<to8)) then
 bif decide (0≤i9∧i9<(List.length t0:Int)) then
 bif (!decide ((rd (0:Int) t0 i9)=(32:Int))) then
 bif decide (0≤i9∧i9<(List.length t0:Int)) then
 bif (!decide ((rd (0:Int) t0 i9)=(9:Int))) then
 kr i9 (0:Int)
 else
 Y t0 from6 to8 (IntKind.wrap .i64 (i9+(1:Int)))
 else False
 else
 Y t0 from6 to8 (IntKind.wrap .i64 (i9+(1:Int)))
 else False
 else
 kx0 from6 to8
def q80_L0 (kr:Int→Int→Prop) (kx0:Int→Int→Prop):Nat→LI→Int→Int→Int→Prop
  | 0,_,_,_,_=>False
  | n+1,t0,from6,to8,i9=>wfD q80_d0 (t0,from6,to8,i9,())→q80_T0 (q80_L0 kr kx0 n) kr kx0 t0 from6 to8 i9
def q80_c0:Pce:=ex tb (getG q80_G) [] (at' (bodyOf Tryz.f116) [0,0,1,0,1,1,1,1]) [0,0,1,0,1,1,1,1]
def q80_g0 (k:Ex→St→Prop) (n:Nat) (v:vals q80_d0):Prop:=q80_L0 (q80_y0r k) (q80_y0x0 k) n v.1 v.2.1 v.2.2.1 v.2.2.2.1
theorem q80_s0 (k:Ex→St→Prop) (Y:vals q80_d0→Prop):∀ v:vals q80_d0,q80_c0 (mkD 45 q80_d0 v) (lpK 45 q80_d0 q80_dx0 k Y)=q80_T0 (fun t0 from6 to8 i9=>Y (t0,from6,to8,i9,())) (q80_y0r k) (q80_y0x0 k) v.1 v.2.1 v.2.2.1 v.2.2.2.1
  | (t0,from6,to8,i9,())=>by kernel_rfl
theorem q80_v0 (k:Ex→St→Prop):∀ (n:Nat) (v:vals q80_d0),lpD 45 q80_d0 q80_dx0 q80_c0 k n v=q80_g0 k n v
  | 0,(t0,from6,to8,i9,())=>rfl
  | n+1,(t0,from6,to8,i9,())=>congrArg (fun Z:Prop=>wfD q80_d0 (t0,from6,to8,i9,())→Z) ((q80_s0 k _ (t0,from6,to8,i9,())).trans (congrArg (fun Y=>q80_T0 Y (q80_y0r k) (q80_y0x0 k) t0 from6 to8 i9) (funext fun t0=>funext fun from6=>funext fun to8=>funext fun i9=>q80_v0 k n (t0,from6,to8,i9,()))))
def q80_X0:Pce:=fun st k=>ckD 45 q80_d0 st fun v=>wfD q80_d0 v→∃ n,q80_g0 k n v
theorem q80_x0:SemOk Tryz.prog (at' (bodyOf Tryz.f116) [0,1,0,1,1,1,1]) q80_X0:=
  (SemOk.loop (ex_sound tb_M tb_ok q80_Gok (LabsOk.nil) (at' (bodyOf Tryz.f116) [0,0,1,0,1,1,1,1]) [0,0,1,0,1,1,1,1] rfl (storesC_at q80_st [0,0,1,0,1,1,1,1])) 45 q80_d0 q80_dx0).mono fun st k h=>ckD_mono h fun v hv hw=>(hv hw).elim fun n hn=>⟨n,Eq.mpr (q80_v0 k n v) hn⟩
def q80_B0:Labs:=([0,1,0,1,1,1,1],q80_X0)::[]
theorem q80_b0:LabsOk Tryz.prog (bodyOf Tryz.f116) q80_B0:=LabsOk.cons q80_x0 (LabsOk.nil)
def q80_raw (t0:LI) (line1:Int) (K:Res→List Cell→Prop):Prop:=
 ∀ (r1:Int×Int),r1=q79_F t0 line1→(
 wfR (.tup [.v yI r1.1,.v yI r1.2])→(
 bif (!decide (r1.2=(0:Int))) then
 K (.tup [.v yI (0:Int),.v yI r1.2]) []
 else
 q84_P t0 r1.1∧(
 ∀ (r2:Int),r2=q84_F t0 r1.1→(
 wI r2→(
 (wfD q80_d0 (t0,r1.1,r2,r1.1,())→∃ n,q80_L0 (fun (x4:Int) (x5:Int)=>wfD q80_d0r (x4,x5,())→(
 K (.tup [.v yI x4,.v yI x5]) [])) (fun (from6:Int) (to8:Int)=>wfD q80_d0x0 (from6,to8,())→(
 K (.tup [.v yI (mx from6 (IntKind.wrap .i64 (to8 - (1:Int)))),.v yI (0:Int)]) [])) n t0 r1.1 r2 r1.1))))))
def q80_A:List AS:=[.v yB,.v yI]
def scanB (t:LI):Nat→Nat→Option Nat
  | 0,_=>none
  | m+1,i=>if rd (0:Int) t (i:Int)=32∨rd (0:Int) t (i:Int)=9 then scanB t m (i+1) else some i
theorem tail_range (t:LI) (ht:t.length≤9223372036854775807) (p:Int) (h0:0≤p) (h1:p≤t.length):p≤q84_F t p∧q84_F t p≤t.length:=by
  unfold q84_F
  have hb:=idxB_lt (t.drop p.toNat) 10
  rw [List.length_drop] at hb
  have e:q47_F (List.drop p.toNat t) 10=idxB (t.drop p.toNat) 10:=rfl
  dsimp only
  rw [e]
  generalize idxB (t.drop p.toNat) 10=q at hb
  by_cases hc:0≤q
  · rw [decide_eq_true hc,cond_true]
    rw [wrap_i64 (by rcases hb with hb | hb <;> omega) (by rcases hb with hb | hb <;> omega)]
    rcases hb with hb | hb <;> omega
  · rw [decide_eq_false hc,cond_false]; omega
def q80_F (t:LI) (line:Int):Int×Int:=
 if (q79_F t line).2=0 then
 match scanB t (q84_F t (q79_F t line).1 - (q79_F t line).1).toNat (q79_F t line).1.toNat with
 | some i=>((i:Int),0)
 | none=>(mx (q79_F t line).1 (IntKind.wrap .i64 (q84_F t (q79_F t line).1 - 1)),0)
 else (0,(q79_F t line).2)
theorem q80_l0 (kr:Int→Int→Prop) (kx0:Int→Int→Prop) (t:LI) (p e:Int) (hl:t.length≤9223372036854775807) (he:e≤t.length):∀ (n m i:Nat),m<n→(e - i).toNat=m→0≤e→
    (∀ j,scanB t m i=some j→kr (j:Int) 0)→(scanB t m i=none→kx0 p e)→q80_L0 kr kx0 n t p e (i:Int)
  | 0,m,i,h,_,_,_,_=>absurd h (Nat.not_lt_zero _)
  | n+1,0,i,h,hm,h0,h1,h2=>by
    intro _
    unfold q80_T0
    exact brn (fun hlt=>absurd hm (by omega)) (fun _=>h2 rfl)
  | n+1,m+1,i,h,hm,h0,h1,h2=>by
    intro _
    unfold q80_T0
    have next:(rd (0:Int) t (i:Int)=32∨rd (0:Int) t (i:Int)=9)→q80_L0 kr kx0 n t p e (IntKind.wrap .i64 ((i:Int)+1)):=fun hc=>by
      rw [wrap_i64 (by omega) (by omega),show (i:Int)+1=((i+1:Nat):Int) by omega]
      have e1:scanB t (m+1) i=scanB t m (i+1):=by rw [scanB,if_pos hc]
      exact q80_l0 kr kx0 t p e hl he n m (i+1) (by omega) (by omega) h0 (fun j hj=>h1 j (by rw [e1]; exact hj)) (fun hj=>h2 (by rw [e1]; exact hj))
    refine brn (fun hlt=>asrt ⟨by omega,by omega⟩ ?_) (fun hge=>absurd hm (by omega))
    refine brx (fun c1=>asrt ⟨by omega,by omega⟩ (brx (fun c2=>?_) (fun c2=>next (.inr (by omega))))) (fun c1=>next (.inl (by omega)))
    exact h1 i (by rw [scanB,if_neg (by omega)])
theorem q80_sp (t:LI) (line:Int) (K:Res→List Cell→Prop) (hw:wfA q80_A (t,line,())) (h:∀ r:Int×Int,r=q80_F t line→K (.tup [.v yI r.1,.v yI r.2]) []):q80_raw t line K:=by
  have ht:t.length≤9223372036854775807:=hw.1.1
  unfold q80_raw
  intro r1 h1 _
  subst h1
  have hs:=q79_F_le t line
  refine brx (fun hn=>h (_,_) (by unfold q80_F; rw [if_neg hn])) (fun hn=>?_)
  refine ⟨hs,fun r2 h2 _=>?_⟩
  have hn:(q79_F t line).2=0:=by omega
  have hr:=tail_range t ht _ hs.1 hs.2
  rw [← h2] at hr
  intro _
  have key:=fun kr kx0 h1 h2=>q80_l0 kr kx0 t (q79_F t line).1 r2 ht hr.2 ((r2 - (q79_F t line).1).toNat+1) (r2 - (q79_F t line).1).toNat (q79_F t line).1.toNat (Nat.lt_succ_self _) (by omega) (by omega) h1 h2
  rw [Int.toNat_of_nonneg hs.1] at key
  refine ⟨_,key _ _ (fun j hj _=>h ((j:Int),0) ?_) (fun hj _=>h (_,0) ?_)⟩
  · unfold q80_F; rw [if_pos hn,← h2,hj]
  · unfold q80_F; rw [if_pos hn,← h2,hj]; rfl

def q80_C (v:valsA q80_A) (K:Res→List Cell→Prop):Prop:=∀ r:Int×Int,r=q80_F v.1 v.2.1→K (.tup [.v yI r.1,.v yI r.2]) []
def q80_S:App:=specW q80_A q80_C
theorem q80_wv (K:Res→List Cell→Prop):∀ v:valsA q80_A,runF tb (getG q80_G) q80_B0 Tryz.f116 [true,true] (mkA q80_A v) K=q80_raw v.1 v.2.1 K
  | (t0,line1,())=>by kernel_rfl
theorem q80_ok:AppOk Tryz.prog 116 q80_S:=
  AppOk.specW (spec_ok ((runF_ok tb_M tb_ok q80_Gok (q80_b0) (f:=116) (fn:=Tryz.f116) (by kernel_rfl) (by kernel_rfl) q80_st [true,true])) fun v K hw h=>(q80_wv K v).mpr (q80_sp v.1 v.2.1 K hw h))

def q67_G:List (Nat×App):=[(168,q79_S)]
theorem q67_Gok:GOk Tryz.prog (getG q67_G):=GOk.cons q79_ok (GOk.nil)
def q67_raw (t0:LI) (from1:Int) (to2:Int) (K:Res→List Cell→Prop):Prop:=
 ∀ (r1:Int×Int),r1=q79_F t0 from1→(
 wfR (.tup [.v yI r1.1,.v yI r1.2])→(
 ∀ (r2:Int×Int),r2=q79_F t0 to2→(
 wfR (.tup [.v yI r2.1,.v yI r2.2])→(
 bif (!decide (r1.2=(0:Int))) then
 K (.tup [.v (.st (.pair yI (.pair yI (.pair .bool .bool)))) ((0:Int),(0:Int),false,false),.v yI (2:Int)]) []
 else
 bif (!decide (r2.2=(0:Int))) then
 K (.tup [.v (.st (.pair yI (.pair yI (.pair .bool .bool)))) ((0:Int),(0:Int),false,false),.v yI (2:Int)]) []
 else
 bif (decide (to2<from1)) then
 K (.tup [.v (.st (.pair yI (.pair yI (.pair .bool .bool)))) ((0:Int),(0:Int),false,false),.v yI (2:Int)]) []
 else
 ∀ (r3:Int×Int),r3=q79_F t0 (IntKind.wrap .i64 (to2+(1:Int)))→(
 wfR (.tup [.v yI r3.1,.v yI r3.2])→(
 bif (decide (r3.2=(0:Int))) then
 K (.tup [.v (.st (.pair yI (.pair yI (.pair .bool .bool)))) (r1.1,r3.1,true,false),.v yI (0:Int)]) []
 else
 bif (decide ((0:Int)<from1)) then
 K (.tup [.v (.st (.pair yI (.pair yI (.pair .bool .bool)))) ((IntKind.wrap .i64 (r1.1 - (1:Int))),(List.length t0:Int),true,true),.v yI (0:Int)]) []
 else
 K (.tup [.v (.st (.pair yI (.pair yI (.pair .bool .bool)))) ((0:Int),(List.length t0:Int),true,false),.v yI (0:Int)]) []))))))
def q67_A:List AS:=[.v yB,.v yI,.v yI]

def q67_F (t0:LI) (from1:Int) (to2:Int):(Int×Int×Bool×Bool)×Int:=
 let r1:Int×Int:=q79_F t0 from1
 let r2:Int×Int:=q79_F t0 to2
 bif (!decide (r1.2=(0:Int))) then
 (((0:Int),(0:Int),false,false),(2:Int))
 else
 bif (!decide (r2.2=(0:Int))) then
 (((0:Int),(0:Int),false,false),(2:Int))
 else
 bif (decide (to2<from1)) then
 (((0:Int),(0:Int),false,false),(2:Int))
 else
 let r3:Int×Int:=q79_F t0 (IntKind.wrap .i64 (to2+(1:Int)))
 bif (decide (r3.2=(0:Int))) then
 ((r1.1,r3.1,true,false),(0:Int))
 else
 bif (decide ((0:Int)<from1)) then
 (((IntKind.wrap .i64 (r1.1 - (1:Int))),(List.length t0:Int),true,true),(0:Int))
 else
 (((0:Int),(List.length t0:Int),true,false),(0:Int))
theorem q67_sp (t0:LI) (from1:Int) (to2:Int) (K:Res→List Cell→Prop) (_:wfA q67_A (t0,from1,to2,())) (h:∀ r:(Int×Int×Bool×Bool)×Int,r=q67_F t0 from1 to2→K (.tup [.v (.st (.pair yI (.pair yI (.pair .bool .bool)))) r.1,.v yI r.2]) []):q67_raw t0 from1 to2 K:=
 al (al (br0 h (fun _ h=>h _ rfl)
 fun _ h=>br0 h (fun _ h=>h _ rfl)
 fun _ h=>br0 h (fun _ h=>h _ rfl)
 fun _ h=>al (br0 h (fun _ h=>h _ rfl)
 fun _ h=>br0 h (fun _ h=>h _ rfl)
 fun _ h=>h _ rfl)))
def q67_C (v:valsA q67_A) (K:Res→List Cell→Prop):Prop:=∀ r:(Int×Int×Bool×Bool)×Int,r=q67_F v.1 v.2.1 v.2.2.1→K (.tup [.v (.st (.pair yI (.pair yI (.pair .bool .bool)))) r.1,.v yI r.2]) []
def q67_S:App:=specW q67_A q67_C
theorem q67_wv (K:Res→List Cell→Prop):∀ v:valsA q67_A,runF tb (getG q67_G) [] Tryz.f170 [true,true] (mkA q67_A v) K=q67_raw v.1 v.2.1 v.2.2.1 K
  | (t0,from1,to2,())=>by kernel_rfl
theorem q67_ok:AppOk Tryz.prog 170 q67_S:=
  AppOk.specW (spec_ok ((runF_ok tb_M tb_ok q67_Gok (LabsOk.nil) (f:=170) (fn:=Tryz.f170) (by kernel_rfl) (by kernel_rfl) (by kernel_rfl) [true,true])) fun v K hw h=>(q67_wv K v).mpr (q67_sp v.1 v.2.1 v.2.2.1 K hw h))

def q68_G:List (Nat×App):=[]
theorem q68_Gok:GOk Tryz.prog (getG q68_G):=GOk.nil
def q68_raw (t0:LI) (at1:Int) (count2:Int) (low3:Int) (K:Res→List Cell→Prop):Prop:=
 bif (decide (at1<(0:Int))) then
 K (.one (.v .bool true)) []
 else
 bif (decide ((List.length t0:Int)<at1)) then
 K (.one (.v .bool true)) []
 else
 bif (decide (count2<low3)) then
 K (.one (.v .bool true)) []
 else
 K (.one (.v .bool (decide ((9999:Int)<count2)))) []
def q68_A:List AS:=[.v yB,.v yI,.v yI,.v yI]

def q68_F (t0:LI) (at1:Int) (count2:Int) (low3:Int):Bool:=
 bif (decide (at1<(0:Int))) then
 true
 else
 bif (decide ((List.length t0:Int)<at1)) then
 true
 else
 bif (decide (count2<low3)) then
 true
 else
 (decide ((9999:Int)<count2))
theorem q68_sp (t0:LI) (at1:Int) (count2:Int) (low3:Int) (K:Res→List Cell→Prop) (_:wfA q68_A (t0,at1,count2,low3,())) (h:∀ r:Bool,r=q68_F t0 at1 count2 low3→K (.one (.v .bool r)) []):q68_raw t0 at1 count2 low3 K:=
 br0 h (fun _ h=>h _ rfl)
 fun _ h=>br0 h (fun _ h=>h _ rfl)
 fun _ h=>br0 h (fun _ h=>h _ rfl)
 fun _ h=>h _ rfl
def q68_C (v:valsA q68_A) (K:Res→List Cell→Prop):Prop:=∀ r:Bool,r=q68_F v.1 v.2.1 v.2.2.1 v.2.2.2.1→K (.one (.v .bool r)) []
def q68_S:App:=specW q68_A q68_C
theorem q68_wv (K:Res→List Cell→Prop):∀ v:valsA q68_A,runF tb (getG q68_G) [] Tryz.f209 [true] (mkA q68_A v) K=q68_raw v.1 v.2.1 v.2.2.1 v.2.2.2.1 K
  | (t0,at1,count2,low3,())=>by kernel_rfl
theorem q68_ok:AppOk Tryz.prog 209 q68_S:=
  AppOk.specW (spec_ok ((runF_ok tb_M tb_ok q68_Gok (LabsOk.nil) (f:=209) (fn:=Tryz.f209) (by kernel_rfl) (by kernel_rfl) (by kernel_rfl) [true])) fun v K hw h=>(q68_wv K v).mpr (q68_sp v.1 v.2.1 v.2.2.1 v.2.2.2.1 K hw h))

end Go.VE
