import Derived.Test.YtogkdhgjefiipaaGreatDoorES13
import Derived.WalkSmall
import Derived.Recover
import Derived.OrdersHeld
set_option linter.unusedVariables false
set_option linter.unusedSectionVars false
set_option linter.unusedSimpArgs false
namespace Go.VE
open Go Go.Proofs
set_option maxRecDepth 100000 in
theorem b78 (p q:Addr) (w:World) :
  CallsD Tryz.prog 38 #[.pointer (some p),.pointer (some q)] .returning w fun e u' w'=>e=.returned (.tuple #[])∧u'=.returning∧w'=w:=by
 refine callsD_of_wpS (c:=(Tryz.f38.body.getD .skip)) Tryz.func38 rfl fun c₀ cs hu=>?_
 show (Code.seq (Code.region 0 _ false) _).wpS _ _ _ _ _
 refine wpS_seq (wpS_region ?_)
 simp [wpOpsS,List.range,List.range.loop,Region.wanted,execOp,go_sem,recoverD,hu,Tryz.ntmps38,Exit.thenS,Oper.upon,Act.eval,Act.put]
 show (Code.seq (Code.region 1 _ false) _).wpS _ _ _ _ _
 refine wpS_seq (wpS_region ?_)
 simp [wpOpsS,List.range,List.range.loop,Region.wanted,execOp,go_sem,recoverD,hu,Tryz.ntmps38,Exit.thenS,Oper.upon,Act.eval,Act.put]
 refine wpS_cond (t:=false) (by simp [Act.eval,Array.replicate]) ?_
 simp only [Bool.false_eq_true,if_false]
 refine wpS_of_wp (wp_skip ?_)
 cases c₀
 simp_all [bodyPostS,results,Tryz.results38]
theorem a52 {a:Array Value} {i j:Nat} {v d:Value} (h:i≠j):(a.setIfInBounds i v).getD j d=a.getD j d:=by
 simp [Array.getD_eq_getD_getElem?,Array.getElem?_setIfInBounds,h]
theorem c4j {a:Array Value} {i:Nat} {v d:Value} (h:i<a.size):(a.setIfInBounds i v).getD i d=v:=by
 simp [Array.getD_eq_getD_getElem?,Array.getElem?_setIfInBounds,h]
abbrev b7R:Ty:=.st (.pair yU (.pair yI (.pair yU (.pair yB (.pair yI .bool)))))
abbrev exT:Ty:=.st (.pair b7R (.pair b7R (.pair .bool (.pair .str (.pair b7R (.pair yU (.pair yI (.pair yB (.pair yB .bool)))))))))
theorem e7q (w:World):(Instr.build 27 #[]).run Tryz.prog w=.ok (p8 exT) w:=by kernel_rfl
theorem a8G {P:Program} {tb:Tab} {t:Nat} {ti:TI} (hs:o4 P tb t ti) {I:Nat→Prop} {w:World} {x:ti.ty.den} {v:Value} (hr:l0 I w ti.ty x v) {b:Nat} {cs:Array Value} {e:Nat} {fr:Nat×Nat}
  (hh:w.heap[b]?=some (.cells cs e fr)) (hn:a2M fr cs.size) (hsz:cs.size=ti.ty.cells):(Instr.storeAt t (.pointer (some ⟨b,0,none⟩)) v).run P w=.ok () (w.setRow b v.cells):=by
 have hyl:v.cells.toList.length=ti.ty.cells:=hr.list.len
 have hst:=B9 (P:=P) b 0 e fr v.cells.toList 0 cs w hh (by omega) hr.list.oneCell hn
 have hl:cs.toList.drop (0+0+v.cells.toList.length)=[]:=List.drop_eq_nil_of_le (by simp only [Array.length_toList] at hyl ⊢; omega)
 rw [hl] at hst
 simp only [Nat.add_zero,List.take_zero,List.nil_append,List.append_nil,Array.toArray_toList] at hst
 have hz:v.cells.size=ti.ty.cells:=by rw [← Array.length_toList,hyl]
 simp [Instr.storeAt,Instr.sureAddr,storeVar,B3 hs,hz,hst]
set_option maxRecDepth 100000 in
theorem c4F {bx be r:Nat} {n:Int} {tm:Array Value} (hs:tm.size=19) (h0:tm.getD 0 undef=.pointer (some ⟨bx,0,none⟩)) (h1:tm.getD 1 undef=.pointer (some ⟨be,0,none⟩)) (h3:tm.getD 3 undef=.pointer (some ⟨r,0,none⟩))
  {w:World} (hr:w.heap[r]?=some (.cells #[.int .i64 n] 85 (0,0))) {cx ce:Array Value} {fx fe:Nat×Nat} (hx:w.heap[bx]?=some (.cells cx 27 fx)) (hnx:a2M fx cx.size) (hzx:cx.size=exT.cells)
  (he:w.heap[be]?=some (.cells ce 30 fe)) (hne:a2M fe ce.size) (hze:ce.size=1) (hrx:r≠bx) (hre:r≠be) (hxe:bx≠be) (hin:inR .i64 n) :
  (at' (g6 Tryz.f38) [1,1,0,1,1]).wp Tryz.prog (fun e a w'=>e=.normal∧a.defers=[]∧w'=((w.drew.setRow bx (p8 exT).cells).setRow be #[.int .i64 n])) ⟨tm,[]⟩ w:=by
 show (Code.region 5 _ true).wp _ _ _ _
 refine wp_region_held (S:=fun w'=>w'.heap[r]?=some (.cells #[.int .i64 n] 85 (0,0))) o0 ?_
 refine wpAnyH_take (i:=0) (v:=p8 exT) rfl (by kernel_rfl) (by kernel_rfl) (by kernel_rfl) (fun c a w h=>by cases h.1) ?_ hr ?_
 ·refine .inl ⟨by simp [Region.wanted],fun w' _=>?_⟩
  simp [execOp,e7q]
 refine wpAnyH_take (i:=1) (v:=.pointer (some ⟨r,0,none⟩)) rfl (by kernel_rfl) (by kernel_rfl) (by kernel_rfl) (fun c a w h=>by cases h.1) ?_ hr ?_
 ·refine .inl ⟨by simp [Region.wanted],fun w' _=>?_⟩
  have e3:(tm.setIfInBounds 16 (p8 exT)).getD 3 undef=.pointer (some ⟨r,0,none⟩):=by rw [a52 (by omega),h3]
  have hfa:(Instr.fieldAt 85 (.pointer (some ⟨r,0,none⟩)) 0).run Tryz.prog w'=.ok (.pointer (some ⟨r,0,none⟩)) w':=by kernel_rfl
  simp [execOp,Act.eval,Act.put,e3,hfa]
 refine wpAnyH_take (i:=2) (v:=.int .i64 n) rfl (by kernel_rfl) (by kernel_rfl) (by kernel_rfl) (fun c a w h=>by cases h.1) ?_ hr ?_
 ·refine .inl ⟨by simp [Region.wanted],fun w' hw'=>?_⟩
  have e17:((tm.setIfInBounds 16 (p8 exT)).setIfInBounds 17 (.pointer (some ⟨r,0,none⟩))).getD 17 undef=.pointer (some ⟨r,0,none⟩):=c4j (by simp [hs])
  have hl:∃ v,(loadVar 30 ⟨r,0,none⟩).run Tryz.prog w'=.ok v w'∧l0 (fun _=>False) w' yI n v:=
   a21 (tb:=tb) j9 (t:=30) (ti:=⟨.int .i64,0,[],8⟩) rfl ⟨[.int .i64 n],⟨hin,rfl⟩,fun j u hj=>by
    match j with
    | 0=>simp at hj; subst hj; simp [World.cell?,show w'.heap[r]?=_ from hw']
    | j+1=>simp at hj⟩
  obtain ⟨v,hv1,hv2⟩:=hl
  obtain ⟨_,rfl⟩:=l0.int_eq hv2
  simp [execOp,Act.eval,Act.put,e17,Instr.loadAt,Instr.sureAddr,hv1]
 refine wpAnyH_all (rs:=[3]) (by kernel_rfl) (by simp) (fun i hi=>?_)
 obtain rfl:i=3:=by simpa using hi
 have f0:(((tm.setIfInBounds 16 (p8 exT)).setIfInBounds 17 (.pointer (some ⟨r,0,none⟩))).setIfInBounds 18 (.int .i64 n)).getD 0 undef=.pointer (some ⟨bx,0,none⟩):=by rw [a52 (by omega),a52 (by omega),a52 (by omega),h0]
 have f16:(((tm.setIfInBounds 16 (p8 exT)).setIfInBounds 17 (.pointer (some ⟨r,0,none⟩))).setIfInBounds 18 (.int .i64 n)).getD 16 undef=p8 exT:=by rw [a52 (by omega),a52 (by omega),c4j (by omega)]
 have f1:(((tm.setIfInBounds 16 (p8 exT)).setIfInBounds 17 (.pointer (some ⟨r,0,none⟩))).setIfInBounds 18 (.int .i64 n)).getD 1 undef=.pointer (some ⟨be,0,none⟩):=by rw [a52 (by omega),a52 (by omega),a52 (by omega),h1]
 have f18:(((tm.setIfInBounds 16 (p8 exT)).setIfInBounds 17 (.pointer (some ⟨r,0,none⟩))).setIfInBounds 18 (.int .i64 n)).getD 18 undef=.int .i64 n:=c4j (by simp [hs])
 have s3:=a8G (P:=Tryz.prog) (tb:=tb) (w:=w.drew) d1F (I:=fun _=>False) (l0.zero _ _ exT) (b:=bx) hx hnx hzx
 have s4:=a8G (P:=Tryz.prog) (tb:=tb) (w:=w.drew.setRow bx (p8 exT).cells) d1G (I:=fun _=>False) (x:=n) (v:=.int .i64 n) (l0.of_one rfl ⟨hin,rfl⟩) (b:=be) (cs:=ce) (e:=30) (fr:=fe)
  ((setRow_other _ bx be _ (Ne.symm hxe)).trans he) hne hze
 simp only [wpOp]
 simp [Region.wanted,Oper.wp,execOp,Act.eval,Act.put,f0,f16,s3,Oper.upon]
 refine .inl ⟨(setRow_other _ bx r _ hrx).trans hr,?_⟩
 refine wpAnyH_all (rs:=[4]) (by kernel_rfl) (by simp) (fun i hi=>?_)
 obtain rfl:i=4:=by simpa using hi
 simp only [wpOp]
 simp [Region.wanted,Oper.wp,execOp,Act.eval,Act.put,f1,f18,s4,Oper.upon]
 refine .inl ⟨(setRow_other _ be r _ hre).trans ((setRow_other _ bx r _ hrx).trans hr),?_⟩
 exact wpAnyH_done (by kernel_rfl) ⟨rfl,rfl,rfl⟩ _
theorem z85 (w:World):(zeroValue 85).run Tryz.prog w=.ok (.agg #[.int .i64 0]) w:=by kernel_rfl
theorem e7E (v:Value) (w:World):(Instr.typeAssert (.iface 85 v) 20 85 true).run Tryz.prog w=.ok (.tuple #[v,.bool true]) w:=by kernel_rfl
def a1X (w:World) (bx be:Nat) (n:Int):World:=((w.alloc (.cells #[.int .i64 n] 85)).drew.setRow bx (p8 exT).cells).setRow be #[.int .i64 n]
set_option maxRecDepth 100000 in
theorem b5z {bx be:Nat} {n:Int} {w:World} {cx ce:Array Value} {fx fe:Nat×Nat} (hx:w.heap[bx]?=some (.cells cx 27 fx)) (hnx:a2M fx cx.size) (hzx:cx.size=exT.cells)
  (he:w.heap[be]?=some (.cells ce 30 fe)) (hne:a2M fe ce.size) (hze:ce.size=1) (hxe:bx≠be) (hin:inR .i64 n) :
  CallsD Tryz.prog 38 #[.pointer (some ⟨bx,0,none⟩),.pointer (some ⟨be,0,none⟩)] (.panicking [{ v:=D1.pan n,recovered:=false }]) w fun e u' w'=>
   e=.returned (.tuple #[])∧u'=.panicking [{ v:=D1.pan n,recovered:=true }]∧w'=a1X w bx be n:=by
 have hlx:bx<w.heap.size:=by
  rcases Nat.lt_or_ge bx w.heap.size with h | h
  ·exact h
  ·rw [Array.getElem?_eq_none h] at hx; cases hx
 have hle:be<w.heap.size:=by
  rcases Nat.lt_or_ge be w.heap.size with h | h
  ·exact h
  ·rw [Array.getElem?_eq_none h] at he; cases he
 refine callsD_of_wpS (c:=(Tryz.f38.body.getD .skip)) Tryz.func38 rfl fun c₀ cs hu=>?_
 show (Code.seq (Code.region 0 _ false) _).wpS _ _ _ _ _
 refine wpS_seq (wpS_region ?_)
 simp [wpOpsS,List.range,List.range.loop,Region.wanted,execOp,go_sem,recoverD,hu,Tryz.ntmps38,Exit.thenS,Oper.upon,Act.eval,Act.put]
 show (Code.seq (Code.region 1 _ false) _).wpS _ _ _ _ _
 refine wpS_seq (wpS_region ?_)
 simp [wpOpsS,List.range,List.range.loop,Region.wanted,execOp,go_sem,hu,Tryz.ntmps38,Exit.thenS,Oper.upon,Act.eval,Act.put,D1.pan]
 refine wpS_cond (t:=true) (by simp [Act.eval,Array.replicate]) ?_
 simp only [if_true]
 show (Code.seq (Code.region 2 _ false) _).wpS _ _ _ _ _
 refine wpS_seq (wpS_region ?_)
 simp [wpOpsS,List.range,List.range.loop,Region.wanted,execOp,go_sem,hu,Tryz.ntmps38,Exit.thenS,Oper.upon,Act.eval,Act.put,z85,e7E,Instr.alloc]
 show (Code.seq (Code.seq (Code.region 3 _ false) _) _).wpS _ _ _ _ _
 refine wpS_seq (wpS_seq (wpS_region ?_))
 simp [wpOpsS,List.range,List.range.loop,Region.wanted,execOp,go_sem,hu,Tryz.ntmps38,Exit.thenS,Oper.upon,Act.eval,Act.put]
 refine wpS_cond (t:=false) (by simp [Act.eval,Array.replicate]) ?_
 simp only [Bool.false_eq_true,if_false]
 refine wpS_of_wp (wp_skip ?_)
 simp only [Exit.thenS]
 refine wpS_of_wp (wp_mono (c4F (r:=w.heap.size) (by simp) (by simp) (by simp) (by simp) (heap_alloc_new w _) ((heap_alloc_old w _ hlx).trans hx) hnx hzx ((heap_alloc_old w _ hle).trans he) hne hze (by omega) (by omega) hxe hin) ?_)
 rintro e a w' ⟨rfl,hd,rfl⟩
 simp [bodyPostS,results,Tryz.results38,hd]
 rfl
abbrev exZ:ExD:=((0,0,0,[],0,false),(0,0,0,[],0,false),false,[],(0,0,0,[],0,false),0,0,[],[],false)
def a5s (s:LI):Prop:=c18 s exZ 0∧∀ n,a65 s exZ 0=.inr n→inR .i64 n
def a0B (s:LI):ExD×Int:=match a65 s exZ 0 with
 | .inl r=>(r.1,r.2.1)
 | .inr n=>(exZ,n)
def a8w:List AS:=[.v yB]
def e6m (v:j3 a8w) (K:Res→List Cell→Prop):Prop:=a5s v.1∧∀ r:ExD×Int,r=a0B v.1→K (.tup [.v exT r.1,.v yI r.2]) []
def c9K:App:=specW a8w e6m
theorem a9v:∀ {l:List o9},(∀ x∈l,x=.no)→∀ i,C0 l i=.no
 | [],_,0=>rfl
 | [],_,_+1=>rfl
 | x::l,h,0=>h x List.mem_cons_self
 | x::l,h,i+1=>a9v (l:=l) (fun y hy=>h y (List.mem_cons_of_mem _ hy)) i
theorem L5.deep {w w2 w':World} {F F':Nat→Prop} (h:L5 w2 w' F) (h1:w2.os=w.os) (h2:w2.tape=w.tape) (h3:w2.output=w.output) (hs:w.heap.size≤w2.heap.size)
  (ho:∀ k,k<w.heap.size→w2.heap[k]?=w.heap[k]?) (hF:∀ k,F k→w.heap.size≤k):L5 w w' F':=by
 have hb:∀ k,k<w.heap.size→w'.heap[k]?=w.heap[k]?:=fun k hk=>(h.block k (by omega) fun hf=>by have:=hF k hf; omega).trans (ho k hk)
 exact ⟨h.os.trans h1,h.tape.trans h2,h.output.trans h3,by have:=h.size; omega,fun k hk _=>hb k hk,a9c hb⟩
theorem b1A {I:Nat→Prop} {tm:Array Value} {w:World} {bx be:Nat} {x:ExD} {n:Int} (h2:tm.getD 2 undef=.pointer (some ⟨bx,0,none⟩)) (h3:tm.getD 3 undef=.pointer (some ⟨be,0,none⟩))
  (hx:a1h I w bx 0 exT x) (he:a1h I w be 0 yI n):∃ v1 v2,(results Tryz.f13 tm).run Tryz.prog w=.ok (.tuple #[v1,v2]) w∧l0 I w exT x v1∧l0 I w yI n v2:=by
 obtain ⟨v1,e1,r1⟩:=a21 (w:=w) (tb:=tb) j9 (t:=27) (ti:=⟨exT,0,[],288⟩) rfl hx
 obtain ⟨v2,e2,r2⟩:=a21 (w:=w) (tb:=tb) j9 (t:=30) (ti:=⟨.int .i64,0,[],8⟩) rfl he
 refine ⟨v1,v2,?_,r1,r2⟩
 rw [a5I]
 rw [show Tryz.f13.results=#[.cell 2 27,.cell 3 30] from rfl]
 simp [a4m,h2,h3,asAddr,e1,e2]
set_option maxRecDepth 100000 in
theorem c9M (s:LI) {Ok:Res→List Cell→Prop} (hP:a5s s) (hw:wfA a8w (s,())) (hK:Ok (.tup [.v exT (a0B s).1,.v yI (a0B s).2]) []) :
  a2N Tryz.prog 13 (mkA a8w (s,())) Ok:=by
 intro I w vs bs hI hg ha
 have hlen:=ha.length
 obtain ⟨v,rfl⟩:∃ a,vs=[a]:=by
  match vs,hlen with
  | [a],_=>exact ⟨a,rfl⟩
 obtain ⟨hv,hbs⟩:=ha
 obtain rfl:bs=[]:=by
  cases bs with
  | nil=>rfl
  | cons b bs=>exact hbs.elim
 have hin0:inR .i64 0:=by unfold inR; decide
 let w1:=w.alloc (.cells (p8 exT).cells 27)
 let w2:=w1.alloc (.cells #[.int .i64 0] 30)
 have hs1:w1.heap.size=w.heap.size+1:=by simp [w1]
 have hs2:w2.heap.size=w.heap.size+2:=by simp [w2,hs1]
 have hold:∀ k,k<w.heap.size→w2.heap[k]?=w.heap[k]?:=fun k hk=>(heap_alloc_old w1 _ (by omega)).trans (heap_alloc_old w _ hk)
 have hbx:w2.heap[w.heap.size]?=some (.cells (p8 exT).cells 27):=(heap_alloc_old w1 _ (by omega)).trans (heap_alloc_new w _)
 have hbe:w2.heap[w.heap.size+1]?=some (.cells #[.int .i64 0] 30):=by rw [← hs1]; exact heap_alloc_new w1 _
 have ho1:w2.os=w.os:=rfl
 have ho2:w2.tape=w.tape:=rfl
 have ho3:w2.output=w.output:=rfl
 have hkeep:u7 I I w w2:=⟨fun _ h=>h,fun b hb=>hold b (hI b hb)⟩
 have ha2:o6 I w2 (mkA b61 (s,exZ,0,())) [v,.pointer (some ⟨w.heap.size,0,none⟩),.pointer (some ⟨w.heap.size+1,0,none⟩)] [w.heap.size,w.heap.size+1]:=by
  refine ⟨hv.keep hkeep,rfl,fun h=>by have:=hI _ h; omega,by omega,by simp,⟨_,27,hbx,(l0.zero _ _ exT).list⟩,rfl,fun h=>by have:=hI _ h; omega,by omega,by simp,⟨_,30,hbe,⟨hin0,rfl⟩⟩,trivial⟩
 have hrest:∀ (tm:Array Value) (ds:List Deferred) (Q:Exit→Act→World→Prop),tm.size=27→tm.getD 0 undef=v→tm.getD 2 undef=.pointer (some ⟨w.heap.size,0,none⟩)→tm.getD 3 undef=.pointer (some ⟨w.heap.size+1,0,none⟩)→
   (∀ e tm' w',e=.normal∨e=.ret→∀ v',(results Tryz.f13 tm').run Tryz.prog w'=.ok v' w'→N2 I w [] [] Ok v' w'→Q e ⟨tm',ds⟩ w')→
   (∀ n tm' w',a65 s exZ 0=.inr n→L5 w2 w' (fun b=>b∈[w.heap.size,w.heap.size+1])→tm'.getD 2 undef=.pointer (some ⟨w.heap.size,0,none⟩)→tm'.getD 3 undef=.pointer (some ⟨w.heap.size+1,0,none⟩)→
    Q (.panic [{ v:=D1.pan n,recovered:=false }]) ⟨tm',ds⟩ w')→(at' (g6 Tryz.f13) [1,1]).wp Tryz.prog Q ⟨tm,ds⟩ w2:=by
  intro tm ds Q hs h0 h2 h3 hQ hPn
  refine d4w (tb:=tb) (fn:=Tryz.f13) (ws:=[true,true]) (ps:=[(2,15),(3,23)])
   (ts:=[.v yB s,.no,.box 15 [],.box 23 [],.no,.no,.no,.no,.no,.no,.no,.no,.no,.no,.no,.no,.no,.no,.no,.no,.no,.no,.no,.no,.no,.no,.no])
   (args:=mkA b61 (s,exZ,0,()))
   (K:=fun r _=>(∃ q,a65 s exZ 0=.inl q∧r=.tup [.v exT q.1,.v yI q.2.1])∨∃ n,a65 s exZ 0=.inr n∧r=.pan n)
   j9 (l3 o0 j9 d3U g7.nil (at' (g6 Tryz.f13) [1,1]) [1,1] rfl (by kernel_rfl)) ?_ (I:=I) (w:=w2) (fun b hb=>by have:=hI b hb; omega) (D1.keep hkeep hg) ha2 hs ?_ ?_ ?_
  ·exact (c9G s exZ 0 _).mpr (e2l s exZ 0 _ (o6.wf _ _ ha2) hP.1 (fun r hr=>.inl ⟨r,hr,rfl⟩) (fun n hn=>.inr ⟨n,hn,rfl⟩))
  ·intro i
   match i with
   | 0=>exact .inr ⟨0,rfl,h0⟩
   | 1=>exact .inl rfl
   | 2=>exact .inr ⟨1,rfl,h2⟩
   | 3=>exact .inr ⟨2,rfl,h3⟩
   | i+4=>exact .inl (a9v (l:=[.no,.no,.no,.no,.no,.no,.no,.no,.no,.no,.no,.no,.no,.no,.no,.no,.no,.no,.no,.no,.no,.no,.no]) (by simp) i)
  ·intro e tm' w' he v' hr hb
   refine hQ e tm' w' he v' hr ?_
   obtain ⟨res,outs,J,fb,hk,hsn,hJ,hfb,hres,houts⟩:=hb
   have hnw:∀ b,Nw w2 [w.heap.size,w.heap.size+1] (p5 (mkA b61 (s,exZ,0,())) [w.heap.size,w.heap.size+1]) b→Nw w [] [] b:=fun b hb=>.inl (by
    rcases hb with h | ⟨h,_⟩
    ·omega
    ·simp at h; omega)
   refine ⟨res,[],J,fb,?_,hsn.deep rfl rfl rfl (by omega) hold (fun k hk=>by simp at hk; omega),fun b hb=>⟨hnw b (hJ b hb).1,(hJ b hb).2⟩,fun i b hb=>⟨hnw b (hfb i b hb).1,(hfb i b hb).2⟩,hres,trivial⟩
   rcases hk with ⟨q,hq,rfl⟩ | ⟨n,_,rfl⟩
   ·have hF:a0B s=(q.1,q.2.1):=by unfold a0B; rw [hq]
    rw [hF] at hK; exact hK
   ·exact hres.elim
  ·intro n tm' w' hk hsn hpin
   rcases hk with ⟨q,_,h⟩ | ⟨n',hn,h⟩
   ·cases h
   ·injection h with h; subst h
    exact hPn n tm' w' hn hsn (hpin 2 15 _ (by simp) rfl) (hpin 3 23 _ (by simp) rfl)
 refine calls_of_wp_defers (c:=(Tryz.f13.body.getD .skip)) Tryz.func13 rfl ?_
 show (Code.seq (Code.region 0 _ false) (Code.seq (Code.region 1 _ false) (at' (g6 Tryz.f13) [1,1]))).wp _ _ _ _
 generalize at' (g6 Tryz.f13) [1,1]=REST at hrest ⊢
 have z27:(zeroValue 27).run Tryz.prog w=.ok (p8 exT) w:=a1W d1F w
 have z30:(zeroValue 30).run Tryz.prog w1=.ok (.int .i64 0) w1:=a1W d1G w1
 refine wp_seq (wp_region ?_)
 simp [wpOps,List.range,List.range.loop,Oper.wp,Region.wanted,execOp,go_sem,Oper.upon,Act.eval,Act.put,Tryz.ntmps13,Instr.alloc,Exit.then]
 refine .inl (.inl ?_)
 show (Code.seq (Code.region 1 _ false) REST).wp _ _ _ w2
 clear_value w2 w1
 refine wp_seq (wp_region ?_)
 have mk:∀ (w:World) (a b:Value),(Instr.makeFunc (.func 38) #[] #[a,b]).run Tryz.prog w=.ok (.func (.func 38) #[] #[a,b]) w:=fun _ _ _=>rfl
 simp [wpOps,List.range,List.range.loop,Oper.wp,Region.wanted,execOp,go_sem,Oper.upon,Act.eval,Act.put,Exit.then,mk]
 try refine .inl (.inl ?_)
 refine hrest _ _ _ ?_ ?_ ?_ ?_ ?_ ?_
 ·simp
 ·simp
 ·simp
 ·simp
 ·intro e tm' w' he v' hr hb
  have hl:Leaves Tryz.prog Tryz.f13 tm' (fun e w'=>c3R I w [] (p5 (mkA a8w (s,())) []) Ok e w') [{ target:=.fn (.func 38) #[.pointer (some ⟨w.heap.size,0,none⟩),.pointer (some ⟨w.heap.size+1,0,none⟩)],args:=#[] }] .returning w':=by
   refine leaves_cons (f:=38) (args:=#[.pointer (some ⟨w.heap.size,0,none⟩),.pointer (some ⟨w.heap.size+1,0,none⟩)]) (by simp) (by simp [go_sem]) ((b78 _ _ w').mono ?_)
   rintro e u' w'' ⟨rfl,rfl,rfl⟩
   exact ⟨v',hr,.inl ⟨v',rfl,hb⟩⟩
  rcases he with rfl | rfl
  ·exact hl
  ·exact hl
 ·intro n tm' w' hn hsn h2 h3
  obtain ⟨cx,fx,gx,zx,nx⟩:=hsn.shape w.heap.size _ 27 _ hbx rfl (.inl rfl)
  obtain ⟨ce,fe,ge,ze,ne⟩:=hsn.shape (w.heap.size+1) _ 30 _ hbe rfl (.inl rfl)
  have hin:=hP.2 n hn
  show Leaves Tryz.prog Tryz.f13 tm' (fun e w'=>c3R I w [] (p5 (mkA a8w (s,())) []) Ok e w') [{ target:=.fn (.func 38) #[.pointer (some ⟨w.heap.size,0,none⟩),.pointer (some ⟨w.heap.size+1,0,none⟩)],args:=#[] }] (.panicking [{ v:=D1.pan n,recovered:=false }]) w'
  refine leaves_cons (f:=38) (args:=#[.pointer (some ⟨w.heap.size,0,none⟩),.pointer (some ⟨w.heap.size+1,0,none⟩)]) (by simp) (by simp [go_sem])
   ((b5z gx nx (zx.trans rfl) ge ne (ze.trans rfl) (by omega) hin).mono ?_)
  rintro e u' w'' ⟨rfl,rfl,rfl⟩
  show Leaves Tryz.prog Tryz.f13 tm' (fun e w'=>c3R I w [] (p5 (mkA a8w (s,())) []) Ok e w') [] .returning (a1X w' w.heap.size (w.heap.size+1) n)
  have hsz:=hsn.size
  have q1:((w'.alloc (.cells #[.int .i64 n] 85)).drew).heap[w.heap.size]?=some (.cells cx 27 fx):=(heap_alloc_old w' _ (by omega)).trans gx
  have q2:(((w'.alloc (.cells #[.int .i64 n] 85)).drew).setRow w.heap.size (p8 exT).cells).heap[w.heap.size+1]?=some (.cells ce 30 fe):=(setRow_other _ _ _ _ (by omega)).trans ((heap_alloc_old w' _ (by omega)).trans ge)
  have c1:(a1X w' w.heap.size (w.heap.size+1) n).heap[w.heap.size]?=some (.cells (p8 exT).cells 27 fx):=(setRow_other _ _ _ _ (by omega)).trans (setRow_heap _ _ _ _ _ _ q1)
  have c2:(a1X w' w.heap.size (w.heap.size+1) n).heap[w.heap.size+1]?=some (.cells #[.int .i64 n] 30 fe):=setRow_heap _ _ _ _ _ _ q2
  have hcold:∀ k,k<w.heap.size→(a1X w' w.heap.size (w.heap.size+1) n).heap[k]?=w.heap[k]?:=fun k hk=>
   (setRow_other _ _ _ _ (by omega)).trans ((setRow_other _ _ _ _ (by omega)).trans ((heap_alloc_old w' _ (by omega)).trans ((hsn.block k (by omega) (by simp; omega)).trans (hold k hk))))
  obtain ⟨v1,v2,hres,r1,r2⟩:=b1A (I:=orP I fun _=>False) (w:=a1X w' w.heap.size (w.heap.size+1) n) (x:=exZ) (n:=n) h2 h3
   ⟨_,(l0.zero _ _ exT).list,fun j u hj=>by rw [Nat.zero_add]; simp only [World.cell?,c1]; rw [Array.getElem?_toList] at hj; exact hj⟩
   ⟨_,⟨hin,rfl⟩,fun j u hj=>by rw [Nat.zero_add]; simp only [World.cell?,c2]; simpa using hj⟩
  refine ⟨_,hres,.inl ⟨_,rfl,_,[],fun _=>False,[none,none],hK,?_,fun b hb=>hb.elim,fun i b hb=>?_,?_,trivial⟩⟩
  ·exact ⟨hsn.os.trans ho1,hsn.tape.trans ho2,hsn.output.trans ho3,by
     show w.heap.size≤(a1X w' w.heap.size (w.heap.size+1) n).heap.size
     have:(a1X w' w.heap.size (w.heap.size+1) n).heap.size=w'.heap.size+1:=by simp [a1X]
     omega,fun k hk _=>hcold k hk,a9c hcold⟩
  ·match i with
   | 0=>cases hb
   | 1=>cases hb
   | i+2=>cases hb
  ·have hF:a0B s=(exZ,n):=by unfold a0B; rw [hn]
   rw [hF]
   refine ⟨_,rfl,rfl,rfl,fun i x u b hx hu hb=>?_⟩
   match i with
   | 0=>cases hx; cases hu; cases hb; exact ⟨rfl,r1⟩
   | 1=>cases hx; cases hu; cases hb; exact ⟨rfl,r2⟩
   | i+2=>cases hx
theorem c9L:g8 Tryz.prog 13 c9K:=by
 refine g8.specW fun ags K hs=>?_
 obtain ⟨v,rfl,hP,hK⟩:=G5 _ ags _ hs
 obtain ⟨s,⟨⟩⟩:=v
 exact a2C.when (p:=wfA a8w (s,())) (fun I w vs bs ha=>o6.wf _ _ ha) fun hw=>.inl ⟨enters_of Tryz.func13 (by kernel_rfl),c9M s hP hw (hK _ rfl)⟩
end Go.VE
namespace Go.VE
def bk (l:LI):LI:=l.drop (bls l)
def tk (b:Int):LI→Bool×LI
 | []=>(false,[])
 | c::r=>if c=b then (true,r) else (false,c::r)
def rg (dg:Bool) (l:LI):Int×LI:=match bk l with
 | []=>(0,[])
 | c::r=>if c=0∨a7s c=false∨(L8 c=true∧dg=false) then (0,c::r) else (c,r)
def cnM (l:LI):Rd Int:=if L8 ((bk l).headD 0)=true then (if cnt 0 (bk l)=0 then .inr 240 else .inl (cnt 0 (bk l),(bk l).drop (dgs (bk l)))) else .inl (0,bk l)
def ptM (l:LI):Rd (LI×Bool):=if clo l 47<l.length then .inl ((l.take (clo l 47),true),l.drop (clo l 47+1)) else if alo l=true then .inr 240 else .inl ((l,false),[])
def gvM (l:LI):Rd Adr:=match adM (bk l) with
 | .inr e=>.inr e
 | .inl (a,r)=>if a.2.2.2.2.2=true then .inl (a,r) else .inr 240
def pos (s l:LI):LI×Int:=(s,(s.length:Int) - l.length)
def toS {α:Type} (s:LI):Rd α→(α×(LI×Int))⊕Int
 | .inl (a,r)=>.inl (a,pos s r)
 | .inr e=>.inr e
theorem D2 (l:LI):bk l <:+ l:=List.drop_suffix _ _
theorem c31 (l:LI):(bk l).length=l.length - bls l:=List.length_drop
section
variable {s l:LI}
theorem a4D (h:l <:+ s):pos s l=(s,((s.length - l.length:Nat):Int)):=by
 have:=B1 h
 unfold pos
 rw [show ((s.length:Int) - l.length)=((s.length - l.length:Nat):Int) by omega]
theorem a1s (h:l <:+ s):(pos s l).1.drop (pos s l).2.toNat=l:=by
 rw [a4D h]; exact a5X h
theorem Y0 (h:l <:+ s):P1 (pos s l)∧E0 (pos s l)=pos s (bk l):=by
 have h1:=B1 h
 have h2:=b7S l
 refine ⟨⟨show 0≤(s.length:Int) - l.length by omega,show (s.length:Int) - l.length≤s.length by omega⟩,?_⟩
 unfold E0
 rw [a1s h]
 show (s,(s.length:Int) - l.length+(bls l:Int))=(s,(s.length:Int) - (bk l).length)
 rw [c31]
 congr 1
 omega
theorem b9S (h:l <:+ s):L6 (pos s l)=decide (l=[]):=by
 have h1:=B1 h
 show decide ((s.length:Int)≤(s.length:Int) - l.length)=_
 cases l with
 | nil=>simp
 | cons c r=>rw [decide_eq_false (by simp only [List.length_cons]; omega),decide_eq_false (by simp)]
theorem b77 (h:l <:+ s):a1y (pos s l)∧a0n (pos s l)=l.headD 0:=by
 have h1:=B1 h
 have:=c4e s (s.length - l.length) (by omega)
 rw [a5X h] at this
 rw [a4D h]; exact this
theorem a0T (h:l <:+ s) (hs:s.length≤lim) (b:Int):L7 (pos s l) b∧D7 (pos s l) b=((tk b l).1,pos s (tk b l).2):=by
 have h1:=B1 h
 have:=b9V s (s.length - l.length) b (by omega) hs
 rw [a5X h] at this
 refine ⟨by rw [a4D h]; exact this.1,?_⟩
 rw [a4D h,this.2]
 cases l with
 | nil=>exact (congrArg (Prod.mk false) (a4D h)).symm
 | cons c r=>
  simp only [List.length_cons] at h1
  unfold tk
  dsimp only
  split
  ·show (true,_)=(true,pos s r)
   unfold pos
   rw [List.length_cons,show ((s.length - (r.length+1)+1:Nat):Int)=(s.length:Int) - r.length by omega]
  ·exact (congrArg (Prod.mk false) (a4D h)).symm
theorem L4 (b c:Int) (r:LI):tk b (c::r)=if c=b then (true,r) else (false,c::r):=rfl
theorem Q8 (b:Int) (l:LI):(tk b l).2 <:+ l:=by
 cases l with
 | nil=>exact List.suffix_refl _
 | cons c r=>
  rw [L4]
  split
  ·exact List.suffix_cons _ _
  ·exact List.suffix_refl _
theorem d4O (h:l <:+ s):a6l (pos s l)∧a0p (pos s l)=if bk l=[] then .inl (pos s []) else .inr 240:=by
 obtain ⟨hp,hf⟩:=Y0 h
 refine ⟨hp,?_⟩
 unfold a0p
 rw [hf]
 dsimp only
 rw [b9S ((D2 l).trans h)]
 by_cases c:bk l=[]
 ·rw [c]; rfl
 ·rw [if_neg c,decide_eq_false c]; rfl
theorem a7E (h:l <:+ s) (hs:s.length≤lim):a57 (pos s l)∧Z6 (pos s l)=toS s (adM l):=by
 have h1:=B1 h
 have hlim:lim=1099511627776:=rfl
 obtain ⟨hp,hf⟩:=b7P l (by omega)
 have hd:=a1s h
 refine ⟨⟨⟨show 0≤(s.length:Int) - l.length by omega,show (s.length:Int) - l.length≤s.length by omega⟩,by rw [hd]; exact hp⟩,?_⟩
 unfold Z6
 rw [hd,hf]
 cases ha:adM l with
 | inr e=>
  have:=Z9 _ ha
  subst this; rfl
 | inl p=>
  obtain ⟨a,r⟩:=p
  have h2:=B1 (a0H l ha)
  show Sum.inl (a,(s,IntKind.wrap .i64 ((s.length:Int) - l.length+((l.length:Int) - r.length))))=Sum.inl (a,(s,(s.length:Int) - r.length))
  rw [wrap_i64 (by omega) (by omega),show (s.length:Int) - l.length+((l.length:Int) - r.length)=(s.length:Int) - r.length by omega]
theorem b9R (b:Int):a30 b=L8 b:=b9U b
theorem b1j (h:l <:+ s) (hs:s.length≤lim) (dg:Bool):a49 (pos s l) dg∧a28 (pos s l) dg=((rg dg l).1,pos s (rg dg l).2):=by
 have hlim:lim=1099511627776:=rfl
 obtain ⟨hp,hf⟩:=Y0 h
 have hb:=(D2 l).trans h
 have h1:=B1 hb
 obtain ⟨np,nf⟩:=b77 hb
 unfold a49 a28 rg
 simp only [hf,nf,b9R]
 refine ⟨⟨hp,np⟩,?_⟩
 cases hbk:bk l with
 | nil=>rfl
 | cons c r=>
  rw [hbk] at h1
  simp only [List.length_cons] at h1
  have hw:(((pos s (c::r)).1,IntKind.wrap .i64 ((pos s (c::r)).2+1)):LI×Int)=pos s r:=by
   show (s,IntKind.wrap .i64 ((s.length:Int) - (c::r).length+1))=(s,(s.length:Int) - r.length)
   rw [List.length_cons,wrap_i64 (by omega) (by omega),show (s.length:Int) - ((r.length+1:Nat):Int)+1=(s.length:Int) - r.length by omega]
  rw [show (c::r).headD 0=c from rfl]
  dsimp only
  rw [hw]
  by_cases c0:c=0
  ·rw [decide_eq_true c0,if_pos (.inl c0)]; rfl
  ·rw [decide_eq_false c0]
   cases hv:a7s c
   ·rw [if_pos (.inr (.inl rfl))]; rfl
   ·cases hg:L8 c
    ·rw [if_neg (by simp [c0])]; rfl
    ·cases dg
     ·rw [if_pos (by simp)]; rfl
     ·rw [if_neg (by simp [c0])]; rfl
theorem b9p (dg:Bool) (l:LI):(rg dg l).2 <:+ l:=by
 have h:=D2 l
 unfold rg
 split
 ·exact List.nil_suffix
 ·rename_i c r hb
  rw [hb] at h
  split
  ·exact h
  ·exact (List.suffix_cons _ _).trans h
theorem b9O (h:l <:+ s) (hs:s.length≤lim):a5f (pos s l)∧a0l (pos s l)=toS s (cnM l):=by
 have hlim:lim=1099511627776:=rfl
 obtain ⟨hp,hf⟩:=Y0 h
 have hb:=(D2 l).trans h
 have h1:=B1 hb
 obtain ⟨np,nf⟩:=b77 hb
 have hd:=a1s hb
 have hdl:=R0 (bk l)
 unfold a5f a0l cnM
 simp only [hf,nf,b9R]
 refine ⟨⟨hp,np,?_⟩,?_⟩
 ·refine brb (fun _=>trivial) (fun _=>⟨by omega,by omega,show 0≤(s.length:Int) - (bk l).length by omega,show (s.length:Int) - (bk l).length≤s.length by omega,hs⟩)
 ·cases hg:L8 ((bk l).headD 0)
  ·rfl
  ·rw [if_pos rfl]
   unfold a99
   dsimp only
   rw [hd]
   by_cases c0:cnt 0 (bk l)=0
   ·rw [decide_eq_true c0,if_pos c0]; rfl
   ·rw [decide_eq_false c0,if_neg c0]
    show Sum.inl (_,(s,(s.length:Int) - (bk l).length+(dgs (bk l):Int)))=Sum.inl (_,(s,(s.length:Int) - ((bk l).drop (dgs (bk l))).length))
    rw [List.length_drop,show (s.length:Int) - (bk l).length+(dgs (bk l):Int)=(s.length:Int) - (((bk l).length - dgs (bk l):Nat):Int) by omega]
theorem b9N {l:LI} {n:Int} {r:LI} (h:cnM l=.inl (n,r)):r <:+ l:=by
 unfold cnM at h
 split at h
 ·split at h
  ·cases h
  ·cases h; exact (List.drop_suffix _ _).trans (D2 l)
 ·cases h; exact D2 l
end
end Go.VE
namespace Go.VE
abbrev exB (a b:Adr) (w:Bool):ExD:=(a,b,w,[],p9,0,0,[],[],false)
def rpM (a b:Adr) (w:Bool) (l:LI):Rd ExD:=match tk 47 l with
 | (false,_)=>.inr 240
 | (true,r)=>match ptM r with
  | .inr e=>.inr e
  | .inl ((_,false),_)=>.inr 240
  | .inl ((old,true),t)=>match ptM t with
   | .inr e=>.inr e
   | .inl ((new,true),u)=>.inl ((a,b,w,[115],p9,0,0,old,new,(tk 103 u).1),(tk 103 u).2)
   | .inl ((new,false),u)=>.inl ((a,b,w,[115],p9,0,0,old,new,false),u)
def cmM (a b:Adr) (w:Bool):LI→Rd ExD
 | []=>.inr 240
 | c::r=>
  if c=100∨c=121 then (match cnM (rg false r).2 with
   | .inl (n,t)=>.inl ((a,b,w,[c],p9,(rg false r).1,n,[],[],false),t)
   | .inr e=>.inr e)
  else if c=112 then (match tk 117 r with
   | (false,_)=>.inr 240
   | (true,r)=>.inl ((a,b,w,if (tk 33 r).1=true then [112,117,33] else [112,117],p9,(rg true (tk 33 r).2).1,0,[],[],false),(rg true (tk 33 r).2).2))
  else if c=106 then (match cnM (tk 33 r).2 with
   | .inl (n,t)=>.inl ((a,b,w,if (tk 33 r).1=true then [106,33] else [106],p9,0,n,[],[],false),t)
   | .inr e=>.inr e)
  else if c=62∨c=60 then .inl ((a,b,w,[c],p9,0,if 9999<1+(D0 c r:Int) then 9999 else 1+(D0 c r:Int),[],[],false),r.drop (D0 c r))
  else if c=99 then (match tk 111 r with
   | (false,_)=>.inr 240
   | (true,r)=>match gvM r with
    | .inl (d,t)=>.inl ((a,b,w,[116],d,0,0,[],[],false),t)
    | .inr e=>.inr e)
  else if c=116∨c=109 then (match gvM r with
   | .inl (d,t)=>.inl ((a,b,w,[c],d,0,0,[],[],false),t)
   | .inr e=>.inr e)
  else if c=115 then rpM a b w r
  else .inr 240
theorem Y1 (a b:Adr) (w:Bool) (c:Int) (r:LI):cmM a b w (c::r) =
  if c=100∨c=121 then (match cnM (rg false r).2 with
   | .inl (n,t)=>.inl ((a,b,w,[c],p9,(rg false r).1,n,[],[],false),t)
   | .inr e=>.inr e)
  else if c=112 then (match tk 117 r with
   | (false,_)=>.inr 240
   | (true,r)=>.inl ((a,b,w,if (tk 33 r).1=true then [112,117,33] else [112,117],p9,(rg true (tk 33 r).2).1,0,[],[],false),(rg true (tk 33 r).2).2))
  else if c=106 then (match cnM (tk 33 r).2 with
   | .inl (n,t)=>.inl ((a,b,w,if (tk 33 r).1=true then [106,33] else [106],p9,0,n,[],[],false),t)
   | .inr e=>.inr e)
  else if c=62∨c=60 then .inl ((a,b,w,[c],p9,0,if 9999<1+(D0 c r:Int) then 9999 else 1+(D0 c r:Int),[],[],false),r.drop (D0 c r))
  else if c=99 then (match tk 111 r with
   | (false,_)=>.inr 240
   | (true,r)=>match gvM r with
    | .inl (d,t)=>.inl ((a,b,w,[116],d,0,0,[],[],false),t)
    | .inr e=>.inr e)
  else if c=116∨c=109 then (match gvM r with
   | .inl (d,t)=>.inl ((a,b,w,[c],d,0,0,[],[],false),t)
   | .inr e=>.inr e)
  else if c=115 then rpM a b w r
  else .inr 240:=rfl
def toC (s:LI):Rd ExD→((LI×Int)×ExD)⊕Int
 | .inl (x,r)=>.inl (pos s r,x)
 | .inr e=>.inr e
theorem idE {α β:Type} (z:(α×β)⊕Int):Sum.elim (fun q:α×β=>(Sum.inl (q.1,q.2):(α×β)⊕Int)) (fun q=>Sum.inr q) z=z:=by cases z <;> rfl
section
variable {s l:LI}
theorem b91 (h:l <:+ s) (hs:s.length≤lim):a5g (pos s l)∧a0m (pos s l)=toS s (gvM l):=by
 obtain ⟨hp,hf⟩:=Y0 h
 obtain ⟨ap,af⟩:=a7E ((D2 l).trans h) hs
 unfold a5g a0m gvM
 simp only [hf,af]
 refine ⟨⟨hp,ap⟩,?_⟩
 rcases adM (bk l) with ⟨a,r⟩ | e
 ·obtain ⟨a1,a2,a3,a4,a5,g⟩:=a
  cases g <;> rfl
 ·rfl
theorem b94 {l:LI} {a:Adr} {r:LI} (h:gvM l=.inl (a,r)):r <:+ l:=by
 unfold gvM at h
 split at h
 ·cases h
 ·rename_i b t hb
  split at h
  ·cases h; exact (a0H _ hb).trans (D2 l)
  ·cases h
theorem a55 {l:LI} {a:LI×Bool} {r:LI} (h:ptM l=.inl (a,r)):r <:+ l:=by
 unfold ptM at h
 split at h
 ·cases h; exact List.drop_suffix _ _
 ·split at h
  ·cases h
  ·cases h; exact List.nil_suffix
theorem c4G (h:l <:+ s) (hs:s.length≤lim):a8o (pos s l)∧a0N (pos s l)=(match ptM l with | .inl ((t,b),r)=>.inl (t,b,pos s r) | .inr e=>.inr e):=by
 have hlim:lim=1099511627776:=rfl
 have h1:=B1 h
 have hd:=a1s h
 have hc:=a1Y l 47
 have lp:b0d (pos s l).2 (pos s l):=⟨rfl,show 0≤(s.length:Int) - l.length by omega,show (s.length:Int) - l.length≤s.length by omega,hs⟩
 unfold a8o a0N a0o ptM
 rw [hd]
 by_cases h2:clo l 47<l.length
 ·rw [if_pos h2,if_pos h2]
  refine ⟨⟨lp,trivial⟩,?_⟩
  show Sum.inl (_,true,(s,(s.length:Int) - l.length+(clo l 47:Int)+1))=Sum.inl (_,true,(s,(s.length:Int) - (l.drop (clo l 47+1)).length))
  rw [List.length_drop,show (s.length:Int) - l.length+(clo l 47:Int)+1=(s.length:Int) - ((l.length - (clo l 47+1):Nat):Int) by omega]
 ·rw [if_neg h2,if_neg h2]
  cases ha:alo l
  ·refine ⟨⟨lp,⟨show 0≤(s.length:Int) - l.length by omega,show (s.length:Int) - l.length≤s.length by omega⟩,?_⟩,?_⟩
   ·show (((pos s l).1.drop (pos s l).2.toNat).length≤lim); rw [hd]; omega
   ·show Sum.inl ((pos s l).1.drop (pos s l).2.toNat,false,(s,(s.length:Int)))=Sum.inl (l,false,(s,(s.length:Int) - (([]:LI).length:Int)))
    rw [hd]; simp
  ·exact ⟨⟨lp,trivial⟩,rfl⟩
theorem b7x (h:l <:+ s) (hs:s.length≤lim) (a b:Adr) (w:Bool):c3D (pos s l) (exB a b w)∧b4P (pos s l) (exB a b w)=toC s (rpM a b w l):=by
 obtain ⟨tp,tf⟩:=a0T h hs 47
 have ht:=(Q8 47 l).trans h
 obtain ⟨pp,pf⟩:=c4G ht hs
 -- the second part
 have two:∀ (old:LI) (t:LI),t <:+ s→a7m old (pos s t) (a,b,w,[115],p9,0,0,[],[],false)∧
   a4X old (pos s t) (a,b,w,[115],p9,0,0,[],[],false)=toC s (match ptM t with
   | .inr e=>.inr e
   | .inl ((new,true),u)=>.inl ((a,b,w,[115],p9,0,0,old,new,(tk 103 u).1),(tk 103 u).2)
   | .inl ((new,false),u)=>.inl ((a,b,w,[115],p9,0,0,old,new,false),u)):=by
  intro old t ht
  obtain ⟨qp,qf⟩:=c4G ht hs
  unfold a7m a4X
  rw [qf]
  cases hq:ptM t with
  | inr e=>exact ⟨⟨qp,trivial⟩,rfl⟩
  | inl q=>
   obtain ⟨⟨new,ok⟩,u⟩:=q
   cases ok
   ·exact ⟨⟨qp,trivial⟩,rfl⟩
   ·obtain ⟨gp,gf⟩:=a0T ((a55 hq).trans ht) hs 103
    refine ⟨⟨qp,gp⟩,?_⟩
    simp only [Sum.elim_inl,gf,cond_true]
    rfl
 have one:a7n (pos s (tk 47 l).2) (a,b,w,[115],p9,0,0,[],[],false)∧
   a2w (pos s (tk 47 l).2) (a,b,w,[115],p9,0,0,[],[],false)=toC s (match ptM (tk 47 l).2 with
  | .inr e=>.inr e
  | .inl ((_,false),_)=>.inr 240
  | .inl ((old,true),t)=>match ptM t with
   | .inr e=>.inr e
   | .inl ((new,true),u)=>.inl ((a,b,w,[115],p9,0,0,old,new,(tk 103 u).1),(tk 103 u).2)
   | .inl ((new,false),u)=>.inl ((a,b,w,[115],p9,0,0,old,new,false),u)):=by
  unfold a7n a2w
  rw [pf]
  cases hq:ptM (tk 47 l).2 with
  | inr e=>exact ⟨⟨pp,trivial⟩,rfl⟩
  | inl q=>
   obtain ⟨⟨old,ok⟩,t⟩:=q
   cases ok
   ·exact ⟨⟨pp,trivial⟩,rfl⟩
   ·obtain ⟨gp,gf⟩:=two old t ((a55 hq).trans ht)
    refine ⟨⟨pp,gp⟩,?_⟩
    simp only [Sum.elim_inl,gf,Bool.not_true,cond_false]
    rcases ptM t with ⟨⟨new,ok⟩,u⟩ | e
    ·cases ok <;> rfl
    ·rfl
 unfold c3D b4P rpM
 rw [tf]
 cases hk:tk 47 l with
 | mk ok r=>
  rw [hk] at one
  cases ok
  ·exact ⟨⟨tp,trivial⟩,rfl⟩
  ·refine ⟨⟨tp,one.1⟩,?_⟩
   show Sum.elim (fun q:(LI×Int)×ExD=>Sum.inl (q.1,q.2)) (fun q=>Sum.inr q) (a2w (pos s r) (a,b,w,[115],p9,0,0,[],[],false))=_
   rw [idE,one.2]
theorem c28 (c:Int) (r:LI) (h:c::r <:+ s) (hs:s.length≤lim) (a b:Adr) (w:Bool):b14 (pos s (c::r)) (exB a b w)∧a5c (pos s (c::r)) (exB a b w)=toC s (cmM a b w (c::r)):=by
 have hlim:lim=1099511627776:=rfl
 have h1:=B1 h
 simp only [List.length_cons] at h1
 have hr:r <:+ s:=(List.suffix_cons _ _).trans h
 obtain ⟨np,nf⟩:=b77 h
 have hw:(((pos s (c::r)).1,IntKind.wrap .i64 ((pos s (c::r)).2+1)):LI×Int)=pos s r:=by
  show (s,IntKind.wrap .i64 ((s.length:Int) - (c::r).length+1))=(s,(s.length:Int) - r.length)
  rw [List.length_cons,wrap_i64 (by omega) (by omega),show (s.length:Int) - ((r.length+1:Nat):Int)+1=(s.length:Int) - r.length by omega]
 have J4:a3d c c (decide (c=100) || decide (c=121)) (pos s r) (exB a b w)∧a1v c c (decide (c=100) || decide (c=121)) (pos s r) (exB a b w)=toC s (cmM a b w (c::r)):=by
  rw [Y1]
  unfold a3d a1v
  by_cases cd:c=100∨c=121
  ·rw [if_pos cd,show (decide (c=100) || decide (c=121))=true by rcases cd with h | h <;> simp [h]]
   obtain ⟨rp,rf⟩:=b1j hr hs false
   obtain ⟨cp,cf⟩:=b9O ((b9p false r).trans hr) hs
   simp only [rf,cf,cond_true]
   refine ⟨⟨rp,cp⟩,?_⟩
   rcases cnM (rg false r).2 with ⟨n,t⟩ | e <;> rfl
  have cd1:¬ c=100:=fun h=>cd (.inl h)
  have cd2:¬ c=121:=fun h=>cd (.inr h)
  rw [if_neg cd,show (decide (c=100) || decide (c=121))=false by simp [cd1,cd2]]
  by_cases c2:c=112
  ·rw [if_pos c2,decide_eq_true c2]
   obtain ⟨tp,tf⟩:=a0T hr hs 117
   have ht:=(Q8 117 r).trans hr
   have j0:a3a (pos s (tk 117 r).2) (exB a b w)∧a29 (pos s (tk 117 r).2) (exB a b w)=(pos s (rg true (tk 33 (tk 117 r).2).2).2,(a,b,w,if (tk 33 (tk 117 r).2).1=true then [112,117,33] else [112,117],p9,(rg true (tk 33 (tk 117 r).2).2).1,0,[],[],false)):=by
    obtain ⟨qp,qf⟩:=a0T ht hs 33
    obtain ⟨rp,rf⟩:=b1j ((Q8 33 _).trans ht) hs true
    unfold a3a a29
    simp only [qf,rf]
    cases (tk 33 (tk 117 r).2).1
    ·exact ⟨⟨qp,rp⟩,rfl⟩
    ·exact ⟨⟨qp,rp⟩,rfl⟩
   simp only [tf,cond_true,cond_false]
   rcases hk:tk 117 r with ⟨ok,t⟩
   rw [hk] at j0
   cases ok
   ·exact ⟨⟨tp,trivial⟩,rfl⟩
   ·refine ⟨⟨tp,j0.1⟩,?_⟩
    simp only [j0.2,Bool.not_true,cond_false]
    rfl
  rw [if_neg c2,decide_eq_false c2]
  by_cases c3:c=106
  ·rw [if_pos c3,decide_eq_true c3]
   obtain ⟨tp,tf⟩:=a0T hr hs 33
   obtain ⟨cp,cf⟩:=b9O ((Q8 33 r).trans hr) hs
   simp only [tf,cf,cond_true,cond_false]
   refine ⟨⟨tp,brb (fun _=>cp) (fun _=>cp)⟩,?_⟩
   cases (tk 33 r).1
   ·rcases cnM (tk 33 r).2 with ⟨n,t⟩ | e <;> rfl
   ·rcases cnM (tk 33 r).2 with ⟨n,t⟩ | e <;> rfl
  rw [if_neg c3,decide_eq_false c3]
  have J3:a3c c c (decide (c=62) || decide (c=60)) (pos s r) (exB a b w)∧a1u c c (decide (c=62) || decide (c=60)) (pos s r) (exB a b w)=toC s (if c=62∨c=60 then .inl ((a,b,w,[c],p9,0,if 9999<1+(D0 c r:Int) then 9999 else 1+(D0 c r:Int),[],[],false),r.drop (D0 c r))
  else if c=99 then (match tk 111 r with
   | (false,_)=>.inr 240
   | (true,r)=>match gvM r with
    | .inl (d,t)=>.inl ((a,b,w,[116],d,0,0,[],[],false),t)
    | .inr e=>.inr e)
  else if c=116∨c=109 then (match gvM r with
   | .inl (d,t)=>.inl ((a,b,w,[c],d,0,0,[],[],false),t)
   | .inr e=>.inr e)
  else if c=115 then rpM a b w r
  else .inr 240):=by
   unfold a3c a1u
   by_cases c4:c=62∨c=60
   ·rw [if_pos c4,show (decide (c=62) || decide (c=60))=true by rcases c4 with h | h <;> simp [h]]
    have hrl:=b44 c r
    have hd:=a1s hr
    refine ⟨⟨show 0≤(s.length:Int) - r.length by omega,show (s.length:Int) - r.length≤s.length by omega,hs,show (0:Int)≤1 by omega,show (1:Int)≤9999 by omega⟩,?_⟩
    unfold a9Z
    rw [hd]
    show Sum.inl ((s,(s.length:Int) - r.length+(D0 c r:Int)),_)=Sum.inl ((s,(s.length:Int) - (r.drop (D0 c r)).length),_)
    rw [List.length_drop,show (s.length:Int) - r.length+(D0 c r:Int)=(s.length:Int) - ((r.length - D0 c r:Nat):Int) by omega]
    rfl
   have c41:¬ c=62:=fun h=>c4 (.inl h)
   have c42:¬ c=60:=fun h=>c4 (.inr h)
   rw [if_neg c4,show (decide (c=62) || decide (c=60))=false by simp [c41,c42]]
   by_cases c5:c=99
   ·rw [if_pos c5,decide_eq_true c5]
    obtain ⟨tp,tf⟩:=a0T hr hs 111
    obtain ⟨gp,gf⟩:=b91 ((Q8 111 r).trans hr) hs
    simp only [tf,gf,cond_true,cond_false]
    rcases hk:tk 111 r with ⟨ok,t⟩
    rw [hk] at gp gf
    cases ok
    ·exact ⟨⟨tp,trivial⟩,rfl⟩
    ·refine ⟨⟨tp,gp⟩,?_⟩
     simp only [Bool.not_true,cond_false]
     rcases gvM t with ⟨d,u⟩ | e <;> rfl
   rw [if_neg c5,decide_eq_false c5]
   have J2:a3b c c (decide (c=116) || decide (c=109)) (pos s r) (exB a b w)∧a1t c c (decide (c=116) || decide (c=109)) (pos s r) (exB a b w)=toC s (if c=116∨c=109 then (match gvM r with
   | .inl (d,t)=>.inl ((a,b,w,[c],d,0,0,[],[],false),t)
   | .inr e=>.inr e)
  else if c=115 then rpM a b w r
  else .inr 240):=by
    unfold a3b a1t
    by_cases c6:c=116∨c=109
    ·rw [if_pos c6,show (decide (c=116) || decide (c=109))=true by rcases c6 with h | h <;> simp [h]]
     obtain ⟨gp,gf⟩:=b91 hr hs
     rw [gf]
     refine ⟨gp,?_⟩
     rcases gvM r with ⟨d,u⟩ | e <;> rfl
    have c61:¬ c=116:=fun h=>c6 (.inl h)
    have c62:¬ c=109:=fun h=>c6 (.inr h)
    rw [if_neg c6,show (decide (c=116) || decide (c=109))=false by simp [c61,c62]]
    by_cases c7:c=115
    ·rw [if_pos c7,decide_eq_true c7]
     obtain ⟨gp,gf⟩:=b7x hr hs a b w
     rw [gf]
     refine ⟨gp,?_⟩
     rcases rpM a b w r with ⟨d,u⟩ | e <;> rfl
    rw [if_neg c7,decide_eq_false c7]
    exact ⟨trivial,rfl⟩
   by_cases c6:c=116
   ·rw [decide_eq_true c6] at J2 ⊢
    exact ⟨J2.1,(idE _).trans J2.2⟩
   ·rw [decide_eq_false c6,Bool.false_or] at J2
    rw [decide_eq_false c6]
    exact ⟨J2.1,(idE _).trans J2.2⟩
  by_cases c4:c=62
  ·rw [decide_eq_true c4] at J3 ⊢
   exact ⟨J3.1,(idE _).trans J3.2⟩
  ·rw [decide_eq_false c4,Bool.false_or] at J3
   rw [decide_eq_false c4]
   exact ⟨J3.1,(idE _).trans J3.2⟩
 unfold b14 a5c
 simp only [nf,hw,List.headD_cons]
 by_cases c1:c=100
 ·subst c1
  exact ⟨⟨np,J4.1⟩,(idE _).trans J4.2⟩
 ·have e:decide (c=100)=false:=decide_eq_false c1
  rw [e,Bool.false_or] at J4
  refine ⟨⟨np,?_⟩,?_⟩
  ·exact brn (fun h=>absurd h c1) (fun _=>J4.1)
  ·refine Eq.trans ?_ J4.2
   by_cases c2:c=100
   ·exact absurd c2 c1
   ·rw [d6W (by exact decide_eq_false c2)]
    exact idE _
end
end Go.VE
namespace Go.VE
def b97 (a:Adr):Adr:=if a.2.2.2.2.2=true then a else (46,0,0,[],0,true)
def spM (l:LI):Rd (Bool×Adr×Adr×Bool):=match tk 37 l with
 | (true,r)=>.inl ((true,p9,p9,true),r)
 | (false,_)=>match adM l with
  | .inr e=>.inr e
  | .inl (a,r)=>match tk 44 (bk r) with
   | (true,t)=>(match adM (bk t) with
    | .inr e=>.inr e
    | .inl (b,u)=>.inl ((true,b97 a,b97 b,false),u))
   | (false,_)=>.inl ((a.2.2.2.2.2,a,p9,false),r)
def bhM (g:Bool) (a b:Adr) (w:Bool) (l:LI):Rd ExD:=if l=[] then (if g=true then .inl (exB a b w,[]) else .inr 240) else cmM a b w l
def enM:Rd ExD→ExD⊕Int
 | .inr e=>.inr e
 | .inl (x,t)=>if bk t=[] then .inl x else .inr 240
def a0Z (s:LI):ExD⊕Int:=match spM (bk s) with
 | .inr e=>.inr e
 | .inl ((g,a,b,w),r)=>enM (bhM g a b w (bk r))
theorem d13 (a:Adr):a8y a=b97 a:=by
 obtain ⟨a1,a2,a3,a4,a5,g⟩:=a
 cases g <;> rfl
section
variable {s l:LI}
theorem c2T {l:LI} {p:Bool×Adr×Adr×Bool} {r:LI} (h:spM l=.inl (p,r)):r <:+ l:=by
 unfold spM at h
 have ht:=Q8 37 l
 rcases hk:tk 37 l with ⟨ok,t⟩
 rw [hk] at h ht
 cases ok
 ·dsimp only at h
  rcases ha:adM l with ⟨a,t2⟩ | e
  ·rw [ha] at h
   dsimp only at h
   have h2:=a0H _ ha
   have h3:=(Q8 44 (bk t2)).trans ((D2 t2).trans h2)
   rcases hk2:tk 44 (bk t2) with ⟨ok2,t3⟩
   rw [hk2] at h h3
   cases ok2
   ·cases h; exact h2
   ·dsimp only at h
    rcases hb:adM (bk t3) with ⟨b,u⟩ | e
    ·rw [hb] at h; cases h
     exact (a0H _ hb).trans ((D2 t3).trans h3)
    ·rw [hb] at h; cases h
  ·rw [ha] at h; cases h
 ·cases h; exact ht
theorem e39 (h:l <:+ s) (hs:s.length≤lim):b18 (pos s l) exZ∧a5h (pos s l) exZ=(match spM l with
  | .inl ((g,a,b,w),r)=>.inl (g,pos s r,exB a b w)
  | .inr e=>.inr e):=by
 obtain ⟨tp,tf⟩:=a0T h hs 37
 unfold b18 a5h spM
 simp only [tf]
 rcases hk:tk 37 l with ⟨ok,t⟩
 have hkl:ok=false→t=l:=by
  intro ho
  cases l with
  | nil=>cases hk; rfl
  | cons c r=>
   rw [L4] at hk
   split at hk
   ·cases hk; cases ho
   ·cases hk; rfl
 cases ok
 ·obtain rfl:=hkl rfl
  obtain ⟨ap,af⟩:=a7E h hs
  simp only [cond_false,af]
  rcases ha:adM t with ⟨a,r⟩ | e
  ·have hr:=(a0H _ ha).trans h
   obtain ⟨bp,bf⟩:=Y0 hr
   have hb:=(D2 r).trans hr
   obtain ⟨tp2,tf2⟩:=a0T hb hs 44
   simp only [toS,Sum.elim_inl,bf,tf2,d13]
   rcases hk2:tk 44 (bk r) with ⟨ok2,t3⟩
   have h3:=(Q8 44 (bk r)).trans hb
   rw [hk2] at h3
   cases ok2
   ·exact ⟨⟨tp,ap,bp,tp2,trivial⟩,rfl⟩
   ·obtain ⟨bp2,bf2⟩:=Y0 h3
    obtain ⟨ap2,af2⟩:=a7E ((D2 t3).trans h3) hs
    simp only [cond_true,bf2,af2]
    refine ⟨⟨tp,ap,bp,tp2,bp2,ap2⟩,?_⟩
    rcases adM (bk t3) with ⟨b,u⟩ | e <;> rfl
  ·exact ⟨⟨tp,ap,trivial⟩,rfl⟩
 ·exact ⟨⟨tp,trivial⟩,rfl⟩
end
theorem d1Z {a b:Adr} {w:Bool} {l:LI} {x:ExD} {t:LI} (h:cmM a b w l=.inl (x,t)):t <:+ l:=by
 cases l with
 | nil=>cases h
 | cons c r=>
  refine List.IsSuffix.trans ?_ (List.suffix_cons c r)
  rw [Y1] at h
  split at h
  ·split at h
   ·rename_i hc; cases h; exact (b9N hc).trans (b9p _ _)
   ·cases h
  ·split at h
   ·have:=Q8 117 r
    split at h
    ·cases h
    ·rename_i hk
     rw [hk] at this
     cases h; exact ((b9p _ _).trans (Q8 33 _)).trans this
   ·split at h
    ·split at h
     ·rename_i hc; cases h; exact (b9N hc).trans (Q8 _ _)
     ·cases h
    ·split at h
     ·cases h; exact List.drop_suffix _ _
     ·split at h
      ·have:=Q8 111 r
       split at h
       ·cases h
       ·rename_i hk
        rw [hk] at this
        split at h
        ·rename_i hg; cases h; exact (b94 hg).trans this
        ·cases h
      ·split at h
       ·split at h
        ·rename_i hg; cases h; exact b94 hg
        ·cases h
       ·split at h
        ·unfold rpM at h
         have:=Q8 47 r
         split at h
         ·cases h
         ·rename_i hk
          rw [hk] at this
          split at h
          ·cases h
          ·cases h
          ·rename_i hp
           have h2:=(a55 hp).trans this
           split at h
           ·cases h
           ·rename_i hp2; cases h; exact (Q8 _ _).trans ((a55 hp2).trans h2)
           ·rename_i hp2; cases h; exact (a55 hp2).trans h2
        ·cases h
theorem c4E (s:LI) (hs:s.length≤lim):c18 s exZ 0∧a65 s exZ 0=(match a0Z s with | .inl x=>.inl (x,0,x,0) | .inr e=>.inr e):=by
 have h0:((s,(0:Int)):LI×Int)=pos s s:=by unfold pos; rw [Int.sub_self]
 have hss:=List.suffix_refl s
 obtain ⟨bp,bf⟩:=Y0 hss
 have hb:=D2 s
 obtain ⟨sp,sf⟩:=e39 hb hs
 unfold c18 a65 a0Z
 simp only [h0,bf,sf]
 rcases hsp:spM (bk s) with ⟨⟨g,a,b,w⟩,r⟩ | e
 ·have hr:=(c2T hsp).trans hb
  obtain ⟨bp2,bf2⟩:=Y0 hr
  have hr2:=(D2 r).trans hr
  simp only [Sum.elim_inl,bf2,b9S hr2]
  unfold bhM
  cases hl:bk r with
  | nil=>
   rw [hl] at hr2
   obtain ⟨ep,ef⟩:=d4O hr2
   rw [if_pos rfl,show (!decide (([]:LI)=[]))=false from rfl]
   simp only [cond_false,ef]
   rw [if_pos (show bk ([]:LI)=[] from rfl)]
   cases g
   ·exact ⟨⟨bp,sp,bp2,trivial⟩,rfl⟩
   ·exact ⟨⟨bp,sp,bp2,ep⟩,rfl⟩
  | cons c t=>
   rw [hl] at hr2
   obtain ⟨cp,cf⟩:=c28 c t hr2 hs a b w
   rw [if_neg (by simp),show (!decide (c::t=[]))=true by simp]
   simp only [cond_true,cf]
   rcases hc:cmM a b w (c::t) with ⟨x,u⟩ | e
   ·have hu:=(d1Z hc).trans hr2
    obtain ⟨ep,ef⟩:=d4O hu
    simp only [toC,Sum.elim_inl,ef,enM]
    refine ⟨⟨bp,sp,bp2,cp,ep⟩,?_⟩
    by_cases hk:bk u=[]
    ·rw [if_pos hk,if_pos hk]; rfl
    ·rw [if_neg hk,if_neg hk]; rfl
   ·exact ⟨⟨bp,sp,bp2,cp,trivial⟩,rfl⟩
 ·exact ⟨⟨bp,sp,trivial⟩,rfl⟩
end Go.VE
namespace Go.VE
theorem b9M {l:LI} {e:Int} (h:cnM l=.inr e):e=240:=by
 unfold cnM at h
 repeat' split at h
 all_goals first | (cases h; rfl) | cases h
theorem c0d {l:LI} {e:Int} (h:ptM l=.inr e):e=240:=by
 unfold ptM at h
 repeat' split at h
 all_goals first | (cases h; rfl) | cases h
theorem b93 {l:LI} {e:Int} (h:gvM l=.inr e):e=230∨e=240:=by
 unfold gvM at h
 split at h
 ·rename_i e' ha; cases h; exact .inl (Z9 _ ha)
 ·split at h
  ·cases h
  ·cases h; exact .inr rfl
theorem d4v {a b:Adr} {w:Bool} {l:LI} {e:Int} (h:rpM a b w l=.inr e):e=240:=by
 unfold rpM at h
 split at h
 ·cases h; rfl
 ·split at h
  ·rename_i hp; cases h; exact c0d hp
  ·cases h; rfl
  ·split at h
   ·rename_i hp; cases h; exact c0d hp
   ·cases h
   ·cases h
theorem d1Y {a b:Adr} {w:Bool} {l:LI} {e:Int} (h:cmM a b w l=.inr e):e=230∨e=240:=by
 cases l with
 | nil=>cases h; exact .inr rfl
 | cons c r=>
  rw [Y1] at h
  split at h
  ·split at h
   ·cases h
   ·rename_i hc; cases h; exact .inr (b9M hc)
  ·split at h
   ·split at h
    ·cases h; exact .inr rfl
    ·cases h
   ·split at h
    ·split at h
     ·cases h
     ·rename_i hc; cases h; exact .inr (b9M hc)
    ·split at h
     ·cases h
     ·split at h
      ·split at h
       ·cases h; exact .inr rfl
       ·split at h
        ·cases h
        ·rename_i hg; cases h; exact b93 hg
      ·split at h
       ·split at h
        ·cases h
        ·rename_i hg; cases h; exact b93 hg
       ·split at h
        ·exact .inr (d4v h)
        ·cases h; exact .inr rfl
theorem b28 {s:LI} {e:Int} (h:a0Z s=.inr e):e=230∨e=240:=by
 unfold a0Z at h
 split at h
 ·rename_i e' hsp
  cases h
  unfold spM at hsp
  split at hsp
  ·cases hsp
  ·split at hsp
   ·rename_i ha; cases hsp; exact .inl (Z9 _ ha)
   ·split at hsp
    ·split at hsp
     ·rename_i ha; cases hsp; exact .inl (Z9 _ ha)
     ·cases hsp
    ·cases hsp
 ·unfold enM at h
  split at h
  ·rename_i hb
   cases h
   unfold bhM at hb
   split at hb
   ·split at hb
    ·cases hb
    ·cases hb; exact .inr rfl
   ·exact d1Y hb
  ·split at h
   ·cases h
   ·cases h; exact .inr rfl
def toB:ExD⊕Int→ExD×Int
 | .inl x=>(x,0)
 | .inr e=>(exZ,e)
theorem b29 (s:LI) (hs:s.length≤lim):a5s s∧a0B s=toB (a0Z s):=by
 obtain ⟨p,f⟩:=c4E s hs
 unfold a5s a0B
 rw [f]
 rcases hp:a0Z s with x | e
 ·exact ⟨⟨p,fun n h=>by cases h⟩,rfl⟩
 ·refine ⟨⟨p,fun n h=>?_⟩,rfl⟩
  cases h
  unfold inR a0X a0G
  rcases b28 hp with rfl | rfl <;> decide
end Go.VE
namespace Go.VE
set_option maxRecDepth 20000
open Go Go.Proofs
def d6E:List (Nat×App):=[]
theorem d4i:GOk Tryz.prog (j8 d6E):=GOk.nil
def c2E (a0:LI) (b1:LI) (K:Res→List Cell→Prop):Prop:=
 K (.one (.v .bool (decide (a0=b1)))) []
def b7k:List AS:=[.v yB,.v yB]
def a0F (a0:LI) (b1:LI):Bool:=
 (decide (a0=b1))
theorem e3v (a0:LI) (b1:LI) (K:Res→List Cell→Prop) (_:wfA b7k (a0,b1,())) (h:∀ r:Bool,r=a0F a0 b1→K (.one (.v .bool r)) []):c2E a0 b1 K:=
 h _ rfl
def e6J (v:j3 b7k) (K:Res→List Cell→Prop):Prop:=∀ r:Bool,r=a0F v.1 v.2.1→K (.one (.v .bool r)) []
def b7l:App:=specW b7k e6J
theorem e3w (K:Res→List Cell→Prop):∀ v:j3 b7k,q7 tb (j8 d6E) [] Tryz.f95 [true] (mkA b7k v) K=c2E v.1 v.2.1 K
 | (a0,b1,())=>by kernel_rfl
theorem b4Q:g8 Tryz.prog 95 b7l:=
 g8.specW (l9 ((l8 o0 j9 d4i (g7.nil) (f:=95) (fn:=Tryz.f95) (by kernel_rfl) (by kernel_rfl) (by kernel_rfl) [true])) fun v K hw h=>(e3w K v).mpr (e3v v.1 v.2.1 K hw h))
def d5p:List (Nat×App):=[(95,b7l)]
theorem d2Y:GOk Tryz.prog (j8 d5p):=GOk.cons b4Q (GOk.nil)
def c0O (a0:tAd) (b1:tAd) (K:Res→List Cell→Prop):Prop:=
 bif (decide (a0.1=b1.1)) then
 bif (decide (a0.2.1=b1.2.1)) then
 bif (decide (a0.2.2.1=b1.2.2.1)) then
 ∀ (r1:Bool),r1=a0F a0.2.2.2.1 b1.2.2.2.1→(
 wB r1→(
 bif r1 then
 bif (decide (a0.2.2.2.2.1=b1.2.2.2.2.1)) then
 K (.one (.v .bool (a0.2.2.2.2.2 == b1.2.2.2.2.2))) []
 else
 K (.one (.v .bool false)) []
 else
 K (.one (.v .bool false)) []))
 else
 K (.one (.v .bool false)) []
 else
 K (.one (.v .bool false)) []
 else
 K (.one (.v .bool false)) []
def b54:List AS:=[.v tyA,.v tyA]
def a5i (a0:tAd) (b1:tAd):Bool:=
 bif (decide (a0.1=b1.1)) then
 bif (decide (a0.2.1=b1.2.1)) then
 bif (decide (a0.2.2.1=b1.2.2.1)) then
 let r1:Bool:=a0F a0.2.2.2.1 b1.2.2.2.1
 bif r1 then
 bif (decide (a0.2.2.2.2.1=b1.2.2.2.2.1)) then
 (a0.2.2.2.2.2 == b1.2.2.2.2.2)
 else
 false
 else
 false
 else
 false
 else
 false
 else
 false
theorem d8F (a0:tAd) (b1:tAd) (K:Res→List Cell→Prop) (_:wfA b54 (a0,b1,())) (h:∀ r:Bool,r=a5i a0 b1→K (.one (.v .bool r)) []):c0O a0 b1 K:=
 br0 h (fun _ h=>br0 h (fun _ h=>br0 h (fun _ h=>al (br0 h (fun _ h=>br0 h (fun _ h=>h _ rfl)
 fun _ h=>h _ rfl)
 fun _ h=>h _ rfl))
 fun _ h=>h _ rfl)
 fun _ h=>h _ rfl)
 fun _ h=>h _ rfl
def e5i (v:j3 b54) (K:Res→List Cell→Prop):Prop:=∀ r:Bool,r=a5i v.1 v.2.1→K (.one (.v .bool r)) []
def d5q:App:=specW b54 e5i
theorem d8G (K:Res→List Cell→Prop):∀ v:j3 b54,q7 tb (j8 d5p) [] Tryz.f94 [true] (mkA b54 v) K=c0O v.1 v.2.1 K
 | (a0,b1,())=>by kernel_rfl
theorem d8E:g8 Tryz.prog 94 d5q:=
 g8.specW (l9 ((l8 o0 j9 d2Y (g7.nil) (f:=94) (fn:=Tryz.f94) (by kernel_rfl) (by kernel_rfl) (by kernel_rfl) [true])) fun v K hw h=>(d8G K v).mpr (d8F v.1 v.2.1 K hw h))
def d6F:List (Nat×App):=[(94,d5q),(95,b7l)]
theorem d4j:GOk Tryz.prog (j8 d6F):=GOk.cons d8E (GOk.cons b4Q (GOk.nil))
def c2F (x0:tEx) (y1:tEx) (K:Res→List Cell→Prop):Prop:=
 ∀ (r1:Bool),r1=a5i x0.1 y1.1→(
 wB r1→(
 bif r1 then
 ∀ (r2:Bool),r2=a5i x0.2.1 y1.2.1→(
 wB r2→(
 bif r2 then
 bif (x0.2.2.1 == y1.2.2.1) then
 bif (decide (x0.2.2.2.1=y1.2.2.2.1)) then
 ∀ (r3:Bool),r3=a5i x0.2.2.2.2.1 y1.2.2.2.2.1→(
 wB r3→(
 bif r3 then
 bif (decide (x0.2.2.2.2.2.1=y1.2.2.2.2.2.1)) then
 bif (decide (x0.2.2.2.2.2.2.1=y1.2.2.2.2.2.2.1)) then
 ∀ (r4:Bool),r4=a0F x0.2.2.2.2.2.2.2.1 y1.2.2.2.2.2.2.2.1→(
 wB r4→(
 bif r4 then
 ∀ (r5:Bool),r5=a0F x0.2.2.2.2.2.2.2.2.1 y1.2.2.2.2.2.2.2.2.1→(
 wB r5→(
 bif r5 then
 K (.one (.v .bool (x0.2.2.2.2.2.2.2.2.2 == y1.2.2.2.2.2.2.2.2.2))) []
 else
 K (.one (.v .bool false)) []))
 else
 K (.one (.v .bool false)) []))
 else
 K (.one (.v .bool false)) []
 else
 K (.one (.v .bool false)) []
 else
 K (.one (.v .bool false)) []))
 else
 K (.one (.v .bool false)) []
 else
 K (.one (.v .bool false)) []
 else
 K (.one (.v .bool false)) []))
 else
 K (.one (.v .bool false)) []))
def b7m:List AS:=[.v tyX,.v tyX]
def a5t (x0:tEx) (y1:tEx):Bool:=
 let r1:Bool:=a5i x0.1 y1.1
 bif r1 then
 let r2:Bool:=a5i x0.2.1 y1.2.1
 bif r2 then
 bif (x0.2.2.1 == y1.2.2.1) then
 bif (decide (x0.2.2.2.1=y1.2.2.2.1)) then
 let r3:Bool:=a5i x0.2.2.2.2.1 y1.2.2.2.2.1
 bif r3 then
 bif (decide (x0.2.2.2.2.2.1=y1.2.2.2.2.2.1)) then
 bif (decide (x0.2.2.2.2.2.2.1=y1.2.2.2.2.2.2.1)) then
 let r4:Bool:=a0F x0.2.2.2.2.2.2.2.1 y1.2.2.2.2.2.2.2.1
 bif r4 then
 let r5:Bool:=a0F x0.2.2.2.2.2.2.2.2.1 y1.2.2.2.2.2.2.2.2.1
 bif r5 then
 (x0.2.2.2.2.2.2.2.2.2 == y1.2.2.2.2.2.2.2.2.2)
 else
 false
 else
 false
 else
 false
 else
 false
 else
 false
 else
 false
 else
 false
 else
 false
 else
 false
theorem e3y (x0:tEx) (y1:tEx) (K:Res→List Cell→Prop) (_:wfA b7m (x0,y1,())) (h:∀ r:Bool,r=a5t x0 y1→K (.one (.v .bool r)) []):c2F x0 y1 K:=
 al (br0 h (fun _ h=>al (br0 h (fun _ h=>br0 h (fun _ h=>br0 h (fun _ h=>al (br0 h (fun _ h=>br0 h (fun _ h=>br0 h (fun _ h=>al (br0 h (fun _ h=>al (br0 h (fun _ h=>h _ rfl)
 fun _ h=>h _ rfl))
 fun _ h=>h _ rfl))
 fun _ h=>h _ rfl)
 fun _ h=>h _ rfl)
 fun _ h=>h _ rfl))
 fun _ h=>h _ rfl)
 fun _ h=>h _ rfl)
 fun _ h=>h _ rfl))
 fun _ h=>h _ rfl)
def e6K (v:j3 b7m) (K:Res→List Cell→Prop):Prop:=∀ r:Bool,r=a5t v.1 v.2.1→K (.one (.v .bool r)) []
def d6G:App:=specW b7m e6K
theorem e3z (K:Res→List Cell→Prop):∀ v:j3 b7m,q7 tb (j8 d6F) [] Tryz.f51 [true] (mkA b7m v) K=c2F v.1 v.2.1 K
 | (x0,y1,())=>by kernel_rfl
theorem e3x:g8 Tryz.prog 51 d6G:=
 g8.specW (l9 ((l8 o0 j9 d4j (g7.nil) (f:=51) (fn:=Tryz.f51) (by kernel_rfl) (by kernel_rfl) (by kernel_rfl) [true])) fun v K hw h=>(e3z K v).mpr (e3y v.1 v.2.1 K hw h))
def d43:List (Nat×App):=[]
theorem d2H:GOk Tryz.prog (j8 d43):=GOk.nil
def c0k (a0:tAd) (b1:tAd) (K:Res→List Cell→Prop):Prop:=
 bif (decide (a0.1=b1.1)) then
 bif (decide (a0.2.1=b1.2.1)) then
 bif (decide (a0.2.2.1=b1.2.2.1)) then
 bif (decide (a0.2.2.2.1=b1.2.2.2.1)) then
 bif (decide (a0.2.2.2.2.1=b1.2.2.2.2.1)) then
 K (.one (.v .bool (a0.2.2.2.2.2 == b1.2.2.2.2.2))) []
 else
 K (.one (.v .bool false)) []
 else
 K (.one (.v .bool false)) []
 else
 K (.one (.v .bool false)) []
 else
 K (.one (.v .bool false)) []
 else
 K (.one (.v .bool false)) []
def b5M:List AS:=[.v tyA,.v tyA]
def a5a (a0:tAd) (b1:tAd):Bool:=
 bif (decide (a0.1=b1.1)) then
 bif (decide (a0.2.1=b1.2.1)) then
 bif (decide (a0.2.2.1=b1.2.2.1)) then
 bif (decide (a0.2.2.2.1=b1.2.2.2.1)) then
 bif (decide (a0.2.2.2.2.1=b1.2.2.2.2.1)) then
 (a0.2.2.2.2.2 == b1.2.2.2.2.2)
 else
 false
 else
 false
 else
 false
 else
 false
 else
 false
theorem d7p (a0:tAd) (b1:tAd) (K:Res→List Cell→Prop) (_:wfA b5M (a0,b1,())) (h:∀ r:Bool,r=a5a a0 b1→K (.one (.v .bool r)) []):c0k a0 b1 K:=
 br0 h (fun _ h=>br0 h (fun _ h=>br0 h (fun _ h=>br0 h (fun _ h=>br0 h (fun _ h=>h _ rfl)
 fun _ h=>h _ rfl)
 fun _ h=>h _ rfl)
 fun _ h=>h _ rfl)
 fun _ h=>h _ rfl)
 fun _ h=>h _ rfl
def e4X (v:j3 b5M) (K:Res→List Cell→Prop):Prop:=∀ r:Bool,r=a5a v.1 v.2.1→K (.one (.v .bool r)) []
def d44:App:=specW b5M e4X
theorem d7q (K:Res→List Cell→Prop):∀ v:j3 b5M,q7 tb (j8 d43) [] Tryz.f45 [true] (mkA b5M v) K=c0k v.1 v.2.1 K
 | (a0,b1,())=>by kernel_rfl
theorem d7o:g8 Tryz.prog 45 d44:=
 g8.specW (l9 ((l8 o0 j9 d2H (g7.nil) (f:=45) (fn:=Tryz.f45) (by kernel_rfl) (by kernel_rfl) (by kernel_rfl) [true])) fun v K hw h=>(d7q K v).mpr (d7p v.1 v.2.1 K hw h))
def d51:List (Nat×App):=[(45,d44)]
theorem d3B:GOk Tryz.prog (j8 d51):=GOk.cons d7o (GOk.nil)
def c1G (a0:tEx) (b1:tEx) (K:Res→List Cell→Prop):Prop:=
 ∀ (r1:Bool),r1=a5a a0.1 b1.1→(
 wB r1→(
 bif r1 then
 ∀ (r2:Bool),r2=a5a a0.2.1 b1.2.1→(
 wB r2→(
 bif r2 then
 bif (a0.2.2.1 == b1.2.2.1) then
 bif (decide (a0.2.2.2.1=b1.2.2.2.1)) then
 ∀ (r3:Bool),r3=a5a a0.2.2.2.2.1 b1.2.2.2.2.1→(
 wB r3→(
 bif r3 then
 bif (decide (a0.2.2.2.2.2.1=b1.2.2.2.2.2.1)) then
 bif (decide (a0.2.2.2.2.2.2.1=b1.2.2.2.2.2.2.1)) then
 bif (decide (a0.2.2.2.2.2.2.2.1=b1.2.2.2.2.2.2.2.1)) then
 bif (decide (a0.2.2.2.2.2.2.2.2.1=b1.2.2.2.2.2.2.2.2.1)) then
 K (.one (.v .bool (a0.2.2.2.2.2.2.2.2.2 == b1.2.2.2.2.2.2.2.2.2))) []
 else
 K (.one (.v .bool false)) []
 else
 K (.one (.v .bool false)) []
 else
 K (.one (.v .bool false)) []
 else
 K (.one (.v .bool false)) []
 else
 K (.one (.v .bool false)) []))
 else
 K (.one (.v .bool false)) []
 else
 K (.one (.v .bool false)) []
 else
 K (.one (.v .bool false)) []))
 else
 K (.one (.v .bool false)) []))
def b6G:List AS:=[.v tyX,.v tyX]
def b0I (a0:tEx) (b1:tEx):Bool:=
 let r1:Bool:=a5a a0.1 b1.1
 bif r1 then
 let r2:Bool:=a5a a0.2.1 b1.2.1
 bif r2 then
 bif (a0.2.2.1 == b1.2.2.1) then
 bif (decide (a0.2.2.2.1=b1.2.2.2.1)) then
 let r3:Bool:=a5a a0.2.2.2.2.1 b1.2.2.2.2.1
 bif r3 then
 bif (decide (a0.2.2.2.2.2.1=b1.2.2.2.2.2.1)) then
 bif (decide (a0.2.2.2.2.2.2.1=b1.2.2.2.2.2.2.1)) then
 bif (decide (a0.2.2.2.2.2.2.2.1=b1.2.2.2.2.2.2.2.1)) then
 bif (decide (a0.2.2.2.2.2.2.2.2.1=b1.2.2.2.2.2.2.2.2.1)) then
 (a0.2.2.2.2.2.2.2.2.2 == b1.2.2.2.2.2.2.2.2.2)
 else
 false
 else
 false
 else
 false
 else
 false
 else
 false
 else
 false
 else
 false
 else
 false
 else
 false
theorem e09 (a0:tEx) (b1:tEx) (K:Res→List Cell→Prop) (_:wfA b6G (a0,b1,())) (h:∀ r:Bool,r=b0I a0 b1→K (.one (.v .bool r)) []):c1G a0 b1 K:=
 al (br0 h (fun _ h=>al (br0 h (fun _ h=>br0 h (fun _ h=>br0 h (fun _ h=>al (br0 h (fun _ h=>br0 h (fun _ h=>br0 h (fun _ h=>br0 h (fun _ h=>br0 h (fun _ h=>h _ rfl)
 fun _ h=>h _ rfl)
 fun _ h=>h _ rfl)
 fun _ h=>h _ rfl)
 fun _ h=>h _ rfl)
 fun _ h=>h _ rfl))
 fun _ h=>h _ rfl)
 fun _ h=>h _ rfl)
 fun _ h=>h _ rfl))
 fun _ h=>h _ rfl)
def e5Z (v:j3 b6G) (K:Res→List Cell→Prop):Prop:=∀ r:Bool,r=b0I v.1 v.2.1→K (.one (.v .bool r)) []
def d52:App:=specW b6G e5Z
theorem e1a (K:Res→List Cell→Prop):∀ v:j3 b6G,q7 tb (j8 d51) [] Tryz.f14 [true] (mkA b6G v) K=c1G v.1 v.2.1 K
 | (a0,b1,())=>by kernel_rfl
theorem e08:g8 Tryz.prog 14 d52:=
 g8.specW (l9 ((l8 o0 j9 d3B (g7.nil) (f:=14) (fn:=Tryz.f14) (by kernel_rfl) (by kernel_rfl) (by kernel_rfl) [true])) fun v K hw h=>(e1a K v).mpr (e09 v.1 v.2.1 K hw h))
end Go.VE
namespace Go.VE
theorem d4A (a b:Adr):a5i a b=true↔a=b:=by
 obtain ⟨a1,a2,a3,a4,a5,a6⟩:=a
 obtain ⟨b1,b2,b3,b4,b5,b6⟩:=b
 simp [a5i,a0F,Prod.mk.injEq]
theorem b9r (x y:ExD):a5t x y=true↔x=y:=by
 obtain ⟨a1,a2,a3,a4,a5,a6,a7,a8,a9,a10⟩:=x
 obtain ⟨b1,b2,b3,b4,b5,b6,b7,b8,b9,b10⟩:=y
 simp [a5t,d4A,a0F,Prod.mk.injEq]
theorem d4z (a b:Adr):a5a a b=true↔a=b:=by
 obtain ⟨a1,a2,a3,a4,a5,a6⟩:=a
 obtain ⟨b1,b2,b3,b4,b5,b6⟩:=b
 simp [a5a,Prod.mk.injEq]
theorem e38 (x y:ExD):b0I x y=true↔x=y:=by
 obtain ⟨a1,a2,a3,a4,a5,a6,a7,a8,a9,a10⟩:=x
 obtain ⟨b1,b2,b3,b4,b5,b6,b7,b8,b9,b10⟩:=y
 simp [b0I,d4z,Prod.mk.injEq]
end Go.VE
namespace Go.VE
set_option maxRecDepth 20000
open Go Go.Proofs
def d53:List (Nat×App):=[]
theorem d3C:GOk Tryz.prog (j8 d53):=GOk.nil
def c1H (x0:Int) (y1:Int) (K:Res→List Cell→Prop):Prop:=
 K (.tup [.v (.int .u64) (IntKind.wrap .u64 ((IntKind.wrap .u64 ((IntKind.wrap .u64 ((Int.fdiv x0 (2 ^ (min (Int.toNat (32:Int)) (IntKind.bits .u64)))) * (Int.fdiv y1 (2 ^ (min (Int.toNat (32:Int)) (IntKind.bits .u64))))))+(Int.fdiv (IntKind.wrap .u64 ((IntKind.wrap .u64 ((Int.fdiv x0 (2 ^ (min (Int.toNat (32:Int)) (IntKind.bits .u64)))) * (E3 .and .u64 y1 (4294967295:Int))))+(Int.fdiv (IntKind.wrap .u64 ((E3 .and .u64 x0 (4294967295:Int)) * (E3 .and .u64 y1 (4294967295:Int)))) (2 ^ (min (Int.toNat (32:Int)) (IntKind.bits .u64)))))) (2 ^ (min (Int.toNat (32:Int)) (IntKind.bits .u64))))))+(Int.fdiv (IntKind.wrap .u64 ((E3 .and .u64 (IntKind.wrap .u64 ((IntKind.wrap .u64 ((Int.fdiv x0 (2 ^ (min (Int.toNat (32:Int)) (IntKind.bits .u64)))) * (E3 .and .u64 y1 (4294967295:Int))))+(Int.fdiv (IntKind.wrap .u64 ((E3 .and .u64 x0 (4294967295:Int)) * (E3 .and .u64 y1 (4294967295:Int)))) (2 ^ (min (Int.toNat (32:Int)) (IntKind.bits .u64)))))) (4294967295:Int))+(IntKind.wrap .u64 ((E3 .and .u64 x0 (4294967295:Int)) * (Int.fdiv y1 (2 ^ (min (Int.toNat (32:Int)) (IntKind.bits .u64)))))))) (2 ^ (min (Int.toNat (32:Int)) (IntKind.bits .u64)))))),.v (.int .u64) (IntKind.wrap .u64 (x0 * y1))]) []
def b6H:List AS:=[.v (.int .u64),.v (.int .u64)]
def b2v (x0:Int) (y1:Int):Int×Int:=
 ((IntKind.wrap .u64 ((IntKind.wrap .u64 ((IntKind.wrap .u64 ((Int.fdiv x0 (2 ^ (min (Int.toNat (32:Int)) (IntKind.bits .u64)))) * (Int.fdiv y1 (2 ^ (min (Int.toNat (32:Int)) (IntKind.bits .u64))))))+(Int.fdiv (IntKind.wrap .u64 ((IntKind.wrap .u64 ((Int.fdiv x0 (2 ^ (min (Int.toNat (32:Int)) (IntKind.bits .u64)))) * (E3 .and .u64 y1 (4294967295:Int))))+(Int.fdiv (IntKind.wrap .u64 ((E3 .and .u64 x0 (4294967295:Int)) * (E3 .and .u64 y1 (4294967295:Int)))) (2 ^ (min (Int.toNat (32:Int)) (IntKind.bits .u64)))))) (2 ^ (min (Int.toNat (32:Int)) (IntKind.bits .u64))))))+(Int.fdiv (IntKind.wrap .u64 ((E3 .and .u64 (IntKind.wrap .u64 ((IntKind.wrap .u64 ((Int.fdiv x0 (2 ^ (min (Int.toNat (32:Int)) (IntKind.bits .u64)))) * (E3 .and .u64 y1 (4294967295:Int))))+(Int.fdiv (IntKind.wrap .u64 ((E3 .and .u64 x0 (4294967295:Int)) * (E3 .and .u64 y1 (4294967295:Int)))) (2 ^ (min (Int.toNat (32:Int)) (IntKind.bits .u64)))))) (4294967295:Int))+(IntKind.wrap .u64 ((E3 .and .u64 x0 (4294967295:Int)) * (Int.fdiv y1 (2 ^ (min (Int.toNat (32:Int)) (IntKind.bits .u64)))))))) (2 ^ (min (Int.toNat (32:Int)) (IntKind.bits .u64)))))),(IntKind.wrap .u64 (x0 * y1)))
theorem e1c (x0:Int) (y1:Int) (K:Res→List Cell→Prop) (_:wfA b6H (x0,y1,())) (h:∀ r:Int×Int,r=b2v x0 y1→K (.tup [.v (.int .u64) r.1,.v (.int .u64) r.2]) []):c1H x0 y1 K:=
 h _ rfl
def e50 (v:j3 b6H) (K:Res→List Cell→Prop):Prop:=∀ r:Int×Int,r=b2v v.1 v.2.1→K (.tup [.v (.int .u64) r.1,.v (.int .u64) r.2]) []
def d54:App:=specW b6H e50
theorem e1d (K:Res→List Cell→Prop):∀ v:j3 b6H,q7 tb (j8 d53) [] Tryz.f142 [true,true] (mkA b6H v) K=c1H v.1 v.2.1 K
 | (x0,y1,())=>by kernel_rfl
theorem e1b:g8 Tryz.prog 142 d54:=
 g8.specW (l9 ((l8 o0 j9 d3C (g7.nil) (f:=142) (fn:=Tryz.f142) (by kernel_rfl) (by kernel_rfl) (by kernel_rfl) [true,true])) fun v K hw h=>(e1d K v).mpr (e1c v.1 v.2.1 K hw h))
theorem a9h {a:Int} (h0:0≤a) (h1:a<18446744073709551616):E3 .and .u64 a (4294967295:Int)=a % 4294967296:=by
 obtain ⟨n,rfl⟩:=Int.eq_ofNat_of_zero_le h0
 have hn:n<18446744073709551616:=by omega
 have e:(BitVec.ofInt 64 (n:Int) &&& BitVec.ofInt 64 4294967295).toNat=n % 4294967296:=by
  rw [BitVec.toNat_and]
  have e1:(BitVec.ofInt 64 (n:Int)).toNat=n:=by rw [BitVec.ofInt_natCast,BitVec.toNat_ofNat]; exact Nat.mod_eq_of_lt hn
  have e2:(BitVec.ofInt 64 4294967295).toNat=2 ^ 32 - 1:=by decide
  rw [e1,e2,Nat.and_two_pow_sub_one_eq_mod]
 show IntKind.wrap .u64 ((BitVec.ofInt 64 (n:Int) &&& BitVec.ofInt 64 4294967295).toNat:Int)=_
 rw [e,F9 (by omega) (by omega)]
 omega
theorem e6Y (a:Int):Int.fdiv a (2 ^ (min (Int.toNat (32:Int)) (IntKind.bits .u64)))=a / 4294967296:=by
 have e:(2 ^ (min (Int.toNat (32:Int)) (IntKind.bits .u64)):Int)=4294967296:=by decide
 rw [e,Int.fdiv_eq_ediv_of_nonneg _ (by omega)]
theorem c3h {a b:Int} (ha:0≤a) (ha':a<4294967296) (hb:0≤b) (hb':b<4294967296):b2v a b=(0,a * b):=by
 have hab:0≤a * b:=Int.mul_nonneg ha hb
 have hab':a * b≤4294967295 * 4294967295:=Int.le_trans (Int.mul_le_mul_of_nonneg_right (by omega) hb) (Int.mul_le_mul_of_nonneg_left (by omega) (by omega))
 unfold b2v
 simp only [e6Y]
 have e1:a / 4294967296=0:=by omega
 have e2:b / 4294967296=0:=by omega
 have e3:E3 .and .u64 a (4294967295:Int)=a:=by rw [a9h ha (by omega)]; omega
 have e4:E3 .and .u64 b (4294967295:Int)=b:=by rw [a9h hb (by omega)]; omega
 rw [e1,e2,e3,e4,F9 (n:=a * b) hab (by omega)]
 have e5:IntKind.wrap .u64 (0 * b)=0:=by rw [Int.zero_mul]; exact F9 (by omega) (by omega)
 have e6:IntKind.wrap .u64 (a * 0)=0:=by rw [Int.mul_zero]; exact F9 (by omega) (by omega)
 have e7:IntKind.wrap .u64 (0 * 0)=0:=by rw [Int.mul_zero]; exact F9 (by omega) (by omega)
 rw [e5,e6,e7]
 simp only [Int.zero_add,Int.add_zero]
 rw [F9 (n:=a * b / 4294967296) (by omega) (by omega),a9h (by omega) (by omega)]
 have e8:a * b / 4294967296 / 4294967296=0:=by omega
 have e9:a * b / 4294967296 % 4294967296 / 4294967296=0:=by omega
 rw [e8,F9 (n:=a * b / 4294967296 % 4294967296) (by omega) (by omega),F9 (n:=(0:Int)) (by omega) (by omega),e9,F9 (by omega) (by omega)]
 rfl
def d6j:List (Nat×App):=[(142,d54)]
theorem d3V:GOk Tryz.prog (j8 d6j):=GOk.cons e1b (GOk.nil)
def c2a (x0:Int) (y1:Int) (K:Res→List Cell→Prop):Prop:=
 ∀ (r1:Int×Int),r1=b2v x0 y1→(
 wfR (.tup [.v (.int .u64) r1.1,.v (.int .u64) r1.2])→(
 K (.tup [.v (.int .u64) r1.1,.v (.int .u64) r1.2]) []))
def b62:List AS:=[.v (.int .u64),.v (.int .u64)]
def c9H (x0:Int) (y1:Int):Int×Int:=
 let r1:Int×Int:=b2v x0 y1
 (r1.1,r1.2)
theorem e2n (x0:Int) (y1:Int) (K:Res→List Cell→Prop) (_:wfA b62 (x0,y1,())) (h:∀ r:Int×Int,r=c9H x0 y1→K (.tup [.v (.int .u64) r.1,.v (.int .u64) r.2]) []):c2a x0 y1 K:=
 al (h _ rfl)
def e6j (v:j3 b62) (K:Res→List Cell→Prop):Prop:=∀ r:Int×Int,r=c9H v.1 v.2.1→K (.tup [.v (.int .u64) r.1,.v (.int .u64) r.2]) []
def d6k:App:=specW b62 e6j
theorem e2o (K:Res→List Cell→Prop):∀ v:j3 b62,q7 tb (j8 d6j) [] Tryz.f92 [true,true] (mkA b62 v) K=c2a v.1 v.2.1 K
 | (x0,y1,())=>by kernel_rfl
theorem e2m:g8 Tryz.prog 92 d6k:=
 g8.specW (l9 ((l8 o0 j9 d3V (g7.nil) (f:=92) (fn:=Tryz.f92) (by kernel_rfl) (by kernel_rfl) (by kernel_rfl) [true,true])) fun v K hw h=>(e2o K v).mpr (e2n v.1 v.2.1 K hw h))
end Go.VE
namespace Go.VE
open Go Go.Proofs
def e5u (n:Int):Prop:=d1w n
def e5v (n:Int) (r:LI):Prop:=b9q n r
def e5w:App:=specW [.v yI] fun v K=>e5u v.1∧∀ r:LI,e5v v.1 r→K (.one (.fr 5 yU r)) []
theorem e5x:g8 Tryz.prog 93 e5w:=
 c4f j9 (t:=22) (ps:=#[3]) (fn:=Tryz.f93) rfl rfl (by kernel_rfl) (by kernel_rfl) (by kernel_rfl) (by kernel_rfl) (by kernel_rfl) rfl
end Go.VE
namespace Go.VE
set_option maxRecDepth 20000
open Go Go.Proofs
def b2F:List (Nat×App):=[(92,d6k),(93,e5w)]
theorem a66:GOk Tryz.prog (j8 b2F):=GOk.cons e2m (GOk.cons e5x (GOk.nil))
theorem b01:o8 (g6 Tryz.f49)=true:=by kernel_rfl
def U6:List LS:=[.v 7 yI,.v 8 yI,.o 9 77 5 yU,.v 10 yI]
def a67:List LS:=[.o 9 77 5 yU]
def b4x:DX:=⟨none,none,[(0,a67)]⟩
def b02 (k:Ex→St→Prop) (nb9:LI):Prop:=wfD a67 (nb9,())→k (.exit 0) (mkD 77 a67 (nb9,()))
def b4w (Y:Int→Int→LI→Int→Prop) (kx0:LI→Prop) (n7:Int) (chunkMax8:Int) (nb9:LI) (bp10:Int):Prop:=
 bif (decide (bp10<n7)) then
 (
 bif decide (0≤bp10∧bp10≤(List.length nb9:Int)) then
 bif decide (0≤(mn bp10 chunkMax8)∧(mn bp10 chunkMax8)≤(List.length nb9:Int)) then
 Y n7 chunkMax8 (ovr (Int.toNat bp10) (List.take (List.length (List.drop (Int.toNat bp10) nb9)) (List.take (Int.toNat (mn bp10 chunkMax8)) nb9)) nb9) (IntKind.wrap .i64 (bp10+(mn (List.length (List.take (Int.toNat (mn bp10 chunkMax8)) nb9):Int) (List.length (List.drop (Int.toNat bp10) nb9):Int))))
 else False
 else False)∧(
 bif decide (0≤(mn bp10 chunkMax8)∧(mn bp10 chunkMax8)≤(List.length nb9:Int)) then
 bif decide (0≤bp10∧bp10≤(List.length nb9:Int)) then
 Y n7 chunkMax8 (ovr (Int.toNat bp10) (List.take (List.length (List.drop (Int.toNat bp10) nb9)) (List.take (Int.toNat (mn bp10 chunkMax8)) nb9)) nb9) (IntKind.wrap .i64 (bp10+(mn (List.length (List.take (Int.toNat (mn bp10 chunkMax8)) nb9):Int) (List.length (List.drop (Int.toNat bp10) nb9):Int))))
 else False
 else False)∧True
 else
 kx0 nb9
def b00 (kx0:LI→Prop):Nat→Int→Int→LI→Int→Prop
 | 0,_,_,_,_=>False
 | n+1,n7,chunkMax8,nb9,bp10=>wfD U6 (n7,chunkMax8,nb9,bp10,())→b4w (b00 kx0 n) kx0 n7 chunkMax8 nb9 bp10
def c9V:Pce:=ex tb (j8 b2F) [] (at' (g6 Tryz.f49) [0,0,0,1,1,1,1,1,1,1,1,1,1,1]) [0,0,0,1,1,1,1,1,1,1,1,1,1,1]
def c9W (k:Ex→St→Prop) (n:Nat) (v:l6 U6):Prop:=b00 (b02 k) n v.1 v.2.1 v.2.2.1 v.2.2.2.1
theorem e2w (k:Ex→St→Prop) (Y:l6 U6→Prop):∀ v:l6 U6,c9V (mkD 77 U6 v) (lpK 77 U6 b4x k Y)=b4w (fun n7 chunkMax8 nb9 bp10=>Y (n7,chunkMax8,nb9,bp10,())) (b02 k) v.1 v.2.1 v.2.2.1 v.2.2.2.1
 | (n7,chunkMax8,nb9,bp10,())=>by kernel_rfl
theorem c91 (k:Ex→St→Prop):∀ (n:Nat) (v:l6 U6),lpD 77 U6 b4x c9V k n v=c9W k n v
 | 0,(n7,chunkMax8,nb9,bp10,())=>rfl
 | n+1,(n7,chunkMax8,nb9,bp10,())=>congrArg (fun Z:Prop=>wfD U6 (n7,chunkMax8,nb9,bp10,())→Z) ((e2w k _ (n7,chunkMax8,nb9,bp10,())).trans (congrArg (fun Y=>b4w Y (b02 k) n7 chunkMax8 nb9 bp10) (funext fun n7=>funext fun chunkMax8=>funext fun nb9=>funext fun bp10=>c91 k n (n7,chunkMax8,nb9,bp10,()))))
def c9O:Pce:=fun st k=>ckD 77 U6 st fun v=>wfD U6 v→∃ n,c9W k n v
theorem e2C:j5 Tryz.prog (at' (g6 Tryz.f49) [0,0,1,1,1,1,1,1,1,1,1,1,1]) c9O:=
 (j5.loop (l3 o0 j9 a66 (g7.nil) (at' (g6 Tryz.f49) [0,0,0,1,1,1,1,1,1,1,1,1,1,1]) [0,0,0,1,1,1,1,1,1,1,1,1,1,1] rfl (g9 b01 [0,0,0,1,1,1,1,1,1,1,1,1,1,1])) 77 U6 b4x).mono fun st k h=>l4 h fun v hv hw=>(hv hw).elim fun n hn=>⟨n,Eq.mpr (c91 k n v) hn⟩
def b85:q8:=([0,0,1,1,1,1,1,1,1,1,1,1,1],c9O)::[]
theorem c9S:g7 Tryz.prog (g6 Tryz.f49) b85:=g7.cons e2C (g7.nil)
def a2q:List LS:=[.v 0 yB,.v 7 yI,.v 8 yI]
def a2r:List LS:=[.o 4 37 5 yU]
def c2e:DX:=⟨none,some a2r,[]⟩
def d3Z (k:Ex→St→Prop) (x4:LI):Prop:=wfD a2r (x4,())→k .ret (mkD 77 a2r (x4,()))
def a8a (kr:LI→Prop) (b0:LI) (n7:Int) (chunkMax8:Int):Prop:=
 e5u n7∧(
 ∀ (r2:LI),e5v n7 r2→(
 wfR (.one (.fr 5 yU r2))→(
 bif decide (0≤n7∧n7≤n7∧n7≤(List.length r2:Int)) then
 (wfD U6 (n7,chunkMax8,(ovr 0 (List.take (List.length (List.take (Int.toNat n7) r2)) b0) (List.take (Int.toNat n7) r2)),(mn (List.length b0:Int) (List.length (List.take (Int.toNat n7) r2):Int)),())→∃ n,b00 (fun (nb9:LI)=>wfD a67 (nb9,())→(
 kr nb9)) n n7 chunkMax8 (ovr 0 (List.take (List.length (List.take (Int.toNat n7) r2)) b0) (List.take (Int.toNat n7) r2)) (mn (List.length b0:Int) (List.length (List.take (Int.toNat n7) r2):Int)))
 else False)))
def c9X (k:Ex→St→Prop) (v:l6 a2q):Prop:=a8a (d3Z k) v.1 v.2.1 v.2.2.1
theorem e2y (k:Ex→St→Prop):∀ v:l6 a2q,ex tb (j8 b2F) b85 (at' (g6 Tryz.f49) [1,1,1,1,1,1,1,1,1]) [1,1,1,1,1,1,1,1,1] (mkD 77 a2q v) (wk 77 c2e k)=c9X k v
 | (b0,n7,chunkMax8,())=>by kernel_rfl
def c9P:Pce:=fun st k=>ckD 77 a2q st fun v=>wfD a2q v→c9X k v
theorem e2D:j5 Tryz.prog (at' (g6 Tryz.f49) [1,1,1,1,1,1,1,1,1]) c9P:=
 (j5.wk (N:=77) (ds:=a2q) (dx:=c2e) (l3 o0 j9 a66 (c9S) (at' (g6 Tryz.f49) [1,1,1,1,1,1,1,1,1]) [1,1,1,1,1,1,1,1,1] rfl (g9 b01 [1,1,1,1,1,1,1,1,1]))).mono fun st k h=>l4 h fun v hv hw=>Eq.mpr (e2y k v) (hv hw)
def b86:q8:=([1,1,1,1,1,1,1,1,1],c9P)::b85
theorem c9T:g7 Tryz.prog (g6 Tryz.f49) b86:=g7.cons e2D (c9S)
def a5G:List LS:=[.v 0 yB,.v 6 (.int .u64)]
def a68:List LS:=[.o 4 37 5 yU]
def c2f:DX:=⟨none,some a68,[]⟩
def d30 (k:Ex→St→Prop) (x4:LI):Prop:=wfD a68 (x4,())→k .ret (mkD 77 a68 (x4,()))
def b4v (kr:LI→Prop) (b0:LI) (lo6:Int):Prop:=
 bif (decide ((List.length b0:Int)=(0:Int))) then
 kr ([]:LI)
 else
 bif (decide ((8192:Int)<(IntKind.wrap .i64 lo6))) then
 bif decide ((List.length b0:Int)≠0) then
 bif (decide ((IntKind.wrap .i64 ((IntKind.wrap .i64 (Int.tdiv (8192:Int) (List.length b0:Int))) * (List.length b0:Int)))=(0:Int))) then
 (wfD a2q (b0,(IntKind.wrap .i64 lo6),(List.length b0:Int),())→a8a (fun (x4:LI)=>wfD a2r (x4,())→(
 kr x4)) b0 (IntKind.wrap .i64 lo6) (List.length b0:Int))
 else
 (wfD a2q (b0,(IntKind.wrap .i64 lo6),(IntKind.wrap .i64 ((IntKind.wrap .i64 (Int.tdiv (8192:Int) (List.length b0:Int))) * (List.length b0:Int))),())→a8a (fun (x4:LI)=>wfD a2r (x4,())→(
 kr x4)) b0 (IntKind.wrap .i64 lo6) (IntKind.wrap .i64 ((IntKind.wrap .i64 (Int.tdiv (8192:Int) (List.length b0:Int))) * (List.length b0:Int))))
 else False
 else
 (wfD a2q (b0,(IntKind.wrap .i64 lo6),(IntKind.wrap .i64 lo6),())→a8a (fun (x4:LI)=>wfD a2r (x4,())→(
 kr x4)) b0 (IntKind.wrap .i64 lo6) (IntKind.wrap .i64 lo6))
def c9Y (k:Ex→St→Prop) (v:l6 a5G):Prop:=b4v (d30 k) v.1 v.2.1
theorem e2z (k:Ex→St→Prop):∀ v:l6 a5G,ex tb (j8 b2F) b86 (at' (g6 Tryz.f49) [1,1,1,1,1]) [1,1,1,1,1] (mkD 77 a5G v) (wk 77 c2f k)=c9Y k v
 | (b0,lo6,())=>by kernel_rfl
def c9Q:Pce:=fun st k=>ckD 77 a5G st fun v=>wfD a5G v→c9Y k v
theorem e2E:j5 Tryz.prog (at' (g6 Tryz.f49) [1,1,1,1,1]) c9Q:=
 (j5.wk (N:=77) (ds:=a5G) (dx:=c2f) (l3 o0 j9 a66 (c9T) (at' (g6 Tryz.f49) [1,1,1,1,1]) [1,1,1,1,1] rfl (g9 b01 [1,1,1,1,1]))).mono fun st k h=>l4 h fun v hv hw=>Eq.mpr (e2z k v) (hv hw)
def b87:q8:=([1,1,1,1,1],c9Q)::b86
theorem c9U:g7 Tryz.prog (g6 Tryz.f49) b87:=g7.cons e2E (c9T)
def a5H:List LS:=[.v 0 yB,.v 1 yI]
def a69:List LS:=[.o 4 37 5 yU]
def c2g:DX:=⟨none,some a69,[]⟩
def d31 (k:Ex→St→Prop) (x4:LI):Prop:=wfD a69 (x4,())→k .ret (mkD 77 a69 (x4,()))
def b88 (kr:LI→Prop) (b0:LI) (count1:Int):Prop:=
 ∀ (r1:Int×Int),r1=c9H (IntKind.wrap .u64 (List.length b0:Int)) (IntKind.wrap .u64 count1)→(
 wfR (.tup [.v (.int .u64) r1.1,.v (.int .u64) r1.2])→(
 bif (decide ((0:Int)<r1.1)) then
 False
 else
 bif (decide ((9223372036854775807:Int)<r1.2)) then
 False
 else
 (wfD a5G (b0,r1.2,())→b4v (fun (x4:LI)=>wfD a68 (x4,())→(
 kr x4)) b0 r1.2)))
def c9Z (k:Ex→St→Prop) (v:l6 a5H):Prop:=b88 (d31 k) v.1 v.2.1
theorem e2A (k:Ex→St→Prop):∀ v:l6 a5H,ex tb (j8 b2F) b87 (at' (g6 Tryz.f49) [1,1,1]) [1,1,1] (mkD 77 a5H v) (wk 77 c2g k)=c9Z k v
 | (b0,count1,())=>by kernel_rfl
def c9R:Pce:=fun st k=>ckD 77 a5H st fun v=>wfD a5H v→c9Z k v
theorem e2F:j5 Tryz.prog (at' (g6 Tryz.f49) [1,1,1]) c9R:=
 (j5.wk (N:=77) (ds:=a5H) (dx:=c2g) (l3 o0 j9 a66 (c9U) (at' (g6 Tryz.f49) [1,1,1]) [1,1,1] rfl (g9 b01 [1,1,1]))).mono fun st k h=>l4 h fun v hv hw=>Eq.mpr (e2A k v) (hv hw)
def c9N:q8:=([1,1,1],c9R)::b87
theorem e2u:g7 Tryz.prog (g6 Tryz.f49) c9N:=g7.cons e2F (c9U)
def b4y (b0:LI) (count1:Int) (K:Res→List Cell→Prop):Prop:=
 bif (decide (count1=(0:Int))) then
 K (.one (.fr 5 yU ([]:LI))) []
 else
 bif (decide (count1<(0:Int))) then
 False
 else
 (wfD a5H (b0,count1,())→b88 (fun (x4:LI)=>wfD a69 (x4,())→(
 K (.one (.fr 5 yU x4)) [])) b0 count1)
def b65:List AS:=[.v yB,.v yI]
def a8K (b:LI):Nat→LI
 | 0=>[]
 | n+1=>b++a8K b n
theorem Z2 (b:LI):∀ n,(a8K b n).length=n * b.length
 | 0=>by simp [a8K]
 | n+1=>by rw [a8K,List.length_append,Z2 b n,Nat.succ_mul]; omega
theorem b7w (b:LI):∀ (n i:Nat),i<n * b.length→(a8K b n)[i]?=b[i % b.length]?
 | 0,i,h=>by simp at h
 | n+1,i,h=>by
  rw [a8K]
  by_cases hi:i<b.length
  ·rw [List.getElem?_append_left hi,Nat.mod_eq_of_lt hi]
  ·rw [List.getElem?_append_right (by omega),b7w b n _ (by rw [Nat.succ_mul] at h; omega)]
   congr 1
   exact (Nat.mod_eq_sub_mod (by omega)).symm
def c2d (b:LI) (count:Int):Prop:=0≤count∧count<4294967296∧b.length<4294967296∧(b.length:Int) * count≤(lim:Int)
def b2E (b:LI) (count:Int):LI:=a8K b count.toNat
def d1O (b nb:LI) (n bp:Nat):Prop:=nb.length=n∧∀ i,i<bp→nb[i]?=b[i % b.length]?
theorem c3H {b nb:LI} {n bp c:Nat} (hb:0<b.length) (hi:d1O b nb n bp) (hd:b.length ∣ bp) (hc:c≤bp) (hn:bp+c≤n):d1O b (ovr bp (nb.take c) nb) n (bp+c):=by
 have hl:(nb.take c).length=c:=by rw [List.length_take,hi.1]; omega
 refine ⟨by rw [a0j]; exact hi.1,fun i hlt=>?_⟩
 rw [b27 _ _ _ _ (by rw [hi.1]; omega),hl]
 by_cases h:bp≤i
 ·rw [if_pos ⟨h,hlt⟩,List.getElem?_take,if_pos (by omega),hi.2 _ (by omega)]
  congr 1
  obtain ⟨q,rfl⟩:=hd
  have e:i=(i - b.length * q)+b.length * q:=by omega
  conv=>rhs; rw [e,Nat.add_mul_mod_self_left]
 ·rw [if_neg (by omega)]; exact hi.2 i (by omega)
theorem c90 (kx0:LI→Prop) (b:LI) (hb:0<b.length) (n cm:Nat) (hn:n≤lim) (hnd:b.length ∣ n) (hcm:0<cm) (hcd:b.length ∣ cm) (hk:∀ nb,d1O b nb n n→kx0 nb) :
  ∀ (m bp:Nat) (nb:LI),n<m+bp→0<bp→b.length ∣ bp→bp≤n→d1O b nb n bp→b00 kx0 m (n:Int) (cm:Int) nb (bp:Int)
 | 0,bp,nb,h,h2,h3,h4,h5=>by omega
 | m+1,bp,nb,h,h2,h3,h4,h5=>by
  intro _
  unfold b4w
  refine brn (fun hlt=>?_) (fun hge=>?_)
  ·have hlt:bp<n:=by omega
   have hmn:mn (bp:Int) (cm:Int)=((min bp cm:Nat):Int):=by
    unfold mn
    by_cases hc:(cm:Int)<bp
    ·simp only [hc,decide_true,cond_true]; omega
    ·simp only [hc,decide_false,cond_false]; omega
   have hmd:b.length ∣ min bp cm:=by
    rcases Nat.le_total bp cm with h | h
    ·rw [Nat.min_eq_left h]; exact h3
    ·rw [Nat.min_eq_right h]; exact hcd
   -- so much is copied
   have hcl:(List.take (Int.toNat (mn (bp:Int) (cm:Int))) nb).length=min bp cm:=by rw [hmn,Int.toNat_natCast,List.length_take,h5.1]; omega
   have hdl:(List.drop (Int.toNat (bp:Int)) nb).length=n - bp:=by rw [Int.toNat_natCast,List.length_drop,h5.1]
   have hc2:mn (List.length (List.take (Int.toNat (mn (bp:Int) (cm:Int))) nb):Int) (List.length (List.drop (Int.toNat (bp:Int)) nb):Int)=((min (min bp cm) (n - bp):Nat):Int):=by
    rw [hcl,hdl]
    unfold mn
    by_cases hc:((n - bp:Nat):Int)<((min bp cm:Nat):Int)
    ·simp only [hc,decide_true,cond_true]; omega
    ·simp only [hc,decide_false,cond_false]; omega
   have key:b00 kx0 m (n:Int) (cm:Int) (ovr (Int.toNat (bp:Int)) (List.take (List.length (List.drop (Int.toNat (bp:Int)) nb)) (List.take (Int.toNat (mn (bp:Int) (cm:Int))) nb)) nb) (IntKind.wrap .i64 ((bp:Int)+(mn (List.length (List.take (Int.toNat (mn (bp:Int) (cm:Int))) nb):Int) (List.length (List.drop (Int.toNat (bp:Int)) nb):Int)))):=by
    have hlim:n≤1099511627776:=hn
    rw [hc2,hdl,hmn,Int.toNat_natCast,Int.toNat_natCast,List.take_take,wrap_i64 (by omega) (by omega),show min (n - bp) (min bp cm)=min (min bp cm) (n - bp) from Nat.min_comm _ _]
    have hdvd:b.length ∣ min (min bp cm) (n - bp):=by
     rcases Nat.le_total (min bp cm) (n - bp) with h | h
     ·rw [Nat.min_eq_left h]; exact hmd
     ·rw [Nat.min_eq_right h]; exact Nat.dvd_sub hnd h3
    have hpos:0<min (min bp cm) (n - bp):=by omega
    have:=c90 kx0 b hb n cm hn hnd hcm hcd hk m (bp+min (min bp cm) (n - bp)) _ (by omega) (by omega) (Nat.dvd_add h3 hdvd) (by omega) (c3H hb h5 h3 (by omega) (by omega))
    simpa using this
   have a1:0≤(bp:Int)∧(bp:Int)≤(List.length nb:Int):=by rw [h5.1]; omega
   have a2:0≤mn (bp:Int) (cm:Int)∧mn (bp:Int) (cm:Int)≤(List.length nb:Int):=by rw [h5.1,hmn]; omega
   exact ⟨C1 a1 (C1 a2 key),C1 a2 (C1 a1 key),trivial⟩
  ·obtain rfl:bp=n:=by omega
   exact hk nb h5
theorem e2x (b:LI) (count:Int) (K:Res→List Cell→Prop) (hw:wfA b65 (b,count,())) (hp:c2d b count) (h:∀ r:LI,r=b2E b count→K (.one (.fr 5 yU r)) []):b4y b count K:=by
 obtain ⟨h0,h1,h2,h3⟩:=hp
 obtain ⟨c,rfl⟩:=Int.eq_ofNat_of_zero_le h0
 unfold b2E at h
 rw [Int.toNat_natCast] at h
 unfold b4y
 refine brn (fun hz=>h _ ?_) (fun hz=>brn (fun hn=>absurd hn (by omega)) (fun _ _=>?_))
 ·obtain rfl:c=0:=by omega
  rfl
 unfold b88
 intro r1 hr1 _
 have hmul:r1=(0,(b.length:Int) * (c:Int)):=by
  rw [hr1,F9 (by omega) (by omega),F9 (by omega) (by omega)]
  exact c3h (by omega) (by omega) (by omega) (by omega)
 have hlc:(b.length:Int) * (c:Int)=((c * b.length:Nat):Int):=by rw [Int.mul_comm]; simp
 have hlim:((c * b.length:Nat):Int)≤1099511627776:=by rw [← hlc]; exact h3
 rw [hmul,hlc]
 refine brn (fun hn=>absurd hn (by simp)) (fun _=>brn (fun hn=>absurd hn (by show ¬ (9223372036854775807:Int)<((c * b.length:Nat):Int); omega)) (fun _ _=>?_))
 show b4v _ b ((c * b.length:Nat):Int)
 unfold b4v
 refine brn (fun hz=>?_) (fun hz=>?_)
 ·intro _ _
  refine h _ ?_
  have hb:b=[]:=List.eq_nil_of_length_eq_zero (by omega)
  subst hb
  clear h hlc hlim hmul hr1 hw h3
  have:∀ n,a8K [] n=[]:=fun n=>List.eq_nil_of_length_eq_zero (by rw [Z2]; simp)
  exact (this c).symm
 have hb:0<b.length:=by omega
 have hge:b.length≤c * b.length:=Nat.le_mul_of_pos_left _ (by omega)
 rw [wrap_i64 (n:=((c * b.length:Nat):Int)) (by omega) (by omega)]
 have main:∀ (cm:Nat),0<cm→b.length ∣ cm→a8a (fun (x4:LI)=>wfD a2r (x4,())→wfD a68 (x4,())→wfD a69 (x4,())→K (.one (.fr 5 yU x4)) []) b ((c * b.length:Nat):Int) (cm:Int):=by
  intro cm hcm hcd
  unfold a8a
  refine ⟨⟨by omega,hlim⟩,fun r2 hr2 _=>C1 ?_ fun _=>?_⟩
  ·have:r2.length=c * b.length:=hr2
   rw [this]; omega
  have hr2:r2.length=c * b.length:=hr2
  have htk:List.take (Int.toNat ((c * b.length:Nat):Int)) r2=r2:=by rw [Int.toNat_natCast,← hr2,List.take_length]
  have hmn:mn (List.length b:Int) (List.length r2:Int)=(b.length:Int):=by
   unfold mn
   have:¬ ((r2.length:Int)<b.length):=by rw [hr2]; omega
   simp only [this,decide_false,cond_false]
  rw [htk,hmn]
  refine ⟨c * b.length+1,c90 _ b hb (c * b.length) cm (by show _≤1099511627776; omega) ⟨c,Nat.mul_comm _ _⟩ hcm hcd (fun nb hnb _ h1 h2 h3=>h nb ?_) _ _ _ (by omega) hb (Nat.dvd_refl _) hge ⟨?_,fun i hi=>?_⟩⟩
  ·refine List.ext_getElem? fun i=>?_
   by_cases hi:i<c * b.length
   ·rw [hnb.2 i hi,b7w b c i hi]
   ·rw [List.getElem?_eq_none (by rw [hnb.1]; omega),List.getElem?_eq_none (by rw [Z2]; omega)]
  ·rw [a0j,hr2]
  ·rw [b27 _ _ _ _ (by rw [hr2]; omega),List.take_of_length_le (by rw [hr2]; exact hge),if_pos (by omega),Nat.sub_zero,Nat.mod_eq_of_lt hi]
 refine brn (fun hbig=>C1 (by omega) ?_) (fun hsm _=>main (c * b.length) (by omega) ⟨c,Nat.mul_comm _ _⟩)
 have hq:Int.tdiv (8192:Int) (List.length b:Int)=((8192 / b.length:Nat):Int):=by
  rw [Int.tdiv_eq_ediv_of_nonneg (by omega)]; rfl
 have hq2:8192 / b.length≤8192:=Nat.div_le_self _ _
 have hq3:8192 / b.length * b.length≤8192:=Nat.div_mul_le_self _ _
 rw [hq]
 generalize 8192 / b.length=q at hq2 hq3 ⊢
 have hq4:(q:Int) * (b.length:Int)=((q * b.length:Nat):Int):=by simp
 rw [wrap_i64 (n:=(q:Int)) (by omega) (by omega),hq4]
 generalize hql:q * b.length=ql at hq3 ⊢
 rw [wrap_i64 (n:=(ql:Int)) (by omega) (by omega)]
 refine brn (fun hz _=>main b.length hb (Nat.dvd_refl _)) (fun hz _=>main ql (by omega) ⟨q,by rw [← hql]; exact Nat.mul_comm _ _⟩)
def e6q (v:j3 b65) (K:Res→List Cell→Prop):Prop:=c2d v.1 v.2.1∧∀ r:LI,r=b2E v.1 v.2.1→K (.one (.fr 5 yU r)) []
def d6o:App:=specW b65 e6q
theorem e2B (K:Res→List Cell→Prop):∀ v:j3 b65,q7 tb (j8 b2F) c9N Tryz.f49 [true] (mkA b65 v) K=b4y v.1 v.2.1 K
 | (b0,count1,())=>by kernel_rfl
theorem e2v:g8 Tryz.prog 49 d6o:=
 g8.specW (l9 ((l8 o0 j9 a66 (e2u) (f:=49) (fn:=Tryz.f49) (by kernel_rfl) (by kernel_rfl) b01 [true])) fun v K hw h=>(e2B K v).mpr (e2x v.1 v.2.1 K hw h.1 h.2))
end Go.VE
namespace Go.VE
open Go Go.Proofs
def a6V:List AS:=[.v yI]
def b0N (k:Nat) (n:Int):Prop:=0≤n∧n<10000000000∧n.toNat<10 ^ k∧0<k
def a5p (n:Int):LI:=dec n.toNat
theorem e56 (n:Int):¬ b0N 0 n:=fun h=>absurd h.2.2.2 (Nat.lt_irrefl 0)
def b8T (k:Nat) (v:j3 a6V) (K:Res→List Cell→Prop):Prop:=b0N k v.1∧∀ r:LI,r=a5p v.1→K (.one (.fr 5 yU r)) []
def b8U (k:Nat):App:=specW a6V (b8T k)
def c8U (k:Nat):List (Nat×App):=[(50,b8U k)]
theorem d3F (k:Nat) (h:g8 Tryz.prog 50 (b8U k)):GOk Tryz.prog (j8 (c8U k)):=GOk.cons h (GOk.nil)
def a82 (k:Nat) (n0:Int) (K:Res→List Cell→Prop):Prop:=
 bif (decide (n0<(10:Int))) then
 K (.one (.fr 5 yU ([(IntKind.wrap .u8 (IntKind.wrap .i64 ((48:Int)+n0)))]:LI))) []
 else
 b0N k (IntKind.wrap .i64 (Int.tdiv n0 (10:Int)))∧(
 ∀ (r1:LI),r1=a5p (IntKind.wrap .i64 (Int.tdiv n0 (10:Int)))→(
 wfR (.one (.fr 5 yU r1))→(
 bif decide (List.length r1+List.length ([(IntKind.wrap .u8 (IntKind.wrap .i64 ((48:Int)+(Int.tmod n0 (10:Int)))))]:LI)≤lim) then
 K (.one (.fr 5 yU (r1++([(IntKind.wrap .u8 (IntKind.wrap .i64 ((48:Int)+(Int.tmod n0 (10:Int)))))]:LI)))) []
 else False)))
theorem c8W (k:Nat) (n0:Int) (K:Res→List Cell→Prop):q7 tb (j8 (c8U k)) [] Tryz.f50 [true] (mkA a6V (n0,())) K=a82 k n0 K:=by kernel_rfl
theorem e1w (k:Nat) (K:Res→List Cell→Prop):∀ v:j3 a6V,q7 tb (j8 (c8U k)) [] Tryz.f50 [true] (mkA a6V v) K=a82 k v.1 K
 | (n0,())=>c8W k n0 K
theorem e1v (k:Nat) (n0:Int) (K:Res→List Cell→Prop) (hw:wfA a6V (n0,())) (hp:b0N (k+1) n0) (h:∀ r:LI,r=a5p n0→K (.one (.fr 5 yU r)) []):a82 k n0 K:=by
 obtain ⟨h0,h1,h2,_⟩:=hp
 unfold a82
 obtain ⟨m,rfl⟩:=Int.eq_ofNat_of_zero_le h0
 have h1:m<10000000000:=by omega
 have h3:m<10 ^ (k+1):=h2
 refine brn (fun hlt=>?_) (fun hge=>?_)
 ·rw [N1 (by rw [wrap_i64 (by omega) (by omega)]; omega) (by rw [wrap_i64 (by omega) (by omega)]; omega),wrap_i64 (by omega) (by omega)]
  exact h _ (by unfold a5p; rw [Int.toNat_natCast,a4r (by omega)])
 ·have q1:Int.tdiv (m:Int) 10=((m / 10:Nat):Int):=rfl
  have q2:Int.tmod (m:Int) 10=((m % 10:Nat):Int):=rfl
  have hk:0<k:=by
   cases k with
   | zero=>simp at h3; omega
   | succ k=>omega
  rw [q1,q2,wrap_i64 (by omega) (by omega)]
  refine ⟨⟨by omega,by omega,by rw [Int.toNat_natCast]; rw [Nat.pow_succ] at h3; omega,hk⟩,fun r hr _=>?_⟩
  subst r
  have hl:=a2U 10 (m / 10)
  unfold a5p dec
  rw [Int.toNat_natCast,wrap_i64 (n:=48+((m % 10:Nat):Int)) (by omega) (by omega),N1 (by omega) (by omega)]
  refine C1 (by simp only [List.length_cons,List.length_nil]; unfold lim; omega) (h _ ?_)
  unfold a5p
  rw [Int.toNat_natCast,a4q (by omega) h1]
  rfl
theorem c1O:∀ k,g8 Tryz.prog 50 (b8U k)
 | 0=>g8.none fun v K h=>e56 v.1 h.1
 | k+1=>g8.specW (l9 (l8 o0 j9 (d3F k (c1O k)) g7.nil (f:=50) (fn:=Tryz.f50) (by kernel_rfl) (by kernel_rfl) (by kernel_rfl) [true]) fun v K hw h=>(e1w k K v).mpr (e1v k v.1 K hw h.1 h.2))
def c8V (n0:Int):Prop:=∃ k,b0N k n0
def e57 (v:j3 a6V) (K:Res→List Cell→Prop):Prop:=c8V v.1∧∀ r:LI,r=a5p v.1→K (.one (.fr 5 yU r)) []
def d59:App:=specW a6V e57
theorem e1u:g8 Tryz.prog 50 d59:=fun ags K hs=>(g8.any (b:=b8T) c1O) ags K (by
 obtain ⟨v,rfl,hb⟩:=G5 _ ags _ hs
 exact a2x a6V v (fun v=>∃ k,b8T k v fun r o=>wfR r→K r o) (hb.1.elim fun k hk=>⟨k,hk,hb.2⟩))
end Go.VE
namespace Go.VE
set_option maxRecDepth 20000
open Go Go.Proofs
def a7a:List (Nat×App):=[(49,d6o),(50,d59),(48,d6h),(13,c9K),(51,d6G)]
theorem a0Q:GOk Tryz.prog (j8 a7a):=GOk.cons e2v (GOk.cons e1u (GOk.cons e2e (GOk.cons c9L (GOk.cons e3x (GOk.nil)))))
theorem a4e:o8 (g6 Tryz.f16)=true:=by kernel_rfl
def a4a:List LS:=[.b 1 8 [],.o 3 29 5 yU,.v 41 .bool,.c 8 tyX]
def a7c:List LS:=[.b 1 8 [],.o 3 29 5 yU,.c 8 tyX]
def c2i:DX:=⟨some a7c,none,[]⟩
def d32 (k:Ex→St→Prop) (out3:LI) (x1b:tEx):Prop:=wfD a7c (out3,x1b,())→k .nrm (mkD 123 a7c (out3,x1b,()))
def b4z (kn:LI→tEx→Prop) (out3:LI) (x41:Bool) (x1b:tEx):Prop:=
 bif x41 then
 c2d x1b.2.2.2.1 x1b.2.2.2.2.2.2.1∧(
 ∀ (r1:LI),r1=b2E x1b.2.2.2.1 x1b.2.2.2.2.2.2.1→(
 wfR (.one (.fr 5 yU r1))→(
 bif decide (List.length out3+List.length r1≤lim) then
 kn (out3++r1) x1b
 else False)))
 else
 bif decide (List.length out3+List.length x1b.2.2.2.1≤lim) then
 kn (out3++x1b.2.2.2.1) x1b
 else False
def d0g (k:Ex→St→Prop) (v:l6 a4a):Prop:=b4z (d32 k) v.1 v.2.1 v.2.2.1
theorem e2I (k:Ex→St→Prop):∀ v:l6 a4a,ex tb (j8 a7a) [] (at' (g6 Tryz.f16) [1,0,1,0,1,1,1,1]) [1,0,1,0,1,1,1,1] (mkD 123 a4a v) (wk 123 c2i k)=d0g k v
 | (out3,x41,x1b,())=>by kernel_rfl
def c93:Pce:=fun st k=>ckD 123 a4a st fun v=>wfD a4a v→d0g k v
theorem e2Q:j5 Tryz.prog (at' (g6 Tryz.f16) [1,0,1,0,1,1,1,1]) c93:=
 (j5.wk (N:=123) (ds:=a4a) (dx:=c2i) (l3 o0 j9 a0Q (g7.nil) (at' (g6 Tryz.f16) [1,0,1,0,1,1,1,1]) [1,0,1,0,1,1,1,1] rfl (g9 a4e [1,0,1,0,1,1,1,1]))).mono fun st k h=>l4 h fun v hv hw=>Eq.mpr (e2I k v) (hv hw)
def b89:q8:=([1,0,1,0,1,1,1,1],c93)::[]
theorem d0a:g7 Tryz.prog (g6 Tryz.f16) b89:=g7.cons e2Q (g7.nil)
def a4b:List LS:=[.b 1 8 [],.o 3 29 5 yU,.v 61 .str,.v 78 .bool,.c 8 tyX]
def a7d:List LS:=[.b 1 8 [],.o 3 29 5 yU,.c 8 tyX]
def c2j:DX:=⟨some a7d,none,[]⟩
def d33 (k:Ex→St→Prop) (out3:LI) (x1b:tEx):Prop:=wfD a7d (out3,x1b,())→k .nrm (mkD 123 a7d (out3,x1b,()))
def b4A (kn:LI→tEx→Prop) (out3:LI) (x61:LI) (x78:Bool) (x1b:tEx):Prop:=
 bif x78 then
 bif decide (List.length out3+List.length ([(32:Int)]:LI)≤lim) then
 a5r x1b.2.2.2.2.1∧(
 ∀ (r3:LI),r3=a1O x1b.2.2.2.2.1→(
 wfR (.one (.fr 5 yU r3))→(
 bif decide (List.length (out3++([(32:Int)]:LI))+List.length r3≤lim) then
 kn ((out3++([(32:Int)]:LI))++r3) x1b
 else False)))
 else False
 else
 bif (decide (x61=([115]:LI))) then
 bif decide (List.length out3+List.length ([(47:Int)]:LI)≤lim) then
 bif decide (List.length (out3++([(47:Int)]:LI))+List.length x1b.2.2.2.2.2.2.2.1≤lim) then
 bif decide (List.length ((out3++([(47:Int)]:LI))++x1b.2.2.2.2.2.2.2.1)+List.length ([(47:Int)]:LI)≤lim) then
 bif decide (List.length (((out3++([(47:Int)]:LI))++x1b.2.2.2.2.2.2.2.1)++([(47:Int)]:LI))+List.length x1b.2.2.2.2.2.2.2.2.1≤lim) then
 bif x1b.2.2.2.2.2.2.2.2.2 then
 bif decide (List.length ((((out3++([(47:Int)]:LI))++x1b.2.2.2.2.2.2.2.1)++([(47:Int)]:LI))++x1b.2.2.2.2.2.2.2.2.1)+List.length ([47,103]:LI)≤lim) then
 kn (((((out3++([(47:Int)]:LI))++x1b.2.2.2.2.2.2.2.1)++([(47:Int)]:LI))++x1b.2.2.2.2.2.2.2.2.1)++([47,103]:LI)) x1b
 else False
 else
 kn ((((out3++([(47:Int)]:LI))++x1b.2.2.2.2.2.2.2.1)++([(47:Int)]:LI))++x1b.2.2.2.2.2.2.2.2.1) x1b
 else False
 else False
 else False
 else False
 else
 kn out3 x1b
def d0h (k:Ex→St→Prop) (v:l6 a4b):Prop:=b4A (d33 k) v.1 v.2.1 v.2.2.1 v.2.2.2.1
theorem e2J (k:Ex→St→Prop):∀ v:l6 a4b,ex tb (j8 a7a) b89 (at' (g6 Tryz.f16) [1,1,1,0,1,0,1,1,1,1,1,1]) [1,1,1,0,1,0,1,1,1,1,1,1] (mkD 123 a4b v) (wk 123 c2j k)=d0h k v
 | (out3,x61,x78,x1b,())=>by kernel_rfl
def c94:Pce:=fun st k=>ckD 123 a4b st fun v=>wfD a4b v→d0h k v
theorem e2R:j5 Tryz.prog (at' (g6 Tryz.f16) [1,1,1,0,1,0,1,1,1,1,1,1]) c94:=
 (j5.wk (N:=123) (ds:=a4b) (dx:=c2j) (l3 o0 j9 a0Q (d0a) (at' (g6 Tryz.f16) [1,1,1,0,1,0,1,1,1,1,1,1]) [1,1,1,0,1,0,1,1,1,1,1,1] rfl (g9 a4e [1,1,1,0,1,0,1,1,1,1,1,1]))).mono fun st k h=>l4 h fun v hv hw=>Eq.mpr (e2J k v) (hv hw)
def b9a:q8:=([1,1,1,0,1,0,1,1,1,1,1,1],c94)::b89
theorem d0b:g7 Tryz.prog (g6 Tryz.f16) b9a:=g7.cons e2R (d0a)
def a1a:List LS:=[.b 1 8 [],.o 3 29 5 yU,.v 61 .str,.v 62 .bool,.c 8 tyX]
def a2s:List LS:=[.b 1 8 [],.o 3 29 5 yU,.c 8 tyX]
def c2k:DX:=⟨some a2s,none,[]⟩
def d34 (k:Ex→St→Prop) (out3:LI) (x1b:tEx):Prop:=wfD a2s (out3,x1b,())→k .nrm (mkD 123 a2s (out3,x1b,()))
def a8b (kn:LI→tEx→Prop) (out3:LI) (x61:LI) (x62:Bool) (x1b:tEx):Prop:=
 bif x62 then
 bif (decide ((0:Int)<x1b.2.2.2.2.2.2.1)) then
 bif decide (List.length out3+List.length ([(32:Int)]:LI)≤lim) then
 c8V x1b.2.2.2.2.2.2.1∧(
 ∀ (r2:LI),r2=a5p x1b.2.2.2.2.2.2.1→(
 wfR (.one (.fr 5 yU r2))→(
 bif decide (List.length (out3++([(32:Int)]:LI))+List.length r2≤lim) then
 kn ((out3++([(32:Int)]:LI))++r2) x1b
 else False)))
 else False
 else
 kn out3 x1b
 else
 bif (decide (x61=([116]:LI))) then
 (wfD a4b (out3,x61,(decide (x61=([116]:LI))),x1b,())→b4A (fun (out3:LI) (x1b:tEx)=>wfD a7d (out3,x1b,())→(
 kn out3 x1b)) out3 x61 (decide (x61=([116]:LI))) x1b)
 else
 (wfD a4b (out3,x61,(decide (x61=([109]:LI))),x1b,())→b4A (fun (out3:LI) (x1b:tEx)=>wfD a7d (out3,x1b,())→(
 kn out3 x1b)) out3 x61 (decide (x61=([109]:LI))) x1b)
def d0i (k:Ex→St→Prop) (v:l6 a1a):Prop:=a8b (d34 k) v.1 v.2.1 v.2.2.1 v.2.2.2.1
theorem e2K (k:Ex→St→Prop):∀ v:l6 a1a,ex tb (j8 a7a) b9a (at' (g6 Tryz.f16) [1,0,1,0,1,1,1,1,1,1]) [1,0,1,0,1,1,1,1,1,1] (mkD 123 a1a v) (wk 123 c2k k)=d0i k v
 | (out3,x61,x62,x1b,())=>by kernel_rfl
def c95:Pce:=fun st k=>ckD 123 a1a st fun v=>wfD a1a v→d0i k v
theorem e2S:j5 Tryz.prog (at' (g6 Tryz.f16) [1,0,1,0,1,1,1,1,1,1]) c95:=
 (j5.wk (N:=123) (ds:=a1a) (dx:=c2k) (l3 o0 j9 a0Q (d0b) (at' (g6 Tryz.f16) [1,0,1,0,1,1,1,1,1,1]) [1,0,1,0,1,1,1,1,1,1] rfl (g9 a4e [1,0,1,0,1,1,1,1,1,1]))).mono fun st k h=>l4 h fun v hv hw=>Eq.mpr (e2K k v) (hv hw)
def b9b:q8:=([1,0,1,0,1,1,1,1,1,1],c95)::b9a
theorem d0c:g7 Tryz.prog (g6 Tryz.f16) b9b:=g7.cons e2S (d0b)
def a1c:List LS:=[.b 1 8 [],.o 3 29 5 yU,.c 8 tyX]
def a2t:List LS:=[.v 2 yB]
def c2l:DX:=⟨none,some a2t,[]⟩
def d35 (k:Ex→St→Prop) (x2:LI):Prop:=wfD a2t (x2,())→k .ret (mkD 123 a2t (x2,()))
def a8c (kr:LI→Prop) (out3:LI) (x1b:tEx):Prop:=
 a5s out3∧(
 ∀ (r4:tEx×Int),r4=a0B out3→(
 wfR (.tup [.v tyX r4.1,.v yI r4.2])→(
 bif (!decide (r4.2=(0:Int))) then
 kr ([]:LI)
 else
 ∀ (r5:Bool),r5=a5t x1b r4.1→(
 wB r5→(
 bif (!r5) then
 kr ([]:LI)
 else
 kr out3)))))
def d0j (k:Ex→St→Prop) (v:l6 a1c):Prop:=a8c (d35 k) v.1 v.2.1
theorem e2L (k:Ex→St→Prop):∀ v:l6 a1c,ex tb (j8 a7a) b9b (at' (g6 Tryz.f16) [1,1,1,1,1,1,1]) [1,1,1,1,1,1,1] (mkD 123 a1c v) (wk 123 c2l k)=d0j k v
 | (out3,x1b,())=>by kernel_rfl
def c96:Pce:=fun st k=>ckD 123 a1c st fun v=>wfD a1c v→d0j k v
theorem e2T:j5 Tryz.prog (at' (g6 Tryz.f16) [1,1,1,1,1,1,1]) c96:=
 (j5.wk (N:=123) (ds:=a1c) (dx:=c2l) (l3 o0 j9 a0Q (d0c) (at' (g6 Tryz.f16) [1,1,1,1,1,1,1]) [1,1,1,1,1,1,1] rfl (g9 a4e [1,1,1,1,1,1,1]))).mono fun st k h=>l4 h fun v hv hw=>Eq.mpr (e2L k v) (hv hw)
def b9c:q8:=([1,1,1,1,1,1,1],c96)::b9b
theorem d0d:g7 Tryz.prog (g6 Tryz.f16) b9c:=g7.cons e2T (d0c)
def a4c:List LS:=[.b 1 8 [],.o 3 29 5 yU,.c 8 tyX]
def a7e:List LS:=[.v 2 yB]
def c2m:DX:=⟨none,some a7e,[]⟩
def d36 (k:Ex→St→Prop) (x2:LI):Prop:=wfD a7e (x2,())→k .ret (mkD 123 a7e (x2,()))
def b4B (kr:LI→Prop) (out3:LI) (x1b:tEx):Prop:=
 bif (decide (x1b.2.2.2.1=([100]:LI))) then
 (wfD a1a (out3,x1b.2.2.2.1,(decide (x1b.2.2.2.1=([100]:LI))),x1b,())→a8b (fun (out3:LI) (x1b:tEx)=>wfD a2s (out3,x1b,())→(
 (wfD a1c (out3,x1b,())→a8c (fun (x2:LI)=>wfD a2t (x2,())→(
 kr x2)) out3 x1b))) out3 x1b.2.2.2.1 (decide (x1b.2.2.2.1=([100]:LI))) x1b)
 else
 bif (decide (x1b.2.2.2.1=([121]:LI))) then
 (wfD a1a (out3,x1b.2.2.2.1,(decide (x1b.2.2.2.1=([121]:LI))),x1b,())→a8b (fun (out3:LI) (x1b:tEx)=>wfD a2s (out3,x1b,())→(
 (wfD a1c (out3,x1b,())→a8c (fun (x2:LI)=>wfD a2t (x2,())→(
 kr x2)) out3 x1b))) out3 x1b.2.2.2.1 (decide (x1b.2.2.2.1=([121]:LI))) x1b)
 else
 bif (decide (x1b.2.2.2.1=([106]:LI))) then
 (wfD a1a (out3,x1b.2.2.2.1,(decide (x1b.2.2.2.1=([106]:LI))),x1b,())→a8b (fun (out3:LI) (x1b:tEx)=>wfD a2s (out3,x1b,())→(
 (wfD a1c (out3,x1b,())→a8c (fun (x2:LI)=>wfD a2t (x2,())→(
 kr x2)) out3 x1b))) out3 x1b.2.2.2.1 (decide (x1b.2.2.2.1=([106]:LI))) x1b)
 else
 (wfD a1a (out3,x1b.2.2.2.1,(decide (x1b.2.2.2.1=([106,33]:LI))),x1b,())→a8b (fun (out3:LI) (x1b:tEx)=>wfD a2s (out3,x1b,())→(
 (wfD a1c (out3,x1b,())→a8c (fun (x2:LI)=>wfD a2t (x2,())→(
 kr x2)) out3 x1b))) out3 x1b.2.2.2.1 (decide (x1b.2.2.2.1=([106,33]:LI))) x1b)
def d0k (k:Ex→St→Prop) (v:l6 a4c):Prop:=b4B (d36 k) v.1 v.2.1
theorem e2M (k:Ex→St→Prop):∀ v:l6 a4c,ex tb (j8 a7a) b9c (at' (g6 Tryz.f16) [1,1,1,1,1,1]) [1,1,1,1,1,1] (mkD 123 a4c v) (wk 123 c2m k)=d0k k v
 | (out3,x1b,())=>by kernel_rfl
def c97:Pce:=fun st k=>ckD 123 a4c st fun v=>wfD a4c v→d0k k v
theorem e2U:j5 Tryz.prog (at' (g6 Tryz.f16) [1,1,1,1,1,1]) c97:=
 (j5.wk (N:=123) (ds:=a4c) (dx:=c2m) (l3 o0 j9 a0Q (d0d) (at' (g6 Tryz.f16) [1,1,1,1,1,1]) [1,1,1,1,1,1] rfl (g9 a4e [1,1,1,1,1,1]))).mono fun st k h=>l4 h fun v hv hw=>Eq.mpr (e2M k v) (hv hw)
def b9d:q8:=([1,1,1,1,1,1],c97)::b9c
theorem d0e:g7 Tryz.prog (g6 Tryz.f16) b9d:=g7.cons e2U (d0d)
def a4d:List LS:=[.b 1 8 [],.o 3 29 5 yU,.c 8 tyX]
def a7f:List LS:=[.v 2 yB]
def c2n:DX:=⟨none,some a7f,[]⟩
def d37 (k:Ex→St→Prop) (x2:LI):Prop:=wfD a7f (x2,())→k .ret (mkD 123 a7f (x2,()))
def b4C (kr:LI→Prop) (out3:LI) (x1b:tEx):Prop:=
 bif (!decide (x1b.2.2.2.2.2.1=(0:Int))) then
 bif decide (List.length out3+List.length ([(32:Int),x1b.2.2.2.2.2.1]:LI)≤lim) then
 (wfD a4c ((out3++([(32:Int),x1b.2.2.2.2.2.1]:LI)),x1b,())→b4B (fun (x2:LI)=>wfD a7e (x2,())→(
 kr x2)) (out3++([(32:Int),x1b.2.2.2.2.2.1]:LI)) x1b)
 else False
 else
 (wfD a4c (out3,x1b,())→b4B (fun (x2:LI)=>wfD a7e (x2,())→(
 kr x2)) out3 x1b)
def d0l (k:Ex→St→Prop) (v:l6 a4d):Prop:=b4C (d37 k) v.1 v.2.1
theorem e2N (k:Ex→St→Prop):∀ v:l6 a4d,ex tb (j8 a7a) b9d (at' (g6 Tryz.f16) [1,1,1,1,1]) [1,1,1,1,1] (mkD 123 a4d v) (wk 123 c2n k)=d0l k v
 | (out3,x1b,())=>by kernel_rfl
def c98:Pce:=fun st k=>ckD 123 a4d st fun v=>wfD a4d v→d0l k v
theorem e2V:j5 Tryz.prog (at' (g6 Tryz.f16) [1,1,1,1,1]) c98:=
 (j5.wk (N:=123) (ds:=a4d) (dx:=c2n) (l3 o0 j9 a0Q (d0e) (at' (g6 Tryz.f16) [1,1,1,1,1]) [1,1,1,1,1] rfl (g9 a4e [1,1,1,1,1]))).mono fun st k h=>l4 h fun v hv hw=>Eq.mpr (e2N k v) (hv hw)
def b9e:q8:=([1,1,1,1,1],c98)::b9d
theorem d0f:g7 Tryz.prog (g6 Tryz.f16) b9e:=g7.cons e2V (d0e)
def a2u:List LS:=[.b 1 8 [],.o 3 29 5 yU,.c 8 tyX]
def a4V:List LS:=[.v 2 yB]
def c2o:DX:=⟨none,some a4V,[]⟩
def d38 (k:Ex→St→Prop) (x2:LI):Prop:=wfD a4V (x2,())→k .ret (mkD 123 a4V (x2,()))
def b03 (kr:LI→Prop) (out3:LI) (x1b:tEx):Prop:=
 bif (decide (x1b.2.2.2.1=([62]:LI))) then
 (wfD a4a (out3,(decide (x1b.2.2.2.1=([62]:LI))),x1b,())→b4z (fun (out3:LI) (x1b:tEx)=>wfD a7c (out3,x1b,())→(
 (wfD a4d (out3,x1b,())→b4C (fun (x2:LI)=>wfD a7f (x2,())→(
 kr x2)) out3 x1b))) out3 (decide (x1b.2.2.2.1=([62]:LI))) x1b)
 else
 (wfD a4a (out3,(decide (x1b.2.2.2.1=([60]:LI))),x1b,())→b4z (fun (out3:LI) (x1b:tEx)=>wfD a7c (out3,x1b,())→(
 (wfD a4d (out3,x1b,())→b4C (fun (x2:LI)=>wfD a7f (x2,())→(
 kr x2)) out3 x1b))) out3 (decide (x1b.2.2.2.1=([60]:LI))) x1b)
def d0m (k:Ex→St→Prop) (v:l6 a2u):Prop:=b03 (d38 k) v.1 v.2.1
theorem e2O (k:Ex→St→Prop):∀ v:l6 a2u,ex tb (j8 a7a) b9e (at' (g6 Tryz.f16) [1,1,1,1]) [1,1,1,1] (mkD 123 a2u v) (wk 123 c2o k)=d0m k v
 | (out3,x1b,())=>by kernel_rfl
def c99:Pce:=fun st k=>ckD 123 a2u st fun v=>wfD a2u v→d0m k v
theorem e2W:j5 Tryz.prog (at' (g6 Tryz.f16) [1,1,1,1]) c99:=
 (j5.wk (N:=123) (ds:=a2u) (dx:=c2o) (l3 o0 j9 a0Q (d0f) (at' (g6 Tryz.f16) [1,1,1,1]) [1,1,1,1] rfl (g9 a4e [1,1,1,1]))).mono fun st k h=>l4 h fun v hv hw=>Eq.mpr (e2O k v) (hv hw)
def c92:q8:=([1,1,1,1],c99)::b9e
theorem e2G:g7 Tryz.prog (g6 Tryz.f16) c92:=g7.cons e2W (d0f)
def c2p (x0:tEx) (K:Res→List Cell→Prop):Prop:=
 bif (decide (x0.2.2.2.2.2.2.1<(0:Int))) then
 K (.one (.v yB ([]:LI))) []
 else
 bif (decide ((9999:Int)<x0.2.2.2.2.2.2.1)) then
 K (.one (.v yB ([]:LI))) []
 else
 bif x0.2.2.1 then
 bif decide (List.length ([]:LI)+List.length ([(37:Int)]:LI)≤lim) then
 (wfD a2u ((([]:LI)++([(37:Int)]:LI)),x0,())→b03 (fun (x2:LI)=>wfD a4V (x2,())→(
 K (.one (.v yB x2)) [])) (([]:LI)++([(37:Int)]:LI)) x0)
 else False
 else
 a5r x0.1∧(
 ∀ (r6:LI),r6=a1O x0.1→(
 wfR (.one (.fr 5 yU r6))→(
 bif decide (List.length ([]:LI)+List.length r6≤lim) then
 bif x0.2.1.2.2.2.2.2 then
 bif decide (List.length (([]:LI)++r6)+List.length ([(44:Int)]:LI)≤lim) then
 a5r x0.2.1∧(
 ∀ (r7:LI),r7=a1O x0.2.1→(
 wfR (.one (.fr 5 yU r7))→(
 bif decide (List.length ((([]:LI)++r6)++([(44:Int)]:LI))+List.length r7≤lim) then
 (wfD a2u ((((([]:LI)++r6)++([(44:Int)]:LI))++r7),x0,())→b03 (fun (x2:LI)=>wfD a4V (x2,())→(
 K (.one (.v yB x2)) [])) (((([]:LI)++r6)++([(44:Int)]:LI))++r7) x0)
 else False)))
 else False
 else
 (wfD a2u ((([]:LI)++r6),x0,())→b03 (fun (x2:LI)=>wfD a4V (x2,())→(
 K (.one (.v yB x2)) [])) (([]:LI)++r6) x0)
 else False)))
def b66:List AS:=[.v tyX]
def a32 (out3:LI) (x41:Bool) (x1b:tEx):Prop:=
 bif x41 then
 c2d x1b.2.2.2.1 x1b.2.2.2.2.2.2.1∧(
 let r1:LI:=b2E x1b.2.2.2.1 x1b.2.2.2.2.2.2.1
 (List.length out3+List.length r1≤lim))
 else
 (List.length out3+List.length x1b.2.2.2.1≤lim)
def a0C (out3:LI) (x41:Bool) (x1b:tEx):LI×tEx:=
 bif x41 then
 let r1:LI:=b2E x1b.2.2.2.1 x1b.2.2.2.2.2.2.1
 ((out3++r1),x1b)
 else
 ((out3++x1b.2.2.2.1),x1b)
theorem b2G (kn:LI→tEx→Prop) (out3:LI) (x41:Bool) (x1b:tEx) (hp:a32 out3 x41 x1b) (hn:∀ q:LI×tEx,q=a0C out3 x41 x1b→kn q.1 q.2):b4z kn out3 x41 x1b:=
 have h:=hn; br1 hp h (fun _ hp h=>an1 hp fun hp=>al (as0 hp (h _ rfl)))
 fun _ hp h=>as0 hp (h _ rfl)
def a34 (out3:LI) (x61:LI) (x78:Bool) (x1b:tEx):Prop:=
 bif x78 then
 (List.length out3+List.length ([(32:Int)]:LI)≤lim)∧(
 a5r x1b.2.2.2.2.1∧(
 let r3:LI:=a1O x1b.2.2.2.2.1
 (List.length (out3++([(32:Int)]:LI))+List.length r3≤lim)))
 else
 bif (decide (x61=([115]:LI))) then
 (List.length out3+List.length ([(47:Int)]:LI)≤lim)∧(
 (List.length (out3++([(47:Int)]:LI))+List.length x1b.2.2.2.2.2.2.2.1≤lim)∧(
 (List.length ((out3++([(47:Int)]:LI))++x1b.2.2.2.2.2.2.2.1)+List.length ([(47:Int)]:LI)≤lim)∧(
 (List.length (((out3++([(47:Int)]:LI))++x1b.2.2.2.2.2.2.2.1)++([(47:Int)]:LI))+List.length x1b.2.2.2.2.2.2.2.2.1≤lim)∧(
 bif x1b.2.2.2.2.2.2.2.2.2 then
 (List.length ((((out3++([(47:Int)]:LI))++x1b.2.2.2.2.2.2.2.1)++([(47:Int)]:LI))++x1b.2.2.2.2.2.2.2.2.1)+List.length ([47,103]:LI)≤lim)
 else
 True))))
 else
 True
def a33 (out3:LI) (x61:LI) (x78:Bool) (x1b:tEx):LI×tEx:=
 bif x78 then
 let r3:LI:=a1O x1b.2.2.2.2.1
 (((out3++([(32:Int)]:LI))++r3),x1b)
 else
 bif (decide (x61=([115]:LI))) then
 bif x1b.2.2.2.2.2.2.2.2.2 then
 ((((((out3++([(47:Int)]:LI))++x1b.2.2.2.2.2.2.2.1)++([(47:Int)]:LI))++x1b.2.2.2.2.2.2.2.2.1)++([47,103]:LI)),x1b)
 else
 (((((out3++([(47:Int)]:LI))++x1b.2.2.2.2.2.2.2.1)++([(47:Int)]:LI))++x1b.2.2.2.2.2.2.2.2.1),x1b)
 else
 (out3,x1b)
theorem b2H (kn:LI→tEx→Prop) (out3:LI) (x61:LI) (x78:Bool) (x1b:tEx) (hp:a34 out3 x61 x78 x1b) (hn:∀ q:LI×tEx,q=a33 out3 x61 x78 x1b→kn q.1 q.2):b4A kn out3 x61 x78 x1b:=
 have h:=hn; br1 hp h (fun _ hp h=>as1 hp fun hp=>an1 hp fun hp=>al (as0 hp (h _ rfl)))
 fun _ hp h=>br1 hp h (fun _ hp h=>as1 hp fun hp=>as1 hp fun hp=>as1 hp fun hp=>as1 hp fun hp=>br1 hp h (fun _ hp h=>as0 hp (h _ rfl))
 fun _ hp h=>h _ rfl)
 fun _ hp h=>h _ rfl
def a0D (out3:LI) (x61:LI) (x62:Bool) (x1b:tEx):Prop:=
 bif x62 then
 bif (decide ((0:Int)<x1b.2.2.2.2.2.2.1)) then
 (List.length out3+List.length ([(32:Int)]:LI)≤lim)∧(
 c8V x1b.2.2.2.2.2.2.1∧(
 let r2:LI:=a5p x1b.2.2.2.2.2.2.1
 (List.length (out3++([(32:Int)]:LI))+List.length r2≤lim)))
 else
 True
 else
 bif (decide (x61=([116]:LI))) then
 a34 out3 x61 (decide (x61=([116]:LI))) x1b
 else
 a34 out3 x61 (decide (x61=([109]:LI))) x1b
def L0 (out3:LI) (x61:LI) (x62:Bool) (x1b:tEx):LI×tEx:=
 bif x62 then
 bif (decide ((0:Int)<x1b.2.2.2.2.2.2.1)) then
 let r2:LI:=a5p x1b.2.2.2.2.2.2.1
 (((out3++([(32:Int)]:LI))++r2),x1b)
 else
 (out3,x1b)
 else
 bif (decide (x61=([116]:LI))) then
 let q1n:LI×tEx:=a33 out3 x61 (decide (x61=([116]:LI))) x1b
 let out3:LI:=q1n.1
 let x1b:tEx:=q1n.2
 (out3,x1b)
 else
 let q1n:LI×tEx:=a33 out3 x61 (decide (x61=([109]:LI))) x1b
 let out3:LI:=q1n.1
 let x1b:tEx:=q1n.2
 (out3,x1b)
theorem a4T (kn:LI→tEx→Prop) (out3:LI) (x61:LI) (x62:Bool) (x1b:tEx) (hp:a0D out3 x61 x62 x1b) (hn:∀ q:LI×tEx,q=L0 out3 x61 x62 x1b→kn q.1 q.2):a8b kn out3 x61 x62 x1b:=
 have h:=hn; br1 hp h (fun _ hp h=>br1 hp h (fun _ hp h=>as1 hp fun hp=>an1 hp fun hp=>al (as0 hp (h _ rfl)))
 fun _ hp h=>h _ rfl)
 fun _ hp h=>br1 hp h (fun _ hp h=>fun _=>b2H _ _ _ _ _ hp (al (h _ rfl)))
 fun _ hp h=>fun _=>b2H _ _ _ _ _ hp (al (h _ rfl))
def a1P (out3:LI) (x1b:tEx):Prop:=
 a5s out3
def a0E (out3:LI) (x1b:tEx):LI:=
 let r4:tEx×Int:=a0B out3
 bif (!decide (r4.2=(0:Int))) then
 (([]:LI))
 else
 let r5:Bool:=a5t x1b r4.1
 bif (!r5) then
 (([]:LI))
 else
 (out3)
theorem a4U (kr:LI→Prop) (out3:LI) (x1b:tEx) (hp:a1P out3 x1b) (hr:∀ q:LI,q=a0E out3 x1b→kr q):a8c kr out3 x1b:=
 have h:=hr; ⟨hp,al (br0 h (fun _ h=>h _ rfl)
 fun _ h=>al (br0 h (fun _ h=>h _ rfl)
 fun _ h=>h _ rfl))⟩
def a36 (out3:LI) (x1b:tEx):Prop:=
 bif (decide (x1b.2.2.2.1=([100]:LI))) then
 a0D out3 x1b.2.2.2.1 (decide (x1b.2.2.2.1=([100]:LI))) x1b∧(
 let q2n:LI×tEx:=L0 out3 x1b.2.2.2.1 (decide (x1b.2.2.2.1=([100]:LI))) x1b
 let out3:LI:=q2n.1
 let x1b:tEx:=q2n.2
 a1P out3 x1b)
 else
 bif (decide (x1b.2.2.2.1=([121]:LI))) then
 a0D out3 x1b.2.2.2.1 (decide (x1b.2.2.2.1=([121]:LI))) x1b∧(
 let q2n:LI×tEx:=L0 out3 x1b.2.2.2.1 (decide (x1b.2.2.2.1=([121]:LI))) x1b
 let out3:LI:=q2n.1
 let x1b:tEx:=q2n.2
 a1P out3 x1b)
 else
 bif (decide (x1b.2.2.2.1=([106]:LI))) then
 a0D out3 x1b.2.2.2.1 (decide (x1b.2.2.2.1=([106]:LI))) x1b∧(
 let q2n:LI×tEx:=L0 out3 x1b.2.2.2.1 (decide (x1b.2.2.2.1=([106]:LI))) x1b
 let out3:LI:=q2n.1
 let x1b:tEx:=q2n.2
 a1P out3 x1b)
 else
 a0D out3 x1b.2.2.2.1 (decide (x1b.2.2.2.1=([106,33]:LI))) x1b∧(
 let q2n:LI×tEx:=L0 out3 x1b.2.2.2.1 (decide (x1b.2.2.2.1=([106,33]:LI))) x1b
 let out3:LI:=q2n.1
 let x1b:tEx:=q2n.2
 a1P out3 x1b)
def a35 (out3:LI) (x1b:tEx):LI:=
 bif (decide (x1b.2.2.2.1=([100]:LI))) then
 let q2n:LI×tEx:=L0 out3 x1b.2.2.2.1 (decide (x1b.2.2.2.1=([100]:LI))) x1b
 let out3:LI:=q2n.1
 let x1b:tEx:=q2n.2
 let q3r:LI:=a0E out3 x1b
 let x2:LI:=q3r
 (x2)
 else
 bif (decide (x1b.2.2.2.1=([121]:LI))) then
 let q2n:LI×tEx:=L0 out3 x1b.2.2.2.1 (decide (x1b.2.2.2.1=([121]:LI))) x1b
 let out3:LI:=q2n.1
 let x1b:tEx:=q2n.2
 let q3r:LI:=a0E out3 x1b
 let x2:LI:=q3r
 (x2)
 else
 bif (decide (x1b.2.2.2.1=([106]:LI))) then
 let q2n:LI×tEx:=L0 out3 x1b.2.2.2.1 (decide (x1b.2.2.2.1=([106]:LI))) x1b
 let out3:LI:=q2n.1
 let x1b:tEx:=q2n.2
 let q3r:LI:=a0E out3 x1b
 let x2:LI:=q3r
 (x2)
 else
 let q2n:LI×tEx:=L0 out3 x1b.2.2.2.1 (decide (x1b.2.2.2.1=([106,33]:LI))) x1b
 let out3:LI:=q2n.1
 let x1b:tEx:=q2n.2
 let q3r:LI:=a0E out3 x1b
 let x2:LI:=q3r
 (x2)
theorem b2I (kr:LI→Prop) (out3:LI) (x1b:tEx) (hp:a36 out3 x1b) (hr:∀ q:LI,q=a35 out3 x1b→kr q):b4B kr out3 x1b:=
 have h:=hr; br1 hp h (fun _ hp h=>fun _=>a4T _ _ _ _ _ hp.1 (have hp:=hp.2; al (fun _=>a4U _ _ _ hp (al (h _ rfl)))))
 fun _ hp h=>br1 hp h (fun _ hp h=>fun _=>a4T _ _ _ _ _ hp.1 (have hp:=hp.2; al (fun _=>a4U _ _ _ hp (al (h _ rfl)))))
 fun _ hp h=>br1 hp h (fun _ hp h=>fun _=>a4T _ _ _ _ _ hp.1 (have hp:=hp.2; al (fun _=>a4U _ _ _ hp (al (h _ rfl)))))
 fun _ hp h=>fun _=>a4T _ _ _ _ _ hp.1 (have hp:=hp.2; al (fun _=>a4U _ _ _ hp (al (h _ rfl))))
def a39 (out3:LI) (x1b:tEx):Prop:=
 bif (!decide (x1b.2.2.2.2.2.1=(0:Int))) then
 (List.length out3+List.length ([(32:Int),x1b.2.2.2.2.2.1]:LI)≤lim)∧(
 a36 (out3++([(32:Int),x1b.2.2.2.2.2.1]:LI)) x1b)
 else
 a36 out3 x1b
def a38 (out3:LI) (x1b:tEx):LI:=
 bif (!decide (x1b.2.2.2.2.2.1=(0:Int))) then
 let q4r:LI:=a35 (out3++([(32:Int),x1b.2.2.2.2.2.1]:LI)) x1b
 let x2:LI:=q4r
 (x2)
 else
 let q4r:LI:=a35 out3 x1b
 let x2:LI:=q4r
 (x2)
theorem b2J (kr:LI→Prop) (out3:LI) (x1b:tEx) (hp:a39 out3 x1b) (hr:∀ q:LI,q=a38 out3 x1b→kr q):b4C kr out3 x1b:=
 have h:=hr; br1 hp h (fun _ hp h=>as1 hp fun hp=>fun _=>b2I _ _ _ hp (al (h _ rfl)))
 fun _ hp h=>fun _=>b2I _ _ _ hp (al (h _ rfl))
def a1R (out3:LI) (x1b:tEx):Prop:=
 bif (decide (x1b.2.2.2.1=([62]:LI))) then
 a32 out3 (decide (x1b.2.2.2.1=([62]:LI))) x1b∧(
 let q0n:LI×tEx:=a0C out3 (decide (x1b.2.2.2.1=([62]:LI))) x1b
 let out3:LI:=q0n.1
 let x1b:tEx:=q0n.2
 a39 out3 x1b)
 else
 a32 out3 (decide (x1b.2.2.2.1=([60]:LI))) x1b∧(
 let q0n:LI×tEx:=a0C out3 (decide (x1b.2.2.2.1=([60]:LI))) x1b
 let out3:LI:=q0n.1
 let x1b:tEx:=q0n.2
 a39 out3 x1b)
def a1Q (out3:LI) (x1b:tEx):LI:=
 bif (decide (x1b.2.2.2.1=([62]:LI))) then
 let q0n:LI×tEx:=a0C out3 (decide (x1b.2.2.2.1=([62]:LI))) x1b
 let out3:LI:=q0n.1
 let x1b:tEx:=q0n.2
 let q5r:LI:=a38 out3 x1b
 let x2:LI:=q5r
 (x2)
 else
 let q0n:LI×tEx:=a0C out3 (decide (x1b.2.2.2.1=([60]:LI))) x1b
 let out3:LI:=q0n.1
 let x1b:tEx:=q0n.2
 let q5r:LI:=a38 out3 x1b
 let x2:LI:=q5r
 (x2)
theorem a8d (kr:LI→Prop) (out3:LI) (x1b:tEx) (hp:a1R out3 x1b) (hr:∀ q:LI,q=a1Q out3 x1b→kr q):b03 kr out3 x1b:=
 have h:=hr; br1 hp h (fun _ hp h=>fun _=>b2G _ _ _ _ hp.1 (have hp:=hp.2; al (fun _=>b2J _ _ _ hp (al (h _ rfl)))))
 fun _ hp h=>fun _=>b2G _ _ _ _ hp.1 (have hp:=hp.2; al (fun _=>b2J _ _ _ hp (al (h _ rfl))))
def a7b (x0:tEx):Prop:=
 bif (decide (x0.2.2.2.2.2.2.1<(0:Int))) then
 True
 else
 bif (decide ((9999:Int)<x0.2.2.2.2.2.2.1)) then
 True
 else
 bif x0.2.2.1 then
 (List.length ([]:LI)+List.length ([(37:Int)]:LI)≤lim)∧(
 a1R (([]:LI)++([(37:Int)]:LI)) x0)
 else
 a5r x0.1∧(
 let r6:LI:=a1O x0.1
 (List.length ([]:LI)+List.length r6≤lim)∧(
 bif x0.2.1.2.2.2.2.2 then
 (List.length (([]:LI)++r6)+List.length ([(44:Int)]:LI)≤lim)∧(
 a5r x0.2.1∧(
 let r7:LI:=a1O x0.2.1
 (List.length ((([]:LI)++r6)++([(44:Int)]:LI))+List.length r7≤lim)∧(
 a1R (((([]:LI)++r6)++([(44:Int)]:LI))++r7) x0)))
 else
 a1R (([]:LI)++r6) x0))
def a31 (x0:tEx):LI:=
 bif (decide (x0.2.2.2.2.2.2.1<(0:Int))) then
 ([]:LI)
 else
 bif (decide ((9999:Int)<x0.2.2.2.2.2.2.1)) then
 ([]:LI)
 else
 bif x0.2.2.1 then
 let q6r:LI:=a1Q (([]:LI)++([(37:Int)]:LI)) x0
 let x2:LI:=q6r
 x2
 else
 let r6:LI:=a1O x0.1
 bif x0.2.1.2.2.2.2.2 then
 let r7:LI:=a1O x0.2.1
 let q6r:LI:=a1Q (((([]:LI)++r6)++([(44:Int)]:LI))++r7) x0
 let x2:LI:=q6r
 x2
 else
 let q6r:LI:=a1Q (([]:LI)++r6) x0
 let x2:LI:=q6r
 x2
theorem e2H (x0:tEx) (K:Res→List Cell→Prop) (_:wfA b66 (x0,())) (hp:a7b x0) (h:∀ r:LI,r=a31 x0→K (.one (.v yB r)) []):c2p x0 K:=
 br1 hp h (fun _ hp h=>h _ rfl)
 fun _ hp h=>br1 hp h (fun _ hp h=>h _ rfl)
 fun _ hp h=>br1 hp h (fun _ hp h=>as1 hp fun hp=>fun _=>a8d _ _ _ hp (al (h _ rfl)))
 fun _ hp h=>an1 hp fun hp=>al (as1 hp fun hp=>br1 hp h (fun _ hp h=>as1 hp fun hp=>an1 hp fun hp=>al (as1 hp fun hp=>fun _=>a8d _ _ _ hp (al (h _ rfl))))
 fun _ hp h=>fun _=>a8d _ _ _ hp (al (h _ rfl)))
def e6r (v:j3 b66) (K:Res→List Cell→Prop):Prop:=a7b v.1∧∀ r:LI,r=a31 v.1→K (.one (.v yB r)) []
def c2h:App:=specW b66 e6r
theorem e2P (K:Res→List Cell→Prop):∀ v:j3 b66,q7 tb (j8 a7a) c92 Tryz.f16 [false] (mkA b66 v) K=c2p v.1 K
 | (x0,())=>by kernel_rfl
theorem b9f:g8 Tryz.prog 16 c2h:=
 g8.specW (l9 ((l8 o0 j9 a0Q (e2G) (f:=16) (fn:=Tryz.f16) (by kernel_rfl) (by kernel_rfl) a4e [false])) fun v K hw h=>(e2P K v).mpr (e2H v.1 K hw h.1 h.2))
end Go.VE
namespace Go.VE
def rgS (x:ExD):LI:=if x.2.2.1=true then [37] else adS x.1++(if x.2.1.2.2.2.2.2=true then 44::adS x.2.1 else [])
def nmS (x:ExD):LI:=if x.2.2.2.1=[62]∨x.2.2.2.1=[60] then a8K x.2.2.2.1 x.2.2.2.2.2.2.1.toNat else x.2.2.2.1
def rS (x:ExD):LI:=if x.2.2.2.2.2.1=0 then [] else [32,x.2.2.2.2.2.1]
def tlS (x:ExD):LI:=if x.2.2.2.1=[100]∨x.2.2.2.1=[121]∨x.2.2.2.1=[106]∨x.2.2.2.1=[106,33] then (if 0<x.2.2.2.2.2.2.1 then 32::dec x.2.2.2.2.2.2.1.toNat else [])
 else if x.2.2.2.1=[116]∨x.2.2.2.1=[109] then 32::adS x.2.2.2.2.1
 else if x.2.2.2.1=[115] then 47::(x.2.2.2.2.2.2.2.1++(47::(x.2.2.2.2.2.2.2.2.1++(if x.2.2.2.2.2.2.2.2.2=true then [47,103] else []))))
 else []
def spS (x:ExD):LI:=rgS x++(nmS x++(rS x++tlS x))
def szX (x:ExD):Nat:=x.1.2.2.2.1.length+x.2.1.2.2.2.1.length+x.2.2.2.1.length+x.2.2.2.2.1.2.2.2.1.length+x.2.2.2.2.2.2.2.1.length+x.2.2.2.2.2.2.2.2.1.length
def chk (x:ExD) (out:LI):LI:=match a0Z out with
 | .inl y=>if a5t x y=true then out else []
 | .inr _=>[]
theorem e4B (out:LI) (ho:out.length≤lim) (x:ExD):a1P out x∧a0E out x=chk x out:=by
 obtain ⟨p,f⟩:=b29 out ho
 refine ⟨p,?_⟩
 unfold a0E chk
 simp only [f]
 cases hp:a0Z out with
 | inl y=>
  simp only [toB]
  cases a5t x y <;> rfl
 | inr e=>
  rcases b28 hp with rfl | rfl <;> rfl
section
variable (x:ExD) (h0:0≤x.2.2.2.2.2.2.1) (h9:x.2.2.2.2.2.2.1≤9999)
theorem d4u:(rgS x).length≤x.1.2.2.2.1.length+x.2.1.2.2.2.1.length+50:=by
 unfold rgS
 have h1:=V4 x.1
 have h2:=V4 x.2.1
 repeat' split
 all_goals ((try simp only [List.length_append,List.length_cons,List.length_nil]); omega)
theorem e7B:(rS x).length≤2:=by
 unfold rS
 split <;> simp
include h9 in
theorem d18:(nmS x).length≤x.2.2.2.1.length+9999:=by
 unfold nmS
 split
 ·rename_i h
  rw [Z2]
  have:x.2.2.2.1.length=1:=by rcases h with h | h <;> rw [h] <;> rfl
  rw [this]; omega
 ·omega
theorem d4I:(tlS x).length≤x.2.2.2.2.1.2.2.2.1.length+x.2.2.2.2.2.2.2.1.length+x.2.2.2.2.2.2.2.2.1.length+50:=by
 unfold tlS
 have h1:=V4 x.2.2.2.2.1
 have h2:=a0I x.2.2.2.2.2.2.1.toNat
 repeat' split
 all_goals ((try simp only [List.length_append,List.length_cons,List.length_nil]); omega)
theorem d4S (out:LI) (ho:out.length+szX x+100≤lim) (fl:Bool) (hfl:fl=(decide (x.2.2.2.1=[116]) || decide (x.2.2.2.1=[109]))) (hd:¬ (x.2.2.2.1=[100]∨x.2.2.2.1=[121]∨x.2.2.2.1=[106]∨x.2.2.2.1=[106,33])) :
  a34 out x.2.2.2.1 fl x∧a33 out x.2.2.2.1 fl x=(out++tlS x,x):=by
 obtain ⟨a,b,w,nm,d,rg,cn,old,new,all⟩:=x
 unfold szX at ho
 dsimp only at ho hfl hd ⊢
 unfold a34 a33 tlS
 dsimp only
 rw [if_neg hd]
 by_cases c1:nm=[116]∨nm=[109]
 ·rw [show fl=true by rw [hfl]; rcases c1 with h | h <;> simp [h],if_pos c1]
  obtain ⟨sp,sf⟩:=b7O d (by omega)
  have:=V4 d
  rw [sf]
  refine ⟨⟨by simp only [List.length_cons,List.length_nil]; omega,sp,by simp only [List.length_append,List.length_cons,List.length_nil]; omega⟩,?_⟩
  simp
 ·rw [show fl=false by rw [hfl]; simp at c1; simp [c1],if_neg c1]
  by_cases c2:nm=[115]
  ·rw [decide_eq_true c2,if_pos c2]
   refine ⟨⟨by simp only [List.length_cons,List.length_nil]; omega,by simp only [List.length_append,List.length_cons,List.length_nil]; omega,by simp only [List.length_append,List.length_cons,List.length_nil]; omega,by simp only [List.length_append,List.length_cons,List.length_nil]; omega,?_⟩,?_⟩
   ·refine brb (fun _=>?_) (fun _=>trivial)
    simp only [List.length_append,List.length_cons,List.length_nil]; omega
   ·cases all <;> simp
  ·rw [decide_eq_false c2,if_neg c2]
   exact ⟨trivial,by simp⟩
include h0 h9 in
theorem e4J (out:LI) (ho:out.length+szX x+100≤lim) (fl:Bool) (hfl:fl=decide (x.2.2.2.1=[100]∨x.2.2.2.1=[121]∨x.2.2.2.1=[106]∨x.2.2.2.1=[106,33])) :
  a0D out x.2.2.2.1 fl x∧L0 out x.2.2.2.1 fl x=(out++tlS x,x):=by
 have hsz:szX x≤lim:=by omega
 unfold a0D L0
 by_cases c0:x.2.2.2.1=[100]∨x.2.2.2.1=[121]∨x.2.2.2.1=[106]∨x.2.2.2.1=[106,33]
 ·rw [show fl=true by rw [hfl]; exact decide_eq_true c0]
  have e:tlS x=if 0<x.2.2.2.2.2.2.1 then 32::dec x.2.2.2.2.2.2.1.toNat else []:=by unfold tlS; rw [if_pos c0]
  rw [e]
  by_cases c1:0<x.2.2.2.2.2.2.1
  ·rw [decide_eq_true c1,if_pos c1]
   have hdl:=a0I x.2.2.2.2.2.2.1.toNat
   refine ⟨⟨by simp only [List.length_cons,List.length_nil]; omega,⟨10,by omega,by omega,by omega,by omega⟩,?_⟩,?_⟩
   ·show (out++[32]).length+(dec x.2.2.2.2.2.2.1.toNat).length≤lim
    simp only [List.length_append,List.length_cons,List.length_nil]; omega
   ·show ((out++[32])++dec x.2.2.2.2.2.2.1.toNat,x)=_
    rw [List.append_assoc]; rfl
  ·rw [decide_eq_false c1,if_neg c1,List.append_nil]
   exact ⟨trivial,rfl⟩
 ·rw [show fl=false by rw [hfl]; exact decide_eq_false c0]
  by_cases c1:x.2.2.2.1=[116]
  ·obtain ⟨p,f⟩:=d4S x out ho true (by rw [decide_eq_true c1]; rfl) c0
   rw [decide_eq_true c1]
   simp only [f]
   exact ⟨p,rfl⟩
  ·obtain ⟨p,f⟩:=d4S x out ho (decide (x.2.2.2.1=[109])) (by rw [decide_eq_false c1]; rfl) c0
   rw [decide_eq_false c1]
   simp only [cond_false,f]
   exact ⟨p,trivial⟩
include h0 h9 in
theorem d4U (out:LI) (ho:out.length+szX x+200≤lim):a36 out x∧a35 out x=chk x (out++tlS x):=by
 have htl:=d4I x
 have hz:x.2.2.2.2.1.2.2.2.1.length+x.2.2.2.2.2.2.2.1.length+x.2.2.2.2.2.2.2.2.1.length≤szX x:=by unfold szX; omega
 have hk:=e4B (out++tlS x) (by rw [List.length_append]; omega) x
 have j:=e4J x h0 h9 out (by omega)
 unfold a36 a35
 by_cases c1:x.2.2.2.1=[100]
 ·have j:=j true (by rw [decide_eq_true (.inl c1)])
  rw [decide_eq_true c1]
  simp only [cond_true,j.2]
  exact ⟨⟨j.1,hk.1⟩,hk.2⟩
 rw [decide_eq_false c1]
 by_cases c2:x.2.2.2.1=[121]
 ·have j:=j true (by rw [decide_eq_true (.inr (.inl c2))])
  rw [decide_eq_true c2]
  simp only [cond_true,cond_false,j.2]
  exact ⟨⟨j.1,hk.1⟩,hk.2⟩
 rw [decide_eq_false c2]
 by_cases c3:x.2.2.2.1=[106]
 ·have j:=j true (by rw [decide_eq_true (.inr (.inr (.inl c3)))])
  rw [decide_eq_true c3]
  simp only [cond_true,cond_false,j.2]
  exact ⟨⟨j.1,hk.1⟩,hk.2⟩
 rw [decide_eq_false c3]
 have j:=j (decide (x.2.2.2.1=[106,33])) (by simp [c1,c2,c3])
 simp only [cond_false,j.2]
 exact ⟨⟨j.1,hk.1⟩,hk.2⟩
include h0 h9 in
theorem e4L (out:LI) (ho:out.length+szX x+300≤lim):a39 out x∧a38 out x=chk x (out++(rS x++tlS x)):=by
 unfold a39 a38 rS
 by_cases c:x.2.2.2.2.2.1=0
 ·have j:=d4U x h0 h9 out (by omega)
  rw [decide_eq_true c,if_pos c,List.nil_append]
  exact j
 ·have j:=d4U x h0 h9 (out++[32,x.2.2.2.2.2.1]) (by simp only [List.length_append,List.length_cons,List.length_nil]; omega)
  rw [List.append_assoc] at j
  rw [decide_eq_false c,if_neg c]
  exact ⟨⟨by simp only [List.length_cons,List.length_nil]; omega,j.1⟩,j.2⟩
include h0 h9 in
theorem e4M (out:LI) (ho:out.length+szX x+szX x+20000≤lim):a1R out x∧a1Q out x=chk x (out++(nmS x++(rS x++tlS x))):=by
 have hn:=d18 x h9
 have hz:x.2.2.2.1.length≤szX x:=by unfold szX; omega
 have j:=e4L x h0 h9 (out++nmS x) (by rw [List.length_append]; omega)
 rw [List.append_assoc] at j
 have j0:a32 out (decide (x.2.2.2.1=[62]) || decide (x.2.2.2.1=[60])) x∧a0C out (decide (x.2.2.2.1=[62]) || decide (x.2.2.2.1=[60])) x=(out++nmS x,x):=by
  unfold a32 a0C nmS
  by_cases c:x.2.2.2.1=[62]∨x.2.2.2.1=[60]
  ·rw [show (decide (x.2.2.2.1=[62]) || decide (x.2.2.2.1=[60]))=true by rcases c with h | h <;> simp [h],if_pos c]
   have hl:x.2.2.2.1.length=1:=by rcases c with h | h <;> rw [h] <;> rfl
   refine ⟨⟨⟨h0,by omega,by rw [hl]; omega,by rw [hl]; omega⟩,?_⟩,rfl⟩
   show out.length+(a8K x.2.2.2.1 x.2.2.2.2.2.2.1.toNat).length≤lim
   rw [Z2,hl]; omega
  ·rw [show (decide (x.2.2.2.1=[62]) || decide (x.2.2.2.1=[60]))=false by simp at c; simp [c],if_neg c]
   exact ⟨show out.length+x.2.2.2.1.length≤lim by omega,rfl⟩
 unfold a1R a1Q
 by_cases c1:x.2.2.2.1=[62]
 ·rw [decide_eq_true c1,Bool.true_or] at j0
  rw [decide_eq_true c1]
  simp only [cond_true,j0.2]
  exact ⟨⟨j0.1,j.1⟩,j.2⟩
 ·rw [decide_eq_false c1,Bool.false_or] at j0
  rw [decide_eq_false c1]
  simp only [cond_false,j0.2]
  exact ⟨⟨j0.1,j.1⟩,j.2⟩
end
theorem c2U (x:ExD) (hx:3 * szX x+30000≤lim):a7b x∧a31 x=if x.2.2.2.2.2.2.1<0∨9999<x.2.2.2.2.2.2.1 then [] else chk x (spS x):=by
 unfold a7b a31
 by_cases h0:x.2.2.2.2.2.2.1<0
 ·rw [decide_eq_true h0,if_pos (.inl h0)]; exact ⟨trivial,rfl⟩
 rw [decide_eq_false h0]
 by_cases h9:9999<x.2.2.2.2.2.2.1
 ·rw [decide_eq_true h9,if_pos (.inr h9)]; exact ⟨trivial,rfl⟩
 rw [decide_eq_false h9,if_neg (by omega)]
 have hz1:x.1.2.2.2.1.length+x.2.1.2.2.2.1.length≤szX x:=by unfold szX; omega
 have hr:=d4u x
 have j:=e4M x (by omega) (by omega) (rgS x) (by omega)
 unfold spS
 cases hw:x.2.2.1
 ·obtain ⟨sp,sf⟩:=b7O x.1 (by omega)
  obtain ⟨tp,tf⟩:=b7O x.2.1 (by omega)
  have l1:=V4 x.1
  have l2:=V4 x.2.1
  simp only [cond_false,sf,tf]
  cases hg:x.2.1.2.2.2.2.2
  ·have e:rgS x=[]++adS x.1:=by unfold rgS; rw [hw,hg]; simp
   rw [e] at j
   rw [e]
   exact ⟨⟨sp,by simp only [List.length_nil]; omega,j.1⟩,j.2⟩
  ·have e:rgS x=([]++adS x.1++[44])++adS x.2.1:=by unfold rgS; rw [hw,hg]; simp
   rw [e] at j
   rw [e]
   exact ⟨⟨sp,by simp only [List.length_nil]; omega,by simp only [List.length_append,List.length_cons,List.length_nil]; omega,tp,by simp only [List.length_append,List.length_cons,List.length_nil]; omega,j.1⟩,j.2⟩
 ·have e:rgS x=[]++[37]:=by unfold rgS; rw [hw]; simp
  rw [e] at j
  rw [e]
  exact ⟨⟨by simp only [List.length_cons,List.length_nil]; omega,j.1⟩,j.2⟩
end Go.VE
namespace Go.VE
open Go Go.Proofs
def a6m:List AS:=[.v yI]
def b0m (k:Nat) (n:Int):Prop:=0≤n∧n<10000000000∧n.toNat<10 ^ k∧0<k
def G6 (n:Int):LI:=dec n.toNat
theorem e5s (n:Int):¬ b0m 0 n:=fun h=>absurd h.2.2.2 (Nat.lt_irrefl 0)
def b8u (k:Nat) (v:j3 a6m) (K:Res→List Cell→Prop):Prop:=b0m k v.1∧∀ r:LI,r=G6 v.1→K (.one (.fr 5 yU r)) []
def b8v (k:Nat):App:=specW a6m (b8u k)
def c6B (k:Nat):List (Nat×App):=[(89,b8v k)]
theorem d26 (k:Nat) (h:g8 Tryz.prog 89 (b8v k)):GOk Tryz.prog (j8 (c6B k)):=GOk.cons h (GOk.nil)
def a8U (k:Nat) (v0:Int) (K:Res→List Cell→Prop):Prop:=
 bif (decide (v0<(10:Int))) then
 K (.one (.fr 5 yU ([(IntKind.wrap .u8 (IntKind.wrap .i64 ((48:Int)+v0)))]:LI))) []
 else
 b0m k (IntKind.wrap .i64 (Int.tdiv v0 (10:Int)))∧(
 ∀ (r1:LI),r1=G6 (IntKind.wrap .i64 (Int.tdiv v0 (10:Int)))→(
 wfR (.one (.fr 5 yU r1))→(
 bif decide (List.length r1+List.length ([(IntKind.wrap .u8 (IntKind.wrap .i64 ((48:Int)+(Int.tmod v0 (10:Int)))))]:LI)≤lim) then
 K (.one (.fr 5 yU (r1++([(IntKind.wrap .u8 (IntKind.wrap .i64 ((48:Int)+(Int.tmod v0 (10:Int)))))]:LI)))) []
 else False)))
theorem c6C (k:Nat) (v0:Int) (K:Res→List Cell→Prop):q7 tb (j8 (c6B k)) [] Tryz.f89 [true] (mkA a6m (v0,())) K=a8U k v0 K:=by kernel_rfl
theorem d9i (k:Nat) (K:Res→List Cell→Prop):∀ v:j3 a6m,q7 tb (j8 (c6B k)) [] Tryz.f89 [true] (mkA a6m v) K=a8U k v.1 K
 | (v0,())=>c6C k v0 K
theorem d9h (k:Nat) (n0:Int) (K:Res→List Cell→Prop) (hw:wfA a6m (n0,())) (hp:b0m (k+1) n0) (h:∀ r:LI,r=G6 n0→K (.one (.fr 5 yU r)) []):a8U k n0 K:=by
 obtain ⟨h0,h1,h2,_⟩:=hp
 unfold a8U
 obtain ⟨m,rfl⟩:=Int.eq_ofNat_of_zero_le h0
 have h1:m<10000000000:=by omega
 have h3:m<10 ^ (k+1):=h2
 refine brn (fun hlt=>?_) (fun hge=>?_)
 ·rw [N1 (by rw [wrap_i64 (by omega) (by omega)]; omega) (by rw [wrap_i64 (by omega) (by omega)]; omega),wrap_i64 (by omega) (by omega)]
  exact h _ (by unfold G6; rw [Int.toNat_natCast,a4r (by omega)])
 ·have q1:Int.tdiv (m:Int) 10=((m / 10:Nat):Int):=rfl
  have q2:Int.tmod (m:Int) 10=((m % 10:Nat):Int):=rfl
  have hk:0<k:=by
   cases k with
   | zero=>simp at h3; omega
   | succ k=>omega
  rw [q1,q2,wrap_i64 (by omega) (by omega)]
  refine ⟨⟨by omega,by omega,by rw [Int.toNat_natCast]; rw [Nat.pow_succ] at h3; omega,hk⟩,fun r hr _=>?_⟩
  subst r
  have hl:=a2U 10 (m / 10)
  unfold G6 dec
  rw [Int.toNat_natCast,wrap_i64 (n:=48+((m % 10:Nat):Int)) (by omega) (by omega),N1 (by omega) (by omega)]
  refine C1 (by simp only [List.length_cons,List.length_nil]; unfold lim; omega) (h _ ?_)
  unfold G6
  rw [Int.toNat_natCast,a4q (by omega) h1]
  rfl
theorem c01:∀ k,g8 Tryz.prog 89 (b8v k)
 | 0=>g8.none fun v K h=>e5s v.1 h.1
 | k+1=>g8.specW (l9 (l8 o0 j9 (d26 k (c01 k)) g7.nil (f:=89) (fn:=Tryz.f89) (by kernel_rfl) (by kernel_rfl) (by kernel_rfl) [true]) fun v K hw h=>(d9i k K v).mpr (d9h k v.1 K hw h.1 h.2))
def a2H (v0:Int):Prop:=∃ k,b0m k v0
def e5t (v:j3 a6m) (K:Res→List Cell→Prop):Prop:=a2H v.1∧∀ r:LI,r=G6 v.1→K (.one (.fr 5 yU r)) []
def d5C:App:=specW a6m e5t
theorem d9g:g8 Tryz.prog 89 d5C:=fun ags K hs=>(g8.any (b:=b8u) c01) ags K (by
 obtain ⟨v,rfl,hb⟩:=G5 _ ags _ hs
 exact a2x a6m v (fun v=>∃ k,b8u k v fun r o=>wfR r→K r o) (hb.1.elim fun k hk=>⟨k,hk,hb.2⟩))
end Go.VE
namespace Go.VE
set_option maxRecDepth 20000
open Go Go.Proofs
def b6o:List (Nat×App):=[(89,d5C),(78,c6M)]
theorem a8Y:GOk Tryz.prog (j8 b6o):=GOk.cons d9g (GOk.cons c6Q (GOk.nil))
theorem b3J:o8 (g6 Tryz.f46)=true:=by kernel_rfl
def a2h:List LS:=[.b 1 8 [],.o 3 29 5 yU,.c 8 tyA]
def a4L:List LS:=[.o 2 21 5 yU]
def c1b:DX:=⟨none,some a4L,[]⟩
def d3b (k:Ex→St→Prop) (x2:LI):Prop:=wfD a4L (x2,())→k .ret (mkD 103 a4L (x2,()))
def b0v (kr:LI→Prop) (out3:LI) (a1b:tAd):Prop:=
 bif (decide (a1b.2.2.2.2.1=(0:Int))) then
 bif (!decide (a1b.1=(0:Int))) then
 kr out3
 else
 bif (decide (a1b.2.2.2.2.1<(0:Int))) then
 bif decide (List.length out3+List.length ([(45:Int)]:LI)≤lim) then
 a2H (IntKind.wrap .i64 (0 - a1b.2.2.2.2.1))∧(
 ∀ (r2:LI),r2=G6 (IntKind.wrap .i64 (0 - a1b.2.2.2.2.1))→(
 wfR (.one (.fr 5 yU r2))→(
 bif decide (List.length (out3++([(45:Int)]:LI))+List.length r2≤lim) then
 kr ((out3++([(45:Int)]:LI))++r2)
 else False)))
 else False
 else
 bif decide (List.length out3+List.length ([(43:Int)]:LI)≤lim) then
 a2H a1b.2.2.2.2.1∧(
 ∀ (r3:LI),r3=G6 a1b.2.2.2.2.1→(
 wfR (.one (.fr 5 yU r3))→(
 bif decide (List.length (out3++([(43:Int)]:LI))+List.length r3≤lim) then
 kr ((out3++([(43:Int)]:LI))++r3)
 else False)))
 else False
 else
 bif (decide (a1b.2.2.2.2.1<(0:Int))) then
 bif decide (List.length out3+List.length ([(45:Int)]:LI)≤lim) then
 a2H (IntKind.wrap .i64 (0 - a1b.2.2.2.2.1))∧(
 ∀ (r4:LI),r4=G6 (IntKind.wrap .i64 (0 - a1b.2.2.2.2.1))→(
 wfR (.one (.fr 5 yU r4))→(
 bif decide (List.length (out3++([(45:Int)]:LI))+List.length r4≤lim) then
 kr ((out3++([(45:Int)]:LI))++r4)
 else False)))
 else False
 else
 bif decide (List.length out3+List.length ([(43:Int)]:LI)≤lim) then
 a2H a1b.2.2.2.2.1∧(
 ∀ (r5:LI),r5=G6 a1b.2.2.2.2.1→(
 wfR (.one (.fr 5 yU r5))→(
 bif decide (List.length (out3++([(43:Int)]:LI))+List.length r5≤lim) then
 kr ((out3++([(43:Int)]:LI))++r5)
 else False)))
 else False
def c7k (k:Ex→St→Prop) (v:l6 a2h):Prop:=b0v (d3b k) v.1 v.2.1
theorem d9M (k:Ex→St→Prop):∀ v:l6 a2h,ex tb (j8 b6o) [] (at' (g6 Tryz.f46) [1,1,1,1]) [1,1,1,1] (mkD 103 a2h v) (wk 103 c1b k)=c7k k v
 | (out3,a1b,())=>by kernel_rfl
def c7f:Pce:=fun st k=>ckD 103 a2h st fun v=>wfD a2h v→c7k k v
theorem d9Q:j5 Tryz.prog (at' (g6 Tryz.f46) [1,1,1,1]) c7f:=
 (j5.wk (N:=103) (ds:=a2h) (dx:=c1b) (l3 o0 j9 a8Y (g7.nil) (at' (g6 Tryz.f46) [1,1,1,1]) [1,1,1,1] rfl (g9 b3J [1,1,1,1]))).mono fun st k h=>l4 h fun v hv hw=>Eq.mpr (d9M k v) (hv hw)
def b8B:q8:=([1,1,1,1],c7f)::[]
theorem c7i:g7 Tryz.prog (g6 Tryz.f46) b8B:=g7.cons d9Q (g7.nil)
def a3l:List LS:=[.b 1 8 [],.o 3 29 5 yU,.v 18 yU,.v 49 .bool,.c 8 tyA]
def a6s:List LS:=[.o 2 21 5 yU]
def a6r:List LS:=[.b 1 8 [],.o 3 29 5 yU,.c 8 tyA]
def c1c:DX:=⟨some a6r,some a6s,[]⟩
def d3d (k:Ex→St→Prop) (x2:LI):Prop:=wfD a6s (x2,())→k .ret (mkD 103 a6s (x2,()))
def d3c (k:Ex→St→Prop) (out3:LI) (a1b:tAd):Prop:=wfD a6r (out3,a1b,())→k .nrm (mkD 103 a6r (out3,a1b,()))
def b3H (kr:LI→Prop) (kn:LI→tAd→Prop) (out3:LI) (x18:Int) (x49:Bool) (a1b:tAd):Prop:=
 bif x49 then
 a0r a1b.2.2.2.1 a1b.1∧(
 ∀ (r6:Bool),r6=M5 a1b.2.2.2.1 a1b.1→(
 wB r6→(
 bif (!r6) then
 kr ([]:LI)
 else
 bif decide (List.length out3+List.length ([a1b.1]:LI)≤lim) then
 bif decide (List.length (out3++([a1b.1]:LI))+List.length a1b.2.2.2.1≤lim) then
 bif decide (List.length ((out3++([a1b.1]:LI))++a1b.2.2.2.1)+List.length ([a1b.1]:LI)≤lim) then
 kn (((out3++([a1b.1]:LI))++a1b.2.2.2.1)++([a1b.1]:LI)) a1b
 else False
 else False
 else False)))
 else
 bif (decide (x18=(0:Int))) then
 kn out3 a1b
 else
 kr ([]:LI)
def c7l (k:Ex→St→Prop) (v:l6 a3l):Prop:=b3H (d3d k) (d3c k) v.1 v.2.1 v.2.2.1 v.2.2.2.1
theorem d9N (k:Ex→St→Prop):∀ v:l6 a3l,ex tb (j8 b6o) b8B (at' (g6 Tryz.f46) [1,1,1,1,1,1,1,0,1,0,1,1,1]) [1,1,1,1,1,1,1,0,1,0,1,1,1] (mkD 103 a3l v) (wk 103 c1c k)=c7l k v
 | (out3,x18,x49,a1b,())=>by kernel_rfl
def c7g:Pce:=fun st k=>ckD 103 a3l st fun v=>wfD a3l v→c7l k v
theorem d9R:j5 Tryz.prog (at' (g6 Tryz.f46) [1,1,1,1,1,1,1,0,1,0,1,1,1]) c7g:=
 (j5.wk (N:=103) (ds:=a3l) (dx:=c1c) (l3 o0 j9 a8Y (c7i) (at' (g6 Tryz.f46) [1,1,1,1,1,1,1,0,1,0,1,1,1]) [1,1,1,1,1,1,1,0,1,0,1,1,1] rfl (g9 b3J [1,1,1,1,1,1,1,0,1,0,1,1,1]))).mono fun st k h=>l4 h fun v hv hw=>Eq.mpr (d9N k v) (hv hw)
def b8C:q8:=([1,1,1,1,1,1,1,0,1,0,1,1,1],c7g)::b8B
theorem c7j:g7 Tryz.prog (g6 Tryz.f46) b8C:=g7.cons d9R (c7i)
def a3m:List LS:=[.b 1 8 [],.o 3 29 5 yU,.v 18 yU,.v 32 .bool,.c 8 tyA]
def a6t:List LS:=[.b 1 8 [],.o 3 29 5 yU,.c 8 tyA]
def a6u:List LS:=[.o 2 21 5 yU]
def c1d:DX:=⟨some a6t,some a6u,[]⟩
def d3e (k:Ex→St→Prop) (out3:LI) (a1b:tAd):Prop:=wfD a6t (out3,a1b,())→k .nrm (mkD 103 a6t (out3,a1b,()))
def d3f (k:Ex→St→Prop) (x2:LI):Prop:=wfD a6u (x2,())→k .ret (mkD 103 a6u (x2,()))
def b3I (kn:LI→tAd→Prop) (kr:LI→Prop) (out3:LI) (x18:Int) (x32:Bool) (a1b:tAd):Prop:=
 bif x32 then
 bif decide (List.length out3+List.length ([a1b.1]:LI)≤lim) then
 kn (out3++([a1b.1]:LI)) a1b
 else False
 else
 bif (decide (x18=(39:Int))) then
 bif decide (List.length out3+List.length ([a1b.1,a1b.2.2.1]:LI)≤lim) then
 kn (out3++([a1b.1,a1b.2.2.1]:LI)) a1b
 else False
 else
 bif (decide (x18=(47:Int))) then
 (wfD a3l (out3,x18,(decide (x18=(47:Int))),a1b,())→b3H (fun (x2:LI)=>wfD a6s (x2,())→(
 kr x2)) (fun (out3:LI) (a1b:tAd)=>wfD a6r (out3,a1b,())→(
 kn out3 a1b)) out3 x18 (decide (x18=(47:Int))) a1b)
 else
 (wfD a3l (out3,x18,(decide (x18=(63:Int))),a1b,())→b3H (fun (x2:LI)=>wfD a6s (x2,())→(
 kr x2)) (fun (out3:LI) (a1b:tAd)=>wfD a6r (out3,a1b,())→(
 kn out3 a1b)) out3 x18 (decide (x18=(63:Int))) a1b)
def c7m (k:Ex→St→Prop) (v:l6 a3m):Prop:=b3I (d3e k) (d3f k) v.1 v.2.1 v.2.2.1 v.2.2.2.1
theorem d9O (k:Ex→St→Prop):∀ v:l6 a3m,ex tb (j8 b6o) b8C (at' (g6 Tryz.f46) [1,1,1,0,1,0,1,1,1]) [1,1,1,0,1,0,1,1,1] (mkD 103 a3m v) (wk 103 c1d k)=c7m k v
 | (out3,x18,x32,a1b,())=>by kernel_rfl
def c7h:Pce:=fun st k=>ckD 103 a3m st fun v=>wfD a3m v→c7m k v
theorem d9S:j5 Tryz.prog (at' (g6 Tryz.f46) [1,1,1,0,1,0,1,1,1]) c7h:=
 (j5.wk (N:=103) (ds:=a3m) (dx:=c1d) (l3 o0 j9 a8Y (c7j) (at' (g6 Tryz.f46) [1,1,1,0,1,0,1,1,1]) [1,1,1,0,1,0,1,1,1] rfl (g9 b3J [1,1,1,0,1,0,1,1,1]))).mono fun st k h=>l4 h fun v hv hw=>Eq.mpr (d9O k v) (hv hw)
def c7e:q8:=([1,1,1,0,1,0,1,1,1],c7h)::b8C
theorem d9J:g7 Tryz.prog (g6 Tryz.f46) c7e:=g7.cons d9S (c7j)
def c1e (a0:tAd) (K:Res→List Cell→Prop):Prop:=
 bif (!a0.2.2.2.2.2) then
 K (.one (.fr 5 yU ([]:LI))) []
 else
 bif (decide (a0.2.2.2.2.1<(-999999999:Int))) then
 K (.one (.fr 5 yU ([]:LI))) []
 else
 bif (decide ((999999999:Int)<a0.2.2.2.2.1)) then
 K (.one (.fr 5 yU ([]:LI))) []
 else
 bif (decide (a0.1=(110:Int))) then
 bif (decide (a0.2.1<(0:Int))) then
 K (.one (.fr 5 yU ([]:LI))) []
 else
 bif (decide ((999999999:Int)<a0.2.1)) then
 K (.one (.fr 5 yU ([]:LI))) []
 else
 a2H a0.2.1∧(
 ∀ (r1:LI),r1=G6 a0.2.1→(
 wfR (.one (.fr 5 yU r1))→(
 (wfD a2h (r1,a0,())→b0v (fun (x2:LI)=>wfD a4L (x2,())→(
 K (.one (.fr 5 yU x2)) [])) r1 a0))))
 else
 bif (decide (a0.1=(46:Int))) then
 (wfD a3m (([]:LI),a0.1,(decide (a0.1=(46:Int))),a0,())→b3I (fun (out3:LI) (a1b:tAd)=>wfD a6t (out3,a1b,())→(
 (wfD a2h (out3,a1b,())→b0v (fun (x2:LI)=>wfD a4L (x2,())→(
 K (.one (.fr 5 yU x2)) [])) out3 a1b))) (fun (x2:LI)=>wfD a6u (x2,())→(
 K (.one (.fr 5 yU x2)) [])) ([]:LI) a0.1 (decide (a0.1=(46:Int))) a0)
 else
 (wfD a3m (([]:LI),a0.1,(decide (a0.1=(36:Int))),a0,())→b3I (fun (out3:LI) (a1b:tAd)=>wfD a6t (out3,a1b,())→(
 (wfD a2h (out3,a1b,())→b0v (fun (x2:LI)=>wfD a4L (x2,())→(
 K (.one (.fr 5 yU x2)) [])) out3 a1b))) (fun (x2:LI)=>wfD a6u (x2,())→(
 K (.one (.fr 5 yU x2)) [])) ([]:LI) a0.1 (decide (a0.1=(36:Int))) a0)
def b6n:List AS:=[.v tyA]
def a0s (out3:LI) (a1b:tAd):Prop:=
 bif (decide (a1b.2.2.2.2.1=(0:Int))) then
 bif (!decide (a1b.1=(0:Int))) then
 True
 else
 bif (decide (a1b.2.2.2.2.1<(0:Int))) then
 (List.length out3+List.length ([(45:Int)]:LI)≤lim)∧(
 a2H (IntKind.wrap .i64 (0 - a1b.2.2.2.2.1))∧(
 let r2:LI:=G6 (IntKind.wrap .i64 (0 - a1b.2.2.2.2.1))
 (List.length (out3++([(45:Int)]:LI))+List.length r2≤lim)))
 else
 (List.length out3+List.length ([(43:Int)]:LI)≤lim)∧(
 a2H a1b.2.2.2.2.1∧(
 let r3:LI:=G6 a1b.2.2.2.2.1
 (List.length (out3++([(43:Int)]:LI))+List.length r3≤lim)))
 else
 bif (decide (a1b.2.2.2.2.1<(0:Int))) then
 (List.length out3+List.length ([(45:Int)]:LI)≤lim)∧(
 a2H (IntKind.wrap .i64 (0 - a1b.2.2.2.2.1))∧(
 let r4:LI:=G6 (IntKind.wrap .i64 (0 - a1b.2.2.2.2.1))
 (List.length (out3++([(45:Int)]:LI))+List.length r4≤lim)))
 else
 (List.length out3+List.length ([(43:Int)]:LI)≤lim)∧(
 a2H a1b.2.2.2.2.1∧(
 let r5:LI:=G6 a1b.2.2.2.2.1
 (List.length (out3++([(43:Int)]:LI))+List.length r5≤lim)))
def Y9 (out3:LI) (a1b:tAd):LI:=
 bif (decide (a1b.2.2.2.2.1=(0:Int))) then
 bif (!decide (a1b.1=(0:Int))) then
 (out3)
 else
 bif (decide (a1b.2.2.2.2.1<(0:Int))) then
 let r2:LI:=G6 (IntKind.wrap .i64 (0 - a1b.2.2.2.2.1))
 (((out3++([(45:Int)]:LI))++r2))
 else
 let r3:LI:=G6 a1b.2.2.2.2.1
 (((out3++([(43:Int)]:LI))++r3))
 else
 bif (decide (a1b.2.2.2.2.1<(0:Int))) then
 let r4:LI:=G6 (IntKind.wrap .i64 (0 - a1b.2.2.2.2.1))
 (((out3++([(45:Int)]:LI))++r4))
 else
 let r5:LI:=G6 a1b.2.2.2.2.1
 (((out3++([(43:Int)]:LI))++r5))
theorem a71 (kr:LI→Prop) (out3:LI) (a1b:tAd) (hp:a0s out3 a1b) (hr:∀ q:LI,q=Y9 out3 a1b→kr q):b0v kr out3 a1b:=
 have h:=hr; br1 hp h (fun _ hp h=>br1 hp h (fun _ hp h=>h _ rfl)
 fun _ hp h=>br1 hp h (fun _ hp h=>as1 hp fun hp=>an1 hp fun hp=>al (as0 hp (h _ rfl)))
 fun _ hp h=>as1 hp fun hp=>an1 hp fun hp=>al (as0 hp (h _ rfl)))
 fun _ hp h=>br1 hp h (fun _ hp h=>as1 hp fun hp=>an1 hp fun hp=>al (as0 hp (h _ rfl)))
 fun _ hp h=>as1 hp fun hp=>an1 hp fun hp=>al (as0 hp (h _ rfl))
def a1D (out3:LI) (x18:Int) (x49:Bool) (a1b:tAd):Prop:=
 bif x49 then
 a0r a1b.2.2.2.1 a1b.1∧(
 let r6:Bool:=M5 a1b.2.2.2.1 a1b.1
 bif (!r6) then
 True
 else
 (List.length out3+List.length ([a1b.1]:LI)≤lim)∧(
 (List.length (out3++([a1b.1]:LI))+List.length a1b.2.2.2.1≤lim)∧(
 (List.length ((out3++([a1b.1]:LI))++a1b.2.2.2.1)+List.length ([a1b.1]:LI)≤lim))))
 else
 True
def a0t (out3:LI) (x18:Int) (x49:Bool) (a1b:tAd):(LI)⊕(LI×tAd):=
 bif x49 then
 let r6:Bool:=M5 a1b.2.2.2.1 a1b.1
 bif (!r6) then
 .inl (([]:LI))
 else
 .inr ((((out3++([a1b.1]:LI))++a1b.2.2.2.1)++([a1b.1]:LI)),a1b)
 else
 bif (decide (x18=(0:Int))) then
 .inr (out3,a1b)
 else
 .inl (([]:LI))
theorem b2c (kr:LI→Prop) (kn:LI→tAd→Prop) (out3:LI) (x18:Int) (x49:Bool) (a1b:tAd) (hp:a1D out3 x18 x49 a1b) (hr:∀ q:LI,a0t out3 x18 x49 a1b=.inl q→kr q) (hn:∀ q:LI×tAd,a0t out3 x18 x49 a1b=.inr q→kn q.1 q.2):b3H kr kn out3 x18 x49 a1b:=
 have h:=hc2 hr hn; br1 hp h (fun _ hp h=>an1 hp fun hp=>al (br1 hp h (fun _ hp h=>h _ rfl)
 fun _ hp h=>as1 hp fun hp=>as1 hp fun hp=>as0 hp (h _ rfl)))
 fun _ hp h=>br0 h (fun _ h=>h _ rfl)
 fun _ h=>h _ rfl
def a1E (out3:LI) (x18:Int) (x32:Bool) (a1b:tAd):Prop:=
 bif x32 then
 (List.length out3+List.length ([a1b.1]:LI)≤lim)
 else
 bif (decide (x18=(39:Int))) then
 (List.length out3+List.length ([a1b.1,a1b.2.2.1]:LI)≤lim)
 else
 bif (decide (x18=(47:Int))) then
 a1D out3 x18 (decide (x18=(47:Int))) a1b
 else
 a1D out3 x18 (decide (x18=(63:Int))) a1b
def M6 (out3:LI) (x18:Int) (x32:Bool) (a1b:tAd):(LI×tAd)⊕(LI):=
 bif x32 then
 .inl ((out3++([a1b.1]:LI)),a1b)
 else
 bif (decide (x18=(39:Int))) then
 .inl ((out3++([a1b.1,a1b.2.2.1]:LI)),a1b)
 else
 bif (decide (x18=(47:Int))) then
 Sum.elim (fun q1r=>
 let x2:LI:=q1r
 .inr (x2)) (fun q1n=>
 let out3:LI:=q1n.1
 let a1b:tAd:=q1n.2
 .inl (out3,a1b)) (a0t out3 x18 (decide (x18=(47:Int))) a1b)
 else
 Sum.elim (fun q1r=>
 let x2:LI:=q1r
 .inr (x2)) (fun q1n=>
 let out3:LI:=q1n.1
 let a1b:tAd:=q1n.2
 .inl (out3,a1b)) (a0t out3 x18 (decide (x18=(63:Int))) a1b)
theorem b2d (kn:LI→tAd→Prop) (kr:LI→Prop) (out3:LI) (x18:Int) (x32:Bool) (a1b:tAd) (hp:a1E out3 x18 x32 a1b) (hn:∀ q:LI×tAd,M6 out3 x18 x32 a1b=.inl q→kn q.1 q.2) (hr:∀ q:LI,M6 out3 x18 x32 a1b=.inr q→kr q):b3I kn kr out3 x18 x32 a1b:=
 have h:=hc2 hn hr; br1 hp h (fun _ hp h=>as0 hp (h _ rfl))
 fun _ hp h=>br1 hp h (fun _ hp h=>as0 hp (h _ rfl))
 fun _ hp h=>br1 hp h (fun _ hp h=>fun _=>b2c _ _ _ _ _ _ hp
 (fun _ e _=>have h:=sl e h; h _ rfl)
 (fun _ e _=>have h:=sr e h; h _ rfl))
 fun _ hp h=>fun _=>b2c _ _ _ _ _ _ hp
 (fun _ e _=>have h:=sl e h; h _ rfl)
 (fun _ e _=>have h:=sr e h; h _ rfl)
def a5l (a0:tAd):Prop:=
 bif (!a0.2.2.2.2.2) then
 True
 else
 bif (decide (a0.2.2.2.2.1<(-999999999:Int))) then
 True
 else
 bif (decide ((999999999:Int)<a0.2.2.2.2.1)) then
 True
 else
 bif (decide (a0.1=(110:Int))) then
 bif (decide (a0.2.1<(0:Int))) then
 True
 else
 bif (decide ((999999999:Int)<a0.2.1)) then
 True
 else
 a2H a0.2.1∧(
 let r1:LI:=G6 a0.2.1
 a0s r1 a0)
 else
 bif (decide (a0.1=(46:Int))) then
 a1E ([]:LI) a0.1 (decide (a0.1=(46:Int))) a0∧(
 Sum.elim (fun q2n=>
 let out3:LI:=q2n.1
 let a1b:tAd:=q2n.2
 a0s out3 a1b) (fun q2r=>
 True) (M6 ([]:LI) a0.1 (decide (a0.1=(46:Int))) a0))
 else
 a1E ([]:LI) a0.1 (decide (a0.1=(36:Int))) a0∧(
 Sum.elim (fun q2n=>
 let out3:LI:=q2n.1
 let a1b:tAd:=q2n.2
 a0s out3 a1b) (fun q2r=>
 True) (M6 ([]:LI) a0.1 (decide (a0.1=(36:Int))) a0))
def a1C (a0:tAd):LI:=
 bif (!a0.2.2.2.2.2) then
 ([]:LI)
 else
 bif (decide (a0.2.2.2.2.1<(-999999999:Int))) then
 ([]:LI)
 else
 bif (decide ((999999999:Int)<a0.2.2.2.2.1)) then
 ([]:LI)
 else
 bif (decide (a0.1=(110:Int))) then
 bif (decide (a0.2.1<(0:Int))) then
 ([]:LI)
 else
 bif (decide ((999999999:Int)<a0.2.1)) then
 ([]:LI)
 else
 let r1:LI:=G6 a0.2.1
 let q0r:LI:=Y9 r1 a0
 let x2:LI:=q0r
 x2
 else
 bif (decide (a0.1=(46:Int))) then
 Sum.elim (fun q2n=>
 let out3:LI:=q2n.1
 let a1b:tAd:=q2n.2
 let q0r:LI:=Y9 out3 a1b
 let x2:LI:=q0r
 x2) (fun q2r=>
 let x2:LI:=q2r
 x2) (M6 ([]:LI) a0.1 (decide (a0.1=(46:Int))) a0)
 else
 Sum.elim (fun q2n=>
 let out3:LI:=q2n.1
 let a1b:tAd:=q2n.2
 let q0r:LI:=Y9 out3 a1b
 let x2:LI:=q0r
 x2) (fun q2r=>
 let x2:LI:=q2r
 x2) (M6 ([]:LI) a0.1 (decide (a0.1=(36:Int))) a0)
theorem d9L (a0:tAd) (K:Res→List Cell→Prop) (_:wfA b6n (a0,())) (hp:a5l a0) (h:∀ r:LI,r=a1C a0→K (.one (.fr 5 yU r)) []):c1e a0 K:=
 br1 hp h (fun _ hp h=>h _ rfl)
 fun _ hp h=>br1 hp h (fun _ hp h=>h _ rfl)
 fun _ hp h=>br1 hp h (fun _ hp h=>h _ rfl)
 fun _ hp h=>br1 hp h (fun _ hp h=>br1 hp h (fun _ hp h=>h _ rfl)
 fun _ hp h=>br1 hp h (fun _ hp h=>h _ rfl)
 fun _ hp h=>an1 hp fun hp=>al (fun _=>a71 _ _ _ hp (al (h _ rfl))))
 fun _ hp h=>br1 hp h (fun _ hp h=>fun _=>b2d _ _ _ _ _ _ hp.1
 (fun _ e _=>have h:=sl e h; have hp:=cL e hp.2; fun _=>a71 _ _ _ hp (al (h _ rfl)))
 (fun _ e _=>have h:=sr e h; h _ rfl))
 fun _ hp h=>fun _=>b2d _ _ _ _ _ _ hp.1
 (fun _ e _=>have h:=sl e h; have hp:=cL e hp.2; fun _=>a71 _ _ _ hp (al (h _ rfl)))
 (fun _ e _=>have h:=sr e h; h _ rfl)
def e5D (v:j3 b6n) (K:Res→List Cell→Prop):Prop:=a5l v.1∧∀ r:LI,r=a1C v.1→K (.one (.fr 5 yU r)) []
def d5H:App:=specW b6n e5D
theorem d9P (K:Res→List Cell→Prop):∀ v:j3 b6n,q7 tb (j8 b6o) c7e Tryz.f46 [true] (mkA b6n v) K=c1e v.1 K
 | (a0,())=>by kernel_rfl
theorem d9K:g8 Tryz.prog 46 d5H:=
 g8.specW (l9 ((l8 o0 j9 a8Y (d9J) (f:=46) (fn:=Tryz.f46) (by kernel_rfl) (by kernel_rfl) b3J [true])) fun v K hw h=>(d9P K v).mpr (d9L v.1 K hw h.1 h.2))
end Go.VE
namespace Go.VE
open Go
theorem b5c {c:Int} (hc:c≠92):∀ t:LI,who t c=decide (clo (t++[c]) c=t.length)
 | []=>by simp [who,clo,hc]
 | [b]=>by
  by_cases h1:b=92
  ·subst h1; simp [who,clo]
  ·by_cases h2:b=c
   ·subst h2; simp [who,clo,hc]
   ·simp [who,clo,hc,h1,h2]
 | b::d::r=>by
  have e1:=b5c hc r
  have e2:=b5c hc (d::r)
  rw [show b::d::r++[c]=b::d::(r++[c]) from rfl]
  rw [show d::r++[c]=d::(r++[c]) from rfl] at e2
  unfold who clo
  by_cases h1:b=92
  ·subst h1
   rw [if_neg (fun h=>hc h.symm),if_pos rfl,if_pos rfl,e1]
   simp
  ·by_cases h2:b=c
   ·rw [if_pos h2,if_neg h1,if_pos h2]; simp
   ·rw [if_neg h2,if_neg h1,if_neg h1,if_neg h2,e2]
    simp
theorem b9Q {n:Int} (h0:0≤n) (h9:n≤999999999):a2H n:=⟨10,h0,by omega,by omega,by omega⟩
theorem j0R (out:LI) (a:Adr) (h1:-999999999≤a.2.2.2.2.1) (h2:a.2.2.2.2.1≤999999999) (hx:out.length+22≤lim):a0s out a∧Y9 out a=out++adT a:=by
 have hl:∀ b:Int,out.length+([b]:LI).length≤lim:=fun b=>by simp only [List.length_cons,List.length_nil]; omega
 have hw:IntKind.wrap .i64 (0 - a.2.2.2.2.1) = -a.2.2.2.2.1:=by rw [wrap_i64 (by omega) (by omega)]; omega
 have hd:∀ (b:Int) (n:Nat),(out++[b]).length+(dec n).length≤lim:=fun b n=>by
  have:=a0I n
  simp only [List.length_append,List.length_cons,List.length_nil]; omega
 unfold a0s Y9 adT nI G6
 rw [hw]
 dsimp only
 by_cases h3:a.2.2.2.2.1=0
 ·rw [decide_eq_true h3,decide_eq_false (show ¬ a.2.2.2.2.1<0 by omega)]
  by_cases h4:a.1=0
  ·rw [decide_eq_true h4,if_neg (by simp [h4]),if_neg (by omega)]
   refine ⟨⟨hl _,b9Q (by omega) h2,hd _ _⟩,?_⟩
   simp [h3]
  ·rw [decide_eq_false h4,if_pos ⟨h3,h4⟩,List.append_nil]
   exact ⟨trivial,rfl⟩
 ·rw [decide_eq_false h3,if_neg (fun h=>h3 h.1)]
  by_cases h5:a.2.2.2.2.1<0
  ·rw [decide_eq_true h5,if_pos h5,if_pos h5]
   exact ⟨⟨hl _,b9Q (by omega) (by omega),hd _ _⟩,by simp⟩
  ·rw [decide_eq_false h5,if_neg h5,if_neg h5]
   exact ⟨⟨hl _,b9Q (by omega) h2,hd _ _⟩,by simp⟩
theorem d4L (t:LI) {c:Int} (hc:c≠92) (ht:t.length≤lim):a0r t c∧M5 t c=decide (clo (t++[c]) c=t.length):=by
 refine ⟨⟨rfl,ht⟩,?_⟩
 unfold M5 a0q
 rw [← b5c hc]
 cases who t c <;> rfl
theorem b43 (a:Adr) (ha:a.2.2.2.1.length+100≤lim):a5l a∧a1C a=adS a:=by
 obtain ⟨b,num,nam,tx,ad,g⟩:=a
 dsimp only at ha
 have hlim:lim=1099511627776:=rfl
 unfold a5l a1C adS b46
 dsimp only
 cases g
 ·exact ⟨trivial,rfl⟩
 by_cases h1:ad < -999999999
 ·rw [decide_eq_true h1,decide_eq_false (show ¬ -999999999≤ad by omega)]
  exact ⟨trivial,rfl⟩
 rw [decide_eq_false h1,decide_eq_true (show -999999999≤ad by omega)]
 by_cases h2:999999999<ad
 ·rw [decide_eq_true h2,decide_eq_false (show ¬ ad≤999999999 by omega)]
  exact ⟨trivial,rfl⟩
 rw [decide_eq_false h2,decide_eq_true (show ad≤999999999 by omega)]
 have j0:=fun out (h:out.length+22≤lim)=>j0R out (b,num,nam,tx,ad,true) (by dsimp only; omega) (by dsimp only; omega) h
 by_cases c4:b=110
 ·subst c4
  by_cases h3:num<0
  ·rw [decide_eq_true h3,decide_eq_false (show ¬ 0≤num by omega)]
   exact ⟨trivial,rfl⟩
  rw [decide_eq_false h3,decide_eq_true (show 0≤num by omega)]
  by_cases h4:999999999<num
  ·rw [decide_eq_true h4,decide_eq_false (show ¬ num≤999999999 by omega)]
   exact ⟨trivial,rfl⟩
  rw [decide_eq_false h4,decide_eq_true (show num≤999999999 by omega)]
  have hdl:=a0I num.toNat
  have j:=j0 (G6 num) (by show (dec num.toNat).length+22≤lim; omega)
  refine ⟨⟨b9Q (by omega) (by omega),j.1⟩,?_⟩
  show Y9 _ _=bsS _++_
  rw [j.2]
  unfold bsS nI
  rw [if_pos rfl,if_neg h3]
  rfl
 rw [decide_eq_false c4]
 -- the other bases: what J2 makes
 have key:∀ fl:Bool,fl=true∧(b=46∨b=36)∨fl=false∧b≠46∧b≠36→a1E [] b fl (b,num,nam,tx,ad,true)∧
   M6 [] b fl (b,num,nam,tx,ad,true)=(if (if b=0∨b=46∨b=36∨b=39 then true else if b=110 then decide (0≤num) && decide (num≤999999999) else if b=47∨b=63 then decide (clo (tx++[b]) b=tx.length) else false)=true
    then .inl (bsS (b,num,nam,tx,ad,true),(b,num,nam,tx,ad,true)) else .inr []):=by
  intro fl hfl
  have l1:([]:LI).length+([b]:LI).length≤lim:=by simp only [List.length_cons,List.length_nil]; omega
  unfold a1E M6 bsS
  dsimp only
  rcases hfl with ⟨rfl,hb⟩ | ⟨rfl,n1,n2⟩
  ·refine ⟨l1,?_⟩
   rcases hb with rfl | rfl <;> rfl
  ·by_cases c3:b=39
   ·subst c3
    exact ⟨show 0+2≤lim by omega,rfl⟩
   rw [decide_eq_false c3]
   by_cases c5:b=47∨b=63
   ·have hj:a1D [] b true (b,num,nam,tx,ad,true)∧a0t [] b true (b,num,nam,tx,ad,true)=(if clo (tx++[b]) b=tx.length then .inr (b::(tx++[b]),(b,num,nam,tx,ad,true)) else .inl []):=by
     obtain ⟨wp,wf⟩:=d4L tx (c:=b) (by omega) (by omega)
     unfold a1D a0t
     dsimp only
     rw [wf]
     by_cases h:clo (tx++[b]) b=tx.length
     ·rw [decide_eq_true h,if_pos h]
      exact ⟨⟨wp,l1,by simp only [List.length_append,List.length_cons,List.length_nil]; omega,by simp only [List.length_append,List.length_cons,List.length_nil]; omega⟩,by simp⟩
     ·rw [decide_eq_false h,if_neg h]
      exact ⟨⟨wp,trivial⟩,rfl⟩
    have hr:(if b=0∨b=46∨b=36∨b=39 then true else if b=110 then decide (0≤num) && decide (num≤999999999) else if b=47∨b=63 then decide (clo (tx++[b]) b=tx.length) else false)=decide (clo (tx++[b]) b=tx.length):=by
     rw [if_neg (by omega),if_neg c4,if_pos c5]
    rw [hr,if_neg c4,if_neg c3,if_pos c5]
    by_cases c6:b=47
    ·rw [decide_eq_true c6]
     refine ⟨hj.1,?_⟩
     simp only [cond_true,cond_false,hj.2]
     by_cases h:clo (tx++[b]) b=tx.length
     ·rw [if_pos h,if_pos (decide_eq_true h)]; rfl
     ·rw [if_neg h,if_neg (by simpa using h)]; rfl
    ·rw [decide_eq_false c6,decide_eq_true (show b=63 by omega)]
     refine ⟨hj.1,?_⟩
     simp only [cond_false,hj.2]
     by_cases h:clo (tx++[b]) b=tx.length
     ·rw [if_pos h,if_pos (decide_eq_true h)]; rfl
     ·rw [if_neg h,if_neg (by simpa using h)]; rfl
   ·have c7:b≠47∧b≠63:=by omega
    rw [decide_eq_false c7.1,decide_eq_false c7.2]
    unfold a1D a0t
    refine ⟨trivial,?_⟩
    by_cases c0:b=0
    ·subst c0; rfl
    ·rw [decide_eq_false c0,if_neg c4,if_neg c3,if_neg c5,if_neg (show ¬ (b=0∨b=46∨b=36∨b=39) by omega)]
     simp
 have hb:(bsS (b,num,nam,tx,ad,true)).length+22≤lim:=by
  unfold bsS
  have:=b76 num
  repeat' split
  all_goals ((try simp only [List.length_append,List.length_cons,List.length_nil]); omega)
 have fin:∀ fl:Bool,fl=true∧(b=46∨b=36)∨fl=false∧b≠46∧b≠36→
   (a1E [] b fl (b,num,nam,tx,ad,true)∧(Sum.elim (fun q2n:LI×Adr=>a0s q2n.1 q2n.2) (fun _:LI=>True) (M6 [] b fl (b,num,nam,tx,ad,true))))∧
   Sum.elim (fun q2n:LI×Adr=>Y9 q2n.1 q2n.2) (fun q2r:LI=>q2r) (M6 [] b fl (b,num,nam,tx,ad,true)) =
    if (true && true && true && (if b=0∨b=46∨b=36∨b=39 then true else if b=110 then decide (0≤num) && decide (num≤999999999) else if b=47∨b=63 then decide (clo (tx++[b]) b=tx.length) else false))=true then bsS (b,num,nam,tx,ad,true)++adT (b,num,nam,tx,ad,true) else []:=by
  intro fl hfl
  obtain ⟨k1,k2⟩:=key fl hfl
  rw [k2]
  have j:=j0 _ hb
  simp only [Bool.true_and]
  by_cases h:(if b=0∨b=46∨b=36∨b=39 then true else if b=110 then decide (0≤num) && decide (num≤999999999) else if b=47∨b=63 then decide (clo (tx++[b]) b=tx.length) else false)=true
  ·rw [if_pos h,if_pos h]
   exact ⟨⟨k1,j.1⟩,j.2⟩
  ·rw [if_neg h,if_neg h]
   exact ⟨⟨k1,trivial⟩,rfl⟩
 by_cases c1:b=46
 ·rw [decide_eq_true c1]
  exact fin true (.inl ⟨rfl,.inl c1⟩)
 ·rw [decide_eq_false c1]
  by_cases c2:b=36
  ·rw [decide_eq_true c2]
   exact fin true (.inl ⟨rfl,.inr c2⟩)
  ·rw [decide_eq_false c2]
   exact fin false (.inr ⟨rfl,c1,c2⟩)
end Go.VE
namespace Go.VE
theorem e4K {l r:LI} (hr:r <:+ l) (a:Adr):u9 l ((l.length:Int) - r.length) p9 a=((adR l (adF r a)).2.1,(adR l (adF r a)).2.2,(adR l (adF r a)).1):=by
 rw [← c2X hr a]
 unfold u9 a1B
 rcases a0U l ((l.length:Int) - r.length) p9 a with q | q
 ·rfl
 ·show (bif decide (q.2.2.2.2.2.2.1<(-999999999:Int)) then ((0,230,p9):Int×Int×Adr) else bif decide ((999999999:Int)<q.2.2.2.2.2.2.1) then (0,230,p9) else (q.1,0,q.2.2)) =
   ((bif decide (q.2.2.2.2.2.2.1<(-999999999:Int)) then ((p9,0,230):Adr×Int×Int) else bif decide ((999999999:Int)<q.2.2.2.2.2.2.1) then (p9,0,230) else (q.2.2,q.1,0)).2.1,(bif decide (q.2.2.2.2.2.2.1<(-999999999:Int)) then ((p9,0,230):Adr×Int×Int) else bif decide ((999999999:Int)<q.2.2.2.2.2.2.1) then (p9,0,230) else (q.2.2,q.1,0)).2.2,(bif decide (q.2.2.2.2.2.2.1<(-999999999:Int)) then ((p9,0,230):Adr×Int×Int) else bif decide ((999999999:Int)<q.2.2.2.2.2.2.1) then (p9,0,230) else (q.2.2,q.1,0)).1)
  cases decide (q.2.2.2.2.2.2.1<(-999999999:Int)) <;> cases decide ((999999999:Int)<q.2.2.2.2.2.2.1) <;> rfl
theorem ndg {α:Sort _} {c:Int} (h:L8 c=false) (X Y:α):(bif decide ((48:Int)≤c) then (bif decide (c≤(57:Int)) then X else Y) else Y)=Y:=by
 unfold L8 at h
 have h:=of_decide_eq_false h
 by_cases h1:48≤c
 ·rw [decide_eq_true h1,decide_eq_false (by omega)]; rfl
 ·rw [decide_eq_false h1]; rfl
theorem a7t (l:LI) (hl:l.length≤lim):a0P l∧Y8 l=adR l (adM l):=by
 have hlim:lim=1099511627776:=rfl
 -- behind a base
 have go:∀ (r:LI) (a:Adr) (n:Int),r <:+ l→n=(l.length:Int) - r.length→C5 l n p9 a∧((u9 l n p9 a).2.2,(u9 l n p9 a).1,(u9 l n p9 a).2.1)=adR l (adF r a):=by
  intro r a n hr hn
  subst hn
  have:=B1 hr
  exact ⟨show 0≤(l.length:Int) - r.length∧(l.length:Int) - r.length≤l.length∧_ from ⟨by omega,by omega,hl⟩,by rw [e4K hr a]⟩
 cases l with
 | nil=>
  have:=go [] p9 0 (List.suffix_refl _) rfl
  exact ⟨this.1,this.2⟩
 | cons c r=>
  have e0:rd (0:Int) (c::r) 0=c:=rfl
  have hn:decide (0<((c::r).length:Int))=true:=decide_eq_true (by simp only [List.length_cons]; omega)
  have hd:List.drop (Int.toNat (1:Int)) (c::r)=r:=rfl
  have hl2:r.length+1≤lim:=hl
  have hr0:(0:Int)≤0∧(0:Int)<((c::r).length:Int):=by simp only [List.length_cons]; omega
  have hr1:(0:Int)≤1∧(1:Int)≤((c::r).length:Int):=by simp only [List.length_cons]; omega
  have hdl:=R0 (c::r)
  have hnp:a8p (c::r):=⟨rfl,rfl,hl⟩
  have g1:=go r (c,0,0,[],0,true) 1 (List.suffix_cons _ _) (by simp only [List.length_cons]; omega)
  have g0:=go (c::r) p9 0 (List.suffix_refl _) (by omega)
  unfold a0P Y8
  rw [hn]
  simp only [e0,cond_true,hd,c6q,d1J,adM,a5P]
  by_cases cd:L8 c=true
  ·have hd1:=a4y cd
   rw [decide_eq_true hd1.1,decide_eq_true hd1.2,if_pos cd]
   simp only [cond_true]
   have g:=go ((c::r).drop (dgs (c::r))) (110,dv (c::r),0,[],0,true) (dgs (c::r):Int) (List.drop_suffix _ _) (by rw [List.length_drop]; omega)
   by_cases h9:dgs (c::r)≤9
   ·rw [if_pos h9,decide_eq_true h9]
    exact ⟨⟨hr0,hnp,g.1⟩,g.2⟩
   ·rw [if_neg h9,decide_eq_false h9]
    exact ⟨⟨hr0,hnp,trivial⟩,rfl⟩
  ·have cd:L8 c=false:=by simpa using cd
   rw [ndg cd,ndg cd,if_neg (by rw [cd]; simp)]
   by_cases c2:c=46
   ·subst c2
    exact ⟨⟨hr0,g1.1⟩,g1.2⟩
   by_cases c3:c=36
   ·subst c3
    exact ⟨⟨hr0,g1.1⟩,g1.2⟩
   rw [if_neg (show ¬ (c=46∨c=36) by simp [c2,c3]),decide_eq_false c2,decide_eq_false c3]
   by_cases c4:c=39
   ·subst c4
    rw [if_pos rfl]
    cases r with
    | nil=>exact ⟨⟨hr0,trivial⟩,rfl⟩
    | cons n r2=>
     have hq:decide ((((39:Int)::n::r2).length:Int)=1)=false:=decide_eq_false (by simp only [List.length_cons]; omega)
     have g:=go r2 (39,0,n,[],0,true) 2 ((List.suffix_cons _ _).trans (List.suffix_cons _ _)) (by simp only [List.length_cons]; omega)
     rw [hq]
     exact ⟨⟨hr0,show (0:Int)≤1∧(1:Int)<(((39:Int)::n::r2).length:Int) from by simp only [List.length_cons]; omega,g.1⟩,g.2⟩
   rw [if_neg c4,decide_eq_false c4]
   -- what is sought
   have so:c≠92→(((0:Int)≤1∧(1:Int)≤((c::r).length:Int))∧(a2G r c∧(a0r (F3 r c).1 c∧(bif !(who (F3 r c).1 c) then True else C5 (c::r) (IntKind.wrap .i64 (1+(F3 r c).2)) p9 (c,0,0,(F3 r c).1,0,true)))))∧
     (bif !(who (F3 r c).1 c) then ((p9,0,230):Adr×Int×Int) else ((u9 (c::r) (IntKind.wrap .i64 (1+(F3 r c).2)) p9 (c,0,0,(F3 r c).1,0,true)).2.2,(u9 (c::r) (IntKind.wrap .i64 (1+(F3 r c).2)) p9 (c,0,0,(F3 r c).1,0,true)).1,(u9 (c::r) (IntKind.wrap .i64 (1+(F3 r c).2)) p9 (c,0,0,(F3 r c).1,0,true)).2.1)) =
     adR (c::r) (match (if clo r c=r.length∧alo r=true then .inr 230 else .inl ((c,0,0,r.take (clo r c),0,true),r.drop (clo r c+1)):Rd Adr) with | .inr e=>.inr e | .inl (a,r)=>adF r a):=by
    intro hc
    obtain ⟨sp,sf⟩:=c3L r c (by omega)
    rw [b47 hc] at sf
    have hw:=b1v hc r
    have hcl:=a1Y r c
    have g:=go (r.drop (clo r c+1)) (c,0,0,r.take (clo r c),0,true) (1+((r.length:Int) - ((r.drop (clo r c+1)).length:Int))) ((List.drop_suffix _ _).trans (List.suffix_cons _ _)) (by simp only [List.length_cons]; omega)
    rw [sf]
    dsimp only
    rw [hw]
    have hwp:a0r (r.take (clo r c)) c:=⟨rfl,by rw [List.length_take]; omega⟩
    rw [wrap_i64 (by rw [List.length_drop]; omega) (by rw [List.length_drop]; omega)]
    by_cases h1:clo r c=r.length∧alo r=true
    ·rw [if_pos h1,decide_eq_true h1.1,h1.2]
     exact ⟨⟨hr1,sp,hwp,trivial⟩,rfl⟩
    ·rw [if_neg h1]
     have:(decide (clo r c=r.length) && alo r)=false:=by
      cases h2:alo r
      ·simp
      ·simp only [Bool.and_true]; exact decide_eq_false (fun h=>h1 ⟨h,h2⟩)
     rw [this]
     exact ⟨⟨hr1,sp,hwp,g.1⟩,g.2⟩
   by_cases c5:c=47
   ·subst c5
    rw [if_pos (show ((47:Int)=47∨(47:Int)=63) from .inl rfl)]
    have:=so (by decide)
    exact ⟨⟨hr0,this.1⟩,this.2⟩
   by_cases c6:c=63
   ·subst c6
    rw [if_pos (show ((63:Int)=47∨(63:Int)=63) from .inr rfl)]
    have:=so (by decide)
    exact ⟨⟨hr0,this.1⟩,this.2⟩
   rw [if_neg (show ¬ (c=47∨c=63) by simp [c5,c6]),decide_eq_false c5,decide_eq_false c6]
   exact ⟨⟨hr0,g0.1⟩,g0.2⟩
end Go.VE
namespace Go.VE
set_option maxRecDepth 20000
open Go Go.Proofs
def c8C:List (Nat×App):=[]
theorem c1I:GOk Tryz.prog (j8 c8C):=GOk.nil
theorem c8H:o8 (g6 Tryz.f33)=true:=by kernel_rfl
def U1:List LS:=[.v 0 yB,.v 1 yI]
def a6S:List LS:=[.v 1 yI]
def b4b:DX:=⟨none,none,[(0,a6S)]⟩
def b0K (k:Ex→St→Prop) (at1:Int):Prop:=wfD a6S (at1,())→k (.exit 0) (mkD 26 a6S (at1,()))
def b4a (Y:LI→Int→Prop) (kx0:Int→Prop) (s0:LI) (at1:Int):Prop:=
 bif (decide (at1<(List.length s0:Int))) then
 bif decide (0≤at1∧at1<(List.length s0:Int)) then
 bif (decide ((rd (0:Int) s0 at1)=(32:Int))) then
 Y s0 (IntKind.wrap .i64 (at1+(1:Int)))
 else
 bif decide (0≤at1∧at1<(List.length s0:Int)) then
 bif (decide ((rd (0:Int) s0 at1)=(9:Int))) then
 Y s0 (IntKind.wrap .i64 (at1+(1:Int)))
 else
 kx0 at1
 else False
 else False
 else
 kx0 at1
def b0J (kx0:Int→Prop):Nat→LI→Int→Prop
 | 0,_,_=>False
 | n+1,s0,at1=>wfD U1 (s0,at1,())→b4a (b0J kx0 n) kx0 s0 at1
def c8E:Pce:=ex tb (j8 c8C) [] (at' (g6 Tryz.f33) [0,0,0,1]) [0,0,0,1]
def c8F (k:Ex→St→Prop) (n:Nat) (v:l6 U1):Prop:=b0J (b0K k) n v.1 v.2.1
theorem e1f (k:Ex→St→Prop) (Y:l6 U1→Prop):∀ v:l6 U1,c8E (mkD 26 U1 v) (lpK 26 U1 b4b k Y)=b4a (fun s0 at1=>Y (s0,at1,())) (b0K k) v.1 v.2.1
 | (s0,at1,())=>by kernel_rfl
theorem c8I (k:Ex→St→Prop):∀ (n:Nat) (v:l6 U1),lpD 26 U1 b4b c8E k n v=c8F k n v
 | 0,(s0,at1,())=>rfl
 | n+1,(s0,at1,())=>congrArg (fun Z:Prop=>wfD U1 (s0,at1,())→Z) ((e1f k _ (s0,at1,())).trans (congrArg (fun Y=>b4a Y (b0K k) s0 at1) (funext fun s0=>funext fun at1=>c8I k n (s0,at1,()))))
def c8D:Pce:=fun st k=>ckD 26 U1 st fun v=>wfD U1 v→∃ n,c8F k n v
theorem e1i:j5 Tryz.prog (at' (g6 Tryz.f33) [0,0,1]) c8D:=
 (j5.loop (l3 o0 j9 c1I (g7.nil) (at' (g6 Tryz.f33) [0,0,0,1]) [0,0,0,1] rfl (g9 c8H [0,0,0,1])) 26 U1 b4b).mono fun st k h=>l4 h fun v hv hw=>(hv hw).elim fun n hn=>⟨n,Eq.mpr (c8I k n v) hn⟩
def c8B:q8:=([0,0,1],c8D)::[]
theorem e1e:g7 Tryz.prog (g6 Tryz.f33) c8B:=g7.cons e1i (g7.nil)
def c1J (s0:LI) (at1:Int) (K:Res→List Cell→Prop):Prop:=
 (wfD U1 (s0,at1,())→∃ n,b0J (fun (at1:Int)=>wfD a6S (at1,())→(
 K (.one (.v yI at1)) [])) n s0 at1)
def b6I:List AS:=[.v yB,.v yI]
def C6 (s:LI) (at1:Int):Prop:=0≤at1∧at1≤s.length
def u5 (s:LI) (at1:Int):Int:=at1+(bls (s.drop at1.toNat):Int)
theorem c8G (kx0:Int→Prop) (s:LI) (hs:s.length≤9223372036854775807):∀ (n i:Nat),s.length<n+i→i≤s.length→kx0 ((i+bls (s.drop i):Nat):Int)→b0J kx0 n s (i:Int)
 | 0,i,hn,hi,h=>absurd hn (by omega)
 | n+1,i,hn,hi,h=>by
  intro _
  unfold b4a
  refine brn (fun hlt=>C1 (by omega) ?_) (fun hge=>?_)
  ·have hi':i<s.length:=by omega
   rw [D4 hi',wrap_i64 (by omega) (by omega),show (i:Int)+1=((i+1:Nat):Int) by omega]
   rw [D3 hi',a5N] at h
   have go:(s[i]=32∨s[i]=9)→b0J kx0 n s ((i+1:Nat):Int):=fun hb=>by
    rw [if_pos hb] at h
    exact c8G kx0 s hs n (i+1) (by omega) (by omega) (by rw [show i+1+bls (s.drop (i+1))=i+(bls (s.drop (i+1))+1) by omega]; exact h)
   refine brn (fun h32=>go (.inl h32)) (fun h32=>C1 (by omega) (brn (fun h9=>go (.inr h9)) (fun h9=>?_)))
   rw [if_neg (fun hb=>hb.elim h32 h9)] at h; exact h
  ·rw [List.drop_eq_nil_of_le (by omega)] at h; exact h
theorem e1g (s0:LI) (at1:Int) (K:Res→List Cell→Prop) (hw:wfA b6I (s0,at1,())) (hp:C6 s0 at1) (h:∀ r:Int,r=u5 s0 at1→K (.one (.v yI r)) []):c1J s0 at1 K:=by
 have hs:s0.length≤9223372036854775807:=hw.1.1
 obtain ⟨i,rfl⟩:=Int.eq_ofNat_of_zero_le hp.1
 intro _
 exact ⟨s0.length+1,c8G _ s0 hs _ i (by omega) (by have:=hp.2; omega) (fun _=>h _ (by unfold u5; rw [Int.toNat_natCast]; omega))⟩
def e51 (v:j3 b6I) (K:Res→List Cell→Prop):Prop:=C6 v.1 v.2.1∧∀ r:Int,r=u5 v.1 v.2.1→K (.one (.v yI r)) []
def b6J:App:=specW b6I e51
theorem e1h (K:Res→List Cell→Prop):∀ v:j3 b6I,q7 tb (j8 c8C) c8B Tryz.f33 [true] (mkA b6I v) K=c1J v.1 v.2.1 K
 | (s0,at1,())=>by kernel_rfl
theorem b4c:g8 Tryz.prog 33 b6J:=
 g8.specW (l9 ((l8 o0 j9 c1I (e1e) (f:=33) (fn:=Tryz.f33) (by kernel_rfl) (by kernel_rfl) c8H [true])) fun v K hw h=>(e1h K v).mpr (e1g v.1 v.2.1 K hw h.1 h.2))
def c5I:List (Nat×App):=[(33,b6J),(36,c6W)]
theorem c0w:GOk Tryz.prog (j8 c5I):=GOk.cons b4c (GOk.cons c7c (GOk.nil))
theorem c5L:o8 (g6 Tryz.f32)=true:=by kernel_rfl
def a02:List LS:=[.b 2 16 [],.v 5 yI,.v 7 yI,.b 9 72 [],.c 16 tyX,.c 72 tyX]
def a2b:List LS:=[.b 2 16 [],.v 3 yI,.v 4 yI,.c 16 tyX]
def c0x:DX:=⟨none,some a2b,[]⟩
def d2Q (k:Ex→St→Prop) (x3:Int) (x4:Int) (x2b:tEx):Prop:=wfD a2b (x3,x4,x2b,())→k .ret (mkD 95 a2b (x3,x4,x2b,()))
def a7W (kr:Int→Int→tEx→Prop) (at5:Int) (n7:Int) (x2b:tEx) (x9b:tEx):Prop:=
 bif (!x9b.2.1.2.2.2.2.2) then
 kr (IntKind.wrap .i64 (at5+n7)) (0:Int) (x9b.1,((46:Int),(0:Int),(0:Int),([]:LI),(0:Int),true),x9b.2.2.1,x9b.2.2.2.1,x9b.2.2.2.2.1,x9b.2.2.2.2.2.1,x9b.2.2.2.2.2.2.1,x9b.2.2.2.2.2.2.2.1,x9b.2.2.2.2.2.2.2.2.1,x9b.2.2.2.2.2.2.2.2.2)
 else
 kr (IntKind.wrap .i64 (at5+n7)) (0:Int) x9b
def c5K (k:Ex→St→Prop) (v:l6 a02):Prop:=a7W (d2Q k) v.1 v.2.1 v.2.2.1 v.2.2.2.1
theorem d74 (k:Ex→St→Prop):∀ v:l6 a02,ex tb (j8 c5I) [] (at' (g6 Tryz.f32) [1,1,1,1,1,1,1,1,1,1,1,1,1,1]) [1,1,1,1,1,1,1,1,1,1,1,1,1,1] (mkD 95 a02 v) (wk 95 c0x k)=c5K k v
 | (at5,n7,x2b,x9b,())=>by kernel_rfl
def c5J:Pce:=fun st k=>ckD 95 a02 st fun v=>wfD a02 v→c5K k v
theorem d76:j5 Tryz.prog (at' (g6 Tryz.f32) [1,1,1,1,1,1,1,1,1,1,1,1,1,1]) c5J:=
 (j5.wk (N:=95) (ds:=a02) (dx:=c0x) (l3 o0 j9 c0w (g7.nil) (at' (g6 Tryz.f32) [1,1,1,1,1,1,1,1,1,1,1,1,1,1]) [1,1,1,1,1,1,1,1,1,1,1,1,1,1] rfl (g9 c5L [1,1,1,1,1,1,1,1,1,1,1,1,1,1]))).mono fun st k h=>l4 h fun v hv hw=>Eq.mpr (d74 k v) (hv hw)
def c5H:q8:=([1,1,1,1,1,1,1,1,1,1,1,1,1,1],c5J)::[]
theorem d71:g7 Tryz.prog (g6 Tryz.f32) c5H:=g7.cons d76 (g7.nil)
def c0y (s0:LI) (K:Res→List Cell→Prop):Prop:=
 C6 s0 (0:Int)∧(
 ∀ (r1:Int),r1=u5 s0 (0:Int)→(
 wI r1→(
 bif (decide (r1<(List.length s0:Int))) then
 bif decide (0≤r1∧r1<(List.length s0:Int)) then
 bif (decide ((rd (0:Int) s0 r1)=(37:Int))) then
 K (.tup [.v tyX (zA,zA,true,([]:LI),zA,(0:Int),(0:Int),([]:LI),([]:LI),false),.v yI (IntKind.wrap .i64 (r1+(1:Int))),.v yI (0:Int)]) []
 else
 bif decide (0≤r1∧r1≤(List.length s0:Int)) then
 a0P (List.drop (Int.toNat r1) s0)∧(
 ∀ (r2:tAd×Int×Int),r2=Y8 (List.drop (Int.toNat r1) s0)→(
 wfR (.tup [.v tyA r2.1,.v yI r2.2.1,.v yI r2.2.2])→(
 bif (!decide (r2.2.2=(0:Int))) then
 K (.tup [.v tyX zX,.v yI (0:Int),.v yI r2.2.2]) []
 else
 C6 s0 (IntKind.wrap .i64 (r1+r2.2.1))∧(
 ∀ (r3:Int),r3=u5 s0 (IntKind.wrap .i64 (r1+r2.2.1))→(
 wI r3→(
 bif (decide ((List.length s0:Int)≤r3)) then
 K (.tup [.v tyX (r2.1,zA,false,([]:LI),zA,(0:Int),(0:Int),([]:LI),([]:LI),false),.v yI (IntKind.wrap .i64 (r1+r2.2.1)),.v yI (0:Int)]) []
 else
 bif decide (0≤r3∧r3<(List.length s0:Int)) then
 bif (!decide ((rd (0:Int) s0 r3)=(44:Int))) then
 K (.tup [.v tyX (r2.1,zA,false,([]:LI),zA,(0:Int),(0:Int),([]:LI),([]:LI),false),.v yI (IntKind.wrap .i64 (r1+r2.2.1)),.v yI (0:Int)]) []
 else
 C6 s0 (IntKind.wrap .i64 (r3+(1:Int)))∧(
 ∀ (r4:Int),r4=u5 s0 (IntKind.wrap .i64 (r3+(1:Int)))→(
 wI r4→(
 bif decide (0≤r4∧r4≤(List.length s0:Int)) then
 a0P (List.drop (Int.toNat r4) s0)∧(
 ∀ (r5:tAd×Int×Int),r5=Y8 (List.drop (Int.toNat r4) s0)→(
 wfR (.tup [.v tyA r5.1,.v yI r5.2.1,.v yI r5.2.2])→(
 bif (!decide (r5.2.2=(0:Int))) then
 K (.tup [.v tyX zX,.v yI (0:Int),.v yI r5.2.2]) []
 else
 bif (!r2.1.2.2.2.2.2) then
 (wfD a02 (r4,r5.2.1,zX,(((46:Int),(0:Int),(0:Int),([]:LI),(0:Int),true),r5.1,false,([]:LI),zA,(0:Int),(0:Int),([]:LI),([]:LI),false),())→a7W (fun (x3:Int) (x4:Int) (x2b:tEx)=>wfD a2b (x3,x4,x2b,())→(
 K (.tup [.v tyX x2b,.v yI x3,.v yI x4]) [])) r4 r5.2.1 zX (((46:Int),(0:Int),(0:Int),([]:LI),(0:Int),true),r5.1,false,([]:LI),zA,(0:Int),(0:Int),([]:LI),([]:LI),false))
 else
 (wfD a02 (r4,r5.2.1,zX,(r2.1,r5.1,false,([]:LI),zA,(0:Int),(0:Int),([]:LI),([]:LI),false),())→a7W (fun (x3:Int) (x4:Int) (x2b:tEx)=>wfD a2b (x3,x4,x2b,())→(
 K (.tup [.v tyX x2b,.v yI x3,.v yI x4]) [])) r4 r5.2.1 zX (r2.1,r5.1,false,([]:LI),zA,(0:Int),(0:Int),([]:LI),([]:LI),false)))))
 else False)))
 else False))))))
 else False
 else False
 else
 bif decide (0≤r1∧r1≤(List.length s0:Int)) then
 a0P (List.drop (Int.toNat r1) s0)∧(
 ∀ (r6:tAd×Int×Int),r6=Y8 (List.drop (Int.toNat r1) s0)→(
 wfR (.tup [.v tyA r6.1,.v yI r6.2.1,.v yI r6.2.2])→(
 bif (!decide (r6.2.2=(0:Int))) then
 K (.tup [.v tyX zX,.v yI (0:Int),.v yI r6.2.2]) []
 else
 C6 s0 (IntKind.wrap .i64 (r1+r6.2.1))∧(
 ∀ (r7:Int),r7=u5 s0 (IntKind.wrap .i64 (r1+r6.2.1))→(
 wI r7→(
 bif (decide ((List.length s0:Int)≤r7)) then
 K (.tup [.v tyX (r6.1,zA,false,([]:LI),zA,(0:Int),(0:Int),([]:LI),([]:LI),false),.v yI (IntKind.wrap .i64 (r1+r6.2.1)),.v yI (0:Int)]) []
 else
 bif decide (0≤r7∧r7<(List.length s0:Int)) then
 bif (!decide ((rd (0:Int) s0 r7)=(44:Int))) then
 K (.tup [.v tyX (r6.1,zA,false,([]:LI),zA,(0:Int),(0:Int),([]:LI),([]:LI),false),.v yI (IntKind.wrap .i64 (r1+r6.2.1)),.v yI (0:Int)]) []
 else
 C6 s0 (IntKind.wrap .i64 (r7+(1:Int)))∧(
 ∀ (r8:Int),r8=u5 s0 (IntKind.wrap .i64 (r7+(1:Int)))→(
 wI r8→(
 bif decide (0≤r8∧r8≤(List.length s0:Int)) then
 a0P (List.drop (Int.toNat r8) s0)∧(
 ∀ (r9:tAd×Int×Int),r9=Y8 (List.drop (Int.toNat r8) s0)→(
 wfR (.tup [.v tyA r9.1,.v yI r9.2.1,.v yI r9.2.2])→(
 bif (!decide (r9.2.2=(0:Int))) then
 K (.tup [.v tyX zX,.v yI (0:Int),.v yI r9.2.2]) []
 else
 bif (!r6.1.2.2.2.2.2) then
 (wfD a02 (r8,r9.2.1,zX,(((46:Int),(0:Int),(0:Int),([]:LI),(0:Int),true),r9.1,false,([]:LI),zA,(0:Int),(0:Int),([]:LI),([]:LI),false),())→a7W (fun (x3:Int) (x4:Int) (x2b:tEx)=>wfD a2b (x3,x4,x2b,())→(
 K (.tup [.v tyX x2b,.v yI x3,.v yI x4]) [])) r8 r9.2.1 zX (((46:Int),(0:Int),(0:Int),([]:LI),(0:Int),true),r9.1,false,([]:LI),zA,(0:Int),(0:Int),([]:LI),([]:LI),false))
 else
 (wfD a02 (r8,r9.2.1,zX,(r6.1,r9.1,false,([]:LI),zA,(0:Int),(0:Int),([]:LI),([]:LI),false),())→a7W (fun (x3:Int) (x4:Int) (x2b:tEx)=>wfD a2b (x3,x4,x2b,())→(
 K (.tup [.v tyX x2b,.v yI x3,.v yI x4]) [])) r8 r9.2.1 zX (r6.1,r9.1,false,([]:LI),zA,(0:Int),(0:Int),([]:LI),([]:LI),false)))))
 else False)))
 else False))))))
 else False)))
def b5U:List AS:=[.v yB]
def a0k (at5:Int) (n7:Int) (x2b:tEx) (x9b:tEx):Int×Int×tEx:=
 bif (!x9b.2.1.2.2.2.2.2) then
 ((IntKind.wrap .i64 (at5+n7)),(0:Int),(x9b.1,((46:Int),(0:Int),(0:Int),([]:LI),(0:Int),true),x9b.2.2.1,x9b.2.2.2.1,x9b.2.2.2.2.1,x9b.2.2.2.2.2.1,x9b.2.2.2.2.2.2.1,x9b.2.2.2.2.2.2.2.1,x9b.2.2.2.2.2.2.2.2.1,x9b.2.2.2.2.2.2.2.2.2))
 else
 ((IntKind.wrap .i64 (at5+n7)),(0:Int),x9b)
theorem a4G (kr:Int→Int→tEx→Prop) (at5:Int) (n7:Int) (x2b:tEx) (x9b:tEx) (hr:∀ q:Int×Int×tEx,q=a0k at5 n7 x2b x9b→kr q.1 q.2.1 q.2.2):a7W kr at5 n7 x2b x9b:=
 have h:=hr; br0 h (fun _ h=>h _ rfl)
 fun _ h=>h _ rfl
def b15 (s0:LI):Prop:=
 C6 s0 (0:Int)∧(
 let r1:Int:=u5 s0 (0:Int)
 bif (decide (r1<(List.length s0:Int))) then
 (0≤r1∧r1<(List.length s0:Int))∧(
 bif (decide ((rd (0:Int) s0 r1)=(37:Int))) then
 True
 else
 (0≤r1∧r1≤(List.length s0:Int))∧(
 a0P (List.drop (Int.toNat r1) s0)∧(
 let r2:tAd×Int×Int:=Y8 (List.drop (Int.toNat r1) s0)
 bif (!decide (r2.2.2=(0:Int))) then
 True
 else
 C6 s0 (IntKind.wrap .i64 (r1+r2.2.1))∧(
 let r3:Int:=u5 s0 (IntKind.wrap .i64 (r1+r2.2.1))
 bif (decide ((List.length s0:Int)≤r3)) then
 True
 else
 (0≤r3∧r3<(List.length s0:Int))∧(
 bif (!decide ((rd (0:Int) s0 r3)=(44:Int))) then
 True
 else
 C6 s0 (IntKind.wrap .i64 (r3+(1:Int)))∧(
 let r4:Int:=u5 s0 (IntKind.wrap .i64 (r3+(1:Int)))
 (0≤r4∧r4≤(List.length s0:Int))∧(
 a0P (List.drop (Int.toNat r4) s0))))))))
 else
 (0≤r1∧r1≤(List.length s0:Int))∧(
 a0P (List.drop (Int.toNat r1) s0)∧(
 let r6:tAd×Int×Int:=Y8 (List.drop (Int.toNat r1) s0)
 bif (!decide (r6.2.2=(0:Int))) then
 True
 else
 C6 s0 (IntKind.wrap .i64 (r1+r6.2.1))∧(
 let r7:Int:=u5 s0 (IntKind.wrap .i64 (r1+r6.2.1))
 bif (decide ((List.length s0:Int)≤r7)) then
 True
 else
 (0≤r7∧r7<(List.length s0:Int))∧(
 bif (!decide ((rd (0:Int) s0 r7)=(44:Int))) then
 True
 else
 C6 s0 (IntKind.wrap .i64 (r7+(1:Int)))∧(
 let r8:Int:=u5 s0 (IntKind.wrap .i64 (r7+(1:Int)))
 (0≤r8∧r8≤(List.length s0:Int))∧(
 a0P (List.drop (Int.toNat r8) s0))))))))
def a96 (s0:LI):tEx×Int×Int:=
 let r1:Int:=u5 s0 (0:Int)
 bif (decide (r1<(List.length s0:Int))) then
 bif (decide ((rd (0:Int) s0 r1)=(37:Int))) then
 ((zA,zA,true,([]:LI),zA,(0:Int),(0:Int),([]:LI),([]:LI),false),(IntKind.wrap .i64 (r1+(1:Int))),(0:Int))
 else
 let r2:tAd×Int×Int:=Y8 (List.drop (Int.toNat r1) s0)
 bif (!decide (r2.2.2=(0:Int))) then
 (zX,(0:Int),r2.2.2)
 else
 let r3:Int:=u5 s0 (IntKind.wrap .i64 (r1+r2.2.1))
 bif (decide ((List.length s0:Int)≤r3)) then
 ((r2.1,zA,false,([]:LI),zA,(0:Int),(0:Int),([]:LI),([]:LI),false),(IntKind.wrap .i64 (r1+r2.2.1)),(0:Int))
 else
 bif (!decide ((rd (0:Int) s0 r3)=(44:Int))) then
 ((r2.1,zA,false,([]:LI),zA,(0:Int),(0:Int),([]:LI),([]:LI),false),(IntKind.wrap .i64 (r1+r2.2.1)),(0:Int))
 else
 let r4:Int:=u5 s0 (IntKind.wrap .i64 (r3+(1:Int)))
 let r5:tAd×Int×Int:=Y8 (List.drop (Int.toNat r4) s0)
 bif (!decide (r5.2.2=(0:Int))) then
 (zX,(0:Int),r5.2.2)
 else
 bif (!r2.1.2.2.2.2.2) then
 let q0r:Int×Int×tEx:=a0k r4 r5.2.1 zX (((46:Int),(0:Int),(0:Int),([]:LI),(0:Int),true),r5.1,false,([]:LI),zA,(0:Int),(0:Int),([]:LI),([]:LI),false)
 let x3:Int:=q0r.1
 let x4:Int:=q0r.2.1
 let x2b:tEx:=q0r.2.2
 (x2b,x3,x4)
 else
 let q0r:Int×Int×tEx:=a0k r4 r5.2.1 zX (r2.1,r5.1,false,([]:LI),zA,(0:Int),(0:Int),([]:LI),([]:LI),false)
 let x3:Int:=q0r.1
 let x4:Int:=q0r.2.1
 let x2b:tEx:=q0r.2.2
 (x2b,x3,x4)
 else
 let r6:tAd×Int×Int:=Y8 (List.drop (Int.toNat r1) s0)
 bif (!decide (r6.2.2=(0:Int))) then
 (zX,(0:Int),r6.2.2)
 else
 let r7:Int:=u5 s0 (IntKind.wrap .i64 (r1+r6.2.1))
 bif (decide ((List.length s0:Int)≤r7)) then
 ((r6.1,zA,false,([]:LI),zA,(0:Int),(0:Int),([]:LI),([]:LI),false),(IntKind.wrap .i64 (r1+r6.2.1)),(0:Int))
 else
 bif (!decide ((rd (0:Int) s0 r7)=(44:Int))) then
 ((r6.1,zA,false,([]:LI),zA,(0:Int),(0:Int),([]:LI),([]:LI),false),(IntKind.wrap .i64 (r1+r6.2.1)),(0:Int))
 else
 let r8:Int:=u5 s0 (IntKind.wrap .i64 (r7+(1:Int)))
 let r9:tAd×Int×Int:=Y8 (List.drop (Int.toNat r8) s0)
 bif (!decide (r9.2.2=(0:Int))) then
 (zX,(0:Int),r9.2.2)
 else
 bif (!r6.1.2.2.2.2.2) then
 let q0r:Int×Int×tEx:=a0k r8 r9.2.1 zX (((46:Int),(0:Int),(0:Int),([]:LI),(0:Int),true),r9.1,false,([]:LI),zA,(0:Int),(0:Int),([]:LI),([]:LI),false)
 let x3:Int:=q0r.1
 let x4:Int:=q0r.2.1
 let x2b:tEx:=q0r.2.2
 (x2b,x3,x4)
 else
 let q0r:Int×Int×tEx:=a0k r8 r9.2.1 zX (r6.1,r9.1,false,([]:LI),zA,(0:Int),(0:Int),([]:LI),([]:LI),false)
 let x3:Int:=q0r.1
 let x4:Int:=q0r.2.1
 let x2b:tEx:=q0r.2.2
 (x2b,x3,x4)
theorem d73 (s0:LI) (K:Res→List Cell→Prop) (_:wfA b5U (s0,())) (hp:b15 s0) (h:∀ r:tEx×Int×Int,r=a96 s0→K (.tup [.v tyX r.1,.v yI r.2.1,.v yI r.2.2]) []):c0y s0 K:=
 an1 hp fun hp=>al (br1 hp h (fun _ hp h=>as1 hp fun hp=>br1 hp h (fun _ hp h=>h _ rfl)
 fun _ hp h=>as1 hp fun hp=>an1 hp fun hp=>al (br1 hp h (fun _ hp h=>h _ rfl)
 fun _ hp h=>an1 hp fun hp=>al (br1 hp h (fun _ hp h=>h _ rfl)
 fun _ hp h=>as1 hp fun hp=>br1 hp h (fun _ hp h=>h _ rfl)
 fun _ hp h=>an1 hp fun hp=>al (as1 hp fun hp=>⟨hp,al (br0 h (fun _ h=>h _ rfl)
 fun _ h=>br0 h (fun _ h=>fun _=>a4G _ _ _ _ _ (al (h _ rfl)))
 fun _ h=>fun _=>a4G _ _ _ _ _ (al (h _ rfl)))⟩))))
 fun _ hp h=>as1 hp fun hp=>an1 hp fun hp=>al (br1 hp h (fun _ hp h=>h _ rfl)
 fun _ hp h=>an1 hp fun hp=>al (br1 hp h (fun _ hp h=>h _ rfl)
 fun _ hp h=>as1 hp fun hp=>br1 hp h (fun _ hp h=>h _ rfl)
 fun _ hp h=>an1 hp fun hp=>al (as1 hp fun hp=>⟨hp,al (br0 h (fun _ h=>h _ rfl)
 fun _ h=>br0 h (fun _ h=>fun _=>a4G _ _ _ _ _ (al (h _ rfl)))
 fun _ h=>fun _=>a4G _ _ _ _ _ (al (h _ rfl)))⟩))))
def e46 (v:j3 b5U) (K:Res→List Cell→Prop):Prop:=b15 v.1∧∀ r:tEx×Int×Int,r=a96 v.1→K (.tup [.v tyX r.1,.v yI r.2.1,.v yI r.2.2]) []
def d5d:App:=specW b5U e46
theorem d75 (K:Res→List Cell→Prop):∀ v:j3 b5U,q7 tb (j8 c5I) c5H Tryz.f32 [true,true,true] (mkA b5U v) K=c0y v.1 K
 | (s0,())=>by kernel_rfl
theorem d72:g8 Tryz.prog 32 d5d:=
 g8.specW (l9 ((l8 o0 j9 c0w (d71) (f:=32) (fn:=Tryz.f32) (by kernel_rfl) (by kernel_rfl) c5L [true,true,true])) fun v K hw h=>(d75 K v).mpr (d73 v.1 K hw h.1 h.2))
def d5I:List (Nat×App):=[]
theorem d3g:GOk Tryz.prog (j8 d5I):=GOk.nil
def c1f  (K:Res→List Cell→Prop):Prop:=
 K (.one (.fr 9 .str ([([112,117,33]:LI),([112,117]:LI),([99,111]:LI),([106,33]:LI),([100]:LI),([121]:LI),([106]:LI),([116]:LI),([109]:LI),([115]:LI)]:List (LI)))) []
def b6p:List AS:=[]
def a2I:List (LI):=
 ([([112,117,33]:LI),([112,117]:LI),([99,111]:LI),([106,33]:LI),([100]:LI),([121]:LI),([106]:LI),([116]:LI),([109]:LI),([115]:LI)]:List (LI))
theorem d9U  (K:Res→List Cell→Prop) (_:wfA b6p ()) (h:∀ r:List (LI),r=a2I→K (.one (.fr 9 .str r)) []):c1f  K:=
 h _ rfl
def e5E (v:j3 b6p) (K:Res→List Cell→Prop):Prop:=∀ r:List (LI),r=a2I→K (.one (.fr 9 .str r)) []
def d5J:App:=specW b6p e5E
theorem d9V (K:Res→List Cell→Prop):∀ v:j3 b6p,q7 tb (j8 d5I) [] Tryz.f73 [true] (mkA b6p v) K=c1f  K
 | ()=>by kernel_rfl
theorem d9T:g8 Tryz.prog 73 d5J:=
 g8.specW (l9 ((l8 o0 j9 d3g (g7.nil) (f:=73) (fn:=Tryz.f73) (by kernel_rfl) (by kernel_rfl) (by kernel_rfl) [true])) fun v K hw h=>(d9V K v).mpr (d9U  K hw h))
def c1g:List (Nat×App):=[(73,d5J)]
theorem b3K:GOk Tryz.prog (j8 c1g):=GOk.cons d9T (GOk.nil)
theorem b8F:o8 (g6 Tryz.f34)=true:=by kernel_rfl
def P9:List LS:=[.v 0 yB,.v 4 yI]
def a3n:List LS:=[.v 0 yB,.v 4 yI]
def b3N:DX:=⟨none,none,[(0,a3n)]⟩
def b0x (k:Ex→St→Prop) (s0:LI) (n4:Int):Prop:=wfD a3n (s0,n4,())→k (.exit 0) (mkD 81 a3n (s0,n4,()))
def b3L (Y:LI→Int→Prop) (kx0:LI→Int→Prop) (s0:LI) (n4:Int):Prop:=
 bif (decide (n4<(List.length s0:Int))) then
 bif decide (0≤n4∧n4<(List.length s0:Int)) then
 bif decide (0≤(0:Int)∧(0:Int)<(List.length s0:Int)) then
 bif (decide ((rd (0:Int) s0 n4)=(rd (0:Int) s0 (0:Int)))) then
 Y s0 (IntKind.wrap .i64 (n4+(1:Int)))
 else
 kx0 s0 n4
 else False
 else False
 else
 kx0 s0 n4
def a72 (kx0:LI→Int→Prop):Nat→LI→Int→Prop
 | 0,_,_=>False
 | n+1,s0,n4=>wfD P9 (s0,n4,())→b3L (a72 kx0 n) kx0 s0 n4
def c7r:Pce:=ex tb (j8 c1g) [] (at' (g6 Tryz.f34) [0,0,0,1,0,1,0,1]) [0,0,0,1,0,1,0,1]
def c7t (k:Ex→St→Prop) (n:Nat) (v:l6 P9):Prop:=a72 (b0x k) n v.1 v.2.1
theorem d9Y (k:Ex→St→Prop) (Y:l6 P9→Prop):∀ v:l6 P9,c7r (mkD 81 P9 v) (lpK 81 P9 b3N k Y)=b3L (fun s0 n4=>Y (s0,n4,())) (b0x k) v.1 v.2.1
 | (s0,n4,())=>by kernel_rfl
theorem c7w (k:Ex→St→Prop):∀ (n:Nat) (v:l6 P9),lpD 81 P9 b3N c7r k n v=c7t k n v
 | 0,(s0,n4,())=>rfl
 | n+1,(s0,n4,())=>congrArg (fun Z:Prop=>wfD P9 (s0,n4,())→Z) ((d9Y k _ (s0,n4,())).trans (congrArg (fun Y=>b3L Y (b0x k) s0 n4) (funext fun s0=>funext fun n4=>c7w k n (s0,n4,()))))
def c7o:Pce:=fun st k=>ckD 81 P9 st fun v=>wfD P9 v→∃ n,c7t k n v
theorem d92:j5 Tryz.prog (at' (g6 Tryz.f34) [0,0,1,0,1,0,1]) c7o:=
 (j5.loop (l3 o0 j9 b3K (g7.nil) (at' (g6 Tryz.f34) [0,0,0,1,0,1,0,1]) [0,0,0,1,0,1,0,1] rfl (g9 b8F [0,0,0,1,0,1,0,1])) 81 P9 b3N).mono fun st k h=>l4 h fun v hv hw=>(hv hw).elim fun n hn=>⟨n,Eq.mpr (c7w k n v) hn⟩
def b8D:q8:=([0,0,1,0,1,0,1],c7o)::[]
theorem c7q:g7 Tryz.prog (g6 Tryz.f34) b8D:=g7.cons d92 (g7.nil)
def Q0:List LS:=[.v 0 yB,.o 5 45 9 .str,.v 6 yI]
def a6x:List LS:=[.v 2 .str,.v 3 yI]
def a3o:List LS:=[]
def b3O:DX:=⟨none,some a6x,[(2,a3o)]⟩
def b3P (k:Ex→St→Prop) (x2:LI) (x3:Int):Prop:=wfD a6x (x2,x3,())→k .ret (mkD 81 a6x (x2,x3,()))
def b0y (k:Ex→St→Prop):Prop:=wfD a3o ()→k (.exit 2) (mkD 81 a3o ())
def b3M (Y:LI→List (LI)→Int→Prop) (kr:LI→Int→Prop) (kx2:Prop) (s0:LI) (l5:List (LI)) (i6:Int):Prop:=
 bif (decide (i6<(List.length l5:Int))) then
 bif decide (0≤i6∧i6<(List.length l5:Int)) then
 bif (decide ((List.length (rd ([]:LI) l5 i6):Int)≤(List.length s0:Int))) then
 (
 bif decide (0≤i6∧i6<(List.length l5:Int)) then
 (
 bif decide (0≤(List.length (rd ([]:LI) l5 i6):Int)∧(List.length (rd ([]:LI) l5 i6):Int)≤(List.length s0:Int)) then
 bif decide (0≤i6∧i6<(List.length l5:Int)) then
 bif (decide ((List.take (Int.toNat (List.length (rd ([]:LI) l5 i6):Int)) s0)=(rd ([]:LI) l5 i6))) then
 (
 bif decide (0≤i6∧i6<(List.length l5:Int)) then
 (
 bif decide (0≤i6∧i6<(List.length l5:Int)) then
 kr (rd ([]:LI) l5 i6) (List.length (rd ([]:LI) l5 i6):Int)
 else False)∧(
 bif decide (0≤i6∧i6<(List.length l5:Int)) then
 (
 kr (rd ([]:LI) l5 i6) (List.length (rd ([]:LI) l5 i6):Int))∧(
 kr (rd ([]:LI) l5 i6) (List.length (rd ([]:LI) l5 i6):Int))∧True
 else False)∧True
 else False)∧(
 bif decide (0≤i6∧i6<(List.length l5:Int)) then
 (
 bif decide (0≤i6∧i6<(List.length l5:Int)) then
 (
 kr (rd ([]:LI) l5 i6) (List.length (rd ([]:LI) l5 i6):Int))∧(
 kr (rd ([]:LI) l5 i6) (List.length (rd ([]:LI) l5 i6):Int))∧True
 else False)∧(
 bif decide (0≤i6∧i6<(List.length l5:Int)) then
 kr (rd ([]:LI) l5 i6) (List.length (rd ([]:LI) l5 i6):Int)
 else False)∧True
 else False)∧True
 else
 Y s0 l5 (IntKind.wrap .i64 (i6+(1:Int)))
 else False
 else False)∧(
 bif decide (0≤i6∧i6<(List.length l5:Int)) then
 (
 bif decide (0≤(List.length (rd ([]:LI) l5 i6):Int)∧(List.length (rd ([]:LI) l5 i6):Int)≤(List.length s0:Int)) then
 bif (decide ((List.take (Int.toNat (List.length (rd ([]:LI) l5 i6):Int)) s0)=(rd ([]:LI) l5 i6))) then
 (
 bif decide (0≤i6∧i6<(List.length l5:Int)) then
 (
 bif decide (0≤i6∧i6<(List.length l5:Int)) then
 kr (rd ([]:LI) l5 i6) (List.length (rd ([]:LI) l5 i6):Int)
 else False)∧(
 bif decide (0≤i6∧i6<(List.length l5:Int)) then
 (
 kr (rd ([]:LI) l5 i6) (List.length (rd ([]:LI) l5 i6):Int))∧(
 kr (rd ([]:LI) l5 i6) (List.length (rd ([]:LI) l5 i6):Int))∧True
 else False)∧True
 else False)∧(
 bif decide (0≤i6∧i6<(List.length l5:Int)) then
 (
 bif decide (0≤i6∧i6<(List.length l5:Int)) then
 (
 kr (rd ([]:LI) l5 i6) (List.length (rd ([]:LI) l5 i6):Int))∧(
 kr (rd ([]:LI) l5 i6) (List.length (rd ([]:LI) l5 i6):Int))∧True
 else False)∧(
 bif decide (0≤i6∧i6<(List.length l5:Int)) then
 kr (rd ([]:LI) l5 i6) (List.length (rd ([]:LI) l5 i6):Int)
 else False)∧True
 else False)∧True
 else
 Y s0 l5 (IntKind.wrap .i64 (i6+(1:Int)))
 else False)∧(
 bif decide (0≤(List.length (rd ([]:LI) l5 i6):Int)∧(List.length (rd ([]:LI) l5 i6):Int)≤(List.length s0:Int)) then
 bif (decide ((List.take (Int.toNat (List.length (rd ([]:LI) l5 i6):Int)) s0)=(rd ([]:LI) l5 i6))) then
 (
 bif decide (0≤i6∧i6<(List.length l5:Int)) then
 (
 bif decide (0≤i6∧i6<(List.length l5:Int)) then
 kr (rd ([]:LI) l5 i6) (List.length (rd ([]:LI) l5 i6):Int)
 else False)∧(
 bif decide (0≤i6∧i6<(List.length l5:Int)) then
 (
 kr (rd ([]:LI) l5 i6) (List.length (rd ([]:LI) l5 i6):Int))∧(
 kr (rd ([]:LI) l5 i6) (List.length (rd ([]:LI) l5 i6):Int))∧True
 else False)∧True
 else False)∧(
 bif decide (0≤i6∧i6<(List.length l5:Int)) then
 (
 bif decide (0≤i6∧i6<(List.length l5:Int)) then
 (
 kr (rd ([]:LI) l5 i6) (List.length (rd ([]:LI) l5 i6):Int))∧(
 kr (rd ([]:LI) l5 i6) (List.length (rd ([]:LI) l5 i6):Int))∧True
 else False)∧(
 bif decide (0≤i6∧i6<(List.length l5:Int)) then
 kr (rd ([]:LI) l5 i6) (List.length (rd ([]:LI) l5 i6):Int)
 else False)∧True
 else False)∧True
 else
 Y s0 l5 (IntKind.wrap .i64 (i6+(1:Int)))
 else False)∧True
 else False)∧True
 else False)∧(
 bif decide (0≤i6∧i6<(List.length l5:Int)) then
 (
 bif decide (0≤i6∧i6<(List.length l5:Int)) then
 (
 bif decide (0≤(List.length (rd ([]:LI) l5 i6):Int)∧(List.length (rd ([]:LI) l5 i6):Int)≤(List.length s0:Int)) then
 bif (decide ((List.take (Int.toNat (List.length (rd ([]:LI) l5 i6):Int)) s0)=(rd ([]:LI) l5 i6))) then
 (
 bif decide (0≤i6∧i6<(List.length l5:Int)) then
 (
 bif decide (0≤i6∧i6<(List.length l5:Int)) then
 kr (rd ([]:LI) l5 i6) (List.length (rd ([]:LI) l5 i6):Int)
 else False)∧(
 bif decide (0≤i6∧i6<(List.length l5:Int)) then
 (
 kr (rd ([]:LI) l5 i6) (List.length (rd ([]:LI) l5 i6):Int))∧(
 kr (rd ([]:LI) l5 i6) (List.length (rd ([]:LI) l5 i6):Int))∧True
 else False)∧True
 else False)∧(
 bif decide (0≤i6∧i6<(List.length l5:Int)) then
 (
 bif decide (0≤i6∧i6<(List.length l5:Int)) then
 (
 kr (rd ([]:LI) l5 i6) (List.length (rd ([]:LI) l5 i6):Int))∧(
 kr (rd ([]:LI) l5 i6) (List.length (rd ([]:LI) l5 i6):Int))∧True
 else False)∧(
 bif decide (0≤i6∧i6<(List.length l5:Int)) then
 kr (rd ([]:LI) l5 i6) (List.length (rd ([]:LI) l5 i6):Int)
 else False)∧True
 else False)∧True
 else
 Y s0 l5 (IntKind.wrap .i64 (i6+(1:Int)))
 else False)∧(
 bif decide (0≤(List.length (rd ([]:LI) l5 i6):Int)∧(List.length (rd ([]:LI) l5 i6):Int)≤(List.length s0:Int)) then
 bif (decide ((List.take (Int.toNat (List.length (rd ([]:LI) l5 i6):Int)) s0)=(rd ([]:LI) l5 i6))) then
 (
 bif decide (0≤i6∧i6<(List.length l5:Int)) then
 (
 bif decide (0≤i6∧i6<(List.length l5:Int)) then
 kr (rd ([]:LI) l5 i6) (List.length (rd ([]:LI) l5 i6):Int)
 else False)∧(
 bif decide (0≤i6∧i6<(List.length l5:Int)) then
 (
 kr (rd ([]:LI) l5 i6) (List.length (rd ([]:LI) l5 i6):Int))∧(
 kr (rd ([]:LI) l5 i6) (List.length (rd ([]:LI) l5 i6):Int))∧True
 else False)∧True
 else False)∧(
 bif decide (0≤i6∧i6<(List.length l5:Int)) then
 (
 bif decide (0≤i6∧i6<(List.length l5:Int)) then
 (
 kr (rd ([]:LI) l5 i6) (List.length (rd ([]:LI) l5 i6):Int))∧(
 kr (rd ([]:LI) l5 i6) (List.length (rd ([]:LI) l5 i6):Int))∧True
 else False)∧(
 bif decide (0≤i6∧i6<(List.length l5:Int)) then
 kr (rd ([]:LI) l5 i6) (List.length (rd ([]:LI) l5 i6):Int)
 else False)∧True
 else False)∧True
 else
 Y s0 l5 (IntKind.wrap .i64 (i6+(1:Int)))
 else False)∧True
 else False)∧(
 bif decide (0≤i6∧i6<(List.length l5:Int)) then
 bif decide (0≤(List.length (rd ([]:LI) l5 i6):Int)∧(List.length (rd ([]:LI) l5 i6):Int)≤(List.length s0:Int)) then
 bif (decide ((List.take (Int.toNat (List.length (rd ([]:LI) l5 i6):Int)) s0)=(rd ([]:LI) l5 i6))) then
 (
 bif decide (0≤i6∧i6<(List.length l5:Int)) then
 (
 bif decide (0≤i6∧i6<(List.length l5:Int)) then
 kr (rd ([]:LI) l5 i6) (List.length (rd ([]:LI) l5 i6):Int)
 else False)∧(
 bif decide (0≤i6∧i6<(List.length l5:Int)) then
 (
 kr (rd ([]:LI) l5 i6) (List.length (rd ([]:LI) l5 i6):Int))∧(
 kr (rd ([]:LI) l5 i6) (List.length (rd ([]:LI) l5 i6):Int))∧True
 else False)∧True
 else False)∧(
 bif decide (0≤i6∧i6<(List.length l5:Int)) then
 (
 bif decide (0≤i6∧i6<(List.length l5:Int)) then
 (
 kr (rd ([]:LI) l5 i6) (List.length (rd ([]:LI) l5 i6):Int))∧(
 kr (rd ([]:LI) l5 i6) (List.length (rd ([]:LI) l5 i6):Int))∧True
 else False)∧(
 bif decide (0≤i6∧i6<(List.length l5:Int)) then
 kr (rd ([]:LI) l5 i6) (List.length (rd ([]:LI) l5 i6):Int)
 else False)∧True
 else False)∧True
 else
 Y s0 l5 (IntKind.wrap .i64 (i6+(1:Int)))
 else False
 else False)∧True
 else False)∧True
 else
 Y s0 l5 (IntKind.wrap .i64 (i6+(1:Int)))
 else False
 else
 kx2
def a73 (kr:LI→Int→Prop) (kx2:Prop):Nat→LI→List (LI)→Int→Prop
 | 0,_,_,_=>False
 | n+1,s0,l5,i6=>wfD Q0 (s0,l5,i6,())→b3M (a73 kr kx2 n) kr kx2 s0 l5 i6
def c7s:Pce:=ex tb (j8 c1g) b8D (at' (g6 Tryz.f34) [0,0,1,0,1,1,1]) [0,0,1,0,1,1,1]
def c7u (k:Ex→St→Prop) (n:Nat) (v:l6 Q0):Prop:=a73 (b3P k) (b0y k) n v.1 v.2.1 v.2.2.1
theorem d9Z (k:Ex→St→Prop) (Y:l6 Q0→Prop):∀ v:l6 Q0,c7s (mkD 81 Q0 v) (lpK 81 Q0 b3O k Y)=b3M (fun s0 l5 i6=>Y (s0,l5,i6,())) (b3P k) (b0y k) v.1 v.2.1 v.2.2.1
 | (s0,l5,i6,())=>by kernel_rfl
theorem c7x (k:Ex→St→Prop):∀ (n:Nat) (v:l6 Q0),lpD 81 Q0 b3O c7s k n v=c7u k n v
 | 0,(s0,l5,i6,())=>rfl
 | n+1,(s0,l5,i6,())=>congrArg (fun Z:Prop=>wfD Q0 (s0,l5,i6,())→Z) ((d9Z k _ (s0,l5,i6,())).trans (congrArg (fun Y=>b3M Y (b3P k) (b0y k) s0 l5 i6) (funext fun s0=>funext fun l5=>funext fun i6=>c7x k n (s0,l5,i6,()))))
def c7p:Pce:=fun st k=>ckD 81 Q0 st fun v=>wfD Q0 v→∃ n,c7u k n v
theorem d93:j5 Tryz.prog (at' (g6 Tryz.f34) [0,1,0,1,1,1]) c7p:=
 (j5.loop (l3 o0 j9 b3K (c7q) (at' (g6 Tryz.f34) [0,0,1,0,1,1,1]) [0,0,1,0,1,1,1] rfl (g9 b8F [0,0,1,0,1,1,1])) 81 Q0 b3O).mono fun st k h=>l4 h fun v hv hw=>(hv hw).elim fun n hn=>⟨n,Eq.mpr (c7x k n v) hn⟩
def c7n:q8:=([0,1,0,1,1,1],c7p)::b8D
theorem d9W:g7 Tryz.prog (g6 Tryz.f34) c7n:=g7.cons d93 (c7q)
def c1h (s0:LI) (K:Res→List Cell→Prop):Prop:=
 bif (decide ((0:Int)<(List.length s0:Int))) then
 bif decide (0≤(0:Int)∧(0:Int)<(List.length s0:Int)) then
 bif (decide ((rd (0:Int) s0 (0:Int))=(62:Int))) then
 (wfD P9 (s0,(0:Int),())→∃ n,a72 (fun (s0:LI) (n4:Int)=>wfD a3n (s0,n4,())→(
 bif decide (0≤(1:Int)∧(1:Int)≤(List.length s0:Int)) then
 K (.tup [.v .str (List.take (Int.toNat (1:Int)) s0),.v yI n4]) []
 else False)) n s0 (0:Int))
 else
 bif decide (0≤(0:Int)∧(0:Int)<(List.length s0:Int)) then
 bif (decide ((rd (0:Int) s0 (0:Int))=(60:Int))) then
 (wfD P9 (s0,(0:Int),())→∃ n,a72 (fun (s0:LI) (n4:Int)=>wfD a3n (s0,n4,())→(
 bif decide (0≤(1:Int)∧(1:Int)≤(List.length s0:Int)) then
 K (.tup [.v .str (List.take (Int.toNat (1:Int)) s0),.v yI n4]) []
 else False)) n s0 (0:Int))
 else
 ∀ (r1:List (LI)),r1=a2I→(
 wfR (.one (.fr 9 .str r1))→(
 (wfD Q0 (s0,r1,(0:Int),())→∃ n,a73 (fun (x2:LI) (x3:Int)=>wfD a6x (x2,x3,())→(
 K (.tup [.v .str x2,.v yI x3]) [])) (wfD a3o ()→(
 K (.tup [.v .str ([]:LI),.v yI (0:Int)]) [])) n s0 r1 (0:Int))))
 else False
 else False
 else
 ∀ (r2:List (LI)),r2=a2I→(
 wfR (.one (.fr 9 .str r2))→(
 (wfD Q0 (s0,r2,(0:Int),())→∃ n,a73 (fun (x2:LI) (x3:Int)=>wfD a6x (x2,x3,())→(
 K (.tup [.v .str x2,.v yI x3]) [])) (wfD a3o ()→(
 K (.tup [.v .str ([]:LI),.v yI (0:Int)]) [])) n s0 r2 (0:Int))))
def b6q:List AS:=[.v yB]
def a6v (s:LI) (i:Int):Prop:=i=0∧0<s.length∧s.length≤lim
def a0u (s:LI) (i:Int):LI×Int:=(s,(D0 (rd (0:Int) s (0:Int)) s:Int))
theorem c7v (kx0:LI→Int→Prop) (s:LI) (hs:s.length≤lim) (h0:0<s.length) :
  ∀ (n i:Nat),s.length<n+i→i≤s.length→kx0 s ((i+D0 (rd (0:Int) s (0:Int)) (s.drop i):Nat):Int)→a72 kx0 n s (i:Int)
 | 0,i,hn,hi,_=>absurd hn (by omega)
 | n+1,i,hn,hi,hx=>by
  intro _
  unfold b3L
  have hlim:lim=1099511627776:=rfl
  refine brb (fun hb=>?_) (fun hb=>?_)
  ·have hi':i<s.length:=by have:=of_decide_eq_true hb; omega
   refine C1 (by omega) (C1 (by omega) ?_)
   rw [D3 hi',a4Y] at hx
   rw [D4 hi']
   refine brb (fun hc=>?_) (fun hc=>?_)
   ·rw [if_pos (of_decide_eq_true hc)] at hx
    rw [wrap_i64 (by omega) (by omega),show (i:Int)+1=((i+1:Nat):Int) by omega]
    refine c7v kx0 s hs h0 n (i+1) (by omega) (by omega) ?_
    rw [show i+1+D0 (rd (0:Int) s (0:Int)) (s.drop (i+1))=i+(D0 (rd (0:Int) s (0:Int)) (s.drop (i+1))+1) by omega]
    exact hx
   ·rw [if_neg (of_decide_eq_false hc)] at hx
    exact hx
  ·have hi':s.length≤i:=by have:=of_decide_eq_false hb; omega
   rw [List.drop_eq_nil_of_le hi'] at hx
   exact hx
theorem b2e (kx0:LI→Int→Prop) (s:LI) (i:Int) (hp:a6v s i) (hx:∀ q:LI×Int,q=a0u s i→kx0 q.1 q.2):∃ m,a72 kx0 m s i:=by
 obtain ⟨rfl,h0,hs⟩:=hp
 refine ⟨s.length+1,c7v kx0 s hs h0 _ 0 (by omega) (by omega) ?_⟩
 rw [List.drop_zero,Nat.zero_add]
 exact hx _ rfl
def a6w (s:LI) (l:List (LI)) (i:Int):Prop:=i=0∧l.length≤lim
def nmd (s:LI):List (LI)→Option (LI)
 | []=>none
 | x::l=>if x.length≤s.length∧s.take x.length=x then some x else nmd s l
theorem c4y (s x:LI) (l:List (LI)):nmd s (x::l)=if x.length≤s.length∧s.take x.length=x then some x else nmd s l:=rfl
def a0v (s:LI) (l:List (LI)) (i:Int):(LI×Int)⊕Unit:=
 match nmd s l with
 | some x=>.inl (x,(x.length:Int))
 | none=>.inr ()
set_option maxHeartbeats 4000000 in
theorem b8E (kr:LI→Int→Prop) (kx2:Prop) (s:LI) (l:List (LI)) (hl:l.length≤lim) :
  ∀ (n i:Nat),l.length<n+i→i≤l.length→(∀ x,nmd s (l.drop i)=some x→kr x (x.length:Int))→(nmd s (l.drop i)=none→kx2)→a73 kr kx2 n s l (i:Int)
 | 0,i,hn,hi,_,_=>absurd hn (by omega)
 | n+1,i,hn,hi,hr,hx=>by
  intro _
  unfold b3M
  have hlim:lim=1099511627776:=rfl
  rcases Nat.lt_or_ge i l.length with hi' | hi'
  ·have c1:decide ((i:Int)<(l.length:Int))=true:=decide_eq_true (by omega)
   have c2:decide (0≤(i:Int)∧(i:Int)<(l.length:Int))=true:=decide_eq_true (by omega)
   have e:rd ([]:LI) l (i:Int)=l[i]:=by show l.getD (i:Int).toNat []=_; rw [Int.toNat_natCast]; simp [hi']
   rw [List.drop_eq_getElem_cons hi',c4y] at hr hx
   have hy:(IntKind.wrap .i64 ((i:Int)+1))=((i+1:Nat):Int):=by rw [wrap_i64 (by omega) (by omega)]; omega
   rw [hy]
   simp only [e,c1,c2,cond_true]
   clear e
   generalize l[i]=x at hr hx ⊢
   by_cases h1:x.length≤s.length
   ·have c3:decide ((x.length:Int)≤(s.length:Int))=true:=decide_eq_true (by omega)
    have c4:decide (0≤(x.length:Int)∧(x.length:Int)≤(s.length:Int))=true:=decide_eq_true (by omega)
    have c5:Int.toNat (x.length:Int)=x.length:=Int.toNat_natCast _
    simp only [c3,c4,c5,cond_true]
    by_cases h2:s.take x.length=x
    ·have c6:decide (s.take x.length=x)=true:=decide_eq_true h2
     have:=hr x (by rw [if_pos ⟨h1,h2⟩])
     simp only [c6,cond_true,this,and_self]
    ·have c6:decide (s.take x.length=x)=false:=decide_eq_false h2
     rw [if_neg (fun h=>h2 h.2)] at hr hx
     have:=b8E kr kx2 s l hl n (i+1) (by omega) (by omega) hr hx
     simp only [c6,cond_false,this,and_self]
   ·have c3:decide ((x.length:Int)≤(s.length:Int))=false:=decide_eq_false (by omega)
    rw [if_neg (fun h=>h1 h.1)] at hr hx
    have:=b8E kr kx2 s l hl n (i+1) (by omega) (by omega) hr hx
    simp only [c3,cond_false,this,and_self]
  ·have c1:decide ((i:Int)<(l.length:Int))=false:=decide_eq_false (by omega)
   rw [List.drop_eq_nil_of_le hi'] at hx
   rw [c1]
   exact hx rfl
theorem b2f (kr:LI→Int→Prop) (kx2:Prop) (s:LI) (l:List (LI)) (i:Int) (hp:a6w s l i) (hr:∀ q:LI×Int,a0v s l i=.inl q→kr q.1 q.2) (hx:∀ q:Unit,a0v s l i=.inr q→kx2):∃ m,a73 kr kx2 m s l i:=by
 obtain ⟨rfl,hl⟩:=hp
 refine ⟨l.length+1,b8E kr kx2 s l hl _ 0 (by omega) (by omega) (fun x h=>?_) (fun h=>?_)⟩
 ·rw [List.drop_zero] at h
  exact hr (x,(x.length:Int)) (by unfold a0v; rw [h])
 ·rw [List.drop_zero] at h
  exact hx () (by unfold a0v; rw [h])
def b2g (s0:LI):Prop:=
 bif (decide ((0:Int)<(List.length s0:Int))) then
 (0≤(0:Int)∧(0:Int)<(List.length s0:Int))∧(
 bif (decide ((rd (0:Int) s0 (0:Int))=(62:Int))) then
 a6v s0 (0:Int)∧(
 let q0x0:LI×Int:=a0u s0 (0:Int)
 let s0:LI:=q0x0.1
 let n4:Int:=q0x0.2
 (0≤(1:Int)∧(1:Int)≤(List.length s0:Int)))
 else
 (0≤(0:Int)∧(0:Int)<(List.length s0:Int))∧(
 bif (decide ((rd (0:Int) s0 (0:Int))=(60:Int))) then
 a6v s0 (0:Int)∧(
 let q0x0:LI×Int:=a0u s0 (0:Int)
 let s0:LI:=q0x0.1
 let n4:Int:=q0x0.2
 (0≤(1:Int)∧(1:Int)≤(List.length s0:Int)))
 else
 let r1:List (LI):=a2I
 a6w s0 r1 (0:Int)))
 else
 let r2:List (LI):=a2I
 a6w s0 r2 (0:Int)
def b0w (s0:LI):LI×Int:=
 bif (decide ((0:Int)<(List.length s0:Int))) then
 bif (decide ((rd (0:Int) s0 (0:Int))=(62:Int))) then
 let q0x0:LI×Int:=a0u s0 (0:Int)
 let s0:LI:=q0x0.1
 let n4:Int:=q0x0.2
 ((List.take (Int.toNat (1:Int)) s0),n4)
 else
 bif (decide ((rd (0:Int) s0 (0:Int))=(60:Int))) then
 let q0x0:LI×Int:=a0u s0 (0:Int)
 let s0:LI:=q0x0.1
 let n4:Int:=q0x0.2
 ((List.take (Int.toNat (1:Int)) s0),n4)
 else
 let r1:List (LI):=a2I
 Sum.elim (fun q1r=>
 let x2:LI:=q1r.1
 let x3:Int:=q1r.2
 (x2,x3)) (fun q1x2=>
 (([]:LI),(0:Int))) (a0v s0 r1 (0:Int))
 else
 let r2:List (LI):=a2I
 Sum.elim (fun q1r=>
 let x2:LI:=q1r.1
 let x3:Int:=q1r.2
 (x2,x3)) (fun q1x2=>
 (([]:LI),(0:Int))) (a0v s0 r2 (0:Int))
theorem d90 (s0:LI) (K:Res→List Cell→Prop) (_:wfA b6q (s0,())) (hp:b2g s0) (h:∀ r:LI×Int,r=b0w s0→K (.tup [.v .str r.1,.v yI r.2]) []):c1h s0 K:=
 br1 hp h (fun _ hp h=>as1 hp fun hp=>br1 hp h (fun _ hp h=>fun _=>b2e _ _ _ hp.1 (have hp:=hp.2; al (as0 hp (h _ rfl))))
 fun _ hp h=>as1 hp fun hp=>br1 hp h (fun _ hp h=>fun _=>b2e _ _ _ hp.1 (have hp:=hp.2; al (as0 hp (h _ rfl))))
 fun _ hp h=>al (fun _=>b2f _ _ _ _ _ hp
 (fun _ e _=>have h:=sl e h; h _ rfl)
 (fun _ e _=>have h:=sr e h; h _ rfl)))
 fun _ hp h=>al (fun _=>b2f _ _ _ _ _ hp
 (fun _ e _=>have h:=sl e h; h _ rfl)
 (fun _ e _=>have h:=sr e h; h _ rfl))
def e5F (v:j3 b6q) (K:Res→List Cell→Prop):Prop:=b2g v.1∧∀ r:LI×Int,r=b0w v.1→K (.tup [.v .str r.1,.v yI r.2]) []
def d5K:App:=specW b6q e5F
theorem d91 (K:Res→List Cell→Prop):∀ v:j3 b6q,q7 tb (j8 c1g) c7n Tryz.f34 [true,true] (mkA b6q v) K=c1h v.1 K
 | (s0,())=>by kernel_rfl
theorem d9X:g8 Tryz.prog 34 d5K:=
 g8.specW (l9 ((l8 o0 j9 b3K (d9W) (f:=34) (fn:=Tryz.f34) (by kernel_rfl) (by kernel_rfl) b8F [true,true])) fun v K hw h=>(d91 K v).mpr (d90 v.1 K hw h.1 h.2))
def c6E:List (Nat×App):=[]
theorem c02:GOk Tryz.prog (j8 c6E):=GOk.nil
theorem c6I:o8 (g6 Tryz.f74)=true:=by kernel_rfl
def S4:List LS:=[.v 0 yB,.v 3 yI]
def a8V:List LS:=[.v 2 yI]
def a6n:List LS:=[]
def b3z:DX:=⟨none,some a8V,[(0,a6n)]⟩
def b3A (k:Ex→St→Prop) (x2:Int):Prop:=wfD a8V (x2,())→k .ret (mkD 23 a8V (x2,()))
def b0o (k:Ex→St→Prop):Prop:=wfD a6n ()→k (.exit 0) (mkD 23 a6n ())
def b3y (Y:LI→Int→Prop) (kr:Int→Prop) (kx0:Prop) (s0:LI) (i3:Int):Prop:=
 bif (decide (i3<(List.length s0:Int))) then
 bif decide (0≤i3∧i3<(List.length s0:Int)) then
 bif (decide ((rd (0:Int) s0 i3)=(47:Int))) then
 kr i3
 else
 bif decide (0≤i3∧i3<(List.length s0:Int)) then
 bif (decide ((rd (0:Int) s0 i3)=(92:Int))) then
 Y s0 (IntKind.wrap .i64 ((IntKind.wrap .i64 (i3+(1:Int)))+(1:Int)))
 else
 Y s0 (IntKind.wrap .i64 (i3+(1:Int)))
 else False
 else False
 else
 kx0
def b0n (kr:Int→Prop) (kx0:Prop):Nat→LI→Int→Prop
 | 0,_,_=>False
 | n+1,s0,i3=>wfD S4 (s0,i3,())→b3y (b0n kr kx0 n) kr kx0 s0 i3
def c6G:Pce:=ex tb (j8 c6E) [] (at' (g6 Tryz.f74) [0,0,1,0,1]) [0,0,1,0,1]
def c6H (k:Ex→St→Prop) (n:Nat) (v:l6 S4):Prop:=b0n (b3A k) (b0o k) n v.1 v.2.1
theorem d9l (k:Ex→St→Prop) (Y:l6 S4→Prop):∀ v:l6 S4,c6G (mkD 23 S4 v) (lpK 23 S4 b3z k Y)=b3y (fun s0 i3=>Y (s0,i3,())) (b3A k) (b0o k) v.1 v.2.1
 | (s0,i3,())=>by kernel_rfl
theorem c6J (k:Ex→St→Prop):∀ (n:Nat) (v:l6 S4),lpD 23 S4 b3z c6G k n v=c6H k n v
 | 0,(s0,i3,())=>rfl
 | n+1,(s0,i3,())=>congrArg (fun Z:Prop=>wfD S4 (s0,i3,())→Z) ((d9l k _ (s0,i3,())).trans (congrArg (fun Y=>b3y Y (b3A k) (b0o k) s0 i3) (funext fun s0=>funext fun i3=>c6J k n (s0,i3,()))))
def c6F:Pce:=fun st k=>ckD 23 S4 st fun v=>wfD S4 v→∃ n,c6H k n v
theorem d9o:j5 Tryz.prog (at' (g6 Tryz.f74) [0,1,0,1]) c6F:=
 (j5.loop (l3 o0 j9 c02 (g7.nil) (at' (g6 Tryz.f74) [0,0,1,0,1]) [0,0,1,0,1] rfl (g9 c6I [0,0,1,0,1])) 23 S4 b3z).mono fun st k h=>l4 h fun v hv hw=>(hv hw).elim fun n hn=>⟨n,Eq.mpr (c6J k n v) hn⟩
def c6D:q8:=([0,1,0,1],c6F)::[]
theorem d9j:g7 Tryz.prog (g6 Tryz.f74) c6D:=g7.cons d9o (g7.nil)
def c03 (s0:LI) (K:Res→List Cell→Prop):Prop:=
 (wfD S4 (s0,(0:Int),())→∃ n,b0n (fun (x2:Int)=>wfD a8V (x2,())→(
 K (.one (.v yI x2)) [])) (wfD a6n ()→(
 K (.one (.v yI (-1:Int))) [])) n s0 (0:Int))
def b6g:List AS:=[.v yB]
def b6h (s:LI) (i:Int):Prop:=i=0∧s.length≤lim
def a1A (s:LI) (_:Int):Int⊕Unit:=if clo s 47<s.length then .inl (clo s 47:Int) else .inr ()
theorem b8w (kr:Int→Prop) (kx0:Prop) (s:LI) (hs:s.length≤lim) :
  ∀ (n i:Nat),s.length+1<n+i→i≤s.length+1→(i+clo (s.drop i) 47<s.length→kr ((i+clo (s.drop i) 47:Nat):Int))→(s.length≤i+clo (s.drop i) 47→kx0)→b0n kr kx0 n s (i:Int)
 | 0,i,hn,hi,hr,hx=>absurd hn (by omega)
 | n+1,i,hn,hi,hr,hx=>by
  intro _
  unfold b3y
  have hlim:lim=1099511627776:=rfl
  refine brn (fun hlt=>C1 (by omega) ?_) (fun hge=>hx (by omega))
  have hi':i<s.length:=by omega
  rw [D4 hi',wrap_i64 (n:=(i:Int)+1) (by omega) (by omega),wrap_i64 (by omega) (by omega),show (i:Int)+1+1=((i+2:Nat):Int) by omega,show (i:Int)+1=((i+1:Nat):Int) by omega]
  rw [D3 hi',O1] at hr hx
  refine brn (fun hc=>?_) (fun hc=>C1 (by omega) (brn (fun h92=>?_) (fun h92=>?_)))
  ·rw [if_neg (by omega),if_pos hc] at hr
   exact hr (by omega)
  ·rw [if_pos h92] at hr hx
   refine b8w kr kx0 s hs n (i+2) (by omega) (by omega) ?_ ?_
   ·rcases Nat.lt_or_ge (i+1) s.length with h | h
    ·rw [D3 h] at hr
     dsimp only at hr
     intro h2
     rw [show i+2+clo (s.drop (i+2)) 47=i+(clo (s.drop (i+1+1)) 47+2) by rw [show i+1+1=i+2 from rfl]; omega] at h2 ⊢
     exact hr h2
    ·intro h2; omega
   ·rcases Nat.lt_or_ge (i+1) s.length with h | h
    ·rw [D3 h] at hx
     dsimp only at hx
     intro h2
     exact hx (by rw [show i+1+1=i+2 from rfl]; omega)
    ·rw [List.drop_eq_nil_of_le h] at hx
     exact fun _=>hx (by dsimp only; omega)
  ·rw [if_neg h92,if_neg hc] at hr hx
   exact b8w kr kx0 s hs n (i+1) (by omega) (by omega) (fun h2=>by
    rw [show i+1+clo (s.drop (i+1)) 47=i+(clo (s.drop (i+1)) 47+1) by omega] at h2 ⊢; exact hr h2) (fun h2=>hx (by omega))
theorem c3t (kr:Int→Prop) (kx0:Prop) (s:LI) (i:Int) (hp:b6h s i)
  (hr:∀ q:Int,a1A s i=.inl q→kr q) (hx:∀ q:Unit,a1A s i=.inr q→kx0):∃ m,b0n kr kx0 m s i:=by
 obtain ⟨rfl,hs⟩:=hp
 refine ⟨s.length+2,b8w kr kx0 s hs _ 0 (by omega) (by omega) (fun h=>?_) (fun h=>?_)⟩
 ·simp only [List.drop_zero,Nat.zero_add] at h ⊢
  exact hr _ (by unfold a1A; rw [if_pos h])
 ·simp only [List.drop_zero,Nat.zero_add] at h
  exact hx () (by unfold a1A; rw [if_neg (by omega)])
def a8q (s0:LI):Prop:=
 b6h s0 (0:Int)
def a5k (s0:LI):Int:=
 Sum.elim (fun q0r=>
 let x2:Int:=q0r
 x2) (fun q0x0=>
 (-1:Int)) (a1A s0 (0:Int))
theorem d9m (s0:LI) (K:Res→List Cell→Prop) (_:wfA b6g (s0,())) (hp:a8q s0) (h:∀ r:Int,r=a5k s0→K (.one (.v yI r)) []):c03 s0 K:=
 fun _=>c3t _ _ _ _ hp
 (fun _ e _=>have h:=sl e h; h _ rfl)
 (fun _ e _=>have h:=sr e h; h _ rfl)
def e5y (v:j3 b6g) (K:Res→List Cell→Prop):Prop:=a8q v.1∧∀ r:Int,r=a5k v.1→K (.one (.v yI r)) []
def d5D:App:=specW b6g e5y
theorem d9n (K:Res→List Cell→Prop):∀ v:j3 b6g,q7 tb (j8 c6E) c6D Tryz.f74 [true] (mkA b6g v) K=c03 v.1 K
 | (s0,())=>by kernel_rfl
theorem d9k:g8 Tryz.prog 74 d5D:=
 g8.specW (l9 ((l8 o0 j9 c02 (d9j) (f:=74) (fn:=Tryz.f74) (by kernel_rfl) (by kernel_rfl) c6I [true])) fun v K hw h=>(d9n K v).mpr (d9m v.1 K hw h.1 h.2))
def c7z:List (Nat×App):=[]
theorem c1i:GOk Tryz.prog (j8 c7z):=GOk.nil
theorem c7D:o8 (g6 Tryz.f75)=true:=by kernel_rfl
def S8:List LS:=[.v 0 yB,.v 3 yI]
def a8Z:List LS:=[.v 2 .bool]
def a6y:List LS:=[]
def b3R:DX:=⟨none,some a8Z,[(0,a6y)]⟩
def b3S (k:Ex→St→Prop) (x2:Bool):Prop:=wfD a8Z (x2,())→k .ret (mkD 22 a8Z (x2,()))
def b0A (k:Ex→St→Prop):Prop:=wfD a6y ()→k (.exit 0) (mkD 22 a6y ())
def b3Q (Y:LI→Int→Prop) (kr:Bool→Prop) (kx0:Prop) (s0:LI) (i3:Int):Prop:=
 bif (decide (i3<(List.length s0:Int))) then
 bif decide (0≤i3∧i3<(List.length s0:Int)) then
 bif (decide ((rd (0:Int) s0 i3)=(92:Int))) then
 bif (decide ((IntKind.wrap .i64 (i3+(1:Int)))=(List.length s0:Int))) then
 kr true
 else
 Y s0 (IntKind.wrap .i64 ((IntKind.wrap .i64 (i3+(1:Int)))+(1:Int)))
 else
 Y s0 (IntKind.wrap .i64 (i3+(1:Int)))
 else False
 else
 kx0
def b0z (kr:Bool→Prop) (kx0:Prop):Nat→LI→Int→Prop
 | 0,_,_=>False
 | n+1,s0,i3=>wfD S8 (s0,i3,())→b3Q (b0z kr kx0 n) kr kx0 s0 i3
def c7B:Pce:=ex tb (j8 c7z) [] (at' (g6 Tryz.f75) [0,0,1,0,1]) [0,0,1,0,1]
def c7C (k:Ex→St→Prop) (n:Nat) (v:l6 S8):Prop:=b0z (b3S k) (b0A k) n v.1 v.2.1
theorem d96 (k:Ex→St→Prop) (Y:l6 S8→Prop):∀ v:l6 S8,c7B (mkD 22 S8 v) (lpK 22 S8 b3R k Y)=b3Q (fun s0 i3=>Y (s0,i3,())) (b3S k) (b0A k) v.1 v.2.1
 | (s0,i3,())=>by kernel_rfl
theorem c7E (k:Ex→St→Prop):∀ (n:Nat) (v:l6 S8),lpD 22 S8 b3R c7B k n v=c7C k n v
 | 0,(s0,i3,())=>rfl
 | n+1,(s0,i3,())=>congrArg (fun Z:Prop=>wfD S8 (s0,i3,())→Z) ((d96 k _ (s0,i3,())).trans (congrArg (fun Y=>b3Q Y (b3S k) (b0A k) s0 i3) (funext fun s0=>funext fun i3=>c7E k n (s0,i3,()))))
def c7A:Pce:=fun st k=>ckD 22 S8 st fun v=>wfD S8 v→∃ n,c7C k n v
theorem d99:j5 Tryz.prog (at' (g6 Tryz.f75) [0,1,0,1]) c7A:=
 (j5.loop (l3 o0 j9 c1i (g7.nil) (at' (g6 Tryz.f75) [0,0,1,0,1]) [0,0,1,0,1] rfl (g9 c7D [0,0,1,0,1])) 22 S8 b3R).mono fun st k h=>l4 h fun v hv hw=>(hv hw).elim fun n hn=>⟨n,Eq.mpr (c7E k n v) hn⟩
def c7y:q8:=([0,1,0,1],c7A)::[]
theorem d94:g7 Tryz.prog (g6 Tryz.f75) c7y:=g7.cons d99 (g7.nil)
def c1k (s0:LI) (K:Res→List Cell→Prop):Prop:=
 (wfD S8 (s0,(0:Int),())→∃ n,b0z (fun (x2:Bool)=>wfD a8Z (x2,())→(
 K (.one (.v .bool x2)) [])) (wfD a6y ()→(
 K (.one (.v .bool false)) [])) n s0 (0:Int))
def b6r:List AS:=[.v yB]
def b6s (s:LI) (i:Int):Prop:=i=0∧s.length≤lim
def a1F (s:LI) (_:Int):Bool⊕Unit:=if alo s then .inl true else .inr ()
theorem b8G (kr:Bool→Prop) (kx0:Prop) (s:LI) (hs:s.length≤lim) :
  ∀ (n i:Nat),s.length+1<n+i→i≤s.length+1→(alo (s.drop i)=true→kr true)→(alo (s.drop i)=false→kx0)→b0z kr kx0 n s (i:Int)
 | 0,i,hn,hi,hr,hx=>absurd hn (by omega)
 | n+1,i,hn,hi,hr,hx=>by
  intro _
  unfold b3Q
  have hlim:lim=1099511627776:=rfl
  refine brn (fun hlt=>C1 (by omega) ?_) (fun hge=>hx (by rw [List.drop_eq_nil_of_le (by omega)]; rfl))
  have hi':i<s.length:=by omega
  rw [D4 hi',wrap_i64 (n:=(i:Int)+1) (by omega) (by omega),wrap_i64 (by omega) (by omega),show (i:Int)+1+1=((i+2:Nat):Int) by omega,show (i:Int)+1=((i+1:Nat):Int) by omega]
  rw [D3 hi',a2Q] at hr hx
  refine brn (fun h92=>?_) (fun h92=>?_)
  ·refine brn (fun he=>?_) (fun he=>?_)
   ·rw [List.drop_eq_nil_of_le (show s.length≤i+1 by omega)] at hr
    exact hr (by simp [h92])
   ·have h:i+1<s.length:=by omega
    rw [D3 h] at hr hx
    dsimp only at hr hx
    rw [if_pos h92] at hr hx
    exact b8G kr kx0 s hs n (i+2) (by omega) (by omega) hr hx
  ·refine b8G kr kx0 s hs n (i+1) (by omega) (by omega) ?_ ?_
   ·rcases Nat.lt_or_ge (i+1) s.length with h | h
    ·rw [D3 h] at hr ⊢
     dsimp only at hr
     rw [if_neg h92] at hr; exact hr
    ·rw [List.drop_eq_nil_of_le h]; intro h2; cases h2
   ·rcases Nat.lt_or_ge (i+1) s.length with h | h
    ·rw [D3 h] at hx ⊢
     dsimp only at hx
     rw [if_neg h92] at hx; exact hx
    ·rw [List.drop_eq_nil_of_le h] at hx
     exact fun _=>hx (by simp [h92])
theorem c3w (kr:Bool→Prop) (kx0:Prop) (s:LI) (i:Int) (hp:b6s s i)
  (hr:∀ q:Bool,a1F s i=.inl q→kr q) (hx:∀ q:Unit,a1F s i=.inr q→kx0):∃ m,b0z kr kx0 m s i:=by
 obtain ⟨rfl,hs⟩:=hp
 refine ⟨s.length+2,b8G kr kx0 s hs _ 0 (by omega) (by omega) (fun h=>?_) (fun h=>?_)⟩
 ·rw [List.drop_zero] at h
  exact hr _ (by unfold a1F; rw [if_pos h])
 ·rw [List.drop_zero] at h
  exact hx () (by unfold a1F; rw [if_neg (by rw [h]; simp)])
def c1j (s0:LI):Prop:=
 b6s s0 (0:Int)
def b2h (s0:LI):Bool:=
 Sum.elim (fun q0r=>
 let x2:Bool:=q0r
 x2) (fun q0x0=>
 false) (a1F s0 (0:Int))
theorem d97 (s0:LI) (K:Res→List Cell→Prop) (_:wfA b6r (s0,())) (hp:c1j s0) (h:∀ r:Bool,r=b2h s0→K (.one (.v .bool r)) []):c1k s0 K:=
 fun _=>c3w _ _ _ _ hp
 (fun _ e _=>have h:=sl e h; h _ rfl)
 (fun _ e _=>have h:=sr e h; h _ rfl)
def e5G (v:j3 b6r) (K:Res→List Cell→Prop):Prop:=c1j v.1∧∀ r:Bool,r=b2h v.1→K (.one (.v .bool r)) []
def d5L:App:=specW b6r e5G
theorem d98 (K:Res→List Cell→Prop):∀ v:j3 b6r,q7 tb (j8 c7z) c7y Tryz.f75 [true] (mkA b6r v) K=c1k v.1 K
 | (s0,())=>by kernel_rfl
theorem d95:g8 Tryz.prog 75 d5L:=
 g8.specW (l9 ((l8 o0 j9 c1i (d94) (f:=75) (fn:=Tryz.f75) (by kernel_rfl) (by kernel_rfl) c7D [true])) fun v K hw h=>(d98 K v).mpr (d97 v.1 K hw h.1 h.2))
def c5V:List (Nat×App):=[(74,d5D),(75,d5L),(33,b6J)]
theorem c0F:GOk Tryz.prog (j8 c5V):=GOk.cons d9k (GOk.cons d95 (GOk.cons b4c (GOk.nil)))
theorem c5Y:o8 (g6 Tryz.f35)=true:=by kernel_rfl
def a2c:List LS:=[.v 1 yB,.b 2 16 [],.b 4 32 [],.c 16 tyX,.c 32 tyX]
def a4H:List LS:=[.b 4 32 [],.v 5 yI,.c 32 tyX]
def c0G:DX:=⟨none,some a4H,[]⟩
def d2U (k:Ex→St→Prop) (x5:Int) (x4b:tEx):Prop:=wfD a4H (x5,x4b,())→k .ret (mkD 75 a4H (x5,x4b,()))
def b0b (kr:Int→tEx→Prop) (s1:LI) (x2b:tEx) (x4b:tEx):Prop:=
 C6 s1 (0:Int)∧(
 ∀ (r4:Int),r4=u5 s1 (0:Int)→(
 wI r4→(
 bif (!decide (r4=(List.length s1:Int))) then
 kr (240:Int) zX
 else
 kr (0:Int) x2b)))
def c5X (k:Ex→St→Prop) (v:l6 a2c):Prop:=b0b (d2U k) v.1 v.2.1 v.2.2.1
theorem d8o (k:Ex→St→Prop):∀ v:l6 a2c,ex tb (j8 c5V) [] (at' (g6 Tryz.f35) [1,1,1,1,1,1,1,1,1,1,1,1]) [1,1,1,1,1,1,1,1,1,1,1,1] (mkD 75 a2c v) (wk 75 c0G k)=c5X k v
 | (s1,x2b,x4b,())=>by kernel_rfl
def c5W:Pce:=fun st k=>ckD 75 a2c st fun v=>wfD a2c v→c5X k v
theorem d8q:j5 Tryz.prog (at' (g6 Tryz.f35) [1,1,1,1,1,1,1,1,1,1,1,1]) c5W:=
 (j5.wk (N:=75) (ds:=a2c) (dx:=c0G) (l3 o0 j9 c0F (g7.nil) (at' (g6 Tryz.f35) [1,1,1,1,1,1,1,1,1,1,1,1]) [1,1,1,1,1,1,1,1,1,1,1,1] rfl (g9 c5Y [1,1,1,1,1,1,1,1,1,1,1,1]))).mono fun st k h=>l4 h fun v hv hw=>Eq.mpr (d8o k v) (hv hw)
def c5U:q8:=([1,1,1,1,1,1,1,1,1,1,1,1],c5W)::[]
theorem d8l:g7 Tryz.prog (g6 Tryz.f35) c5U:=g7.cons d8q (g7.nil)
def c0H (x0:tEx) (s1:LI) (K:Res→List Cell→Prop):Prop:=
 bif (decide ((List.length s1:Int)=(0:Int))) then
 K (.tup [.v tyX zX,.v yI (240:Int)]) []
 else
 bif decide (0≤(0:Int)∧(0:Int)<(List.length s1:Int)) then
 bif (!decide ((rd (0:Int) s1 (0:Int))=(47:Int))) then
 K (.tup [.v tyX zX,.v yI (240:Int)]) []
 else
 bif decide (0≤(1:Int)∧(1:Int)≤(List.length s1:Int)) then
 a8q (List.drop (Int.toNat (1:Int)) s1)∧(
 ∀ (r1:Int),r1=a5k (List.drop (Int.toNat (1:Int)) s1)→(
 wI r1→(
 bif (decide (r1<(0:Int))) then
 K (.tup [.v tyX zX,.v yI (240:Int)]) []
 else
 bif decide (0≤r1∧r1≤(List.length (List.drop (Int.toNat (1:Int)) s1):Int)) then
 bif decide (List.length ([]:LI)+List.length (List.take (Int.toNat r1) (List.drop (Int.toNat (1:Int)) s1))≤lim) then
 bif decide (0≤(IntKind.wrap .i64 (r1+(1:Int)))∧(IntKind.wrap .i64 (r1+(1:Int)))≤(List.length (List.drop (Int.toNat (1:Int)) s1):Int)) then
 a8q (List.drop (Int.toNat (IntKind.wrap .i64 (r1+(1:Int)))) (List.drop (Int.toNat (1:Int)) s1))∧(
 ∀ (r2:Int),r2=a5k (List.drop (Int.toNat (IntKind.wrap .i64 (r1+(1:Int)))) (List.drop (Int.toNat (1:Int)) s1))→(
 wI r2→(
 bif (decide (r2<(0:Int))) then
 bif decide (List.length ([]:LI)+List.length (List.drop (Int.toNat (IntKind.wrap .i64 (r1+(1:Int)))) (List.drop (Int.toNat (1:Int)) s1))≤lim) then
 c1j (List.drop (Int.toNat (IntKind.wrap .i64 (r1+(1:Int)))) (List.drop (Int.toNat (1:Int)) s1))∧(
 ∀ (r3:Bool),r3=b2h (List.drop (Int.toNat (IntKind.wrap .i64 (r1+(1:Int)))) (List.drop (Int.toNat (1:Int)) s1))→(
 wB r3→(
 bif r3 then
 K (.tup [.v tyX zX,.v yI (240:Int)]) []
 else
 K (.tup [.v tyX (x0.1,x0.2.1,x0.2.2.1,x0.2.2.2.1,x0.2.2.2.2.1,x0.2.2.2.2.2.1,x0.2.2.2.2.2.2.1,(([]:LI)++(List.take (Int.toNat r1) (List.drop (Int.toNat (1:Int)) s1))),(([]:LI)++(List.drop (Int.toNat (IntKind.wrap .i64 (r1+(1:Int)))) (List.drop (Int.toNat (1:Int)) s1))),x0.2.2.2.2.2.2.2.2.2),.v yI (0:Int)]) [])))
 else False
 else
 bif decide (0≤r2∧r2≤(List.length (List.drop (Int.toNat (IntKind.wrap .i64 (r1+(1:Int)))) (List.drop (Int.toNat (1:Int)) s1)):Int)) then
 bif decide (List.length ([]:LI)+List.length (List.take (Int.toNat r2) (List.drop (Int.toNat (IntKind.wrap .i64 (r1+(1:Int)))) (List.drop (Int.toNat (1:Int)) s1)))≤lim) then
 bif decide (0≤(IntKind.wrap .i64 (r2+(1:Int)))∧(IntKind.wrap .i64 (r2+(1:Int)))≤(List.length (List.drop (Int.toNat (IntKind.wrap .i64 (r1+(1:Int)))) (List.drop (Int.toNat (1:Int)) s1)):Int)) then
 bif (decide ((0:Int)<(List.length (List.drop (Int.toNat (IntKind.wrap .i64 (r2+(1:Int)))) (List.drop (Int.toNat (IntKind.wrap .i64 (r1+(1:Int)))) (List.drop (Int.toNat (1:Int)) s1))):Int))) then
 bif decide (0≤(0:Int)∧(0:Int)<(List.length (List.drop (Int.toNat (IntKind.wrap .i64 (r2+(1:Int)))) (List.drop (Int.toNat (IntKind.wrap .i64 (r1+(1:Int)))) (List.drop (Int.toNat (1:Int)) s1))):Int)) then
 bif (decide ((rd (0:Int) (List.drop (Int.toNat (IntKind.wrap .i64 (r2+(1:Int)))) (List.drop (Int.toNat (IntKind.wrap .i64 (r1+(1:Int)))) (List.drop (Int.toNat (1:Int)) s1))) (0:Int))=(103:Int))) then
 bif decide (0≤(1:Int)∧(1:Int)≤(List.length (List.drop (Int.toNat (IntKind.wrap .i64 (r2+(1:Int)))) (List.drop (Int.toNat (IntKind.wrap .i64 (r1+(1:Int)))) (List.drop (Int.toNat (1:Int)) s1))):Int)) then
 (wfD a2c ((List.drop (Int.toNat (1:Int)) (List.drop (Int.toNat (IntKind.wrap .i64 (r2+(1:Int)))) (List.drop (Int.toNat (IntKind.wrap .i64 (r1+(1:Int)))) (List.drop (Int.toNat (1:Int)) s1)))),(x0.1,x0.2.1,x0.2.2.1,x0.2.2.2.1,x0.2.2.2.2.1,x0.2.2.2.2.2.1,x0.2.2.2.2.2.2.1,(([]:LI)++(List.take (Int.toNat r1) (List.drop (Int.toNat (1:Int)) s1))),(([]:LI)++(List.take (Int.toNat r2) (List.drop (Int.toNat (IntKind.wrap .i64 (r1+(1:Int)))) (List.drop (Int.toNat (1:Int)) s1)))),true),zX,())→b0b (fun (x5:Int) (x4b:tEx)=>wfD a4H (x5,x4b,())→(
 K (.tup [.v tyX x4b,.v yI x5]) [])) (List.drop (Int.toNat (1:Int)) (List.drop (Int.toNat (IntKind.wrap .i64 (r2+(1:Int)))) (List.drop (Int.toNat (IntKind.wrap .i64 (r1+(1:Int)))) (List.drop (Int.toNat (1:Int)) s1)))) (x0.1,x0.2.1,x0.2.2.1,x0.2.2.2.1,x0.2.2.2.2.1,x0.2.2.2.2.2.1,x0.2.2.2.2.2.2.1,(([]:LI)++(List.take (Int.toNat r1) (List.drop (Int.toNat (1:Int)) s1))),(([]:LI)++(List.take (Int.toNat r2) (List.drop (Int.toNat (IntKind.wrap .i64 (r1+(1:Int)))) (List.drop (Int.toNat (1:Int)) s1)))),true) zX)
 else False
 else
 (wfD a2c ((List.drop (Int.toNat (IntKind.wrap .i64 (r2+(1:Int)))) (List.drop (Int.toNat (IntKind.wrap .i64 (r1+(1:Int)))) (List.drop (Int.toNat (1:Int)) s1))),(x0.1,x0.2.1,x0.2.2.1,x0.2.2.2.1,x0.2.2.2.2.1,x0.2.2.2.2.2.1,x0.2.2.2.2.2.2.1,(([]:LI)++(List.take (Int.toNat r1) (List.drop (Int.toNat (1:Int)) s1))),(([]:LI)++(List.take (Int.toNat r2) (List.drop (Int.toNat (IntKind.wrap .i64 (r1+(1:Int)))) (List.drop (Int.toNat (1:Int)) s1)))),x0.2.2.2.2.2.2.2.2.2),zX,())→b0b (fun (x5:Int) (x4b:tEx)=>wfD a4H (x5,x4b,())→(
 K (.tup [.v tyX x4b,.v yI x5]) [])) (List.drop (Int.toNat (IntKind.wrap .i64 (r2+(1:Int)))) (List.drop (Int.toNat (IntKind.wrap .i64 (r1+(1:Int)))) (List.drop (Int.toNat (1:Int)) s1))) (x0.1,x0.2.1,x0.2.2.1,x0.2.2.2.1,x0.2.2.2.2.1,x0.2.2.2.2.2.1,x0.2.2.2.2.2.2.1,(([]:LI)++(List.take (Int.toNat r1) (List.drop (Int.toNat (1:Int)) s1))),(([]:LI)++(List.take (Int.toNat r2) (List.drop (Int.toNat (IntKind.wrap .i64 (r1+(1:Int)))) (List.drop (Int.toNat (1:Int)) s1)))),x0.2.2.2.2.2.2.2.2.2) zX)
 else False
 else
 (wfD a2c ((List.drop (Int.toNat (IntKind.wrap .i64 (r2+(1:Int)))) (List.drop (Int.toNat (IntKind.wrap .i64 (r1+(1:Int)))) (List.drop (Int.toNat (1:Int)) s1))),(x0.1,x0.2.1,x0.2.2.1,x0.2.2.2.1,x0.2.2.2.2.1,x0.2.2.2.2.2.1,x0.2.2.2.2.2.2.1,(([]:LI)++(List.take (Int.toNat r1) (List.drop (Int.toNat (1:Int)) s1))),(([]:LI)++(List.take (Int.toNat r2) (List.drop (Int.toNat (IntKind.wrap .i64 (r1+(1:Int)))) (List.drop (Int.toNat (1:Int)) s1)))),x0.2.2.2.2.2.2.2.2.2),zX,())→b0b (fun (x5:Int) (x4b:tEx)=>wfD a4H (x5,x4b,())→(
 K (.tup [.v tyX x4b,.v yI x5]) [])) (List.drop (Int.toNat (IntKind.wrap .i64 (r2+(1:Int)))) (List.drop (Int.toNat (IntKind.wrap .i64 (r1+(1:Int)))) (List.drop (Int.toNat (1:Int)) s1))) (x0.1,x0.2.1,x0.2.2.1,x0.2.2.2.1,x0.2.2.2.2.1,x0.2.2.2.2.2.1,x0.2.2.2.2.2.2.1,(([]:LI)++(List.take (Int.toNat r1) (List.drop (Int.toNat (1:Int)) s1))),(([]:LI)++(List.take (Int.toNat r2) (List.drop (Int.toNat (IntKind.wrap .i64 (r1+(1:Int)))) (List.drop (Int.toNat (1:Int)) s1)))),x0.2.2.2.2.2.2.2.2.2) zX)
 else False
 else False
 else False)))
 else False
 else False
 else False)))
 else False
 else False
def b50:List AS:=[.v tyX,.v yB]
def a3j (s1:LI) (x2b:tEx) (x4b:tEx):Prop:=
 C6 s1 (0:Int)
def a1x (s1:LI) (x2b:tEx) (x4b:tEx):Int×tEx:=
 let r4:Int:=u5 s1 (0:Int)
 bif (!decide (r4=(List.length s1:Int))) then
 ((240:Int),zX)
 else
 ((0:Int),x2b)
theorem a7Y (kr:Int→tEx→Prop) (s1:LI) (x2b:tEx) (x4b:tEx) (hp:a3j s1 x2b x4b) (hr:∀ q:Int×tEx,q=a1x s1 x2b x4b→kr q.1 q.2):b0b kr s1 x2b x4b:=
 have h:=hr; ⟨hp,al (br0 h (fun _ h=>h _ rfl)
 fun _ h=>h _ rfl)⟩
def b17 (x0:tEx) (s1:LI):Prop:=
 bif (decide ((List.length s1:Int)=(0:Int))) then
 True
 else
 (0≤(0:Int)∧(0:Int)<(List.length s1:Int))∧(
 bif (!decide ((rd (0:Int) s1 (0:Int))=(47:Int))) then
 True
 else
 (0≤(1:Int)∧(1:Int)≤(List.length s1:Int))∧(
 a8q (List.drop (Int.toNat (1:Int)) s1)∧(
 let r1:Int:=a5k (List.drop (Int.toNat (1:Int)) s1)
 bif (decide (r1<(0:Int))) then
 True
 else
 (0≤r1∧r1≤(List.length (List.drop (Int.toNat (1:Int)) s1):Int))∧(
 (List.length ([]:LI)+List.length (List.take (Int.toNat r1) (List.drop (Int.toNat (1:Int)) s1))≤lim)∧(
 (0≤(IntKind.wrap .i64 (r1+(1:Int)))∧(IntKind.wrap .i64 (r1+(1:Int)))≤(List.length (List.drop (Int.toNat (1:Int)) s1):Int))∧(
 a8q (List.drop (Int.toNat (IntKind.wrap .i64 (r1+(1:Int)))) (List.drop (Int.toNat (1:Int)) s1))∧(
 let r2:Int:=a5k (List.drop (Int.toNat (IntKind.wrap .i64 (r1+(1:Int)))) (List.drop (Int.toNat (1:Int)) s1))
 bif (decide (r2<(0:Int))) then
 (List.length ([]:LI)+List.length (List.drop (Int.toNat (IntKind.wrap .i64 (r1+(1:Int)))) (List.drop (Int.toNat (1:Int)) s1))≤lim)∧(
 c1j (List.drop (Int.toNat (IntKind.wrap .i64 (r1+(1:Int)))) (List.drop (Int.toNat (1:Int)) s1)))
 else
 (0≤r2∧r2≤(List.length (List.drop (Int.toNat (IntKind.wrap .i64 (r1+(1:Int)))) (List.drop (Int.toNat (1:Int)) s1)):Int))∧(
 (List.length ([]:LI)+List.length (List.take (Int.toNat r2) (List.drop (Int.toNat (IntKind.wrap .i64 (r1+(1:Int)))) (List.drop (Int.toNat (1:Int)) s1)))≤lim)∧(
 (0≤(IntKind.wrap .i64 (r2+(1:Int)))∧(IntKind.wrap .i64 (r2+(1:Int)))≤(List.length (List.drop (Int.toNat (IntKind.wrap .i64 (r1+(1:Int)))) (List.drop (Int.toNat (1:Int)) s1)):Int))∧(
 bif (decide ((0:Int)<(List.length (List.drop (Int.toNat (IntKind.wrap .i64 (r2+(1:Int)))) (List.drop (Int.toNat (IntKind.wrap .i64 (r1+(1:Int)))) (List.drop (Int.toNat (1:Int)) s1))):Int))) then
 (0≤(0:Int)∧(0:Int)<(List.length (List.drop (Int.toNat (IntKind.wrap .i64 (r2+(1:Int)))) (List.drop (Int.toNat (IntKind.wrap .i64 (r1+(1:Int)))) (List.drop (Int.toNat (1:Int)) s1))):Int))∧(
 bif (decide ((rd (0:Int) (List.drop (Int.toNat (IntKind.wrap .i64 (r2+(1:Int)))) (List.drop (Int.toNat (IntKind.wrap .i64 (r1+(1:Int)))) (List.drop (Int.toNat (1:Int)) s1))) (0:Int))=(103:Int))) then
 (0≤(1:Int)∧(1:Int)≤(List.length (List.drop (Int.toNat (IntKind.wrap .i64 (r2+(1:Int)))) (List.drop (Int.toNat (IntKind.wrap .i64 (r1+(1:Int)))) (List.drop (Int.toNat (1:Int)) s1))):Int))∧(
 a3j (List.drop (Int.toNat (1:Int)) (List.drop (Int.toNat (IntKind.wrap .i64 (r2+(1:Int)))) (List.drop (Int.toNat (IntKind.wrap .i64 (r1+(1:Int)))) (List.drop (Int.toNat (1:Int)) s1)))) (x0.1,x0.2.1,x0.2.2.1,x0.2.2.2.1,x0.2.2.2.2.1,x0.2.2.2.2.2.1,x0.2.2.2.2.2.2.1,(([]:LI)++(List.take (Int.toNat r1) (List.drop (Int.toNat (1:Int)) s1))),(([]:LI)++(List.take (Int.toNat r2) (List.drop (Int.toNat (IntKind.wrap .i64 (r1+(1:Int)))) (List.drop (Int.toNat (1:Int)) s1)))),true) zX)
 else
 a3j (List.drop (Int.toNat (IntKind.wrap .i64 (r2+(1:Int)))) (List.drop (Int.toNat (IntKind.wrap .i64 (r1+(1:Int)))) (List.drop (Int.toNat (1:Int)) s1))) (x0.1,x0.2.1,x0.2.2.1,x0.2.2.2.1,x0.2.2.2.2.1,x0.2.2.2.2.2.1,x0.2.2.2.2.2.2.1,(([]:LI)++(List.take (Int.toNat r1) (List.drop (Int.toNat (1:Int)) s1))),(([]:LI)++(List.take (Int.toNat r2) (List.drop (Int.toNat (IntKind.wrap .i64 (r1+(1:Int)))) (List.drop (Int.toNat (1:Int)) s1)))),x0.2.2.2.2.2.2.2.2.2) zX)
 else
 a3j (List.drop (Int.toNat (IntKind.wrap .i64 (r2+(1:Int)))) (List.drop (Int.toNat (IntKind.wrap .i64 (r1+(1:Int)))) (List.drop (Int.toNat (1:Int)) s1))) (x0.1,x0.2.1,x0.2.2.1,x0.2.2.2.1,x0.2.2.2.2.1,x0.2.2.2.2.2.1,x0.2.2.2.2.2.2.1,(([]:LI)++(List.take (Int.toNat r1) (List.drop (Int.toNat (1:Int)) s1))),(([]:LI)++(List.take (Int.toNat r2) (List.drop (Int.toNat (IntKind.wrap .i64 (r1+(1:Int)))) (List.drop (Int.toNat (1:Int)) s1)))),x0.2.2.2.2.2.2.2.2.2) zX))))))))))
def b16 (x0:tEx) (s1:LI):tEx×Int:=
 bif (decide ((List.length s1:Int)=(0:Int))) then
 (zX,(240:Int))
 else
 bif (!decide ((rd (0:Int) s1 (0:Int))=(47:Int))) then
 (zX,(240:Int))
 else
 let r1:Int:=a5k (List.drop (Int.toNat (1:Int)) s1)
 bif (decide (r1<(0:Int))) then
 (zX,(240:Int))
 else
 let r2:Int:=a5k (List.drop (Int.toNat (IntKind.wrap .i64 (r1+(1:Int)))) (List.drop (Int.toNat (1:Int)) s1))
 bif (decide (r2<(0:Int))) then
 let r3:Bool:=b2h (List.drop (Int.toNat (IntKind.wrap .i64 (r1+(1:Int)))) (List.drop (Int.toNat (1:Int)) s1))
 bif r3 then
 (zX,(240:Int))
 else
 ((x0.1,x0.2.1,x0.2.2.1,x0.2.2.2.1,x0.2.2.2.2.1,x0.2.2.2.2.2.1,x0.2.2.2.2.2.2.1,(([]:LI)++(List.take (Int.toNat r1) (List.drop (Int.toNat (1:Int)) s1))),(([]:LI)++(List.drop (Int.toNat (IntKind.wrap .i64 (r1+(1:Int)))) (List.drop (Int.toNat (1:Int)) s1))),x0.2.2.2.2.2.2.2.2.2),(0:Int))
 else
 bif (decide ((0:Int)<(List.length (List.drop (Int.toNat (IntKind.wrap .i64 (r2+(1:Int)))) (List.drop (Int.toNat (IntKind.wrap .i64 (r1+(1:Int)))) (List.drop (Int.toNat (1:Int)) s1))):Int))) then
 bif (decide ((rd (0:Int) (List.drop (Int.toNat (IntKind.wrap .i64 (r2+(1:Int)))) (List.drop (Int.toNat (IntKind.wrap .i64 (r1+(1:Int)))) (List.drop (Int.toNat (1:Int)) s1))) (0:Int))=(103:Int))) then
 let q0r:Int×tEx:=a1x (List.drop (Int.toNat (1:Int)) (List.drop (Int.toNat (IntKind.wrap .i64 (r2+(1:Int)))) (List.drop (Int.toNat (IntKind.wrap .i64 (r1+(1:Int)))) (List.drop (Int.toNat (1:Int)) s1)))) (x0.1,x0.2.1,x0.2.2.1,x0.2.2.2.1,x0.2.2.2.2.1,x0.2.2.2.2.2.1,x0.2.2.2.2.2.2.1,(([]:LI)++(List.take (Int.toNat r1) (List.drop (Int.toNat (1:Int)) s1))),(([]:LI)++(List.take (Int.toNat r2) (List.drop (Int.toNat (IntKind.wrap .i64 (r1+(1:Int)))) (List.drop (Int.toNat (1:Int)) s1)))),true) zX
 let x5:Int:=q0r.1
 let x4b:tEx:=q0r.2
 (x4b,x5)
 else
 let q0r:Int×tEx:=a1x (List.drop (Int.toNat (IntKind.wrap .i64 (r2+(1:Int)))) (List.drop (Int.toNat (IntKind.wrap .i64 (r1+(1:Int)))) (List.drop (Int.toNat (1:Int)) s1))) (x0.1,x0.2.1,x0.2.2.1,x0.2.2.2.1,x0.2.2.2.2.1,x0.2.2.2.2.2.1,x0.2.2.2.2.2.2.1,(([]:LI)++(List.take (Int.toNat r1) (List.drop (Int.toNat (1:Int)) s1))),(([]:LI)++(List.take (Int.toNat r2) (List.drop (Int.toNat (IntKind.wrap .i64 (r1+(1:Int)))) (List.drop (Int.toNat (1:Int)) s1)))),x0.2.2.2.2.2.2.2.2.2) zX
 let x5:Int:=q0r.1
 let x4b:tEx:=q0r.2
 (x4b,x5)
 else
 let q0r:Int×tEx:=a1x (List.drop (Int.toNat (IntKind.wrap .i64 (r2+(1:Int)))) (List.drop (Int.toNat (IntKind.wrap .i64 (r1+(1:Int)))) (List.drop (Int.toNat (1:Int)) s1))) (x0.1,x0.2.1,x0.2.2.1,x0.2.2.2.1,x0.2.2.2.2.1,x0.2.2.2.2.2.1,x0.2.2.2.2.2.2.1,(([]:LI)++(List.take (Int.toNat r1) (List.drop (Int.toNat (1:Int)) s1))),(([]:LI)++(List.take (Int.toNat r2) (List.drop (Int.toNat (IntKind.wrap .i64 (r1+(1:Int)))) (List.drop (Int.toNat (1:Int)) s1)))),x0.2.2.2.2.2.2.2.2.2) zX
 let x5:Int:=q0r.1
 let x4b:tEx:=q0r.2
 (x4b,x5)
theorem d8n (x0:tEx) (s1:LI) (K:Res→List Cell→Prop) (_:wfA b50 (x0,s1,())) (hp:b17 x0 s1) (h:∀ r:tEx×Int,r=b16 x0 s1→K (.tup [.v tyX r.1,.v yI r.2]) []):c0H x0 s1 K:=
 br1 hp h (fun _ hp h=>h _ rfl)
 fun _ hp h=>as1 hp fun hp=>br1 hp h (fun _ hp h=>h _ rfl)
 fun _ hp h=>as1 hp fun hp=>an1 hp fun hp=>al (br1 hp h (fun _ hp h=>h _ rfl)
 fun _ hp h=>as1 hp fun hp=>as1 hp fun hp=>as1 hp fun hp=>an1 hp fun hp=>al (br1 hp h (fun _ hp h=>as1 hp fun hp=>⟨hp,al (br0 h (fun _ h=>h _ rfl)
 fun _ h=>h _ rfl)⟩)
 fun _ hp h=>as1 hp fun hp=>as1 hp fun hp=>as1 hp fun hp=>br1 hp h (fun _ hp h=>as1 hp fun hp=>br1 hp h (fun _ hp h=>as1 hp fun hp=>fun _=>a7Y _ _ _ _ hp (al (h _ rfl)))
 fun _ hp h=>fun _=>a7Y _ _ _ _ hp (al (h _ rfl)))
 fun _ hp h=>fun _=>a7Y _ _ _ _ hp (al (h _ rfl))))
def e5c (v:j3 b50) (K:Res→List Cell→Prop):Prop:=b17 v.1 v.2.1∧∀ r:tEx×Int,r=b16 v.1 v.2.1→K (.tup [.v tyX r.1,.v yI r.2]) []
def d5k:App:=specW b50 e5c
theorem d8p (K:Res→List Cell→Prop):∀ v:j3 b50,q7 tb (j8 c5V) c5U Tryz.f35 [true,true] (mkA b50 v) K=c0H v.1 v.2.1 K
 | (x0,s1,())=>by kernel_rfl
theorem d8m:g8 Tryz.prog 35 d5k:=
 g8.specW (l9 ((l8 o0 j9 c0F (d8l) (f:=35) (fn:=Tryz.f35) (by kernel_rfl) (by kernel_rfl) c5Y [true,true])) fun v K hw h=>(d8p K v).mpr (d8n v.1 v.2.1 K hw h.1 h.2))
def d5r:List (Nat×App):=[]
theorem d2Z:GOk Tryz.prog (j8 d5r):=GOk.nil
def c0P (b0:Int) (K:Res→List Cell→Prop):Prop:=
 bif (decide ((48:Int)≤b0)) then
 K (.one (.v .bool (decide (b0≤(57:Int))))) []
 else
 K (.one (.v .bool false)) []
def b55:List AS:=[.v yU]
def a1z (b0:Int):Bool:=
 bif (decide ((48:Int)≤b0)) then
 (decide (b0≤(57:Int)))
 else
 false
theorem d8I (b0:Int) (K:Res→List Cell→Prop) (_:wfA b55 (b0,())) (h:∀ r:Bool,r=a1z b0→K (.one (.v .bool r)) []):c0P b0 K:=
 br0 h (fun _ h=>h _ rfl)
 fun _ h=>h _ rfl
def e5j (v:j3 b55) (K:Res→List Cell→Prop):Prop:=∀ r:Bool,r=a1z v.1→K (.one (.v .bool r)) []
def d5s:App:=specW b55 e5j
theorem d8J (K:Res→List Cell→Prop):∀ v:j3 b55,q7 tb (j8 d5r) [] Tryz.f80 [true] (mkA b55 v) K=c0P v.1 K
 | (b0,())=>by kernel_rfl
theorem d8H:g8 Tryz.prog 80 d5s:=
 g8.specW (l9 ((l8 o0 j9 d2Z (g7.nil) (f:=80) (fn:=Tryz.f80) (by kernel_rfl) (by kernel_rfl) (by kernel_rfl) [true])) fun v K hw h=>(d8J K v).mpr (d8I v.1 K hw h))
def d5E:List (Nat×App):=[]
theorem d27:GOk Tryz.prog (j8 d5E):=GOk.nil
def c04 (name0:Int) (K:Res→List Cell→Prop):Prop:=
 bif (decide ((97:Int)≤name0)) then
 bif (decide (name0≤(122:Int))) then
 K (.one (.v yI (IntKind.wrap .i64 (IntKind.wrap .u8 (name0 - (97:Int)))))) []
 else
 bif (decide ((65:Int)≤name0)) then
 bif (decide (name0≤(90:Int))) then
 K (.one (.v yI (IntKind.wrap .i64 (IntKind.wrap .u8 (name0 - (65:Int)))))) []
 else
 K (.one (.v yI (-1:Int))) []
 else
 K (.one (.v yI (-1:Int))) []
 else
 bif (decide ((65:Int)≤name0)) then
 bif (decide (name0≤(90:Int))) then
 K (.one (.v yI (IntKind.wrap .i64 (IntKind.wrap .u8 (name0 - (65:Int)))))) []
 else
 K (.one (.v yI (-1:Int))) []
 else
 K (.one (.v yI (-1:Int))) []
def b6i:List AS:=[.v yU]
def b0p (name0:Int):Int:=
 bif (decide ((97:Int)≤name0)) then
 bif (decide (name0≤(122:Int))) then
 (IntKind.wrap .i64 (IntKind.wrap .u8 (name0 - (97:Int))))
 else
 bif (decide ((65:Int)≤name0)) then
 bif (decide (name0≤(90:Int))) then
 (IntKind.wrap .i64 (IntKind.wrap .u8 (name0 - (65:Int))))
 else
 (-1:Int)
 else
 (-1:Int)
 else
 bif (decide ((65:Int)≤name0)) then
 bif (decide (name0≤(90:Int))) then
 (IntKind.wrap .i64 (IntKind.wrap .u8 (name0 - (65:Int))))
 else
 (-1:Int)
 else
 (-1:Int)
theorem d9q (name0:Int) (K:Res→List Cell→Prop) (_:wfA b6i (name0,())) (h:∀ r:Int,r=b0p name0→K (.one (.v yI r)) []):c04 name0 K:=
 br0 h (fun _ h=>br0 h (fun _ h=>h _ rfl)
 fun _ h=>br0 h (fun _ h=>br0 h (fun _ h=>h _ rfl)
 fun _ h=>h _ rfl)
 fun _ h=>h _ rfl)
 fun _ h=>br0 h (fun _ h=>br0 h (fun _ h=>h _ rfl)
 fun _ h=>h _ rfl)
 fun _ h=>h _ rfl
def e5z (v:j3 b6i) (K:Res→List Cell→Prop):Prop:=∀ r:Int,r=b0p v.1→K (.one (.v yI r)) []
def d5F:App:=specW b6i e5z
theorem d9r (K:Res→List Cell→Prop):∀ v:j3 b6i,q7 tb (j8 d5E) [] Tryz.f134 [true] (mkA b6i v) K=c04 v.1 K
 | (name0,())=>by kernel_rfl
theorem d9p:g8 Tryz.prog 134 d5F:=
 g8.specW (l9 ((l8 o0 j9 d27 (g7.nil) (f:=134) (fn:=Tryz.f134) (by kernel_rfl) (by kernel_rfl) (by kernel_rfl) [true])) fun v K hw h=>(d9r K v).mpr (d9q v.1 K hw h))
def d5M:List (Nat×App):=[(134,d5F)]
theorem d3h:GOk Tryz.prog (j8 d5M):=GOk.cons d9p (GOk.nil)
def c1l (name0:Int) (K:Res→List Cell→Prop):Prop:=
 bif (decide (name0=(0:Int))) then
 K (.one (.v .bool true)) []
 else
 bif (decide (name0=(34:Int))) then
 K (.one (.v .bool true)) []
 else
 bif (decide (name0=(45:Int))) then
 K (.one (.v .bool true)) []
 else
 bif (decide ((49:Int)≤name0)) then
 bif (decide (name0≤(57:Int))) then
 K (.one (.v .bool true)) []
 else
 ∀ (r1:Int),r1=b0p name0→(
 wI r1→(
 K (.one (.v .bool (decide ((0:Int)≤r1)))) []))
 else
 ∀ (r2:Int),r2=b0p name0→(
 wI r2→(
 K (.one (.v .bool (decide ((0:Int)≤r2)))) []))
def b6t:List AS:=[.v yU]
def a2J (name0:Int):Bool:=
 bif (decide (name0=(0:Int))) then
 true
 else
 bif (decide (name0=(34:Int))) then
 true
 else
 bif (decide (name0=(45:Int))) then
 true
 else
 bif (decide ((49:Int)≤name0)) then
 bif (decide (name0≤(57:Int))) then
 true
 else
 let r1:Int:=b0p name0
 (decide ((0:Int)≤r1))
 else
 let r2:Int:=b0p name0
 (decide ((0:Int)≤r2))
theorem e0b (name0:Int) (K:Res→List Cell→Prop) (_:wfA b6t (name0,())) (h:∀ r:Bool,r=a2J name0→K (.one (.v .bool r)) []):c1l name0 K:=
 br0 h (fun _ h=>h _ rfl)
 fun _ h=>br0 h (fun _ h=>h _ rfl)
 fun _ h=>br0 h (fun _ h=>h _ rfl)
 fun _ h=>br0 h (fun _ h=>br0 h (fun _ h=>h _ rfl)
 fun _ h=>al (h _ rfl))
 fun _ h=>al (h _ rfl)
def e5H (v:j3 b6t) (K:Res→List Cell→Prop):Prop:=∀ r:Bool,r=a2J v.1→K (.one (.v .bool r)) []
def d5N:App:=specW b6t e5H
theorem e0c (K:Res→List Cell→Prop):∀ v:j3 b6t,q7 tb (j8 d5M) [] Tryz.f79 [true] (mkA b6t v) K=c1l v.1 K
 | (name0,())=>by kernel_rfl
theorem e0a:g8 Tryz.prog 79 d5N:=
 g8.specW (l9 ((l8 o0 j9 d3h (g7.nil) (f:=79) (fn:=Tryz.f79) (by kernel_rfl) (by kernel_rfl) (by kernel_rfl) [true])) fun v K hw h=>(e0c K v).mpr (e0b v.1 K hw h))
end Go.VE
