import Derived.Test.YtogkdhgjefiipaaGreatDoorES17
import Derived.MapKept
set_option linter.unusedVariables false
set_option linter.unusedSectionVars false
set_option linter.unusedSimpArgs false
namespace Go.VE
open Go Go.Proofs Go.RowKit Go.Lib Go.MapKept
structure a5L (w0 w:World) (es:Array MapEntry):Prop where
 at_:w.heap[w0.heap.size]?=some (.map es es.size)
 size:w.heap.size=w0.heap.size+1
 old:∀ b,b<w0.heap.size→w.heap[b]?=w0.heap[b]?
 os:w.os=w0.os
 tape:w.tape=w0.tape
 output:w.output=w0.output
theorem a5L.made (w:World):a5L w (w.alloc (.map #[] 0)) #[]:=
 {at_:=by show (w.heap.push _)[w.heap.size]?=_; simp,size:=by simp,old:=fun b hb=>(by show (w.heap.push _)[b]?=_; rw [Array.getElem?_push,if_neg (by omega)]),os:=rfl,tape:=rfl,output:=rfl }
theorem a5L.upd {P:Program} {t k e:TypeId} {w0 w:World} {es:Array MapEntry} (M:a5L w0 w es) (hu:P.underlying t=some (.map k e)) (hk:P.underlying k=some .string) {s:ByteArray} {v:Value}
  (hf:Instr.findNow .string (.string s) es.toList 0=some none) :
  ∃ w',(Instr.mapUpdate t (.map (some w0.heap.size)) (.string s) v).run P w=.ok () w'∧a5L w0 w' (es.push { key:=.string s,val:=v,born:=es.size }):=by
 refine ⟨{ w with heap:=w.heap.setIfInBounds w0.heap.size (.map (es.push { key:=.string s,val:=v,born:=es.size }) (es.size+1)) },?_,?_⟩
 ·have h1:=run_checkKey (P:=P) (w:=w) (kt:=k) (k:=.string s) hk (by trivial) false 9999
  have h2:=run_findKey (P:=P) (w:=w) hk hf
  have h3:=MapKept.run_setObj_map (P:=P) (.map (es.push { key:=.string s,val:=v,born:=es.size }) (es.size+1)) M.at_
  have h4:=MapKept.run_getObj_map (P:=P) M.at_
  simp only [Instr.mapUpdate,Sem.run_bind,run_underlying hu,h4,Result.andThen_ok,h1,h2,h3]
 ·have hs:=M.size
  refine { at_:=?_,size:=by simpa using M.size,old:=fun b hb=>?_,os:=M.os,tape:=M.tape,output:=M.output }
  ·simp [hs]
  ·rw [← M.old b hb]
   exact Array.getElem?_setIfInBounds_ne (by omega)
section
variable {P:Program} {ops:Array Oper} {Q:Exit→Act→World→Prop} {ix:List Nat} {j:Nat} {a:Act} {w w':World} {v:Value}
theorem d68 {o:Oper} (hj:ops[j]?=some o) (hg:o.guard=none) (hr:(execOp a.eval o).run P w=.ok (.value v) w') (hn:wpOps P ops Q ix (a.put o.dst v) w'):wpOps P ops Q (j::ix) a w:=by
 simp only [wpOps,hj]
 rw [if_pos (by simp [Region.wanted,hg])]
 exact .inl (d1L hr hn)
theorem d2b {o:Oper} (hj:ops[j]?=some o) (hg:o.guard=none) (hr:(execOp a.eval o).run P w=.ok .skip w') (hn:wpOps P ops Q ix (a.put o.dst undef) w'):wpOps P ops Q (j::ix) a w:=by
 simp only [wpOps,hj]
 rw [if_pos (by simp [Region.wanted,hg])]
 refine .inl ?_
 unfold Oper.wp
 rw [hr]
 exact hn
theorem c4A {o:Oper} {f:FuncId} {args:Array Value} (hj:ops[j]?=some o) (hg:o.guard=none) (hr:(execOp a.eval o).run P w=.ok (.enter f args) w)
  (h:Calls P f args w fun e w'=>∃ v,e=.returned v∧wpOps P ops Q ix (a.put o.dst v) w'):wpOps P ops Q (j::ix) a w:=by
 simp only [wpOps,hj]
 rw [if_pos (by simp [Region.wanted,hg])]
 refine .inl ?_
 unfold Oper.wp
 rw [hr]
 refine h.mono ?_
 rintro e w' ⟨v,rfl,hb⟩
 exact hb
end
def ent (k:ByteArray) (f i:Nat):MapEntry:={ key:=.string k,val:=.func (.func f) #[] #[],born:=i }
def b1W:Code→Array Oper
 | .region _ ops _=>ops
 | _=>#[]
section
variable {P:Program} {ops:Array Oper} {Q:Exit→Act→World→Prop} {ix:List Nat} {j:Nat} {a:Act} {w w':World} {v:Value} {dst:Option Tmp}
theorem O7 (op:Op) (hj:(ops[j]?).map (fun o=>(o.op,o.dst,o.guard))=some (op,dst,none)) (hr:∀ o:Oper,o.op=op→o.dst=dst→(execOp a.eval o).run P w=.ok (.value v) w') (hn:wpOps P ops Q ix (a.put dst v) w'):wpOps P ops Q (j::ix) a w:=by
 cases ho:ops[j]? with
 | none=>rw [ho] at hj; cases hj
 | some o=>
  rw [ho] at hj
  simp only [Option.map_some,Option.some.injEq,Prod.mk.injEq] at hj
  obtain ⟨h1,h2,h3⟩:=hj
  exact d68 ho h3 (hr o h1 h2) (by rw [h2]; exact hn)
theorem c4B (op:Op) (hj:(ops[j]?).map (fun o=>(o.op,o.dst,o.guard))=some (op,none,none)) (hr:∀ o:Oper,o.op=op→o.dst=none→(execOp a.eval o).run P w=.ok .skip w') (hn:wpOps P ops Q ix a w'):wpOps P ops Q (j::ix) a w:=by
 cases ho:ops[j]? with
 | none=>rw [ho] at hj; cases hj
 | some o=>
  rw [ho] at hj
  simp only [Option.map_some,Option.some.injEq,Prod.mk.injEq] at hj
  obtain ⟨h1,h2,h3⟩:=hj
  exact d2b ho h3 (hr o h1 h2) (by rw [h2]; exact hn)
theorem c3k (op:Op) {f:FuncId} {args:Array Value} (hj:(ops[j]?).map (fun o=>(o.op,o.dst,o.guard))=some (op,dst,none)) (hr:∀ o:Oper,o.op=op→o.dst=dst→(execOp a.eval o).run P w=.ok (.enter f args) w)
  (h:Calls P f args w fun e w'=>∃ v,e=.returned v∧wpOps P ops Q ix (a.put dst v) w'):wpOps P ops Q (j::ix) a w:=by
 cases ho:ops[j]? with
 | none=>rw [ho] at hj; cases hj
 | some o=>
  rw [ho] at hj
  simp only [Option.map_some,Option.some.injEq,Prod.mk.injEq] at hj
  obtain ⟨h1,h2,h3⟩:=hj
  exact c4A ho h3 (hr o h1 h2) (by rw [h2]; exact h)
theorem a22 {t k e:TypeId} {w0:World} {es:Array MapEntry} (T:Tmp) (M:a5L w0 w es) (hu:P.underlying t=some (.map k e)) (hk:P.underlying k=some .string) (hT:a.eval (.tmp T)=.map (some w0.heap.size)) (s:ByteArray) (f:FuncId)
  (hj:(ops[j]?).map (fun o=>(o.op,o.dst,o.guard))=some (.insert t (.tmp T) (.const (.string s)) (.func f),none,none))
  (hf:Instr.findNow .string (.string s) es.toList 0=some none) (hn:∀ w',a5L w0 w' (es.push (ent s f es.size))→wpOps P ops Q ix a w'):wpOps P ops Q (j::ix) a w:=by
 obtain ⟨w',hr,M'⟩:=M.upd (v:=.func (.func f) #[] #[]) hu hk hf
 refine c4B _ hj (fun o ho hd=>?_) (hn w' M')
 unfold execOp
 rw [ho]
 dsimp only
 rw [hT]
 show (Sem.run P (do Instr.mapUpdate t (.map (some w0.heap.size)) (.string s) (.func (.func f) #[] #[]); pure _) w)=_
 rw [Sem.run_bind,hr]
 rfl
end
def d4G:Array MapEntry:=#[ent ⟨#[100]⟩ 235 0,ent ⟨#[99]⟩ 236 1,ent ⟨#[121]⟩ 237 2,ent ⟨#[62]⟩ 238 3,ent ⟨#[60]⟩ 239 4,ent ⟨#[103,126]⟩ 240 5,ent ⟨#[103,117]⟩ 243 6,ent ⟨#[103,85]⟩ 245 7]
theorem a2B:Tryz.prog.underlying 233=some (.map 9 231):=by kernel_rfl
theorem a2A:Tryz.prog.underlying 9=some .string:=by kernel_rfl
theorem a9F:Tryz.f208.body=some (.seq (.region 0 (b1W (at' (g6 Tryz.f208) [0])) false) (.seq (.region 1 (b1W (at' (g6 Tryz.f208) [0,1])) false) .ret)):=by kernel_rfl
theorem b1z (w:World):Calls Tryz.prog 208 #[] w fun e w'=>e=.returned (.map (some w.heap.size))∧a5L w w' d4G:=by
 refine calls_of_wp (fn:=Tryz.f208) (by kernel_rfl) a9F ?_
 refine wp_seq (wp_region ?_)
 rw [show List.range (b1W (at' (g6 Tryz.f208) [0])).size=[0] by kernel_rfl]
 refine O7 (.assign (.const (.map none))) (dst:=some 0) (by kernel_rfl) (fun o ho hd=>by unfold execOp; rw [ho]; rfl) ?_
 show Code.wp _ _ _ _ _
 refine wp_seq (wp_region ?_)
 rw [show List.range (b1W (at' (g6 Tryz.f208) [0,1])).size=[0,1,2,3,4,5,6,7,8,9,10] by kernel_rfl]
 refine O7 (.makeMap 233 none) (dst:=some 1) (by kernel_rfl) (fun o ho hd=>by unfold execOp; rw [ho]; rfl) ?_
 have hT:∀ (x y z:Value) (ds:List Deferred) (m:Value),(((Act.mk #[x,y,z] ds).put (some 1) m).eval (.tmp 1))=m:=fun _ _ _ _ _=>rfl
 refine a22 1 (a5L.made w) a2B a2A rfl ⟨#[100]⟩ 235 (by kernel_rfl) (by kernel_rfl) fun w M=>?_
 refine a22 1 M a2B a2A rfl ⟨#[99]⟩ 236 (by kernel_rfl) (by kernel_rfl) fun w M=>?_
 refine a22 1 M a2B a2A rfl ⟨#[121]⟩ 237 (by kernel_rfl) (by kernel_rfl) fun w M=>?_
 refine a22 1 M a2B a2A rfl ⟨#[62]⟩ 238 (by kernel_rfl) (by kernel_rfl) fun w M=>?_
 refine a22 1 M a2B a2A rfl ⟨#[60]⟩ 239 (by kernel_rfl) (by kernel_rfl) fun w M=>?_
 refine a22 1 M a2B a2A rfl ⟨#[103,126]⟩ 240 (by kernel_rfl) (by kernel_rfl) fun w M=>?_
 refine a22 1 M a2B a2A rfl ⟨#[103,117]⟩ 243 (by kernel_rfl) (by kernel_rfl) fun w M=>?_
 refine a22 1 M a2B a2A rfl ⟨#[103,85]⟩ 245 (by kernel_rfl) (by kernel_rfl) fun w M=>?_
 refine O7 (.move (.tmp 1)) (dst:=some 2) (by kernel_rfl) (fun o ho hd=>by unfold execOp; rw [ho]; rfl) ?_
 refine O7 (.assign (.tmp 2)) (dst:=some 0) (by kernel_rfl) (fun o ho hd=>by unfold execOp; rw [ho]; rfl) ?_
 refine wp_ret ?_
 refine ⟨rfl,_,?_,rfl,M⟩
 rw [a5I,show Tryz.f208.results=#[.tmp 0] by kernel_rfl]
 simp [a4m,Act.put]
 rfl
theorem b74 {P:Program} {t k e:TypeId} (hu:P.underlying t=some (.map k e)) (hk:P.underlying k=some .string) {es:Array MapEntry} {c r i:Nat} {w:World} (hb:w.heap[r]?=some (.map es c)) {s:ByteArray} {v:Value}
  (hf:Instr.findNow .string (.string s) es.toList 0=some (some (i,v))):(Instr.lookup t (.map (some r)) (.string s) true).run P w=.ok (.tuple #[v,.bool true]) w:=by
 have h1:=run_checkKey (P:=P) (w:=w) (kt:=k) (k:=.string s) hk (by trivial) es.isEmpty 9999
 have h2:=run_findKey (P:=P) (w:=w) hk hf
 have h4:=MapKept.run_getObj_map (P:=P) hb
 simp [Instr.lookup,run_underlying hu,h4,h1,h2,Result.andThen]
theorem d4V {P:Program} {t k e:TypeId} (hu:P.underlying t=some (.map k e)) (hk:P.underlying k=some .string) {es:Array MapEntry} {c r:Nat} {w:World} (hb:w.heap[r]?=some (.map es c)) {s:ByteArray} {z:Value}
  (hz:(zeroValue e).run P w=.ok z w) (hf:Instr.findNow .string (.string s) es.toList 0=some none):(Instr.lookup t (.map (some r)) (.string s) true).run P w=.ok (.tuple #[z,.bool false]) w:=by
 have h1:=run_checkKey (P:=P) (w:=w) (kt:=k) (k:=.string s) hk (by trivial) es.isEmpty 9999
 have h2:=run_findKey (P:=P) (w:=w) hk hf
 have h4:=MapKept.run_getObj_map (P:=P) hb
 simp [Instr.lookup,run_underlying hu,h4,h1,h2,hz,Result.andThen]
def goK:List (LI×Nat)→LI→(Nat→Prop)→Prop
 | [],_,_=>False
 | (a,f)::r,x,k=>bif decide (x=a) then k f else goK r x k
theorem b92:∀ {ks:List (LI×Nat)} {x:LI} {k:Nat→Prop},goK ks x k→∃ f,(x,f)∈ks∧k f
 | [],_,_,h=>by cases h
 | (a,f)::r,x,k,h=>by
  unfold goK at h
  by_cases c:x=a
  ·rw [decide_eq_true c] at h
   exact ⟨f,by rw [c]; exact List.mem_cons_self,h⟩
  ·rw [decide_eq_false c] at h
   obtain ⟨f',h1,h2⟩:=b92 h
   exact ⟨f',List.mem_cons_of_mem _ h1,h2⟩
def b5a:List (LI×Nat):=[([100],235)]
theorem c33 {s t:ByteArray} (h:bytesOf s=bytesOf t):s=t:=by
 have:=a2S h
 cases s; cases t
 simp only [ByteArray.mk.injEq]
 exact Array.ext' this
theorem c3P {x:LI} {f:Nat} (h:(x,f)∈b5a) {s:ByteArray} (hs:bytesOf s=x):∃ i,Instr.findNow .string (.string s) d4G.toList 0=some (some (i,.func (.func f) #[] #[])):=by
 have key:∀ (t:ByteArray) (i:Nat),bytesOf t=x→Instr.findNow .string (.string t) d4G.toList 0=some (some (i,.func (.func f) #[] #[]))→∃ i,Instr.findNow .string (.string s) d4G.toList 0=some (some (i,.func (.func f) #[] #[])):=fun t i ht hi=>by
  rw [c33 (hs.trans ht.symm)]; exact ⟨i,hi⟩
 simp only [b5a,List.mem_cons,Prod.mk.injEq,List.not_mem_nil,or_false] at h
 obtain ⟨rfl,rfl⟩:=h
 exact key ⟨#[100]⟩ 0 (by decide) (by kernel_rfl)
def e62 (st:St) (x:LI) (f:Nat):St:=
 (((((((st.put (some 18) .no).put (some 19) (.v .str x)).put (some 20) .no).put (some 17) .no).put (some 21) .no).put (some 22) .no).put (some 12) (.fn f [])).put (some 13) (.v .bool true)
def e4b (R:Pce):Pce:=fun st k=>match st.ev (.tmp 2),Nat.beq st.tmps.length 77 with
 | .v .str x,true=>goK b5a x fun f=>R (e62 st x f) k
 | _,_=>False
theorem e4w:at' (g6 Tryz.f171) [1]=.seq (.region 1 (b1W (at' (g6 Tryz.f171) [0,1])) false) (at' (g6 Tryz.f171) [1,1]):=by kernel_rfl
theorem b9A {P:Program} {ops:Array Oper} {c:Code} {Q:Exit→Act→World→Prop} {a:Act} {w:World} (h:c.wp P Q a w):wpOps P ops (Exit.then (c.wp P Q) Q) [] a w:=h
set_option maxRecDepth 20000 in
theorem d4H {R:Pce} (hR:j5 Tryz.prog (at' (g6 Tryz.f171) [1,1]) R):j5 Tryz.prog (at' (g6 Tryz.f171) [1]) (e4b R):=by
 intro w0 F Fn I0 W ds G I st tm w Q k hW hI hx hk hp
 unfold e4b at hx
 split at hx
 ·rename_i x hev hlen
  obtain ⟨f,hf,hR'⟩:=b92 hx
  have hlen:=Nat.eq_of_beq_eq_true hlen
  have hsz:tm.size=77:=hI.size.trans hlen
  have h2:=hI.ev (.tmp 2) ds
  rw [hev] at h2
  obtain ⟨s,hs,hsx,hsl⟩:=l0.str_eq h2
  obtain ⟨i,hfind⟩:=c3P hf hsx
  have hs2:tm[2]?=some (.string s):=by
   have:tm.getD 2 undef=.string s:=hs
   rw [Array.getD_eq_getD_getElem?] at this
   rw [Array.getElem?_eq_getElem (by omega)] at this ⊢
   exact congrArg some this
  rw [e4w]
  refine wp_seq (wp_region ?_)
  rw [show List.range (b1W (at' (g6 Tryz.f171) [0,1])).size=[0,1,2,3,4,5,6,7] by kernel_rfl]
  refine c3k (.call ⟨.value (.func 208),#[],#[]⟩) (f:=208) (args:=#[]) (dst:=some 18) (by kernel_rfl) (fun o ho hd=>?_) ((b1z w).mono ?_)
  ·have:=enters_of (P:=Tryz.prog) (f:=208) (fn:=Tryz.f208) (by kernel_rfl) (by kernel_rfl) #[] w
   unfold execOp
   rw [ho]
   simp [Sem.run_bind,resolve,Act.eval,Deferred.ofValue,invoke,this]
  rintro e w' ⟨rfl,M⟩
  refine ⟨_,rfl,?_⟩
  have hI1:=hI.grow (w':=w') (by rw [M.size]; omega) M.old M.os M.tape M.output
  refine O7 (.move (.tmp 2)) (w':=w') (v:=.string s) (dst:=some 19) (by kernel_rfl) (fun o ho hd=>?_) ?_
  ·unfold execOp; rw [ho]; simp [Act.eval,Act.put,hs2]
  refine O7 (.lookup 233 (.tmp 18) (.tmp 19) true) (w':=w') (v:=.tuple #[.func (.func f) #[] #[],.bool true]) (dst:=some 20) (by kernel_rfl) (fun o ho hd=>?_) ?_
  ·have hl:=b74 a2B a2A M.at_ hfind
   unfold execOp
   rw [ho]
   simp [Act.eval,Act.put,hsz,hl]
  refine O7 (.move (.tmp 20)) (w':=w') (v:=.tuple #[.func (.func f) #[] #[],.bool true]) (dst:=some 17) (by kernel_rfl) (fun o ho hd=>?_) ?_
  ·unfold execOp; rw [ho]; simp [Act.eval,Act.put,hsz]
  refine O7 (.extract (.tmp 17) 0) (w':=w') (v:=.func (.func f) #[] #[]) (dst:=some 21) (by kernel_rfl) (fun o ho hd=>?_) ?_
  ·unfold execOp; rw [ho]; simp [Act.eval,Act.put,hsz,Instr.extract]
  refine O7 (.extract (.tmp 17) 1) (w':=w') (v:=.bool true) (dst:=some 22) (by kernel_rfl) (fun o ho hd=>?_) ?_
  ·unfold execOp; rw [ho]; simp [Act.eval,Act.put,hsz,Instr.extract]
  refine O7 (.assign (.tmp 21)) (w':=w') (v:=.func (.func f) #[] #[]) (dst:=some 12) (by kernel_rfl) (fun o ho hd=>?_) ?_
  ·unfold execOp; rw [ho]; simp [Act.eval,Act.put,hsz]
  refine O7 (.assign (.tmp 22)) (w':=w') (v:=.bool true) (dst:=some 13) (by kernel_rfl) (fun o ho hd=>?_) ?_
  ·unfold execOp; rw [ho]; simp [Act.eval,Act.put,hsz]
  refine b9A ?_
  have hI2:=(hI1.put (some 18) (s:=.no) (v:=.map (some w.heap.size)) trivial).put (some 19) (s:=.v .str x) (v:=.string s) (by rw [← hsx]; exact l0.str_mk hsl)
  have hI3:=((hI2.put (some 20) (s:=.no) (v:=.tuple #[.func (.func f) #[] #[],.bool true]) trivial).put (some 17) (s:=.no) (v:=.tuple #[.func (.func f) #[] #[],.bool true]) trivial).put (some 21) (s:=.no) (v:=.func (.func f) #[] #[]) trivial
  have hI4:=((hI3.put (some 22) (s:=.no) (v:=.bool true) trivial).put (some 12) (s:=.fn f []) (v:=.func (.func f) #[] #[]) ⟨[],rfl,rfl,fun i k u hk=>by simp at hk⟩).put (some 13) (s:=.v .bool true) (v:=.bool true) l0.bool_mk
  simp only [Act.put]
  exact hR Q k hW hI4 hR' hk hp
 ·cases hx
end Go.VE
namespace Go.VE
set_option maxRecDepth 20000
open Go Go.Proofs
def b8c:List (Nat×App):=[(209,d6s),(210,d6t),(235,d5T)]
theorem b5J:GOk Tryz.prog (j8 b8c):=GOk.cons e27 (GOk.cons e3b (GOk.cons e0O (GOk.nil)))
theorem c0h:o8 (g6 Tryz.f171)=true:=by kernel_rfl
def c0g:Pce:=e4b (ex tb (j8 b8c) [] (at' (g6 Tryz.f171) [1,1]) [1,1])
theorem d2E:j5 Tryz.prog (at' (g6 Tryz.f171) [1]) c0g:=d4H (l3 o0 j9 b5J (g7.nil) (at' (g6 Tryz.f171) [1,1]) [1,1] rfl (g9 c0h [1,1]))
def c0f:q8:=([1],c0g)::[]
theorem d2A:g7 Tryz.prog (g6 Tryz.f171) c0f:=g7.cons d2E (g7.nil)
def a9U (t0:LI) (at1:Int) (op2:LI) (rv3:(Int×Int×Bool×Bool)) (count4:Int) (K:Res→List Cell→Prop):Prop:=
 bif (decide (op2=([100]:LI))) then
 ∀ (r1:Bool),r1=a8x t0 at1 count4 (1:Int)→(
 wB r1→(
 bif r1 then
 K (.tup [.v tyE (([]:List ((Int×LI×LI))),(0:Int),(false,false,([]:LI)),(0:Int),false),.v yI (2:Int)]) []
 else
 b05 t0 at1 rv3∧(
 ∀ (r2:Int×Int×Bool),r2=Q6 t0 at1 rv3→(
 wfR (.tup [.v yI r2.1,.v yI r2.2.1,.v .bool r2.2.2])→(
 bif (!r2.2.2) then
 K (.tup [.v tyE (([]:List ((Int×LI×LI))),(0:Int),(false,false,([]:LI)),(0:Int),false),.v yI (2:Int)]) []
 else
 bif (decide (rv3.1=rv3.2.1)) then
 bif (!rv3.2.2.1) then
 bif (!decide (op2=([99]:LI))) then
 K (.tup [.v tyE (([]:List ((Int×LI×LI))),(0:Int),(false,false,([]:LI)),(0:Int),false),.v yI (190:Int)]) []
 else
 bif rv3.2.2.1 then
 bif (decide (op2=([100]:LI))) then
 K (.tup [.v tyE (([]:List ((Int×LI×LI))),(0:Int),(false,false,([]:LI)),(0:Int),false),.v yI (190:Int)]) []
 else
 a6O (t0,at1,rv3,r2.1,r2.2.1,count4)∧(
 ∀ (r3:tEf×Int),r3=a8r (t0,at1,rv3,r2.1,r2.2.1,count4)→(
 wfR (.tup [.v tyE r3.1,.v yI r3.2])→(
 K (.tup [.v tyE r3.1,.v yI r3.2]) [])))
 else
 a6O (t0,at1,rv3,r2.1,r2.2.1,count4)∧(
 ∀ (r4:tEf×Int),r4=a8r (t0,at1,rv3,r2.1,r2.2.1,count4)→(
 wfR (.tup [.v tyE r4.1,.v yI r4.2])→(
 K (.tup [.v tyE r4.1,.v yI r4.2]) [])))
 else
 bif rv3.2.2.1 then
 bif (decide (op2=([100]:LI))) then
 K (.tup [.v tyE (([]:List ((Int×LI×LI))),(0:Int),(false,false,([]:LI)),(0:Int),false),.v yI (190:Int)]) []
 else
 a6O (t0,at1,rv3,r2.1,r2.2.1,count4)∧(
 ∀ (r5:tEf×Int),r5=a8r (t0,at1,rv3,r2.1,r2.2.1,count4)→(
 wfR (.tup [.v tyE r5.1,.v yI r5.2])→(
 K (.tup [.v tyE r5.1,.v yI r5.2]) [])))
 else
 a6O (t0,at1,rv3,r2.1,r2.2.1,count4)∧(
 ∀ (r6:tEf×Int),r6=a8r (t0,at1,rv3,r2.1,r2.2.1,count4)→(
 wfR (.tup [.v tyE r6.1,.v yI r6.2])→(
 K (.tup [.v tyE r6.1,.v yI r6.2]) [])))
 else
 a6O (t0,at1,rv3,r2.1,r2.2.1,count4)∧(
 ∀ (r7:tEf×Int),r7=a8r (t0,at1,rv3,r2.1,r2.2.1,count4)→(
 wfR (.tup [.v tyE r7.1,.v yI r7.2])→(
 K (.tup [.v tyE r7.1,.v yI r7.2]) []))))))))
 else
 False
def a9S:List AS:=[.v yB,.v yI,.v .str,.v (.st (.pair yI (.pair yI (.pair .bool .bool)))),.v yI]
abbrev Eff:=List (Int×LI×LI)×Int×(Bool×Bool×LI)×Int×Bool
abbrev Job:=LI×Int×(Int×Int×Bool×Bool)×Int×Int×Int
def e4E (JP:Job→Prop) (JF:Job→Eff×Int) (t0:LI) (at1:Int) (op2:LI) (rv3:(Int×Int×Bool×Bool)) (count4:Int) (K:Res→List Cell→Prop):Prop:=
 ∀ (r1:Bool),r1=a8x t0 at1 count4 (1:Int)→(
 wB r1→(
 bif r1 then
  K (.tup [.v tyE (([]:List ((Int×LI×LI))),(0:Int),(false,false,([]:LI)),(0:Int),false),.v yI (2:Int)]) []
 else
  b05 t0 at1 rv3∧(
  ∀ (r2:Int×Int×Bool),r2=Q6 t0 at1 rv3→(
  wfR (.tup [.v yI r2.1,.v yI r2.2.1,.v .bool r2.2.2])→(
  bif (!r2.2.2) then
   K (.tup [.v tyE (([]:List ((Int×LI×LI))),(0:Int),(false,false,([]:LI)),(0:Int),false),.v yI (2:Int)]) []
  else
  bif (decide (rv3.1=rv3.2.1)) then
   bif (!rv3.2.2.1) then
    bif (!decide (op2=([99]:LI))) then
     K (.tup [.v tyE (([]:List ((Int×LI×LI))),(0:Int),(false,false,([]:LI)),(0:Int),false),.v yI (190:Int)]) []
    else
    bif rv3.2.2.1 then
     bif (decide (op2=([100]:LI))) then
      K (.tup [.v tyE (([]:List ((Int×LI×LI))),(0:Int),(false,false,([]:LI)),(0:Int),false),.v yI (190:Int)]) []
     else
      JP (t0,at1,rv3,r2.1,r2.2.1,count4)∧(
      ∀ (r3:tEf×Int),r3=JF (t0,at1,rv3,r2.1,r2.2.1,count4)→(
      wfR (.tup [.v tyE r3.1,.v yI r3.2])→(
      K (.tup [.v tyE r3.1,.v yI r3.2]) [])))
    else
     JP (t0,at1,rv3,r2.1,r2.2.1,count4)∧(
     ∀ (r4:tEf×Int),r4=JF (t0,at1,rv3,r2.1,r2.2.1,count4)→(
     wfR (.tup [.v tyE r4.1,.v yI r4.2])→(
     K (.tup [.v tyE r4.1,.v yI r4.2]) [])))
   else
   bif rv3.2.2.1 then
    bif (decide (op2=([100]:LI))) then
     K (.tup [.v tyE (([]:List ((Int×LI×LI))),(0:Int),(false,false,([]:LI)),(0:Int),false),.v yI (190:Int)]) []
    else
     JP (t0,at1,rv3,r2.1,r2.2.1,count4)∧(
     ∀ (r5:tEf×Int),r5=JF (t0,at1,rv3,r2.1,r2.2.1,count4)→(
     wfR (.tup [.v tyE r5.1,.v yI r5.2])→(
     K (.tup [.v tyE r5.1,.v yI r5.2]) [])))
   else
    JP (t0,at1,rv3,r2.1,r2.2.1,count4)∧(
    ∀ (r6:tEf×Int),r6=JF (t0,at1,rv3,r2.1,r2.2.1,count4)→(
    wfR (.tup [.v tyE r6.1,.v yI r6.2])→(
    K (.tup [.v tyE r6.1,.v yI r6.2]) [])))
  else
   JP (t0,at1,rv3,r2.1,r2.2.1,count4)∧(
   ∀ (r7:tEf×Int),r7=JF (t0,at1,rv3,r2.1,r2.2.1,count4)→(
   wfR (.tup [.v tyE r7.1,.v yI r7.2])→(
   K (.tup [.v tyE r7.1,.v yI r7.2]) []))))))))
def doF (JF:Job→Eff×Int) (t:LI) (at_:Int) (op:LI) (r:Int×Int×Bool×Bool) (count:Int):Eff×Int:=
 if a8x t at_ count 1=true then (([],0,(false,false,[]),0,false),2)
 else if (Q6 t at_ r).2.2=false then (([],0,(false,false,[]),0,false),2)
 else if r.1=r.2.1∧(r.2.2.1=false∧op≠[99]∨r.2.2.1=true∧op=[100]) then (([],0,(false,false,[]),0,false),190)
 else JF (t,at_,r,(Q6 t at_ r).1,(Q6 t at_ r).2.1,count)
theorem d10 (JP:Job→Prop) (JF:Job→Eff×Int) (t:LI) (at_:Int) (op:LI) (r:Int×Int×Bool×Bool) (count:Int) (K:Res→List Cell→Prop)
  (hp:a8x t at_ count 1=false→b05 t at_ r∧((Q6 t at_ r).2.2=true→JP (t,at_,r,(Q6 t at_ r).1,(Q6 t at_ r).2.1,count)))
  (h:∀ r':Eff×Int,r'=doF JF t at_ op r count→K (.tup [.v tyE r'.1,.v yI r'.2]) []):e4E JP JF t at_ op r count K:=by
 unfold e4E
 intro r1 h1 _
 refine brb (fun c=>h (_,_) (by unfold doF; rw [if_pos (h1.symm.trans c)])) (fun c=>?_)
 have c:=h1.symm.trans c
 obtain ⟨hp1,hp2⟩:=hp c
 refine ⟨hp1,fun r2 h2 _=>?_⟩
 have hc:¬ a8x t at_ count 1=true:=by rw [c]; simp
 subst h2
 refine brb (fun c2=>h (_,_) (by unfold doF; rw [if_neg hc,if_pos (by simpa using c2)])) (fun c2=>?_)
 have c2:(Q6 t at_ r).2.2=true:=by simpa using c2
 have hc2:¬ (Q6 t at_ r).2.2=false:=by rw [c2]; simp
 have hj:=hp2 c2
 have fin:¬ (r.1=r.2.1∧(r.2.2.1=false∧op≠[99]∨r.2.2.1=true∧op=[100]))→∀ (r3:Eff×Int),r3=JF (t,at_,r,(Q6 t at_ r).1,(Q6 t at_ r).2.1,count)→K (.tup [.v tyE r3.1,.v yI r3.2]) []:=fun hn r3 h3=>h r3 (by unfold doF; rw [if_neg hc,if_neg hc2,if_neg hn,h3])
 have bad:(r.1=r.2.1∧(r.2.2.1=false∧op≠[99]∨r.2.2.1=true∧op=[100]))→K (.tup [.v tyE (([],0,(false,false,[]),0,false):Eff),.v yI (190:Int)]) []:=fun hn=>h (_,_) (by unfold doF; rw [if_neg hc,if_neg hc2,if_pos hn])
 refine brn (fun d1=>?_) (fun d1=>⟨hj,fun r3 h3 _=>fin (fun hn=>d1 hn.1) r3 h3⟩)
 refine brb (fun d2=>?_) (fun d2=>?_)
 ·have d2:r.2.2.1=false:=by simpa using d2
  refine brx (fun d3=>bad ⟨d1,.inl ⟨d2,d3⟩⟩) (fun d3=>?_)
  refine brb (fun d4=>by rw [d2] at d4; cases d4) (fun _=>⟨hj,fun r3 h3 _=>fin (fun hn=>?_) r3 h3⟩)
  rcases hn.2 with hh | hh
  ·exact hh.2 d3
  ·rw [d2] at hh; cases hh.1
 ·have d2:r.2.2.1=true:=by simpa using d2
  refine brb (fun _=>brn (fun d3=>bad ⟨d1,.inr ⟨d2,d3⟩⟩) (fun d3=>⟨hj,fun r3 h3 _=>fin (fun hn=>?_) r3 h3⟩)) (fun d4=>by rw [d2] at d4; cases d4)
  rcases hn.2 with hh | hh
  ·rw [d2] at hh; cases hh.1
  ·exact d3 hh.2
def a7S (t:LI) (at_:Int) (op:LI) (r:Int×Int×Bool×Bool) (count:Int):Prop:=
 op=[100]∧(a8x t at_ count 1=false→b05 t at_ r∧((Q6 t at_ r).2.2=true→a6O (t,at_,r,(Q6 t at_ r).1,(Q6 t at_ r).2.1,count)))
def a9T (t:LI) (at_:Int) (op:LI) (r:Int×Int×Bool×Bool) (count:Int):Eff×Int:=doF a8r t at_ op r count
theorem d2C (t:LI) (at_:Int) (op:LI) (r:Int×Int×Bool×Bool) (count:Int) (K:Res→List Cell→Prop) (_:wfA a9S (t,at_,op,r,count,())) (hp:a7S t at_ op r count)
  (h:∀ r':Eff×Int,r'=a9T t at_ op r count→K (.tup [.v tyE r'.1,.v yI r'.2]) []):a9U t at_ op r count K:=by
 obtain ⟨hop,hp⟩:=hp
 unfold a9U
 exact brn (fun c=>d10 _ _ t at_ op r count K hp h) (fun c=>absurd hop c)
def d7h (v:j3 a9S) (K:Res→List Cell→Prop):Prop:=a7S v.1 v.2.1 v.2.2.1 v.2.2.2.1 v.2.2.2.2.1∧∀ r:tEf×Int,r=a9T v.1 v.2.1 v.2.2.1 v.2.2.2.1 v.2.2.2.2.1→K (.tup [.v tyE r.1,.v yI r.2]) []
def c43:App:=specW a9S d7h
theorem d2D (K:Res→List Cell→Prop):∀ v:j3 a9S,q7 tb (j8 b8c) c0f Tryz.f171 [true,true] (mkA a9S v) K=a9U v.1 v.2.1 v.2.2.1 v.2.2.2.1 v.2.2.2.2.1 K
 | (t0,at1,op2,rv3,count4,())=>by kernel_rfl
theorem d2B:g8 Tryz.prog 171 c43:=
 g8.specW (l9 ((l8 o0 j9 b5J (d2A) (f:=171) (fn:=Tryz.f171) (by kernel_rfl) (by kernel_rfl) c0h [true,true])) fun v K hw h=>(d2D K v).mpr (d2C v.1 v.2.1 v.2.2.1 v.2.2.2.1 v.2.2.2.2.1 K hw h.1 h.2))
def d5U:List (Nat×App):=[(170,d0t),(171,c43)]
theorem d3y:GOk Tryz.prog (j8 d5U):=GOk.cons d0u (GOk.cons d2B (GOk.nil))
def c1C (w0:tWk) (op1:LI) (count2:Int) (K:Res→List Cell→Prop):Prop:=
 (
 ∀ (r1:(Int×Int×Bool×Bool)×Int),r1=a7g w0.1 (IntKind.wrap .i64 (w0.2.2.2.2.2.2.2.2.1 - (1:Int))) (IntKind.wrap .i64 (w0.2.2.2.2.2.2.2.2.2 - (1:Int)))→(
 wfR (.tup [.v (.st (.pair yI (.pair yI (.pair .bool .bool)))) r1.1,.v yI r1.2])→(
 bif (!decide (r1.2=(0:Int))) then
 K (.tup [.v tyE (([]:List ((Int×LI×LI))),(0:Int),(false,false,([]:LI)),(0:Int),false),.v yI r1.2]) [⟨.st (.pair yB (.pair yI (.pair yI (.pair yI (.pair (.st (.pair (.arr 26 yI) yI)) (.pair tyB (.pair yB (.pair tyX (.pair yI yI))))))))),w0⟩]
 else
 a7S w0.1 w0.2.1 op1 r1.1 count2∧(
 ∀ (r2:tEf×Int),r2=a9T w0.1 w0.2.1 op1 r1.1 count2→(
 wfR (.tup [.v tyE r2.1,.v yI r2.2])→(
 K (.tup [.v tyE r2.1,.v yI r2.2]) [⟨.st (.pair yB (.pair yI (.pair yI (.pair yI (.pair (.st (.pair (.arr 26 yI) yI)) (.pair tyB (.pair yB (.pair tyX (.pair yI yI))))))))),w0⟩]))))))∧(
 ∀ (r3:(Int×Int×Bool×Bool)×Int),r3=a7g w0.1 (IntKind.wrap .i64 (w0.2.2.2.2.2.2.2.2.1 - (1:Int))) (IntKind.wrap .i64 (w0.2.2.2.2.2.2.2.2.2 - (1:Int)))→(
 wfR (.tup [.v (.st (.pair yI (.pair yI (.pair .bool .bool)))) r3.1,.v yI r3.2])→(
 bif (!decide (r3.2=(0:Int))) then
 K (.tup [.v tyE (([]:List ((Int×LI×LI))),(0:Int),(false,false,([]:LI)),(0:Int),false),.v yI r3.2]) [⟨.st (.pair yB (.pair yI (.pair yI (.pair yI (.pair (.st (.pair (.arr 26 yI) yI)) (.pair tyB (.pair yB (.pair tyX (.pair yI yI))))))))),w0⟩]
 else
 a7S w0.1 w0.2.1 op1 r3.1 count2∧(
 ∀ (r4:tEf×Int),r4=a9T w0.1 w0.2.1 op1 r3.1 count2→(
 wfR (.tup [.v tyE r4.1,.v yI r4.2])→(
 K (.tup [.v tyE r4.1,.v yI r4.2]) [⟨.st (.pair yB (.pair yI (.pair yI (.pair yI (.pair (.st (.pair (.arr 26 yI) yI)) (.pair tyB (.pair yB (.pair tyX (.pair yI yI))))))))),w0⟩]))))))∧True
def b6B:List AS:=[.r none tyW,.v .str,.v yI]
def a6Q (w0:tWk) (op1:LI) (count2:Int):Prop:=
 let r1:(Int×Int×Bool×Bool)×Int:=a7g w0.1 (IntKind.wrap .i64 (w0.2.2.2.2.2.2.2.2.1 - (1:Int))) (IntKind.wrap .i64 (w0.2.2.2.2.2.2.2.2.2 - (1:Int)))
 bif (!decide (r1.2=(0:Int))) then
 True
 else
 a7S w0.1 w0.2.1 op1 r1.1 count2
def a6P (w0:tWk) (op1:LI) (count2:Int):tEf×Int:=
 let r1:(Int×Int×Bool×Bool)×Int:=a7g w0.1 (IntKind.wrap .i64 (w0.2.2.2.2.2.2.2.2.1 - (1:Int))) (IntKind.wrap .i64 (w0.2.2.2.2.2.2.2.2.2 - (1:Int)))
 bif (!decide (r1.2=(0:Int))) then
 ((([]:List ((Int×LI×LI))),(0:Int),(false,false,([]:LI)),(0:Int),false),r1.2)
 else
 let r2:tEf×Int:=a9T w0.1 w0.2.1 op1 r1.1 count2
 (r2.1,r2.2)
theorem e0S (w0:tWk) (op1:LI) (count2:Int) (K:Res→List Cell→Prop) (_:wfA b6B (w0,op1,count2,())) (hp:a6Q w0 op1 count2) (h:∀ r:tEf×Int,r=a6P w0 op1 count2→K (.tup [.v tyE r.1,.v yI r.2]) [⟨.st (.pair yB (.pair yI (.pair yI (.pair yI (.pair (.st (.pair (.arr 26 yI) yI)) (.pair tyB (.pair yB (.pair tyX (.pair yI yI))))))))),w0⟩]):c1C w0 op1 count2 K:=
 ⟨al (br1 hp h (fun _ hp h=>h _ rfl)
 fun _ hp h=>⟨hp,al (h _ rfl)⟩),
 al (br1 hp h (fun _ hp h=>h _ rfl)
 fun _ hp h=>⟨hp,al (h _ rfl)⟩),trivial⟩
def e5O (v:j3 b6B) (K:Res→List Cell→Prop):Prop:=a6Q v.1 v.2.1 v.2.2.1∧∀ r:tEf×Int,r=a6P v.1 v.2.1 v.2.2.1→K (.tup [.v tyE r.1,.v yI r.2]) [⟨.st (.pair yB (.pair yI (.pair yI (.pair yI (.pair (.st (.pair (.arr 26 yI) yI)) (.pair tyB (.pair yB (.pair tyX (.pair yI yI))))))))),v.1⟩]
def d5V:App:=specW b6B e5O
theorem e0T (K:Res→List Cell→Prop):∀ v:j3 b6B,q7 tb (j8 d5U) [] Tryz.f117 [true,true] (mkA b6B v) K=c1C v.1 v.2.1 v.2.2.1 K
 | (w0,op1,count2,())=>by kernel_rfl
theorem e0R:g8 Tryz.prog 117 d5V:=
 g8.specW (l9 ((l8 o0 j9 d3y (g7.nil) (f:=117) (fn:=Tryz.f117) (by kernel_rfl) (by kernel_rfl) (by kernel_rfl) [true,true])) fun v K hw h=>(e0T K v).mpr (e0S v.1 v.2.1 v.2.2.1 K hw h.1 h.2))
end Go.VE
namespace Go.VE
open Go Go.Proofs
def e54:List AS:=[]
def d58:App:=specW e54 fun _ _=>False
theorem e1o:g8 Tryz.prog 118 d58:=g8.never
def e5P:List AS:=[]
def d5W:App:=specW e5P fun _ _=>False
theorem e0U:g8 Tryz.prog 119 d5W:=g8.never
def e5Q:List AS:=[]
def d5X:App:=specW e5Q fun _ _=>False
theorem e0V:g8 Tryz.prog 120 d5X:=g8.never
def e5n:List AS:=[]
def d5v:App:=specW e5n fun _ _=>False
theorem d8X:g8 Tryz.prog 121 d5v:=g8.never
def e5A:List AS:=[]
def d5G:App:=specW e5A fun _ _=>False
theorem d9s:g8 Tryz.prog 122 d5G:=g8.never
def e47:List AS:=[]
def d5e:App:=specW e47 fun _ _=>False
theorem d77:g8 Tryz.prog 123 d5e:=g8.never
end Go.VE
namespace Go.VE
set_option maxRecDepth 20000
open Go Go.Proofs
def b6S:List (Nat×App):=[(116,d1g),(117,d5V),(118,d58),(119,d5W),(120,d5X),(121,d5v),(122,d5G),(123,d5e)]
theorem a83:GOk Tryz.prog (j8 b6S):=GOk.cons d1l (GOk.cons e0R (GOk.cons e1o (GOk.cons e0U (GOk.cons e0V (GOk.cons d8X (GOk.cons d9s (GOk.cons d77 (GOk.nil))))))))
theorem b4j:o8 (g6 Tryz.f63)=true:=by kernel_rfl
def a3R:List LS:=[.b 0 7 [],.b 2 16 [],.v 12 .str,.v 68 .bool,.c 7 tyW,.c 16 tyE]
def a6W:List LS:=[.b 0 7 [],.b 2 16 [],.c 7 tyW,.c 16 tyE]
def c1R:DX:=⟨some a6W,none,[]⟩
def d3I (k:Ex→St→Prop) (w0b:tWk) (x2b:tEf):Prop:=wfD a6W (w0b,x2b,())→k .nrm (mkD 103 a6W (w0b,x2b,()))
def b4h (kn:tWk→tEf→Prop) (x12:LI) (x68:Bool) (w0b:tWk) (x2b:tEf):Prop:=
 bif x68 then
 False
 else
 bif (decide (x12=([106]:LI))) then
 False
 else
 bif (decide (x12=([106,33]:LI))) then
 False
 else
 bif (decide (x12=([116]:LI))) then
 False
 else
 bif (decide (x12=([109]:LI))) then
 False
 else
 kn w0b x2b
def c83 (k:Ex→St→Prop) (v:l6 a3R):Prop:=b4h (d3I k) v.1 v.2.1 v.2.2.1 v.2.2.2.1
theorem e1E (k:Ex→St→Prop):∀ v:l6 a3R,ex tb (j8 b6S) [] (at' (g6 Tryz.f63) [1,1,1,1,1,1,1,1,1,0,1,0,1]) [1,1,1,1,1,1,1,1,1,0,1,0,1] (mkD 103 a3R v) (wk 103 c1R k)=c83 k v
 | (x12,x68,w0b,x2b,())=>by kernel_rfl
def c8Y:Pce:=fun st k=>ckD 103 a3R st fun v=>wfD a3R v→c83 k v
theorem e1I:j5 Tryz.prog (at' (g6 Tryz.f63) [1,1,1,1,1,1,1,1,1,0,1,0,1]) c8Y:=
 (j5.wk (N:=103) (ds:=a3R) (dx:=c1R) (l3 o0 j9 a83 (g7.nil) (at' (g6 Tryz.f63) [1,1,1,1,1,1,1,1,1,0,1,0,1]) [1,1,1,1,1,1,1,1,1,0,1,0,1] rfl (g9 b4j [1,1,1,1,1,1,1,1,1,0,1,0,1]))).mono fun st k h=>l4 h fun v hv hw=>Eq.mpr (e1E k v) (hv hw)
def b8V:q8:=([1,1,1,1,1,1,1,1,1,0,1,0,1],c8Y)::[]
theorem c81:g7 Tryz.prog (g6 Tryz.f63) b8V:=g7.cons e1I (g7.nil)
def a3S:List LS:=[.b 0 7 [],.b 2 16 [],.v 12 .str,.v 51 .bool,.c 7 tyW,.c 16 tyE]
def a6Y:List LS:=[.b 2 16 [],.v 3 yI,.c 7 tyW,.c 16 tyE]
def a6X:List LS:=[.b 0 7 [],.b 2 16 [],.c 7 tyW,.c 16 tyE]
def c1S:DX:=⟨some a6X,some a6Y,[]⟩
def d3K (k:Ex→St→Prop) (x3:Int) (w0b:tWk) (x2b:tEf):Prop:=wfD a6Y (x3,w0b,x2b,())→k .ret (mkD 103 a6Y (x3,w0b,x2b,()))
def d3J (k:Ex→St→Prop) (w0b:tWk) (x2b:tEf):Prop:=wfD a6X (w0b,x2b,())→k .nrm (mkD 103 a6X (w0b,x2b,()))
def b4i (kr:Int→tWk→tEf→Prop) (kn:tWk→tEf→Prop) (x12:LI) (x51:Bool) (w0b:tWk) (x2b:tEf):Prop:=
 bif x51 then
 (
 a6Q w0b w0b.2.2.2.2.2.2.2.1.2.2.2.1 w0b.2.2.2.2.2.2.2.1.2.2.2.2.2.2.1∧(
 ∀ (r4:tEf×Int),r4=a6P w0b w0b.2.2.2.2.2.2.2.1.2.2.2.1 w0b.2.2.2.2.2.2.2.1.2.2.2.2.2.2.1→(
 wfR (.tup [.v tyE r4.1,.v yI r4.2])→(
 kr r4.2 w0b r4.1))))∧(
 a6Q w0b w0b.2.2.2.2.2.2.2.1.2.2.2.1 w0b.2.2.2.2.2.2.2.1.2.2.2.2.2.2.1∧(
 ∀ (r5:tEf×Int),r5=a6P w0b w0b.2.2.2.2.2.2.2.1.2.2.2.1 w0b.2.2.2.2.2.2.2.1.2.2.2.2.2.2.1→(
 wfR (.tup [.v tyE r5.1,.v yI r5.2])→(
 kr r5.2 w0b r5.1))))∧True
 else
 bif (decide (x12=([112,117]:LI))) then
 (wfD a3R (x12,(decide (x12=([112,117]:LI))),w0b,x2b,())→b4h (fun (w0b:tWk) (x2b:tEf)=>wfD a6W (w0b,x2b,())→(
 kn w0b x2b)) x12 (decide (x12=([112,117]:LI))) w0b x2b)
 else
 (wfD a3R (x12,(decide (x12=([112,117,33]:LI))),w0b,x2b,())→b4h (fun (w0b:tWk) (x2b:tEf)=>wfD a6W (w0b,x2b,())→(
 kn w0b x2b)) x12 (decide (x12=([112,117,33]:LI))) w0b x2b)
def c84 (k:Ex→St→Prop) (v:l6 a3S):Prop:=b4i (d3K k) (d3J k) v.1 v.2.1 v.2.2.1 v.2.2.2.1
theorem e1F (k:Ex→St→Prop):∀ v:l6 a3S,ex tb (j8 b6S) b8V (at' (g6 Tryz.f63) [1,1,1,1,1,1,1,0,1,0,1]) [1,1,1,1,1,1,1,0,1,0,1] (mkD 103 a3S v) (wk 103 c1S k)=c84 k v
 | (x12,x51,w0b,x2b,())=>by kernel_rfl
def c8Z:Pce:=fun st k=>ckD 103 a3S st fun v=>wfD a3S v→c84 k v
theorem e1J:j5 Tryz.prog (at' (g6 Tryz.f63) [1,1,1,1,1,1,1,0,1,0,1]) c8Z:=
 (j5.wk (N:=103) (ds:=a3S) (dx:=c1S) (l3 o0 j9 a83 (c81) (at' (g6 Tryz.f63) [1,1,1,1,1,1,1,0,1,0,1]) [1,1,1,1,1,1,1,0,1,0,1] rfl (g9 b4j [1,1,1,1,1,1,1,0,1,0,1]))).mono fun st k h=>l4 h fun v hv hw=>Eq.mpr (e1F k v) (hv hw)
def b8W:q8:=([1,1,1,1,1,1,1,0,1,0,1],c8Z)::b8V
theorem c82:g7 Tryz.prog (g6 Tryz.f63) b8W:=g7.cons e1J (c81)
def a3T:List LS:=[.b 0 7 [],.b 2 16 [],.c 7 tyW,.c 16 tyE]
def c1T:DX:=⟨none,none,[]⟩
def b8X  (w0b:tWk) (x2b:tEf):Prop:=
 False
def c85 (k:Ex→St→Prop) (v:l6 a3T):Prop:=b8X  v.1 v.2.1
theorem e1G (k:Ex→St→Prop):∀ v:l6 a3T,ex tb (j8 b6S) b8W (at' (g6 Tryz.f63) [1,1]) [1,1] (mkD 103 a3T v) (wk 103 c1T k)=c85 k v
 | (w0b,x2b,())=>by kernel_rfl
def c80:Pce:=fun st k=>ckD 103 a3T st fun v=>wfD a3T v→c85 k v
theorem e1K:j5 Tryz.prog (at' (g6 Tryz.f63) [1,1]) c80:=
 (j5.wk (N:=103) (ds:=a3T) (dx:=c1T) (l3 o0 j9 a83 (c82) (at' (g6 Tryz.f63) [1,1]) [1,1] rfl (g9 b4j [1,1]))).mono fun st k h=>l4 h fun v hv hw=>Eq.mpr (e1G k v) (hv hw)
def c8X:q8:=([1,1],c80)::b8W
theorem e1B:g7 Tryz.prog (g6 Tryz.f63) c8X:=g7.cons e1K (c82)
def c1U (w0:tWk) (K:Res→List Cell→Prop):Prop:=
 bif (decide (w0.2.2.2.2.2.2.2.1.2.2.2.1=([]:LI))) then
 ∀ (r1:Int×Int),r1=a4k w0.1 (IntKind.wrap .i64 (w0.2.2.2.2.2.2.2.2.2 - (1:Int)))→(
 wfR (.tup [.v yI r1.1,.v yI r1.2])→(
 K (.tup [.v tyE (([]:List ((Int×LI×LI))),r1.1,(false,false,([]:LI)),(0:Int),false),.v yI r1.2]) [⟨.st (.pair yB (.pair yI (.pair yI (.pair yI (.pair (.st (.pair (.arr 26 yI) yI)) (.pair tyB (.pair yB (.pair tyX (.pair yI yI))))))))),w0⟩]))
 else
 bif (decide (w0.2.2.2.2.2.2.2.1.2.2.2.1=([100]:LI))) then
 a6Q w0 ([100]:LI) (1:Int)∧(
 ∀ (r2:tEf×Int),r2=a6P w0 ([100]:LI) (1:Int)→(
 wfR (.tup [.v tyE r2.1,.v yI r2.2])→(
 K (.tup [.v tyE r2.1,.v yI r2.2]) [⟨.st (.pair yB (.pair yI (.pair yI (.pair yI (.pair (.st (.pair (.arr 26 yI) yI)) (.pair tyB (.pair yB (.pair tyX (.pair yI yI))))))))),w0⟩])))
 else
 bif (decide (w0.2.2.2.2.2.2.2.1.2.2.2.1=([121]:LI))) then
 a6Q w0 ([121]:LI) (1:Int)∧(
 ∀ (r3:tEf×Int),r3=a6P w0 ([121]:LI) (1:Int)→(
 wfR (.tup [.v tyE r3.1,.v yI r3.2])→(
 K (.tup [.v tyE (r3.1.1,w0.2.1,r3.1.2.2.1,r3.1.2.2.2.1,r3.1.2.2.2.2),.v yI r3.2]) [⟨.st (.pair yB (.pair yI (.pair yI (.pair yI (.pair (.st (.pair (.arr 26 yI) yI)) (.pair tyB (.pair yB (.pair tyX (.pair yI yI))))))))),w0⟩])))
 else
 bif (decide (w0.2.2.2.2.2.2.2.1.2.2.2.1=([62]:LI))) then
 (wfD a3S (w0.2.2.2.2.2.2.2.1.2.2.2.1,(decide (w0.2.2.2.2.2.2.2.1.2.2.2.1=([62]:LI))),w0,(([]:List ((Int×LI×LI))),(0:Int),(false,false,([]:LI)),(0:Int),false),())→b4i (fun (x3:Int) (w0b:tWk) (x2b:tEf)=>wfD a6Y (x3,w0b,x2b,())→(
 K (.tup [.v tyE x2b,.v yI x3]) [⟨.st (.pair yB (.pair yI (.pair yI (.pair yI (.pair (.st (.pair (.arr 26 yI) yI)) (.pair tyB (.pair yB (.pair tyX (.pair yI yI))))))))),w0b⟩])) (fun (w0b:tWk) (x2b:tEf)=>wfD a6X (w0b,x2b,())→(
 (wfD a3T (w0b,x2b,())→b8X  w0b x2b))) w0.2.2.2.2.2.2.2.1.2.2.2.1 (decide (w0.2.2.2.2.2.2.2.1.2.2.2.1=([62]:LI))) w0 (([]:List ((Int×LI×LI))),(0:Int),(false,false,([]:LI)),(0:Int),false))
 else
 (wfD a3S (w0.2.2.2.2.2.2.2.1.2.2.2.1,(decide (w0.2.2.2.2.2.2.2.1.2.2.2.1=([60]:LI))),w0,(([]:List ((Int×LI×LI))),(0:Int),(false,false,([]:LI)),(0:Int),false),())→b4i (fun (x3:Int) (w0b:tWk) (x2b:tEf)=>wfD a6Y (x3,w0b,x2b,())→(
 K (.tup [.v tyE x2b,.v yI x3]) [⟨.st (.pair yB (.pair yI (.pair yI (.pair yI (.pair (.st (.pair (.arr 26 yI) yI)) (.pair tyB (.pair yB (.pair tyX (.pair yI yI))))))))),w0b⟩])) (fun (w0b:tWk) (x2b:tEf)=>wfD a6X (w0b,x2b,())→(
 (wfD a3T (w0b,x2b,())→b8X  w0b x2b))) w0.2.2.2.2.2.2.2.1.2.2.2.1 (decide (w0.2.2.2.2.2.2.2.1.2.2.2.1=([60]:LI))) w0 (([]:List ((Int×LI×LI))),(0:Int),(false,false,([]:LI)),(0:Int),false))
def b6R:List AS:=[.r none tyW]
def b0Q (x12:LI) (x68:Bool) (w0b:tWk) (x2b:tEf):Prop:=
 bif x68 then
 False
 else
 bif (decide (x12=([106]:LI))) then
 False
 else
 bif (decide (x12=([106,33]:LI))) then
 False
 else
 bif (decide (x12=([116]:LI))) then
 False
 else
 bif (decide (x12=([109]:LI))) then
 False
 else
 True
def b0P (x12:LI) (x68:Bool) (w0b:tWk) (x2b:tEf):tWk×tEf:=
 bif x68 then
 default
 else
 bif (decide (x12=([106]:LI))) then
 default
 else
 bif (decide (x12=([106,33]:LI))) then
 default
 else
 bif (decide (x12=([116]:LI))) then
 default
 else
 bif (decide (x12=([109]:LI))) then
 default
 else
 (w0b,x2b)
theorem b2w (kn:tWk→tEf→Prop) (x12:LI) (x68:Bool) (w0b:tWk) (x2b:tEf) (hp:b0Q x12 x68 w0b x2b) (hn:∀ q:tWk×tEf,q=b0P x12 x68 w0b x2b→kn q.1 q.2):b4h kn x12 x68 w0b x2b:=
 have h:=hn; br1 hp h (fun _ hp h=>hp.elim)
 fun _ hp h=>br1 hp h (fun _ hp h=>hp.elim)
 fun _ hp h=>br1 hp h (fun _ hp h=>hp.elim)
 fun _ hp h=>br1 hp h (fun _ hp h=>hp.elim)
 fun _ hp h=>br1 hp h (fun _ hp h=>hp.elim)
 fun _ hp h=>h _ rfl
def b0R (x12:LI) (x51:Bool) (w0b:tWk) (x2b:tEf):Prop:=
 bif x51 then
 a6Q w0b w0b.2.2.2.2.2.2.2.1.2.2.2.1 w0b.2.2.2.2.2.2.2.1.2.2.2.2.2.2.1
 else
 bif (decide (x12=([112,117]:LI))) then
 b0Q x12 (decide (x12=([112,117]:LI))) w0b x2b
 else
 b0Q x12 (decide (x12=([112,117,33]:LI))) w0b x2b
def a1L (x12:LI) (x51:Bool) (w0b:tWk) (x2b:tEf):(Int×tWk×tEf)⊕(tWk×tEf):=
 bif x51 then
 let r4:tEf×Int:=a6P w0b w0b.2.2.2.2.2.2.2.1.2.2.2.1 w0b.2.2.2.2.2.2.2.1.2.2.2.2.2.2.1
 .inl (r4.2,w0b,r4.1)
 else
 bif (decide (x12=([112,117]:LI))) then
 let q0n:tWk×tEf:=b0P x12 (decide (x12=([112,117]:LI))) w0b x2b
 let w0b:tWk:=q0n.1
 let x2b:tEf:=q0n.2
 .inr (w0b,x2b)
 else
 let q0n:tWk×tEf:=b0P x12 (decide (x12=([112,117,33]:LI))) w0b x2b
 let w0b:tWk:=q0n.1
 let x2b:tEf:=q0n.2
 .inr (w0b,x2b)
theorem b2x (kr:Int→tWk→tEf→Prop) (kn:tWk→tEf→Prop) (x12:LI) (x51:Bool) (w0b:tWk) (x2b:tEf) (hp:b0R x12 x51 w0b x2b) (hr:∀ q:Int×tWk×tEf,a1L x12 x51 w0b x2b=.inl q→kr q.1 q.2.1 q.2.2) (hn:∀ q:tWk×tEf,a1L x12 x51 w0b x2b=.inr q→kn q.1 q.2):b4i kr kn x12 x51 w0b x2b:=
 have h:=hc2 hr hn; br1 hp h (fun _ hp h=>⟨⟨hp,al (h _ rfl)⟩,
 ⟨hp,al (h _ rfl)⟩,trivial⟩)
 fun _ hp h=>br1 hp h (fun _ hp h=>fun _=>b2w _ _ _ _ _ hp (al (h _ rfl)))
 fun _ hp h=>fun _=>b2w _ _ _ _ _ hp (al (h _ rfl))
def b2y (w0:tWk):Prop:=
 bif (decide (w0.2.2.2.2.2.2.2.1.2.2.2.1=([]:LI))) then
 True
 else
 bif (decide (w0.2.2.2.2.2.2.2.1.2.2.2.1=([100]:LI))) then
 a6Q w0 ([100]:LI) (1:Int)
 else
 bif (decide (w0.2.2.2.2.2.2.2.1.2.2.2.1=([121]:LI))) then
 a6Q w0 ([121]:LI) (1:Int)
 else
 bif (decide (w0.2.2.2.2.2.2.2.1.2.2.2.1=([62]:LI))) then
 b0R w0.2.2.2.2.2.2.2.1.2.2.2.1 (decide (w0.2.2.2.2.2.2.2.1.2.2.2.1=([62]:LI))) w0 (([]:List ((Int×LI×LI))),(0:Int),(false,false,([]:LI)),(0:Int),false)∧(
 Sum.elim (fun q1r=>
 True) (fun q1n=>
 let w0b:tWk:=q1n.1
 let x2b:tEf:=q1n.2
 False) (a1L w0.2.2.2.2.2.2.2.1.2.2.2.1 (decide (w0.2.2.2.2.2.2.2.1.2.2.2.1=([62]:LI))) w0 (([]:List ((Int×LI×LI))),(0:Int),(false,false,([]:LI)),(0:Int),false)))
 else
 b0R w0.2.2.2.2.2.2.2.1.2.2.2.1 (decide (w0.2.2.2.2.2.2.2.1.2.2.2.1=([60]:LI))) w0 (([]:List ((Int×LI×LI))),(0:Int),(false,false,([]:LI)),(0:Int),false)∧(
 Sum.elim (fun q1r=>
 True) (fun q1n=>
 let w0b:tWk:=q1n.1
 let x2b:tEf:=q1n.2
 False) (a1L w0.2.2.2.2.2.2.2.1.2.2.2.1 (decide (w0.2.2.2.2.2.2.2.1.2.2.2.1=([60]:LI))) w0 (([]:List ((Int×LI×LI))),(0:Int),(false,false,([]:LI)),(0:Int),false)))
def c1Q (w0:tWk):tEf×Int×tWk:=
 bif (decide (w0.2.2.2.2.2.2.2.1.2.2.2.1=([]:LI))) then
 let r1:Int×Int:=a4k w0.1 (IntKind.wrap .i64 (w0.2.2.2.2.2.2.2.2.2 - (1:Int)))
 ((([]:List ((Int×LI×LI))),r1.1,(false,false,([]:LI)),(0:Int),false),r1.2,w0)
 else
 bif (decide (w0.2.2.2.2.2.2.2.1.2.2.2.1=([100]:LI))) then
 let r2:tEf×Int:=a6P w0 ([100]:LI) (1:Int)
 (r2.1,r2.2,w0)
 else
 bif (decide (w0.2.2.2.2.2.2.2.1.2.2.2.1=([121]:LI))) then
 let r3:tEf×Int:=a6P w0 ([121]:LI) (1:Int)
 ((r3.1.1,w0.2.1,r3.1.2.2.1,r3.1.2.2.2.1,r3.1.2.2.2.2),r3.2,w0)
 else
 bif (decide (w0.2.2.2.2.2.2.2.1.2.2.2.1=([62]:LI))) then
 Sum.elim (fun q1r=>
 let x3:Int:=q1r.1
 let w0b:tWk:=q1r.2.1
 let x2b:tEf:=q1r.2.2
 (x2b,x3,w0b)) (fun q1n=>
 let w0b:tWk:=q1n.1
 let x2b:tEf:=q1n.2
 default) (a1L w0.2.2.2.2.2.2.2.1.2.2.2.1 (decide (w0.2.2.2.2.2.2.2.1.2.2.2.1=([62]:LI))) w0 (([]:List ((Int×LI×LI))),(0:Int),(false,false,([]:LI)),(0:Int),false))
 else
 Sum.elim (fun q1r=>
 let x3:Int:=q1r.1
 let w0b:tWk:=q1r.2.1
 let x2b:tEf:=q1r.2.2
 (x2b,x3,w0b)) (fun q1n=>
 let w0b:tWk:=q1n.1
 let x2b:tEf:=q1n.2
 default) (a1L w0.2.2.2.2.2.2.2.1.2.2.2.1 (decide (w0.2.2.2.2.2.2.2.1.2.2.2.1=([60]:LI))) w0 (([]:List ((Int×LI×LI))),(0:Int),(false,false,([]:LI)),(0:Int),false))
theorem e1D (w0:tWk) (K:Res→List Cell→Prop) (_:wfA b6R (w0,())) (hp:b2y w0) (h:∀ r:tEf×Int×tWk,r=c1Q w0→K (.tup [.v tyE r.1,.v yI r.2.1]) [⟨.st (.pair yB (.pair yI (.pair yI (.pair yI (.pair (.st (.pair (.arr 26 yI) yI)) (.pair tyB (.pair yB (.pair tyX (.pair yI yI))))))))),r.2.2⟩]):c1U w0 K:=
 br1 hp h (fun _ hp h=>al (h _ rfl))
 fun _ hp h=>br1 hp h (fun _ hp h=>⟨hp,al (h _ rfl)⟩)
 fun _ hp h=>br1 hp h (fun _ hp h=>⟨hp,al (h _ rfl)⟩)
 fun _ hp h=>br1 hp h (fun _ hp h=>fun _=>b2x _ _ _ _ _ _ hp.1
 (fun _ e _=>have h:=sl e h; h _ rfl)
 (fun _ e _=>have h:=sr e h; have hp:=cR e hp.2; hp.elim))
 fun _ hp h=>fun _=>b2x _ _ _ _ _ _ hp.1
 (fun _ e _=>have h:=sl e h; h _ rfl)
 (fun _ e _=>have h:=sr e h; have hp:=cR e hp.2; hp.elim)
def e6e (v:j3 b6R) (K:Res→List Cell→Prop):Prop:=b2y v.1∧∀ r:tEf×Int×tWk,r=c1Q v.1→K (.tup [.v tyE r.1,.v yI r.2.1]) [⟨.st (.pair yB (.pair yI (.pair yI (.pair yI (.pair (.st (.pair (.arr 26 yI) yI)) (.pair tyB (.pair yB (.pair tyX (.pair yI yI))))))))),r.2.2⟩]
def d6d:App:=specW b6R e6e
theorem e1H (K:Res→List Cell→Prop):∀ v:j3 b6R,q7 tb (j8 b6S) c8X Tryz.f63 [true,true] (mkA b6R v) K=c1U v.1 K
 | (w0,())=>by kernel_rfl
theorem e1C:g8 Tryz.prog 63 d6d:=
 g8.specW (l9 ((l8 o0 j9 a83 (e1B) (f:=63) (fn:=Tryz.f63) (by kernel_rfl) (by kernel_rfl) b4j [true,true])) fun v K hw h=>(e1H K v).mpr (e1D v.1 K hw h.1 h.2))
def c4V:List (Nat×App):=[(24,b8b),(16,c2h),(28,b7p),(62,d5u),(63,d6d)]
theorem c4W:GOk Tryz.prog (j8 c4V):=GOk.cons c0e (GOk.cons b9f (GOk.cons b4T (GOk.cons d8O (GOk.cons e1C (GOk.nil)))))
def b5H (t0:LI) (at1:Int) (m2:(Unit×Int)) (b3:tBk) (hunt4:LI) (x5:tEx) (K:Res→List Cell→Prop):Prop:=
 N4 t0 at1∧(
 ∀ (r1:Int×Int),r1=G4 t0 at1→(
 wfR (.tup [.v yI r1.1,.v yI r1.2])→(
 bif (!decide (r1.2=(0:Int))) then
 K (.tup [.v tyE (([]:List ((Int×LI×LI))),(0:Int),(false,false,([]:LI)),(0:Int),false),.v yI (2:Int)]) []
 else
 a7b x5∧(
 ∀ (r2:LI),r2=a31 x5→(
 wfR (.one (.v yB r2))→(
 bif (decide ((List.length r2:Int)=(0:Int))) then
 K (.tup [.v tyE (([]:List ((Int×LI×LI))),(0:Int),(false,false,([]:LI)),(0:Int),false),.v yI (240:Int)]) []
 else
 a0R t0∧(
 ∀ (r3:Int),r3=Z0 t0→(
 wI r3→(
 b58 (t0,at1,(IntKind.wrap .i64 (r1.1+(1:Int))),r3,m2,b3,hunt4,x5,(0:Int),(0:Int))∧(
 ∀ (r4:Int×tWk),r4=b19 (t0,at1,(IntKind.wrap .i64 (r1.1+(1:Int))),r3,m2,b3,hunt4,x5,(0:Int),(0:Int))→(
 wI r4.1→(
 bif (!decide (r4.1=(0:Int))) then
 K (.tup [.v tyE (([]:List ((Int×LI×LI))),(0:Int),(false,false,([]:LI)),(0:Int),false),.v yI r4.1]) []
 else
 b2y r4.2∧(
 ∀ (r5:tEf×Int×tWk),r5=c1Q r4.2→(
 wfR (.tup [.v tyE r5.1,.v yI r5.2.1])→(
 bif (!decide (r5.2.1=(0:Int))) then
 K (.tup [.v tyE (([]:List ((Int×LI×LI))),(0:Int),(false,false,([]:LI)),(0:Int),false),.v yI r5.2.1]) []
 else
 K (.tup [.v tyE r5.1,.v yI (0:Int)]) [])))))))))))))))
def a9O:List AS:=[.v yB,.v yI,.v (.st (.pair (.arr 26 yI) yI)),.v tyB,.v yB,.v tyX]
def a9Q (t0:LI) (at1:Int) (m2:(Unit×Int)) (b3:tBk) (hunt4:LI) (x5:tEx):Prop:=
 N4 t0 at1∧(
 let r1:Int×Int:=G4 t0 at1
 bif (!decide (r1.2=(0:Int))) then
 True
 else
 a7b x5∧(
 let r2:LI:=a31 x5
 bif (decide ((List.length r2:Int)=(0:Int))) then
 True
 else
 a0R t0∧(
 let r3:Int:=Z0 t0
 b58 (t0,at1,(IntKind.wrap .i64 (r1.1+(1:Int))),r3,m2,b3,hunt4,x5,(0:Int),(0:Int))∧(
 let r4:Int×tWk:=b19 (t0,at1,(IntKind.wrap .i64 (r1.1+(1:Int))),r3,m2,b3,hunt4,x5,(0:Int),(0:Int))
 bif (!decide (r4.1=(0:Int))) then
 True
 else
 b2y r4.2))))
def a9P (t0:LI) (at1:Int) (m2:(Unit×Int)) (b3:tBk) (hunt4:LI) (x5:tEx):tEf×Int:=
 let r1:Int×Int:=G4 t0 at1
 bif (!decide (r1.2=(0:Int))) then
 ((([]:List ((Int×LI×LI))),(0:Int),(false,false,([]:LI)),(0:Int),false),(2:Int))
 else
 let r2:LI:=a31 x5
 bif (decide ((List.length r2:Int)=(0:Int))) then
 ((([]:List ((Int×LI×LI))),(0:Int),(false,false,([]:LI)),(0:Int),false),(240:Int))
 else
 let r3:Int:=Z0 t0
 let r4:Int×tWk:=b19 (t0,at1,(IntKind.wrap .i64 (r1.1+(1:Int))),r3,m2,b3,hunt4,x5,(0:Int),(0:Int))
 bif (!decide (r4.1=(0:Int))) then
 ((([]:List ((Int×LI×LI))),(0:Int),(false,false,([]:LI)),(0:Int),false),r4.1)
 else
 let r5:tEf×Int×tWk:=c1Q r4.2
 bif (!decide (r5.2.1=(0:Int))) then
 ((([]:List ((Int×LI×LI))),(0:Int),(false,false,([]:LI)),(0:Int),false),r5.2.1)
 else
 (r5.1,(0:Int))
theorem d2v (t0:LI) (at1:Int) (m2:(Unit×Int)) (b3:tBk) (hunt4:LI) (x5:tEx) (K:Res→List Cell→Prop) (_:wfA a9O (t0,at1,m2,b3,hunt4,x5,())) (hp:a9Q t0 at1 m2 b3 hunt4 x5) (h:∀ r:tEf×Int,r=a9P t0 at1 m2 b3 hunt4 x5→K (.tup [.v tyE r.1,.v yI r.2]) []):b5H t0 at1 m2 b3 hunt4 x5 K:=
 an1 hp fun hp=>al (br1 hp h (fun _ hp h=>h _ rfl)
 fun _ hp h=>an1 hp fun hp=>al (br1 hp h (fun _ hp h=>h _ rfl)
 fun _ hp h=>an1 hp fun hp=>al (an1 hp fun hp=>al (br1 hp h (fun _ hp h=>h _ rfl)
 fun _ hp h=>⟨hp,al (br0 h (fun _ h=>h _ rfl)
 fun _ h=>h _ rfl)⟩))))
def d7e (v:j3 a9O) (K:Res→List Cell→Prop):Prop:=a9Q v.1 v.2.1 v.2.2.1 v.2.2.2.1 v.2.2.2.2.1 v.2.2.2.2.2.1∧∀ r:tEf×Int,r=a9P v.1 v.2.1 v.2.2.1 v.2.2.2.1 v.2.2.2.2.1 v.2.2.2.2.2.1→K (.tup [.v tyE r.1,.v yI r.2]) []
def c4X:App:=specW a9O d7e
theorem d2w (K:Res→List Cell→Prop):∀ v:j3 a9O,q7 tb (j8 c4V) [] Tryz.f18 [true,true] (mkA a9O v) K=b5H v.1 v.2.1 v.2.2.1 v.2.2.2.1 v.2.2.2.2.1 v.2.2.2.2.2.1 K
 | (t0,at1,m2,b3,hunt4,x5,())=>by kernel_rfl
theorem d2u:g8 Tryz.prog 18 c4X:=
 g8.specW (l9 ((l8 o0 j9 c4W (g7.nil) (f:=18) (fn:=Tryz.f18) (by kernel_rfl) (by kernel_rfl) (by kernel_rfl) [true,true])) fun v K hw h=>(d2w K v).mpr (d2v v.1 v.2.1 v.2.2.1 v.2.2.2.1 v.2.2.2.2.1 v.2.2.2.2.2.1 K hw h.1 h.2))
end Go.VE
namespace Go.VE
abbrev awX:ExD:=((110,2,0,[],0,true),(0,0,0,[],0,false),false,[100],(0,0,0,[],0,false),0,0,[],[],false)
theorem b9D:a0Z [50,100]=.inl awX:=by kernel_rfl
theorem b5i:a5s [50,100]∧a0B [50,100]=(awX,0):=by
 obtain ⟨p,f⟩:=b29 [50,100] (by decide)
 exact ⟨p,by rw [f,b9D]; rfl⟩
theorem e4y:a5s [113]∧a0B [113]=(exZ,240):=by
 obtain ⟨p,f⟩:=b29 [113] (by decide)
 exact ⟨p,by rw [f,show a0Z [113]=.inr 240 by kernel_rfl]; rfl⟩
theorem a2R:a7b awX∧a31 awX=[50,100]:=by
 obtain ⟨p,f⟩:=c2U awX (by decide)
 refine ⟨p,?_⟩
 rw [f,if_neg (by decide),show spS awX=[50,100] by kernel_rfl]
 unfold chk
 rw [b9D]
 kernel_rfl
abbrev awT:LI:=[97,10,98,10,99]
theorem e4x:a9P awT 0 ((),0) ((false,false,[]),(false,false,[]),(),()) [] awX=(([(2,[98,10],[])],2,(true,true,[98,10]),2,false),0):=by
 unfold a9P
 rw [a2R.2]
 kernel_rfl
theorem d6S:a9Q awT 0 ((),0) ((false,false,[]),(false,false,[]),(),()) [] awX:=by
 unfold a9Q
 rw [a2R.2]
 refine ⟨?_,a2R.1,?_,?_,?_⟩
 ·refine ⟨⟨by decide,by decide⟩,rfl⟩
 ·exact rfl
 ·rw [show IntKind.wrap .i64 ((G4 awT 0).1+1)=1 by kernel_rfl,show Z0 awT=3 by kernel_rfl]
  have e:b58 (awT,0,1,3,((),0),((false,false,[]),(false,false,[]),(),()),[],awX,0,0)=(b2K awT 1 ((),0) [] (110,2,0,[],0,true)∧True):=by kernel_rfl
  rw [e]
  refine ⟨?_,trivial⟩
  rw [show b2K awT 1 ((),0) [] (110,2,0,[],0,true)=(a0R awT∧True) by kernel_rfl]
  exact ⟨rfl,trivial⟩
 ·rw [show IntKind.wrap .i64 ((G4 awT 0).1+1)=1 by kernel_rfl,show Z0 awT=3 by kernel_rfl]
  have e:b19 (awT,0,1,3,((),0),((false,false,[]),(false,false,[]),(),()),[],awX,0,0)=(0,(awT,0,1,3,((),0),((false,false,[]),(false,false,[]),(),()),[],awX,2,2)):=by kernel_rfl
  rw [e]
  have e2:b2y (awT,0,1,3,((),0),((false,false,[]),(false,false,[]),(),()),[],awX,2,2)=a7S awT 0 [100] (2,4,true,false) 1:=by kernel_rfl
  show b2y (awT,0,1,3,((),0),((false,false,[]),(false,false,[]),(),()),[],awX,2,2)
  rw [e2]
  refine ⟨rfl,fun _=>⟨?_,fun _=>?_⟩⟩
  ·rw [show b05 awT 0 (2,4,true,false)=(N4 awT 2∧a7h awT 0 1 (2,4,true,false)) by kernel_rfl]
   refine ⟨⟨⟨by decide,by decide⟩,rfl⟩,?_⟩
   exact ⟨⟨⟨by decide,by decide⟩,rfl⟩,⟨⟨by decide,by decide⟩,rfl⟩,rfl,rfl,rfl,by decide⟩
  ·rw [show (Q6 awT 0 (2,4,true,false)).1=1 by kernel_rfl,show (Q6 awT 0 (2,4,true,false)).2.1=1 by kernel_rfl]
   rw [show a6O (awT,0,(2,4,true,false),1,1,1)=(b2O awT 2 4 []∧(a8u (awT,0,(2,4,true,false),1,1,1)∧(a5E awT [(2,[98,10],[])]∧a0R [97,10,99]))) by kernel_rfl]
   refine ⟨?_,?_,?_,rfl⟩
   ·refine ⟨⟨by decide,by decide,by decide⟩,⟨by decide,by decide,by decide⟩,(by unfold D9; decide),(by unfold D9; decide)⟩
   ·rw [show a8u (awT,0,(2,4,true,false),1,1,1)=((0≤(2:Int)∧(2:Int)≤4∧(4:Int)≤(awT.length:Int))∧a7q [98,10] (2,4,true,false) (false,false,[])) by kernel_rfl]
    refine ⟨⟨by decide,by decide,by decide⟩,?_⟩
    refine ⟨(by unfold a8n; decide),⟨by decide,by decide⟩,trivial⟩
   ·exact show awT.length+b5w [(2,[98,10],[])]≤lim by decide
end Go.VE
namespace Go.VE
open Go Go.Proofs
def d5Y:List (Nat×App):=[(13,c9K),(18,c4X),(16,c2h)]
theorem d3z:GOk Tryz.prog (j8 d5Y):=GOk.cons c9L (GOk.cons d2u (GOk.cons b9f (GOk.nil)))
def b36  (K:Res→List Cell→Prop):Prop:=
 a5s ([(50:Int),(100:Int)]:LI)∧(
 ∀ (r1:tEx×Int),r1=a0B ([(50:Int),(100:Int)]:LI)→(
 wfR (.tup [.v tyX r1.1,.v yI r1.2])→(
 a9Q ([(97:Int),(10:Int),(98:Int),(10:Int),(99:Int)]:LI) (0:Int) ((),(0:Int)) ((false,false,([]:LI)),(false,false,([]:LI)),(),()) ([]:LI) r1.1∧(
 ∀ (r2:tEf×Int),r2=a9P ([(97:Int),(10:Int),(98:Int),(10:Int),(99:Int)]:LI) (0:Int) ((),(0:Int)) ((false,false,([]:LI)),(false,false,([]:LI)),(),()) ([]:LI) r1.1→(
 wfR (.tup [.v tyE r2.1,.v yI r2.2])→(
 a5s ([(113:Int)]:LI)∧(
 ∀ (r3:tEx×Int),r3=a0B ([(113:Int)]:LI)→(
 wfR (.tup [.v tyX r3.1,.v yI r3.2])→(
 bif (decide (r1.2=(0:Int))) then
 bif (decide (r2.2=(0:Int))) then
 bif (decide (r3.2=(240:Int))) then
 bif (decide ((List.length r2.1.1:Int)=(1:Int))) then
 bif decide (0≤(0:Int)∧(0:Int)<(List.length r2.1.1:Int)) then
 bif (decide ((rd ((0:Int),([]:LI),([]:LI)) r2.1.1 (0:Int)).2.1=([98,10]:LI))) then
 bif (decide (r2.1.2.1=(2:Int))) then
 bif (decide (r2.1.2.2.2.1=(2:Int))) then
 a7b r1.1∧(
 ∀ (r4:LI),r4=a31 r1.1→(
 wfR (.one (.v yB r4))→(
 K (.one (.v .bool (decide (r4=([50,100]:LI))))) [])))
 else
 K (.one (.v .bool false)) []
 else
 K (.one (.v .bool false)) []
 else
 K (.one (.v .bool false)) []
 else False
 else
 K (.one (.v .bool false)) []
 else
 K (.one (.v .bool false)) []
 else
 K (.one (.v .bool false)) []
 else
 K (.one (.v .bool false)) [])))))))))
def b6C:List AS:=[]
def c8l:Bool:=true
theorem e0X (K:Res→List Cell→Prop) (_:wfA b6C ()) (h:∀ r:Bool,r=c8l→K (.one (.v .bool r)) []):b36 K:=by
 unfold b36
 refine ⟨b5i.1,fun r1 h1 _=>?_⟩
 rw [b5i.2] at h1
 subst h1
 refine ⟨d6S,fun r2 h2 _=>?_⟩
 have h2:=h2.trans e4x
 subst h2
 refine ⟨e4y.1,fun r3 h3 _=>?_⟩
 rw [e4y.2] at h3
 subst h3
 refine brn (fun _=>?_) (fun hh=>absurd rfl hh)
 refine brn (fun _=>?_) (fun hh=>absurd rfl hh)
 refine brn (fun _=>?_) (fun hh=>absurd rfl hh)
 refine brn (fun _=>?_) (fun hh=>absurd rfl hh)
 refine C1 ⟨by decide,by decide⟩ ?_
 refine brn (fun _=>?_) (fun hh=>absurd rfl hh)
 refine brn (fun _=>?_) (fun hh=>absurd rfl hh)
 refine brn (fun _=>?_) (fun hh=>absurd rfl hh)
 refine ⟨a2R.1,fun r4 h4 _=>?_⟩
 have h4:=h4.trans a2R.2
 subst h4
 exact h _ (by kernel_rfl)
def e5R (v:j3 b6C) (K:Res→List Cell→Prop):Prop:=∀ r:Bool,r=c8l→K (.one (.v .bool r)) []
def d5Z:App:=specW b6C e5R
theorem e0Y (K:Res→List Cell→Prop):∀ v:j3 b6C,q7 tb (j8 d5Y) [] Tryz.f11 [true] (mkA b6C v) K=b36  K
 | ()=>by kernel_rfl
set_option maxRecDepth 20000 in
theorem e0W:g8 Tryz.prog 11 d5Z:=
 g8.specW (l9 ((l8 o0 j9 d3z (g7.nil) (f:=11) (fn:=Tryz.f11) (by kernel_rfl) (by kernel_rfl) (by kernel_rfl) [true])) fun v K hw h=>(e0Y K v).mpr (e0X  K hw h))
def e34:List (Nat×App):=[(11,d5Z),(15,d5P),(16,c2h)]
theorem e35:GOk Tryz.prog (j8 e34):=GOk.cons e0W (GOk.cons e0s (GOk.cons b9f (GOk.nil)))
def d1t (x0:tEx) (K:Res→List Cell→Prop):Prop:=
 ∀ (r1:Bool),r1=c8l→(
 wB r1→(
 bif (!r1) then
 K (.one (.v .bool false)) []
 else
 b6y x0∧(
 ∀ (r2:LI),r2=b2m x0→(
 wfR (.one (.v yB r2))→(
 a7b x0∧(
 ∀ (r3:LI),r3=a31 x0→(
 wfR (.one (.v yB r3))→(
 K (.one (.v .bool (decide (r3=r2)))) []))))))))
def b1C:List AS:=[.v tyX]
theorem d4o (x0:tEx) (K:Res→List Cell→Prop):q7 tb (j8 e34) [] Tryz.f4 [true] (mkA b1C (x0,())) K=d1t x0 K:=by kernel_rfl
def e36:App:=q7 tb (j8 e34) [] Tryz.f4 [true]
theorem e6T:g8 Tryz.prog 4 e36:=l8 o0 j9 e35 (g7.nil) (f:=4) (fn:=Tryz.f4) (by kernel_rfl) (by kernel_rfl) (by kernel_rfl) [true]
end Go.VE
namespace Go.VE
def ShX (x:ExD):Prop:=(x.2.2.2.1=[100]∨x.2.2.2.1=[121]∨x.2.2.2.1=[106]∨x.2.2.2.1=[106,33])∨((x.2.2.2.1=[112,117]∨x.2.2.2.1=[112,117,33]∨x.2.2.2.1=[])∧x.2.2.2.2.2.2.1=0)∨
 (x.2.2.2.2.2.1=0∧(x.2.2.2.1=[62]∨x.2.2.2.1=[60]∨x.2.2.2.1=[116]∨x.2.2.2.1=[109]∨x.2.2.2.1=[115]))
theorem e4C {a b:Adr} {w:Bool} {l:LI} {x:ExD} {t:LI} (h:cmM a b w l=.inl (x,t)):x.1=a∧x.2.1=b∧x.2.2.1=w∧ShX x:=by
 cases l with
 | nil=>cases h
 | cons c r=>
  rw [Y1] at h
  split at h
  ·rename_i hc
   split at h
   ·cases h
    refine ⟨rfl,rfl,rfl,.inl ?_⟩
    rcases hc with rfl | rfl
    ·exact .inl rfl
    ·exact .inr (.inl rfl)
   ·cases h
  ·split at h
   ·split at h
    ·cases h
    ·cases h
     refine ⟨rfl,rfl,rfl,.inr (.inl ⟨?_,rfl⟩)⟩
     dsimp only
     split
     ·exact .inr (.inl rfl)
     ·exact .inl rfl
   ·split at h
    ·split at h
     ·cases h
      refine ⟨rfl,rfl,rfl,.inl (.inr (.inr ?_))⟩
      dsimp only
      split
      ·exact .inr rfl
      ·exact .inl rfl
     ·cases h
    ·split at h
     ·rename_i hc
      cases h
      refine ⟨rfl,rfl,rfl,.inr (.inr ⟨rfl,?_⟩)⟩
      rcases hc with rfl | rfl
      ·exact .inl rfl
      ·exact .inr (.inl rfl)
     ·split at h
      ·split at h
       ·cases h
       ·split at h
        ·cases h; exact ⟨rfl,rfl,rfl,.inr (.inr ⟨rfl,.inr (.inr (.inl rfl))⟩)⟩
        ·cases h
      ·split at h
       ·rename_i hc
        split at h
        ·cases h
         refine ⟨rfl,rfl,rfl,.inr (.inr ⟨rfl,?_⟩)⟩
         rcases hc with rfl | rfl
         ·exact .inr (.inr (.inl rfl))
         ·exact .inr (.inr (.inr (.inl rfl)))
        ·cases h
       ·split at h
        ·unfold rpM at h
         have s4:∀ (o n:LI) (g:Bool),ShX (a,b,w,[115],p9,0,0,o,n,g):=fun _ _ _=>.inr (.inr ⟨rfl,.inr (.inr (.inr (.inr rfl)))⟩)
         split at h
         ·cases h
         ·split at h
          ·cases h
          ·cases h
          ·split at h
           ·cases h
           ·cases h; exact ⟨rfl,rfl,rfl,s4 _ _ _⟩
           ·cases h; exact ⟨rfl,rfl,rfl,s4 _ _ _⟩
        ·cases h
theorem b1k (c:Int):∀ n,a8K [c] n=List.replicate n c
 | 0=>rfl
 | n+1=>by
  show [c]++a8K [c] n=_
  rw [b1k c n]; rfl
theorem e4A {x:ExD} (h:ShX x) (h0:0≤x.2.2.2.2.2.2.1):nmS x++(rS x++tlS x)=bdR x:=by
 obtain ⟨a,b,w,nm,d,rg,cn,old,new,all⟩:=x
 dsimp only at h0
 unfold nmS tlS bdR rS
 dsimp only
 have hc:(if 0<cn then 32::dec cn.toNat else [])=(if cn=0 then [] else 32::dec cn.toNat):=by
  by_cases c:cn=0
  ·rw [if_neg (by omega),if_pos c]
  ·rw [if_pos (by omega),if_neg c]
 rcases h with h | ⟨h,hz⟩ | ⟨hz,h⟩
 ·dsimp only at h
  rw [hc]
  rcases h with rfl | rfl | rfl | rfl <;> simp
 ·dsimp only at h hz
  subst hz
  rcases h with rfl | rfl | rfl <;> simp
 ·dsimp only at h hz
  subst hz
  rcases h with rfl | rfl | rfl | rfl | rfl
  ·simp [b1k,rd]
  ·simp [b1k,rd]
  ·simp [rd]
  ·simp [rd]
  ·simp
theorem e61 {l:LI} {x:ExD} (h:a0Z l=.inl x) (h0:0≤x.2.2.2.2.2.2.1):spS x=rfS x:=by
 unfold a0Z at h
 split at h
 ·cases h
 ·rename_i g a b w r hsp
  have hw:w=true→a=p9∧b=p9:=by
   intro hw
   unfold spM at hsp
   split at hsp
   ·cases hsp; exact ⟨rfl,rfl⟩
   ·split at hsp
    ·cases hsp
    ·split at hsp
     ·split at hsp
      ·cases hsp
      ·cases hsp; cases hw
     ·cases hsp; cases hw
  have key:x.1=a∧x.2.1=b∧x.2.2.1=w∧ShX x:=by
   unfold bhM at h
   split at h
   ·split at h
    ·unfold enM at h
     dsimp only at h
     split at h
     ·cases h; exact ⟨rfl,rfl,rfl,.inr (.inl ⟨.inr (.inr rfl),rfl⟩)⟩
     ·cases h
    ·cases h
   ·unfold enM at h
    split at h
    ·cases h
    ·rename_i y t hy
     split at h
     ·cases h; exact e4C hy
     ·cases h
  obtain ⟨k1,k2,k3,k4⟩:=key
  unfold spS rfS rgS
  rw [e4A k4 h0,k1,k2,k3]
  have hn:∀ a:Adr,(if a.2.2.2.2.2=true then adS a else [])=adS a:=by
   intro a
   by_cases c:a.2.2.2.2.2=true
   ·rw [if_pos c]
   ·rw [if_neg c]
    unfold adS b46
    simp [c]
  cases w
  ·rw [hn]
   show (adS a++_)++_=[]++(adS a++(_++_))
   rw [List.nil_append,List.append_assoc]
  ·obtain ⟨rfl,rfl⟩:=hw rfl
   rfl
theorem d6X (x:ExD) (h0:0≤x.2.2.2.2.2.2.1):chk x (spS x)=chk x (rfS x):=by
 have e:∀ o,a0Z o=.inl x→spS x=rfS x:=fun o h=>e61 h h0
 have g1:∀ o,a0Z o=.inl x→chk x o=o:=fun o h=>by
  unfold chk
  rw [h]
  exact if_pos ((b9r x x).2 rfl)
 have g2:∀ o,a0Z o≠.inl x→chk x o=[]:=fun o h=>by
  unfold chk
  cases hp:a0Z o with
  | inr e=>rfl
  | inl y=>
   dsimp only
   rw [if_neg]
   intro c
   rw [(b9r x y).1 c] at h
   exact h hp
 by_cases c1:a0Z (spS x)=.inl x
 ·rw [← e _ c1]
 ·by_cases c2:a0Z (rfS x)=.inl x
  ·rw [e _ c2]
  ·rw [g2 _ c1,g2 _ c2]
theorem b2Z (a:Adr):bulk b7R a=a.2.2.2.1.length+6:=by
 show 1+(1+(1+(bulk (.sl (.int .u8)) a.2.2.2.1+(1+1))))=_
 rw [a5y]; omega
theorem d1W (y:ExD):szX y≤bulk exT y:=by
 show _≤bulk b7R y.1+(bulk b7R y.2.1+(1+((y.2.2.2.1.length+1)+(bulk b7R y.2.2.2.2.1+(1+(1+(bulk (.sl (.int .u8)) y.2.2.2.2.2.2.2.1+(bulk (.sl (.int .u8)) y.2.2.2.2.2.2.2.2.1+1))))))))
 rw [b2Z,b2Z,b2Z,a5y,a5y]
 unfold szX
 omega
set_option maxRecDepth 100000 in
theorem spells_law (v:j3 b1C) (hw:wfA b1C v) (hb:a5Q b1C v≤1048576):e36 (mkA b1C v) (fun r _=>r=.one (.v .bool true)):=by
 obtain ⟨x,⟨⟩⟩:=v
 refine (d4o x _).mpr ?_
 have hs:szX x≤1048576:=by
  change bulk exT x+0≤1048576 at hb
  have:=d1W x
  omega
 have hlim:lim=1099511627776:=rfl
 obtain ⟨p,f⟩:=c2U x (by omega)
 obtain ⟨rp,rf⟩:=d4p x (by omega)
 have e:a31 x=b2m x:=by
  rw [f,rf]
  by_cases c:x.2.2.2.2.2.2.1<0∨9999<x.2.2.2.2.2.2.1
  ·rw [if_pos c,if_pos c]
  ·rw [if_neg c,if_neg c,d6X x (Int.not_lt.1 (not_or.1 c).1)]
 unfold d1t
 intro r1 h1 _
 subst h1
 refine brb (fun h=>absurd h (by decide)) (fun _=>?_)
 refine ⟨rp,fun r2 h2 _=>⟨p,fun r3 h3 _=>?_⟩⟩
 rw [h3,h2,e,decide_eq_true rfl]
end Go.VE
