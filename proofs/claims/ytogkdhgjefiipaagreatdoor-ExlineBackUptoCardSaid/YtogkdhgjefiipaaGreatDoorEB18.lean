import Derived.Test.YtogkdhgjefiipaaGreatDoorEB17
import Derived.MapKept
set_option linter.unusedVariables false
set_option linter.unusedSectionVars false
set_option linter.unusedSimpArgs false
namespace Go.VE
open Go Go.Proofs Go.RowKit Go.Lib Go.MapKept

structure MapAt (w0 w:World) (es:Array MapEntry):Prop where
  at_:w.heap[w0.heap.size]?=some (.map es es.size)
  size:w.heap.size=w0.heap.size+1
  old:∀ b,b<w0.heap.size→w.heap[b]?=w0.heap[b]?
  os:w.os=w0.os
  tape:w.tape=w0.tape
  output:w.output=w0.output

theorem MapAt.made (w:World):MapAt w (w.alloc (.map #[] 0)) #[]:=
  { at_:=by show (w.heap.push _)[w.heap.size]?=_; simp,size:=by simp,old:=fun b hb=>(by show (w.heap.push _)[b]?=_; rw [Array.getElem?_push,if_neg (by omega)]),os:=rfl,tape:=rfl,output:=rfl }

theorem MapAt.upd {P:Program} {t k e:TypeId} {w0 w:World} {es:Array MapEntry} (M:MapAt w0 w es) (hu:P.underlying t=some (.map k e)) (hk:P.underlying k=some .string) {s:ByteArray} {v:Value}
    (hf:Instr.findNow .string (.string s) es.toList 0=some none) :
    ∃ w',(Instr.mapUpdate t (.map (some w0.heap.size)) (.string s) v).run P w=.ok () w'∧MapAt w0 w' (es.push { key:=.string s,val:=v,born:=es.size }):=by
  refine ⟨{ w with heap:=w.heap.setIfInBounds w0.heap.size (.map (es.push { key:=.string s,val:=v,born:=es.size }) (es.size+1)) },?_,?_⟩
  · have h1:=run_checkKey (P:=P) (w:=w) (kt:=k) (k:=.string s) hk (by trivial) false 9999
    have h2:=run_findKey (P:=P) (w:=w) hk hf
    have h3:=MapKept.run_setObj_map (P:=P) (.map (es.push { key:=.string s,val:=v,born:=es.size }) (es.size+1)) M.at_
    have h4:=MapKept.run_getObj_map (P:=P) M.at_
    simp only [Instr.mapUpdate,Sem.run_bind,run_underlying hu,h4,Result.andThen_ok,h1,h2,h3]
  · have hs:=M.size
    refine { at_:=?_,size:=by simpa using M.size,old:=fun b hb=>?_,os:=M.os,tape:=M.tape,output:=M.output }
    · simp [hs]
    · rw [← M.old b hb]
      exact Array.getElem?_setIfInBounds_ne (by omega)

section
variable {P:Program} {ops:Array Oper} {Q:Exit→Act→World→Prop} {ix:List Nat} {j:Nat} {a:Act} {w w':World} {v:Value}

theorem op_val {o:Oper} (hj:ops[j]?=some o) (hg:o.guard=none) (hr:(execOp a.eval o).run P w=.ok (.value v) w') (hn:wpOps P ops Q ix (a.put o.dst v) w'):wpOps P ops Q (j::ix) a w:=by
  simp only [wpOps,hj]
  rw [if_pos (by simp [Region.wanted,hg])]
  exact .inl (wp_val hr hn)

theorem op_skip {o:Oper} (hj:ops[j]?=some o) (hg:o.guard=none) (hr:(execOp a.eval o).run P w=.ok .skip w') (hn:wpOps P ops Q ix (a.put o.dst undef) w'):wpOps P ops Q (j::ix) a w:=by
  simp only [wpOps,hj]
  rw [if_pos (by simp [Region.wanted,hg])]
  refine .inl ?_
  unfold Oper.wp
  rw [hr]
  exact hn

theorem op_enter {o:Oper} {f:FuncId} {args:Array Value} (hj:ops[j]?=some o) (hg:o.guard=none) (hr:(execOp a.eval o).run P w=.ok (.enter f args) w)
    (h:Calls P f args w fun e w'=>∃ v,e=.returned v∧wpOps P ops Q ix (a.put o.dst v) w'):wpOps P ops Q (j::ix) a w:=by
  simp only [wpOps,hj]
  rw [if_pos (by simp [Region.wanted,hg])]
  refine .inl ?_
  unfold Oper.wp
  rw [hr]
  refine h.mono ?_
  rintro e w' ⟨v,rfl,hb⟩
  exact hb
end

def ent (k:ByteArray) (f i:Nat):MapEntry:={ key:=.string k,val:=.func (.func f) #[] #[],born:=i }

def opsOf:Code→Array Oper
  | .region _ ops _=>ops
  | _=>#[]

section
variable {P:Program} {ops:Array Oper} {Q:Exit→Act→World→Prop} {ix:List Nat} {j:Nat} {a:Act} {w w':World} {v:Value} {dst:Option Tmp}
theorem op_val' (op:Op) (hj:(ops[j]?).map (fun o=>(o.op,o.dst,o.guard))=some (op,dst,none)) (hr:∀ o:Oper,o.op=op→o.dst=dst→(execOp a.eval o).run P w=.ok (.value v) w') (hn:wpOps P ops Q ix (a.put dst v) w'):wpOps P ops Q (j::ix) a w:=by
  cases ho:ops[j]? with
  | none=>rw [ho] at hj; cases hj
  | some o=>
    rw [ho] at hj
    simp only [Option.map_some,Option.some.injEq,Prod.mk.injEq] at hj
    obtain ⟨h1,h2,h3⟩:=hj
    exact op_val ho h3 (hr o h1 h2) (by rw [h2]; exact hn)
theorem op_skip' (op:Op) (hj:(ops[j]?).map (fun o=>(o.op,o.dst,o.guard))=some (op,none,none)) (hr:∀ o:Oper,o.op=op→o.dst=none→(execOp a.eval o).run P w=.ok .skip w') (hn:wpOps P ops Q ix a w'):wpOps P ops Q (j::ix) a w:=by
  cases ho:ops[j]? with
  | none=>rw [ho] at hj; cases hj
  | some o=>
    rw [ho] at hj
    simp only [Option.map_some,Option.some.injEq,Prod.mk.injEq] at hj
    obtain ⟨h1,h2,h3⟩:=hj
    exact op_skip ho h3 (hr o h1 h2) (by rw [h2]; exact hn)
theorem op_enter' (op:Op) {f:FuncId} {args:Array Value} (hj:(ops[j]?).map (fun o=>(o.op,o.dst,o.guard))=some (op,dst,none)) (hr:∀ o:Oper,o.op=op→o.dst=dst→(execOp a.eval o).run P w=.ok (.enter f args) w)
    (h:Calls P f args w fun e w'=>∃ v,e=.returned v∧wpOps P ops Q ix (a.put dst v) w'):wpOps P ops Q (j::ix) a w:=by
  cases ho:ops[j]? with
  | none=>rw [ho] at hj; cases hj
  | some o=>
    rw [ho] at hj
    simp only [Option.map_some,Option.some.injEq,Prod.mk.injEq] at hj
    obtain ⟨h1,h2,h3⟩:=hj
    exact op_enter ho h3 (hr o h1 h2) (by rw [h2]; exact h)
theorem op_ins {t k e:TypeId} {w0:World} {es:Array MapEntry} (T:Tmp) (M:MapAt w0 w es) (hu:P.underlying t=some (.map k e)) (hk:P.underlying k=some .string) (hT:a.eval (.tmp T)=.map (some w0.heap.size)) (s:ByteArray) (f:FuncId)
    (hj:(ops[j]?).map (fun o=>(o.op,o.dst,o.guard))=some (.insert t (.tmp T) (.const (.string s)) (.func f),none,none))
    (hf:Instr.findNow .string (.string s) es.toList 0=some none) (hn:∀ w',MapAt w0 w' (es.push (ent s f es.size))→wpOps P ops Q ix a w'):wpOps P ops Q (j::ix) a w:=by
  obtain ⟨w',hr,M'⟩:=M.upd (v:=.func (.func f) #[] #[]) hu hk hf
  refine op_skip' _ hj (fun o ho hd=>?_) (hn w' M')
  unfold execOp
  rw [ho]
  dsimp only
  rw [hT]
  show (Sem.run P (do Instr.mapUpdate t (.map (some w0.heap.size)) (.string s) (.func (.func f) #[] #[]); pure _) w)=_
  rw [Sem.run_bind,hr]
  rfl
end

def tabE:Array MapEntry:=#[ent ⟨#[100]⟩ 235 0,ent ⟨#[99]⟩ 236 1,ent ⟨#[121]⟩ 237 2,ent ⟨#[62]⟩ 238 3,ent ⟨#[60]⟩ 239 4,ent ⟨#[103,126]⟩ 240 5,ent ⟨#[103,117]⟩ 243 6,ent ⟨#[103,85]⟩ 245 7]

theorem tab_mt:Tryz.prog.underlying 233=some (.map 9 231):=by kernel_rfl
theorem tab_kt:Tryz.prog.underlying 9=some .string:=by kernel_rfl
theorem operators_body:Tryz.f208.body=some (.seq (.region 0 (opsOf (at' (bodyOf Tryz.f208) [0])) false) (.seq (.region 1 (opsOf (at' (bodyOf Tryz.f208) [0,1])) false) .ret)):=by kernel_rfl
theorem operators_run (w:World):Calls Tryz.prog 208 #[] w fun e w'=>e=.returned (.map (some w.heap.size))∧MapAt w w' tabE:=by
  refine calls_of_wp (fn:=Tryz.f208) (by kernel_rfl) operators_body ?_
  refine wp_seq (wp_region ?_)
  rw [show List.range (opsOf (at' (bodyOf Tryz.f208) [0])).size=[0] by kernel_rfl]
  refine op_val' (.assign (.const (.map none))) (dst:=some 0) (by kernel_rfl) (fun o ho hd=>by unfold execOp; rw [ho]; rfl) ?_
  show Code.wp _ _ _ _ _
  refine wp_seq (wp_region ?_)
  rw [show List.range (opsOf (at' (bodyOf Tryz.f208) [0,1])).size=[0,1,2,3,4,5,6,7,8,9,10] by kernel_rfl]
  refine op_val' (.makeMap 233 none) (dst:=some 1) (by kernel_rfl) (fun o ho hd=>by unfold execOp; rw [ho]; rfl) ?_
  have hT:∀ (x y z:Value) (ds:List Deferred) (m:Value),(((Act.mk #[x,y,z] ds).put (some 1) m).eval (.tmp 1))=m:=fun _ _ _ _ _=>rfl
  refine op_ins 1 (MapAt.made w) tab_mt tab_kt rfl ⟨#[100]⟩ 235 (by kernel_rfl) (by kernel_rfl) fun w M=>?_
  refine op_ins 1 M tab_mt tab_kt rfl ⟨#[99]⟩ 236 (by kernel_rfl) (by kernel_rfl) fun w M=>?_
  refine op_ins 1 M tab_mt tab_kt rfl ⟨#[121]⟩ 237 (by kernel_rfl) (by kernel_rfl) fun w M=>?_
  refine op_ins 1 M tab_mt tab_kt rfl ⟨#[62]⟩ 238 (by kernel_rfl) (by kernel_rfl) fun w M=>?_
  refine op_ins 1 M tab_mt tab_kt rfl ⟨#[60]⟩ 239 (by kernel_rfl) (by kernel_rfl) fun w M=>?_
  refine op_ins 1 M tab_mt tab_kt rfl ⟨#[103,126]⟩ 240 (by kernel_rfl) (by kernel_rfl) fun w M=>?_
  refine op_ins 1 M tab_mt tab_kt rfl ⟨#[103,117]⟩ 243 (by kernel_rfl) (by kernel_rfl) fun w M=>?_
  refine op_ins 1 M tab_mt tab_kt rfl ⟨#[103,85]⟩ 245 (by kernel_rfl) (by kernel_rfl) fun w M=>?_
  refine op_val' (.move (.tmp 1)) (dst:=some 2) (by kernel_rfl) (fun o ho hd=>by unfold execOp; rw [ho]; rfl) ?_
  refine op_val' (.assign (.tmp 2)) (dst:=some 0) (by kernel_rfl) (fun o ho hd=>by unfold execOp; rw [ho]; rfl) ?_
  refine wp_ret ?_
  refine ⟨rfl,_,?_,rfl,M⟩
  rw [results_eq,show Tryz.f208.results=#[.tmp 0] by kernel_rfl]
  simp [resSem,Act.put]
  rfl

theorem lookup_run {P:Program} {t k e:TypeId} (hu:P.underlying t=some (.map k e)) (hk:P.underlying k=some .string) {es:Array MapEntry} {c r i:Nat} {w:World} (hb:w.heap[r]?=some (.map es c)) {s:ByteArray} {v:Value}
    (hf:Instr.findNow .string (.string s) es.toList 0=some (some (i,v))):(Instr.lookup t (.map (some r)) (.string s) true).run P w=.ok (.tuple #[v,.bool true]) w:=by
  have h1:=run_checkKey (P:=P) (w:=w) (kt:=k) (k:=.string s) hk (by trivial) es.isEmpty 9999
  have h2:=run_findKey (P:=P) (w:=w) hk hf
  have h4:=MapKept.run_getObj_map (P:=P) hb
  simp [Instr.lookup,run_underlying hu,h4,h1,h2,Result.andThen]

theorem lookup_none {P:Program} {t k e:TypeId} (hu:P.underlying t=some (.map k e)) (hk:P.underlying k=some .string) {es:Array MapEntry} {c r:Nat} {w:World} (hb:w.heap[r]?=some (.map es c)) {s:ByteArray} {z:Value}
    (hz:(zeroValue e).run P w=.ok z w) (hf:Instr.findNow .string (.string s) es.toList 0=some none):(Instr.lookup t (.map (some r)) (.string s) true).run P w=.ok (.tuple #[z,.bool false]) w:=by
  have h1:=run_checkKey (P:=P) (w:=w) (kt:=k) (k:=.string s) hk (by trivial) es.isEmpty 9999
  have h2:=run_findKey (P:=P) (w:=w) hk hf
  have h4:=MapKept.run_getObj_map (P:=P) hb
  simp [Instr.lookup,run_underlying hu,h4,h1,h2,hz,Result.andThen]

def goK:List (LI×Nat)→LI→(Nat→Prop)→Prop
  | [],_,_=>False
  | (a,f)::r,x,k=>bif decide (x=a) then k f else goK r x k

theorem goK_mem:∀ {ks:List (LI×Nat)} {x:LI} {k:Nat→Prop},goK ks x k→∃ f,(x,f)∈ks∧k f
  | [],_,_,h=>by cases h
  | (a,f)::r,x,k,h=>by
    unfold goK at h
    by_cases c:x=a
    · rw [decide_eq_true c] at h
      exact ⟨f,by rw [c]; exact List.mem_cons_self,h⟩
    · rw [decide_eq_false c] at h
      obtain ⟨f',h1,h2⟩:=goK_mem h
      exact ⟨f',List.mem_cons_of_mem _ h1,h2⟩

def tabKeys:List (LI×Nat):=[([100],235)]

theorem bytes_eq {s t:ByteArray} (h:bytesOf s=bytesOf t):s=t:=by
  have:=bytesOf_inj h
  cases s; cases t
  simp only [ByteArray.mk.injEq]
  exact Array.ext' this

theorem tabE_find {x:LI} {f:Nat} (h:(x,f)∈tabKeys) {s:ByteArray} (hs:bytesOf s=x):∃ i,Instr.findNow .string (.string s) tabE.toList 0=some (some (i,.func (.func f) #[] #[])):=by
  have key:∀ (t:ByteArray) (i:Nat),bytesOf t=x→Instr.findNow .string (.string t) tabE.toList 0=some (some (i,.func (.func f) #[] #[]))→∃ i,Instr.findNow .string (.string s) tabE.toList 0=some (some (i,.func (.func f) #[] #[])):=fun t i ht hi=>by
    rw [bytes_eq (hs.trans ht.symm)]; exact ⟨i,hi⟩
  simp only [tabKeys,List.mem_cons,Prod.mk.injEq,List.not_mem_nil,or_false] at h
  obtain ⟨rfl,rfl⟩:=h
  exact key ⟨#[100]⟩ 0 (by decide) (by kernel_rfl)

def tabSt (st:St) (x:LI) (f:Nat):St:=
  (((((((st.put (some 18) .no).put (some 19) (.v .str x)).put (some 20) .no).put (some 17) .no).put (some 21) .no).put (some 22) .no).put (some 12) (.fn f [])).put (some 13) (.v .bool true)

def tabX (R:Pce):Pce:=fun st k=>match st.ev (.tmp 2),Nat.beq st.tmps.length 77 with
  | .v .str x,true=>goK tabKeys x fun f=>R (tabSt st x f) k
  | _,_=>False

theorem Do_at:at' (bodyOf Tryz.f171) [1]=.seq (.region 1 (opsOf (at' (bodyOf Tryz.f171) [0,1])) false) (at' (bodyOf Tryz.f171) [1,1]):=by kernel_rfl

theorem wpOps_then {P:Program} {ops:Array Oper} {c:Code} {Q:Exit→Act→World→Prop} {a:Act} {w:World} (h:c.wp P Q a w):wpOps P ops (Exit.then (c.wp P Q) Q) [] a w:=h

set_option maxRecDepth 20000 in
theorem tabX_ok {R:Pce} (hR:SemOk Tryz.prog (at' (bodyOf Tryz.f171) [1,1]) R):SemOk Tryz.prog (at' (bodyOf Tryz.f171) [1]) (tabX R):=by
  intro w0 F Fn I0 W ds G I st tm w Q k hW hI hx hk hp
  unfold tabX at hx
  split at hx
  · rename_i x hev hlen
    obtain ⟨f,hf,hR'⟩:=goK_mem hx
    have hlen:=Nat.eq_of_beq_eq_true hlen
    have hsz:tm.size=77:=hI.size.trans hlen
    have h2:=hI.ev (.tmp 2) ds
    rw [hev] at h2
    obtain ⟨s,hs,hsx,hsl⟩:=RepV.str_eq h2
    obtain ⟨i,hfind⟩:=tabE_find hf hsx
    have hs2:tm[2]?=some (.string s):=by
      have:tm.getD 2 undef=.string s:=hs
      rw [Array.getD_eq_getD_getElem?] at this
      rw [Array.getElem?_eq_getElem (by omega)] at this ⊢
      exact congrArg some this
    rw [Do_at]
    refine wp_seq (wp_region ?_)
    rw [show List.range (opsOf (at' (bodyOf Tryz.f171) [0,1])).size=[0,1,2,3,4,5,6,7] by kernel_rfl]
    refine op_enter' (.call ⟨.value (.func 208),#[],#[]⟩) (f:=208) (args:=#[]) (dst:=some 18) (by kernel_rfl) (fun o ho hd=>?_) ((operators_run w).mono ?_)
    · have:=enters_of (P:=Tryz.prog) (f:=208) (fn:=Tryz.f208) (by kernel_rfl) (by kernel_rfl) #[] w
      unfold execOp
      rw [ho]
      simp [Sem.run_bind,resolve,Act.eval,Deferred.ofValue,invoke,this]
    rintro e w' ⟨rfl,M⟩
    refine ⟨_,rfl,?_⟩
    have hI1:=hI.grow (w':=w') (by rw [M.size]; omega) M.old M.os M.tape M.output
    refine op_val' (.move (.tmp 2)) (w':=w') (v:=.string s) (dst:=some 19) (by kernel_rfl) (fun o ho hd=>?_) ?_
    · unfold execOp; rw [ho]; simp [Act.eval,Act.put,hs2]
    refine op_val' (.lookup 233 (.tmp 18) (.tmp 19) true) (w':=w') (v:=.tuple #[.func (.func f) #[] #[],.bool true]) (dst:=some 20) (by kernel_rfl) (fun o ho hd=>?_) ?_
    · have hl:=lookup_run tab_mt tab_kt M.at_ hfind
      unfold execOp
      rw [ho]
      simp [Act.eval,Act.put,hsz,hl]
    refine op_val' (.move (.tmp 20)) (w':=w') (v:=.tuple #[.func (.func f) #[] #[],.bool true]) (dst:=some 17) (by kernel_rfl) (fun o ho hd=>?_) ?_
    · unfold execOp; rw [ho]; simp [Act.eval,Act.put,hsz]
    refine op_val' (.extract (.tmp 17) 0) (w':=w') (v:=.func (.func f) #[] #[]) (dst:=some 21) (by kernel_rfl) (fun o ho hd=>?_) ?_
    · unfold execOp; rw [ho]; simp [Act.eval,Act.put,hsz,Instr.extract]
    refine op_val' (.extract (.tmp 17) 1) (w':=w') (v:=.bool true) (dst:=some 22) (by kernel_rfl) (fun o ho hd=>?_) ?_
    · unfold execOp; rw [ho]; simp [Act.eval,Act.put,hsz,Instr.extract]
    refine op_val' (.assign (.tmp 21)) (w':=w') (v:=.func (.func f) #[] #[]) (dst:=some 12) (by kernel_rfl) (fun o ho hd=>?_) ?_
    · unfold execOp; rw [ho]; simp [Act.eval,Act.put,hsz]
    refine op_val' (.assign (.tmp 22)) (w':=w') (v:=.bool true) (dst:=some 13) (by kernel_rfl) (fun o ho hd=>?_) ?_
    · unfold execOp; rw [ho]; simp [Act.eval,Act.put,hsz]
    refine wpOps_then ?_
    have hI2:=(hI1.put (some 18) (s:=.no) (v:=.map (some w.heap.size)) trivial).put (some 19) (s:=.v .str x) (v:=.string s) (by rw [← hsx]; exact RepV.str_mk hsl)
    have hI3:=((hI2.put (some 20) (s:=.no) (v:=.tuple #[.func (.func f) #[] #[],.bool true]) trivial).put (some 17) (s:=.no) (v:=.tuple #[.func (.func f) #[] #[],.bool true]) trivial).put (some 21) (s:=.no) (v:=.func (.func f) #[] #[]) trivial
    have hI4:=((hI3.put (some 22) (s:=.no) (v:=.bool true) trivial).put (some 12) (s:=.fn f []) (v:=.func (.func f) #[] #[]) ⟨[],rfl,rfl,fun i k u hk=>by simp at hk⟩).put (some 13) (s:=.v .bool true) (v:=.bool true) RepV.bool_mk
    simp only [Act.put]
    exact hR Q k hW hI4 hR' hk hp
  · cases hx
end Go.VE
namespace Go.VE
set_option maxRecDepth 20000
open Go Go.Proofs
def q91_G:List (Nat×App):=[(209,q68_S),(210,q69_S),(235,q38_S)]
theorem q91_Gok:GOk Tryz.prog (getG q91_G):=GOk.cons q68_ok (GOk.cons q69_ok (GOk.cons q38_ok (GOk.nil)))
theorem q91_st:storesC (bodyOf Tryz.f171)=true:=by kernel_rfl
def q91_XT:Pce:=tabX (ex tb (getG q91_G) [] (at' (bodyOf Tryz.f171) [1,1]) [1,1])
theorem q91_xT:SemOk Tryz.prog (at' (bodyOf Tryz.f171) [1]) q91_XT:=tabX_ok (ex_sound tb_M tb_ok q91_Gok (LabsOk.nil) (at' (bodyOf Tryz.f171) [1,1]) [1,1] rfl (storesC_at q91_st [1,1]))
def q91_BT:Labs:=([1],q91_XT)::[]
theorem q91_bT:LabsOk Tryz.prog (bodyOf Tryz.f171) q91_BT:=LabsOk.cons q91_xT (LabsOk.nil)
def q91_raw (t0:LI) (at1:Int) (op2:LI) (rv3:(Int×Int×Bool×Bool)) (count4:Int) (K:Res→List Cell→Prop):Prop:=
 bif (decide (op2=([100]:LI))) then
 ∀ (r1:Bool),r1=q68_F t0 at1 count4 (1:Int)→(
 wB r1→(
 bif r1 then
 K (.tup [.v tyE (([]:List ((Int×LI×LI))),(0:Int),(false,false,([]:LI)),(0:Int),false),.v yI (2:Int)]) []
 else
 q69_P t0 at1 rv3∧(
 ∀ (r2:Int×Int×Bool),r2=q69_F t0 at1 rv3→(
 wfR (.tup [.v yI r2.1,.v yI r2.2.1,.v .bool r2.2.2])→(
 bif (!r2.2.2) then
 K (.tup [.v tyE (([]:List ((Int×LI×LI))),(0:Int),(false,false,([]:LI)),(0:Int),false),.v yI (2:Int)]) []
 else
 bif (decide (rv3.1=rv3.2.1)) then
 bif (!rv3.2.2.1) then
 bif (!decide (op2=([99]:LI))) then
 K (.tup [.v tyE (([]:List ((Int×LI×LI))),(0:Int),(false,false,([]:LI)),(0:Int),false),.v yI (190:Int)]) []
 else
 bif rv3.2.2.1 then
 bif (decide (op2=([100]:LI))) then
 K (.tup [.v tyE (([]:List ((Int×LI×LI))),(0:Int),(false,false,([]:LI)),(0:Int),false),.v yI (190:Int)]) []
 else
 q38_P (t0,at1,rv3,r2.1,r2.2.1,count4)∧(
 ∀ (r3:tEf×Int),r3=q38_F (t0,at1,rv3,r2.1,r2.2.1,count4)→(
 wfR (.tup [.v tyE r3.1,.v yI r3.2])→(
 K (.tup [.v tyE r3.1,.v yI r3.2]) [])))
 else
 q38_P (t0,at1,rv3,r2.1,r2.2.1,count4)∧(
 ∀ (r4:tEf×Int),r4=q38_F (t0,at1,rv3,r2.1,r2.2.1,count4)→(
 wfR (.tup [.v tyE r4.1,.v yI r4.2])→(
 K (.tup [.v tyE r4.1,.v yI r4.2]) [])))
 else
 bif rv3.2.2.1 then
 bif (decide (op2=([100]:LI))) then
 K (.tup [.v tyE (([]:List ((Int×LI×LI))),(0:Int),(false,false,([]:LI)),(0:Int),false),.v yI (190:Int)]) []
 else
 q38_P (t0,at1,rv3,r2.1,r2.2.1,count4)∧(
 ∀ (r5:tEf×Int),r5=q38_F (t0,at1,rv3,r2.1,r2.2.1,count4)→(
 wfR (.tup [.v tyE r5.1,.v yI r5.2])→(
 K (.tup [.v tyE r5.1,.v yI r5.2]) [])))
 else
 q38_P (t0,at1,rv3,r2.1,r2.2.1,count4)∧(
 ∀ (r6:tEf×Int),r6=q38_F (t0,at1,rv3,r2.1,r2.2.1,count4)→(
 wfR (.tup [.v tyE r6.1,.v yI r6.2])→(
 K (.tup [.v tyE r6.1,.v yI r6.2]) [])))
 else
 q38_P (t0,at1,rv3,r2.1,r2.2.1,count4)∧(
 ∀ (r7:tEf×Int),r7=q38_F (t0,at1,rv3,r2.1,r2.2.1,count4)→(
 wfR (.tup [.v tyE r7.1,.v yI r7.2])→(
 K (.tup [.v tyE r7.1,.v yI r7.2]) []))))))))
 else
 False
def q91_A:List AS:=[.v yB,.v yI,.v .str,.v (.st (.pair yI (.pair yI (.pair .bool .bool)))),.v yI]
abbrev Eff:=List (Int×LI×LI)×Int×(Bool×Bool×LI)×Int×Bool
abbrev Job:=LI×Int×(Int×Int×Bool×Bool)×Int×Int×Int
def doBr (JP:Job→Prop) (JF:Job→Eff×Int) (t0:LI) (at1:Int) (op2:LI) (rv3:(Int×Int×Bool×Bool)) (count4:Int) (K:Res→List Cell→Prop):Prop:=
  ∀ (r1:Bool),r1=q68_F t0 at1 count4 (1:Int)→(
  wB r1→(
  bif r1 then
    K (.tup [.v tyE (([]:List ((Int×LI×LI))),(0:Int),(false,false,([]:LI)),(0:Int),false),.v yI (2:Int)]) []
  else
    q69_P t0 at1 rv3∧(
    ∀ (r2:Int×Int×Bool),r2=q69_F t0 at1 rv3→(
    wfR (.tup [.v yI r2.1,.v yI r2.2.1,.v .bool r2.2.2])→(
    bif (!r2.2.2) then
      K (.tup [.v tyE (([]:List ((Int×LI×LI))),(0:Int),(false,false,([]:LI)),(0:Int),false),.v yI (2:Int)]) []
    else
    bif (decide (rv3.1=rv3.2.1)) then
      bif (!rv3.2.2.1) then
        bif (!decide (op2=([99]:LI))) then
          K (.tup [.v tyE (([]:List ((Int×LI×LI))),(0:Int),(false,false,([]:LI)),(0:Int),false),.v yI (190:Int)]) []
        else
        bif rv3.2.2.1 then
          bif (decide (op2=([100]:LI))) then
            K (.tup [.v tyE (([]:List ((Int×LI×LI))),(0:Int),(false,false,([]:LI)),(0:Int),false),.v yI (190:Int)]) []
          else
            JP (t0,at1,rv3,r2.1,r2.2.1,count4)∧(
            ∀ (r3:tEf×Int),r3=JF (t0,at1,rv3,r2.1,r2.2.1,count4)→(
            wfR (.tup [.v tyE r3.1,.v yI r3.2])→(
            K (.tup [.v tyE r3.1,.v yI r3.2]) [])))
        else
          JP (t0,at1,rv3,r2.1,r2.2.1,count4)∧(
          ∀ (r4:tEf×Int),r4=JF (t0,at1,rv3,r2.1,r2.2.1,count4)→(
          wfR (.tup [.v tyE r4.1,.v yI r4.2])→(
          K (.tup [.v tyE r4.1,.v yI r4.2]) [])))
      else
      bif rv3.2.2.1 then
        bif (decide (op2=([100]:LI))) then
          K (.tup [.v tyE (([]:List ((Int×LI×LI))),(0:Int),(false,false,([]:LI)),(0:Int),false),.v yI (190:Int)]) []
        else
          JP (t0,at1,rv3,r2.1,r2.2.1,count4)∧(
          ∀ (r5:tEf×Int),r5=JF (t0,at1,rv3,r2.1,r2.2.1,count4)→(
          wfR (.tup [.v tyE r5.1,.v yI r5.2])→(
          K (.tup [.v tyE r5.1,.v yI r5.2]) [])))
      else
        JP (t0,at1,rv3,r2.1,r2.2.1,count4)∧(
        ∀ (r6:tEf×Int),r6=JF (t0,at1,rv3,r2.1,r2.2.1,count4)→(
        wfR (.tup [.v tyE r6.1,.v yI r6.2])→(
        K (.tup [.v tyE r6.1,.v yI r6.2]) [])))
    else
      JP (t0,at1,rv3,r2.1,r2.2.1,count4)∧(
      ∀ (r7:tEf×Int),r7=JF (t0,at1,rv3,r2.1,r2.2.1,count4)→(
      wfR (.tup [.v tyE r7.1,.v yI r7.2])→(
      K (.tup [.v tyE r7.1,.v yI r7.2]) []))))))))
def doF (JF:Job→Eff×Int) (t:LI) (at_:Int) (op:LI) (r:Int×Int×Bool×Bool) (count:Int):Eff×Int:=
  if q68_F t at_ count 1=true then (([],0,(false,false,[]),0,false),2)
  else if (q69_F t at_ r).2.2=false then (([],0,(false,false,[]),0,false),2)
  else if r.1=r.2.1∧(r.2.2.1=false∧op≠[99]∨r.2.2.1=true∧op=[100]) then (([],0,(false,false,[]),0,false),190)
  else JF (t,at_,r,(q69_F t at_ r).1,(q69_F t at_ r).2.1,count)
theorem doBr_of (JP:Job→Prop) (JF:Job→Eff×Int) (t:LI) (at_:Int) (op:LI) (r:Int×Int×Bool×Bool) (count:Int) (K:Res→List Cell→Prop)
    (hp:q68_F t at_ count 1=false→q69_P t at_ r∧((q69_F t at_ r).2.2=true→JP (t,at_,r,(q69_F t at_ r).1,(q69_F t at_ r).2.1,count)))
    (h:∀ r':Eff×Int,r'=doF JF t at_ op r count→K (.tup [.v tyE r'.1,.v yI r'.2]) []):doBr JP JF t at_ op r count K:=by
  unfold doBr
  intro r1 h1 _
  refine brb (fun c=>h (_,_) (by unfold doF; rw [if_pos (h1.symm.trans c)])) (fun c=>?_)
  have c:=h1.symm.trans c
  obtain ⟨hp1,hp2⟩:=hp c
  refine ⟨hp1,fun r2 h2 _=>?_⟩
  have hc:¬ q68_F t at_ count 1=true:=by rw [c]; simp
  subst h2
  refine brb (fun c2=>h (_,_) (by unfold doF; rw [if_neg hc,if_pos (by simpa using c2)])) (fun c2=>?_)
  have c2:(q69_F t at_ r).2.2=true:=by simpa using c2
  have hc2:¬ (q69_F t at_ r).2.2=false:=by rw [c2]; simp
  have hj:=hp2 c2
  have fin:¬ (r.1=r.2.1∧(r.2.2.1=false∧op≠[99]∨r.2.2.1=true∧op=[100]))→∀ (r3:Eff×Int),r3=JF (t,at_,r,(q69_F t at_ r).1,(q69_F t at_ r).2.1,count)→K (.tup [.v tyE r3.1,.v yI r3.2]) []:=fun hn r3 h3=>h r3 (by unfold doF; rw [if_neg hc,if_neg hc2,if_neg hn,h3])
  have bad:(r.1=r.2.1∧(r.2.2.1=false∧op≠[99]∨r.2.2.1=true∧op=[100]))→K (.tup [.v tyE (([],0,(false,false,[]),0,false):Eff),.v yI (190:Int)]) []:=fun hn=>h (_,_) (by unfold doF; rw [if_neg hc,if_neg hc2,if_pos hn])
  refine brn (fun d1=>?_) (fun d1=>⟨hj,fun r3 h3 _=>fin (fun hn=>d1 hn.1) r3 h3⟩)
  refine brb (fun d2=>?_) (fun d2=>?_)
  · have d2:r.2.2.1=false:=by simpa using d2
    refine brx (fun d3=>bad ⟨d1,.inl ⟨d2,d3⟩⟩) (fun d3=>?_)
    refine brb (fun d4=>by rw [d2] at d4; cases d4) (fun _=>⟨hj,fun r3 h3 _=>fin (fun hn=>?_) r3 h3⟩)
    rcases hn.2 with hh | hh
    · exact hh.2 d3
    · rw [d2] at hh; cases hh.1
  · have d2:r.2.2.1=true:=by simpa using d2
    refine brb (fun _=>brn (fun d3=>bad ⟨d1,.inr ⟨d2,d3⟩⟩) (fun d3=>⟨hj,fun r3 h3 _=>fin (fun hn=>?_) r3 h3⟩)) (fun d4=>by rw [d2] at d4; cases d4)
    rcases hn.2 with hh | hh
    · rw [d2] at hh; cases hh.1
    · exact d3 hh.2
def q91_P (t:LI) (at_:Int) (op:LI) (r:Int×Int×Bool×Bool) (count:Int):Prop:=
 op=[100]∧(q68_F t at_ count 1=false→q69_P t at_ r∧((q69_F t at_ r).2.2=true→q38_P (t,at_,r,(q69_F t at_ r).1,(q69_F t at_ r).2.1,count)))
def q91_F (t:LI) (at_:Int) (op:LI) (r:Int×Int×Bool×Bool) (count:Int):Eff×Int:=doF q38_F t at_ op r count
theorem q91_sp (t:LI) (at_:Int) (op:LI) (r:Int×Int×Bool×Bool) (count:Int) (K:Res→List Cell→Prop) (_:wfA q91_A (t,at_,op,r,count,())) (hp:q91_P t at_ op r count)
    (h:∀ r':Eff×Int,r'=q91_F t at_ op r count→K (.tup [.v tyE r'.1,.v yI r'.2]) []):q91_raw t at_ op r count K:=by
  obtain ⟨hop,hp⟩:=hp
  unfold q91_raw
  exact brn (fun c=>doBr_of _ _ t at_ op r count K hp h) (fun c=>absurd hop c)

def q91_C (v:valsA q91_A) (K:Res→List Cell→Prop):Prop:=q91_P v.1 v.2.1 v.2.2.1 v.2.2.2.1 v.2.2.2.2.1∧∀ r:tEf×Int,r=q91_F v.1 v.2.1 v.2.2.1 v.2.2.2.1 v.2.2.2.2.1→K (.tup [.v tyE r.1,.v yI r.2]) []
def q91_S:App:=specW q91_A q91_C
theorem q91_wv (K:Res→List Cell→Prop):∀ v:valsA q91_A,runF tb (getG q91_G) q91_BT Tryz.f171 [true,true] (mkA q91_A v) K=q91_raw v.1 v.2.1 v.2.2.1 v.2.2.2.1 v.2.2.2.2.1 K
  | (t0,at1,op2,rv3,count4,())=>by kernel_rfl
theorem q91_ok:AppOk Tryz.prog 171 q91_S:=
  AppOk.specW (spec_ok ((runF_ok tb_M tb_ok q91_Gok (q91_bT) (f:=171) (fn:=Tryz.f171) (by kernel_rfl) (by kernel_rfl) q91_st [true,true])) fun v K hw h=>(q91_wv K v).mpr (q91_sp v.1 v.2.1 v.2.2.1 v.2.2.2.1 v.2.2.2.2.1 K hw h.1 h.2))

def q39_G:List (Nat×App):=[(170,q67_S),(171,q91_S)]
theorem q39_Gok:GOk Tryz.prog (getG q39_G):=GOk.cons q67_ok (GOk.cons q91_ok (GOk.nil))
def q39_raw (w0:tWk) (op1:LI) (count2:Int) (K:Res→List Cell→Prop):Prop:=
 (
 ∀ (r1:(Int×Int×Bool×Bool)×Int),r1=q67_F w0.1 (IntKind.wrap .i64 (w0.2.2.2.2.2.2.2.2.1 - (1:Int))) (IntKind.wrap .i64 (w0.2.2.2.2.2.2.2.2.2 - (1:Int)))→(
 wfR (.tup [.v (.st (.pair yI (.pair yI (.pair .bool .bool)))) r1.1,.v yI r1.2])→(
 bif (!decide (r1.2=(0:Int))) then
 K (.tup [.v tyE (([]:List ((Int×LI×LI))),(0:Int),(false,false,([]:LI)),(0:Int),false),.v yI r1.2]) [⟨.st (.pair yB (.pair yI (.pair yI (.pair yI (.pair (.st (.pair (.arr 26 yI) yI)) (.pair tyB (.pair yB (.pair tyX (.pair yI yI))))))))),w0⟩]
 else
 q91_P w0.1 w0.2.1 op1 r1.1 count2∧(
 ∀ (r2:tEf×Int),r2=q91_F w0.1 w0.2.1 op1 r1.1 count2→(
 wfR (.tup [.v tyE r2.1,.v yI r2.2])→(
 K (.tup [.v tyE r2.1,.v yI r2.2]) [⟨.st (.pair yB (.pair yI (.pair yI (.pair yI (.pair (.st (.pair (.arr 26 yI) yI)) (.pair tyB (.pair yB (.pair tyX (.pair yI yI))))))))),w0⟩]))))))∧(
 ∀ (r3:(Int×Int×Bool×Bool)×Int),r3=q67_F w0.1 (IntKind.wrap .i64 (w0.2.2.2.2.2.2.2.2.1 - (1:Int))) (IntKind.wrap .i64 (w0.2.2.2.2.2.2.2.2.2 - (1:Int)))→(
 wfR (.tup [.v (.st (.pair yI (.pair yI (.pair .bool .bool)))) r3.1,.v yI r3.2])→(
 bif (!decide (r3.2=(0:Int))) then
 K (.tup [.v tyE (([]:List ((Int×LI×LI))),(0:Int),(false,false,([]:LI)),(0:Int),false),.v yI r3.2]) [⟨.st (.pair yB (.pair yI (.pair yI (.pair yI (.pair (.st (.pair (.arr 26 yI) yI)) (.pair tyB (.pair yB (.pair tyX (.pair yI yI))))))))),w0⟩]
 else
 q91_P w0.1 w0.2.1 op1 r3.1 count2∧(
 ∀ (r4:tEf×Int),r4=q91_F w0.1 w0.2.1 op1 r3.1 count2→(
 wfR (.tup [.v tyE r4.1,.v yI r4.2])→(
 K (.tup [.v tyE r4.1,.v yI r4.2]) [⟨.st (.pair yB (.pair yI (.pair yI (.pair yI (.pair (.st (.pair (.arr 26 yI) yI)) (.pair tyB (.pair yB (.pair tyX (.pair yI yI))))))))),w0⟩]))))))∧True
def q39_A:List AS:=[.r none tyW,.v .str,.v yI]

def q39_P (w0:tWk) (op1:LI) (count2:Int):Prop:=
 let r1:(Int×Int×Bool×Bool)×Int:=q67_F w0.1 (IntKind.wrap .i64 (w0.2.2.2.2.2.2.2.2.1 - (1:Int))) (IntKind.wrap .i64 (w0.2.2.2.2.2.2.2.2.2 - (1:Int)))
 bif (!decide (r1.2=(0:Int))) then
 True
 else
 q91_P w0.1 w0.2.1 op1 r1.1 count2
def q39_F (w0:tWk) (op1:LI) (count2:Int):tEf×Int:=
 let r1:(Int×Int×Bool×Bool)×Int:=q67_F w0.1 (IntKind.wrap .i64 (w0.2.2.2.2.2.2.2.2.1 - (1:Int))) (IntKind.wrap .i64 (w0.2.2.2.2.2.2.2.2.2 - (1:Int)))
 bif (!decide (r1.2=(0:Int))) then
 ((([]:List ((Int×LI×LI))),(0:Int),(false,false,([]:LI)),(0:Int),false),r1.2)
 else
 let r2:tEf×Int:=q91_F w0.1 w0.2.1 op1 r1.1 count2
 (r2.1,r2.2)
theorem q39_sp (w0:tWk) (op1:LI) (count2:Int) (K:Res→List Cell→Prop) (_:wfA q39_A (w0,op1,count2,())) (hp:q39_P w0 op1 count2) (h:∀ r:tEf×Int,r=q39_F w0 op1 count2→K (.tup [.v tyE r.1,.v yI r.2]) [⟨.st (.pair yB (.pair yI (.pair yI (.pair yI (.pair (.st (.pair (.arr 26 yI) yI)) (.pair tyB (.pair yB (.pair tyX (.pair yI yI))))))))),w0⟩]):q39_raw w0 op1 count2 K:=
 ⟨al (br1 hp h (fun _ hp h=>h _ rfl)
 fun _ hp h=>⟨hp,al (h _ rfl)⟩),
 al (br1 hp h (fun _ hp h=>h _ rfl)
 fun _ hp h=>⟨hp,al (h _ rfl)⟩),trivial⟩
def q39_C (v:valsA q39_A) (K:Res→List Cell→Prop):Prop:=q39_P v.1 v.2.1 v.2.2.1∧∀ r:tEf×Int,r=q39_F v.1 v.2.1 v.2.2.1→K (.tup [.v tyE r.1,.v yI r.2]) [⟨.st (.pair yB (.pair yI (.pair yI (.pair yI (.pair (.st (.pair (.arr 26 yI) yI)) (.pair tyB (.pair yB (.pair tyX (.pair yI yI))))))))),v.1⟩]
def q39_S:App:=specW q39_A q39_C
theorem q39_wv (K:Res→List Cell→Prop):∀ v:valsA q39_A,runF tb (getG q39_G) [] Tryz.f117 [true,true] (mkA q39_A v) K=q39_raw v.1 v.2.1 v.2.2.1 K
  | (w0,op1,count2,())=>by kernel_rfl
theorem q39_ok:AppOk Tryz.prog 117 q39_S:=
  AppOk.specW (spec_ok ((runF_ok tb_M tb_ok q39_Gok (LabsOk.nil) (f:=117) (fn:=Tryz.f117) (by kernel_rfl) (by kernel_rfl) (by kernel_rfl) [true,true])) fun v K hw h=>(q39_wv K v).mpr (q39_sp v.1 v.2.1 v.2.2.1 K hw h.1 h.2))

end Go.VE
namespace Go.VE
open Go Go.Proofs
def q49_A:List AS:=[]
def q49_S:App:=specW q49_A fun _ _=>False
theorem q49_ok:AppOk Tryz.prog 118 q49_S:=AppOk.never
def q40_A:List AS:=[]
def q40_S:App:=specW q40_A fun _ _=>False
theorem q40_ok:AppOk Tryz.prog 119 q40_S:=AppOk.never
def q41_A:List AS:=[]
def q41_S:App:=specW q41_A fun _ _=>False
theorem q41_ok:AppOk Tryz.prog 120 q41_S:=AppOk.never
def q29_A:List AS:=[]
def q29_S:App:=specW q29_A fun _ _=>False
theorem q29_ok:AppOk Tryz.prog 121 q29_S:=AppOk.never
def q34_A:List AS:=[]
def q34_S:App:=specW q34_A fun _ _=>False
theorem q34_ok:AppOk Tryz.prog 122 q34_S:=AppOk.never
def q19_A:List AS:=[]
def q19_S:App:=specW q19_A fun _ _=>False
theorem q19_ok:AppOk Tryz.prog 123 q19_S:=AppOk.never
end Go.VE
namespace Go.VE
set_option maxRecDepth 20000
open Go Go.Proofs
def q54_G:List (Nat×App):=[(116,q80_S),(117,q39_S),(118,q49_S),(119,q40_S),(120,q41_S),(121,q29_S),(122,q34_S),(123,q19_S)]
theorem q54_Gok:GOk Tryz.prog (getG q54_G):=GOk.cons q80_ok (GOk.cons q39_ok (GOk.cons q49_ok (GOk.cons q40_ok (GOk.cons q41_ok (GOk.cons q29_ok (GOk.cons q34_ok (GOk.cons q19_ok (GOk.nil))))))))
theorem q54_st:storesC (bodyOf Tryz.f63)=true:=by kernel_rfl
def q54_d0:List LS:=[.b 0 7 [],.b 2 16 [],.v 12 .str,.v 68 .bool,.c 7 tyW,.c 16 tyE]
def q54_d0n:List LS:=[.b 0 7 [],.b 2 16 [],.c 7 tyW,.c 16 tyE]
def q54_dx0:DX:=⟨some q54_d0n,none,[]⟩
def q54_y0n (k:Ex→St→Prop) (w0b:tWk) (x2b:tEf):Prop:=wfD q54_d0n (w0b,x2b,())→k .nrm (mkD 103 q54_d0n (w0b,x2b,()))
def q54_J0 (kn:tWk→tEf→Prop) (x12:LI) (x68:Bool) (w0b:tWk) (x2b:tEf):Prop:=
 bif x68 then
 False
 else
 bif (decide (x12=([106]:LI))) then
 False
 else
 bif (decide (x12=([106,33]:LI))) then
 False
 else
 bif (decide (x12=([116]:LI))) then
 False
 else
 bif (decide (x12=([109]:LI))) then
 False
 else
 kn w0b x2b
def q54_g0 (k:Ex→St→Prop) (v:vals q54_d0):Prop:=q54_J0 (q54_y0n k) v.1 v.2.1 v.2.2.1 v.2.2.2.1
theorem q54_v0 (k:Ex→St→Prop):∀ v:vals q54_d0,ex tb (getG q54_G) [] (at' (bodyOf Tryz.f63) [1,1,1,1,1,1,1,1,1,0,1,0,1]) [1,1,1,1,1,1,1,1,1,0,1,0,1] (mkD 103 q54_d0 v) (wk 103 q54_dx0 k)=q54_g0 k v
  | (x12,x68,w0b,x2b,())=>by kernel_rfl
def q54_X0:Pce:=fun st k=>ckD 103 q54_d0 st fun v=>wfD q54_d0 v→q54_g0 k v
theorem q54_x0:SemOk Tryz.prog (at' (bodyOf Tryz.f63) [1,1,1,1,1,1,1,1,1,0,1,0,1]) q54_X0:=
  (SemOk.wk (N:=103) (ds:=q54_d0) (dx:=q54_dx0) (ex_sound tb_M tb_ok q54_Gok (LabsOk.nil) (at' (bodyOf Tryz.f63) [1,1,1,1,1,1,1,1,1,0,1,0,1]) [1,1,1,1,1,1,1,1,1,0,1,0,1] rfl (storesC_at q54_st [1,1,1,1,1,1,1,1,1,0,1,0,1]))).mono fun st k h=>ckD_mono h fun v hv hw=>Eq.mpr (q54_v0 k v) (hv hw)
def q54_B0:Labs:=([1,1,1,1,1,1,1,1,1,0,1,0,1],q54_X0)::[]
theorem q54_b0:LabsOk Tryz.prog (bodyOf Tryz.f63) q54_B0:=LabsOk.cons q54_x0 (LabsOk.nil)
def q54_d1:List LS:=[.b 0 7 [],.b 2 16 [],.v 12 .str,.v 51 .bool,.c 7 tyW,.c 16 tyE]
def q54_d1r:List LS:=[.b 2 16 [],.v 3 yI,.c 7 tyW,.c 16 tyE]
def q54_d1n:List LS:=[.b 0 7 [],.b 2 16 [],.c 7 tyW,.c 16 tyE]
def q54_dx1:DX:=⟨some q54_d1n,some q54_d1r,[]⟩
def q54_y1r (k:Ex→St→Prop) (x3:Int) (w0b:tWk) (x2b:tEf):Prop:=wfD q54_d1r (x3,w0b,x2b,())→k .ret (mkD 103 q54_d1r (x3,w0b,x2b,()))
def q54_y1n (k:Ex→St→Prop) (w0b:tWk) (x2b:tEf):Prop:=wfD q54_d1n (w0b,x2b,())→k .nrm (mkD 103 q54_d1n (w0b,x2b,()))
def q54_J1 (kr:Int→tWk→tEf→Prop) (kn:tWk→tEf→Prop) (x12:LI) (x51:Bool) (w0b:tWk) (x2b:tEf):Prop:=
 bif x51 then
 (
 q39_P w0b w0b.2.2.2.2.2.2.2.1.2.2.2.1 w0b.2.2.2.2.2.2.2.1.2.2.2.2.2.2.1∧(
 ∀ (r4:tEf×Int),r4=q39_F w0b w0b.2.2.2.2.2.2.2.1.2.2.2.1 w0b.2.2.2.2.2.2.2.1.2.2.2.2.2.2.1→(
 wfR (.tup [.v tyE r4.1,.v yI r4.2])→(
 kr r4.2 w0b r4.1))))∧(
 q39_P w0b w0b.2.2.2.2.2.2.2.1.2.2.2.1 w0b.2.2.2.2.2.2.2.1.2.2.2.2.2.2.1∧(
 ∀ (r5:tEf×Int),r5=q39_F w0b w0b.2.2.2.2.2.2.2.1.2.2.2.1 w0b.2.2.2.2.2.2.2.1.2.2.2.2.2.2.1→(
 wfR (.tup [.v tyE r5.1,.v yI r5.2])→(
 kr r5.2 w0b r5.1))))∧True
 else
 bif (decide (x12=([112,117]:LI))) then
 (wfD q54_d0 (x12,(decide (x12=([112,117]:LI))),w0b,x2b,())→q54_J0 (fun (w0b:tWk) (x2b:tEf)=>wfD q54_d0n (w0b,x2b,())→(
 kn w0b x2b)) x12 (decide (x12=([112,117]:LI))) w0b x2b)
 else
 (wfD q54_d0 (x12,(decide (x12=([112,117,33]:LI))),w0b,x2b,())→q54_J0 (fun (w0b:tWk) (x2b:tEf)=>wfD q54_d0n (w0b,x2b,())→(
 kn w0b x2b)) x12 (decide (x12=([112,117,33]:LI))) w0b x2b)
def q54_g1 (k:Ex→St→Prop) (v:vals q54_d1):Prop:=q54_J1 (q54_y1r k) (q54_y1n k) v.1 v.2.1 v.2.2.1 v.2.2.2.1
theorem q54_v1 (k:Ex→St→Prop):∀ v:vals q54_d1,ex tb (getG q54_G) q54_B0 (at' (bodyOf Tryz.f63) [1,1,1,1,1,1,1,0,1,0,1]) [1,1,1,1,1,1,1,0,1,0,1] (mkD 103 q54_d1 v) (wk 103 q54_dx1 k)=q54_g1 k v
  | (x12,x51,w0b,x2b,())=>by kernel_rfl
def q54_X1:Pce:=fun st k=>ckD 103 q54_d1 st fun v=>wfD q54_d1 v→q54_g1 k v
theorem q54_x1:SemOk Tryz.prog (at' (bodyOf Tryz.f63) [1,1,1,1,1,1,1,0,1,0,1]) q54_X1:=
  (SemOk.wk (N:=103) (ds:=q54_d1) (dx:=q54_dx1) (ex_sound tb_M tb_ok q54_Gok (q54_b0) (at' (bodyOf Tryz.f63) [1,1,1,1,1,1,1,0,1,0,1]) [1,1,1,1,1,1,1,0,1,0,1] rfl (storesC_at q54_st [1,1,1,1,1,1,1,0,1,0,1]))).mono fun st k h=>ckD_mono h fun v hv hw=>Eq.mpr (q54_v1 k v) (hv hw)
def q54_B1:Labs:=([1,1,1,1,1,1,1,0,1,0,1],q54_X1)::q54_B0
theorem q54_b1:LabsOk Tryz.prog (bodyOf Tryz.f63) q54_B1:=LabsOk.cons q54_x1 (q54_b0)
def q54_d2:List LS:=[.b 0 7 [],.b 2 16 [],.c 7 tyW,.c 16 tyE]
def q54_dx2:DX:=⟨none,none,[]⟩
def q54_J2  (w0b:tWk) (x2b:tEf):Prop:=
 False
def q54_g2 (k:Ex→St→Prop) (v:vals q54_d2):Prop:=q54_J2  v.1 v.2.1
theorem q54_v2 (k:Ex→St→Prop):∀ v:vals q54_d2,ex tb (getG q54_G) q54_B1 (at' (bodyOf Tryz.f63) [1,1]) [1,1] (mkD 103 q54_d2 v) (wk 103 q54_dx2 k)=q54_g2 k v
  | (w0b,x2b,())=>by kernel_rfl
def q54_X2:Pce:=fun st k=>ckD 103 q54_d2 st fun v=>wfD q54_d2 v→q54_g2 k v
theorem q54_x2:SemOk Tryz.prog (at' (bodyOf Tryz.f63) [1,1]) q54_X2:=
  (SemOk.wk (N:=103) (ds:=q54_d2) (dx:=q54_dx2) (ex_sound tb_M tb_ok q54_Gok (q54_b1) (at' (bodyOf Tryz.f63) [1,1]) [1,1] rfl (storesC_at q54_st [1,1]))).mono fun st k h=>ckD_mono h fun v hv hw=>Eq.mpr (q54_v2 k v) (hv hw)
def q54_B2:Labs:=([1,1],q54_X2)::q54_B1
theorem q54_b2:LabsOk Tryz.prog (bodyOf Tryz.f63) q54_B2:=LabsOk.cons q54_x2 (q54_b1)
def q54_raw (w0:tWk) (K:Res→List Cell→Prop):Prop:=
 bif (decide (w0.2.2.2.2.2.2.2.1.2.2.2.1=([]:LI))) then
 ∀ (r1:Int×Int),r1=q80_F w0.1 (IntKind.wrap .i64 (w0.2.2.2.2.2.2.2.2.2 - (1:Int)))→(
 wfR (.tup [.v yI r1.1,.v yI r1.2])→(
 K (.tup [.v tyE (([]:List ((Int×LI×LI))),r1.1,(false,false,([]:LI)),(0:Int),false),.v yI r1.2]) [⟨.st (.pair yB (.pair yI (.pair yI (.pair yI (.pair (.st (.pair (.arr 26 yI) yI)) (.pair tyB (.pair yB (.pair tyX (.pair yI yI))))))))),w0⟩]))
 else
 bif (decide (w0.2.2.2.2.2.2.2.1.2.2.2.1=([100]:LI))) then
 q39_P w0 ([100]:LI) (1:Int)∧(
 ∀ (r2:tEf×Int),r2=q39_F w0 ([100]:LI) (1:Int)→(
 wfR (.tup [.v tyE r2.1,.v yI r2.2])→(
 K (.tup [.v tyE r2.1,.v yI r2.2]) [⟨.st (.pair yB (.pair yI (.pair yI (.pair yI (.pair (.st (.pair (.arr 26 yI) yI)) (.pair tyB (.pair yB (.pair tyX (.pair yI yI))))))))),w0⟩])))
 else
 bif (decide (w0.2.2.2.2.2.2.2.1.2.2.2.1=([121]:LI))) then
 q39_P w0 ([121]:LI) (1:Int)∧(
 ∀ (r3:tEf×Int),r3=q39_F w0 ([121]:LI) (1:Int)→(
 wfR (.tup [.v tyE r3.1,.v yI r3.2])→(
 K (.tup [.v tyE (r3.1.1,w0.2.1,r3.1.2.2.1,r3.1.2.2.2.1,r3.1.2.2.2.2),.v yI r3.2]) [⟨.st (.pair yB (.pair yI (.pair yI (.pair yI (.pair (.st (.pair (.arr 26 yI) yI)) (.pair tyB (.pair yB (.pair tyX (.pair yI yI))))))))),w0⟩])))
 else
 bif (decide (w0.2.2.2.2.2.2.2.1.2.2.2.1=([62]:LI))) then
 (wfD q54_d1 (w0.2.2.2.2.2.2.2.1.2.2.2.1,(decide (w0.2.2.2.2.2.2.2.1.2.2.2.1=([62]:LI))),w0,(([]:List ((Int×LI×LI))),(0:Int),(false,false,([]:LI)),(0:Int),false),())→q54_J1 (fun (x3:Int) (w0b:tWk) (x2b:tEf)=>wfD q54_d1r (x3,w0b,x2b,())→(
 K (.tup [.v tyE x2b,.v yI x3]) [⟨.st (.pair yB (.pair yI (.pair yI (.pair yI (.pair (.st (.pair (.arr 26 yI) yI)) (.pair tyB (.pair yB (.pair tyX (.pair yI yI))))))))),w0b⟩])) (fun (w0b:tWk) (x2b:tEf)=>wfD q54_d1n (w0b,x2b,())→(
 (wfD q54_d2 (w0b,x2b,())→q54_J2  w0b x2b))) w0.2.2.2.2.2.2.2.1.2.2.2.1 (decide (w0.2.2.2.2.2.2.2.1.2.2.2.1=([62]:LI))) w0 (([]:List ((Int×LI×LI))),(0:Int),(false,false,([]:LI)),(0:Int),false))
 else
 (wfD q54_d1 (w0.2.2.2.2.2.2.2.1.2.2.2.1,(decide (w0.2.2.2.2.2.2.2.1.2.2.2.1=([60]:LI))),w0,(([]:List ((Int×LI×LI))),(0:Int),(false,false,([]:LI)),(0:Int),false),())→q54_J1 (fun (x3:Int) (w0b:tWk) (x2b:tEf)=>wfD q54_d1r (x3,w0b,x2b,())→(
 K (.tup [.v tyE x2b,.v yI x3]) [⟨.st (.pair yB (.pair yI (.pair yI (.pair yI (.pair (.st (.pair (.arr 26 yI) yI)) (.pair tyB (.pair yB (.pair tyX (.pair yI yI))))))))),w0b⟩])) (fun (w0b:tWk) (x2b:tEf)=>wfD q54_d1n (w0b,x2b,())→(
 (wfD q54_d2 (w0b,x2b,())→q54_J2  w0b x2b))) w0.2.2.2.2.2.2.2.1.2.2.2.1 (decide (w0.2.2.2.2.2.2.2.1.2.2.2.1=([60]:LI))) w0 (([]:List ((Int×LI×LI))),(0:Int),(false,false,([]:LI)),(0:Int),false))
def q54_A:List AS:=[.r none tyW]

def q54_J0_P (x12:LI) (x68:Bool) (w0b:tWk) (x2b:tEf):Prop:=
 bif x68 then
 False
 else
 bif (decide (x12=([106]:LI))) then
 False
 else
 bif (decide (x12=([106,33]:LI))) then
 False
 else
 bif (decide (x12=([116]:LI))) then
 False
 else
 bif (decide (x12=([109]:LI))) then
 False
 else
 True
def q54_J0_F (x12:LI) (x68:Bool) (w0b:tWk) (x2b:tEf):tWk×tEf:=
 bif x68 then
 default
 else
 bif (decide (x12=([106]:LI))) then
 default
 else
 bif (decide (x12=([106,33]:LI))) then
 default
 else
 bif (decide (x12=([116]:LI))) then
 default
 else
 bif (decide (x12=([109]:LI))) then
 default
 else
 (w0b,x2b)
theorem q54_J0_sp (kn:tWk→tEf→Prop) (x12:LI) (x68:Bool) (w0b:tWk) (x2b:tEf) (hp:q54_J0_P x12 x68 w0b x2b) (hn:∀ q:tWk×tEf,q=q54_J0_F x12 x68 w0b x2b→kn q.1 q.2):q54_J0 kn x12 x68 w0b x2b:=
 have h:=hn; br1 hp h (fun _ hp h=>hp.elim)
 fun _ hp h=>br1 hp h (fun _ hp h=>hp.elim)
 fun _ hp h=>br1 hp h (fun _ hp h=>hp.elim)
 fun _ hp h=>br1 hp h (fun _ hp h=>hp.elim)
 fun _ hp h=>br1 hp h (fun _ hp h=>hp.elim)
 fun _ hp h=>h _ rfl
def q54_J1_P (x12:LI) (x51:Bool) (w0b:tWk) (x2b:tEf):Prop:=
 bif x51 then
 q39_P w0b w0b.2.2.2.2.2.2.2.1.2.2.2.1 w0b.2.2.2.2.2.2.2.1.2.2.2.2.2.2.1
 else
 bif (decide (x12=([112,117]:LI))) then
 q54_J0_P x12 (decide (x12=([112,117]:LI))) w0b x2b
 else
 q54_J0_P x12 (decide (x12=([112,117,33]:LI))) w0b x2b
def q54_J1_F (x12:LI) (x51:Bool) (w0b:tWk) (x2b:tEf):(Int×tWk×tEf)⊕(tWk×tEf):=
 bif x51 then
 let r4:tEf×Int:=q39_F w0b w0b.2.2.2.2.2.2.2.1.2.2.2.1 w0b.2.2.2.2.2.2.2.1.2.2.2.2.2.2.1
 .inl (r4.2,w0b,r4.1)
 else
 bif (decide (x12=([112,117]:LI))) then
 let q0n:tWk×tEf:=q54_J0_F x12 (decide (x12=([112,117]:LI))) w0b x2b
 let w0b:tWk:=q0n.1
 let x2b:tEf:=q0n.2
 .inr (w0b,x2b)
 else
 let q0n:tWk×tEf:=q54_J0_F x12 (decide (x12=([112,117,33]:LI))) w0b x2b
 let w0b:tWk:=q0n.1
 let x2b:tEf:=q0n.2
 .inr (w0b,x2b)
theorem q54_J1_sp (kr:Int→tWk→tEf→Prop) (kn:tWk→tEf→Prop) (x12:LI) (x51:Bool) (w0b:tWk) (x2b:tEf) (hp:q54_J1_P x12 x51 w0b x2b) (hr:∀ q:Int×tWk×tEf,q54_J1_F x12 x51 w0b x2b=.inl q→kr q.1 q.2.1 q.2.2) (hn:∀ q:tWk×tEf,q54_J1_F x12 x51 w0b x2b=.inr q→kn q.1 q.2):q54_J1 kr kn x12 x51 w0b x2b:=
 have h:=hc2 hr hn; br1 hp h (fun _ hp h=>⟨⟨hp,al (h _ rfl)⟩,
 ⟨hp,al (h _ rfl)⟩,trivial⟩)
 fun _ hp h=>br1 hp h (fun _ hp h=>fun _=>q54_J0_sp _ _ _ _ _ hp (al (h _ rfl)))
 fun _ hp h=>fun _=>q54_J0_sp _ _ _ _ _ hp (al (h _ rfl))
def q54_P (w0:tWk):Prop:=
 bif (decide (w0.2.2.2.2.2.2.2.1.2.2.2.1=([]:LI))) then
 True
 else
 bif (decide (w0.2.2.2.2.2.2.2.1.2.2.2.1=([100]:LI))) then
 q39_P w0 ([100]:LI) (1:Int)
 else
 bif (decide (w0.2.2.2.2.2.2.2.1.2.2.2.1=([121]:LI))) then
 q39_P w0 ([121]:LI) (1:Int)
 else
 bif (decide (w0.2.2.2.2.2.2.2.1.2.2.2.1=([62]:LI))) then
 q54_J1_P w0.2.2.2.2.2.2.2.1.2.2.2.1 (decide (w0.2.2.2.2.2.2.2.1.2.2.2.1=([62]:LI))) w0 (([]:List ((Int×LI×LI))),(0:Int),(false,false,([]:LI)),(0:Int),false)∧(
 Sum.elim (fun q1r=>
 True) (fun q1n=>
 let w0b:tWk:=q1n.1
 let x2b:tEf:=q1n.2
 False) (q54_J1_F w0.2.2.2.2.2.2.2.1.2.2.2.1 (decide (w0.2.2.2.2.2.2.2.1.2.2.2.1=([62]:LI))) w0 (([]:List ((Int×LI×LI))),(0:Int),(false,false,([]:LI)),(0:Int),false)))
 else
 q54_J1_P w0.2.2.2.2.2.2.2.1.2.2.2.1 (decide (w0.2.2.2.2.2.2.2.1.2.2.2.1=([60]:LI))) w0 (([]:List ((Int×LI×LI))),(0:Int),(false,false,([]:LI)),(0:Int),false)∧(
 Sum.elim (fun q1r=>
 True) (fun q1n=>
 let w0b:tWk:=q1n.1
 let x2b:tEf:=q1n.2
 False) (q54_J1_F w0.2.2.2.2.2.2.2.1.2.2.2.1 (decide (w0.2.2.2.2.2.2.2.1.2.2.2.1=([60]:LI))) w0 (([]:List ((Int×LI×LI))),(0:Int),(false,false,([]:LI)),(0:Int),false)))
def q54_F (w0:tWk):tEf×Int×tWk:=
 bif (decide (w0.2.2.2.2.2.2.2.1.2.2.2.1=([]:LI))) then
 let r1:Int×Int:=q80_F w0.1 (IntKind.wrap .i64 (w0.2.2.2.2.2.2.2.2.2 - (1:Int)))
 ((([]:List ((Int×LI×LI))),r1.1,(false,false,([]:LI)),(0:Int),false),r1.2,w0)
 else
 bif (decide (w0.2.2.2.2.2.2.2.1.2.2.2.1=([100]:LI))) then
 let r2:tEf×Int:=q39_F w0 ([100]:LI) (1:Int)
 (r2.1,r2.2,w0)
 else
 bif (decide (w0.2.2.2.2.2.2.2.1.2.2.2.1=([121]:LI))) then
 let r3:tEf×Int:=q39_F w0 ([121]:LI) (1:Int)
 ((r3.1.1,w0.2.1,r3.1.2.2.1,r3.1.2.2.2.1,r3.1.2.2.2.2),r3.2,w0)
 else
 bif (decide (w0.2.2.2.2.2.2.2.1.2.2.2.1=([62]:LI))) then
 Sum.elim (fun q1r=>
 let x3:Int:=q1r.1
 let w0b:tWk:=q1r.2.1
 let x2b:tEf:=q1r.2.2
 (x2b,x3,w0b)) (fun q1n=>
 let w0b:tWk:=q1n.1
 let x2b:tEf:=q1n.2
 default) (q54_J1_F w0.2.2.2.2.2.2.2.1.2.2.2.1 (decide (w0.2.2.2.2.2.2.2.1.2.2.2.1=([62]:LI))) w0 (([]:List ((Int×LI×LI))),(0:Int),(false,false,([]:LI)),(0:Int),false))
 else
 Sum.elim (fun q1r=>
 let x3:Int:=q1r.1
 let w0b:tWk:=q1r.2.1
 let x2b:tEf:=q1r.2.2
 (x2b,x3,w0b)) (fun q1n=>
 let w0b:tWk:=q1n.1
 let x2b:tEf:=q1n.2
 default) (q54_J1_F w0.2.2.2.2.2.2.2.1.2.2.2.1 (decide (w0.2.2.2.2.2.2.2.1.2.2.2.1=([60]:LI))) w0 (([]:List ((Int×LI×LI))),(0:Int),(false,false,([]:LI)),(0:Int),false))
theorem q54_sp (w0:tWk) (K:Res→List Cell→Prop) (_:wfA q54_A (w0,())) (hp:q54_P w0) (h:∀ r:tEf×Int×tWk,r=q54_F w0→K (.tup [.v tyE r.1,.v yI r.2.1]) [⟨.st (.pair yB (.pair yI (.pair yI (.pair yI (.pair (.st (.pair (.arr 26 yI) yI)) (.pair tyB (.pair yB (.pair tyX (.pair yI yI))))))))),r.2.2⟩]):q54_raw w0 K:=
 br1 hp h (fun _ hp h=>al (h _ rfl))
 fun _ hp h=>br1 hp h (fun _ hp h=>⟨hp,al (h _ rfl)⟩)
 fun _ hp h=>br1 hp h (fun _ hp h=>⟨hp,al (h _ rfl)⟩)
 fun _ hp h=>br1 hp h (fun _ hp h=>fun _=>q54_J1_sp _ _ _ _ _ _ hp.1
 (fun _ e _=>have h:=sl e h; h _ rfl)
 (fun _ e _=>have h:=sr e h; have hp:=cR e hp.2; hp.elim))
 fun _ hp h=>fun _=>q54_J1_sp _ _ _ _ _ _ hp.1
 (fun _ e _=>have h:=sl e h; h _ rfl)
 (fun _ e _=>have h:=sr e h; have hp:=cR e hp.2; hp.elim)
def q54_C (v:valsA q54_A) (K:Res→List Cell→Prop):Prop:=q54_P v.1∧∀ r:tEf×Int×tWk,r=q54_F v.1→K (.tup [.v tyE r.1,.v yI r.2.1]) [⟨.st (.pair yB (.pair yI (.pair yI (.pair yI (.pair (.st (.pair (.arr 26 yI) yI)) (.pair tyB (.pair yB (.pair tyX (.pair yI yI))))))))),r.2.2⟩]
def q54_S:App:=specW q54_A q54_C
theorem q54_wv (K:Res→List Cell→Prop):∀ v:valsA q54_A,runF tb (getG q54_G) q54_B2 Tryz.f63 [true,true] (mkA q54_A v) K=q54_raw v.1 K
  | (w0,())=>by kernel_rfl
theorem q54_ok:AppOk Tryz.prog 63 q54_S:=
  AppOk.specW (spec_ok ((runF_ok tb_M tb_ok q54_Gok (q54_b2) (f:=63) (fn:=Tryz.f63) (by kernel_rfl) (by kernel_rfl) q54_st [true,true])) fun v K hw h=>(q54_wv K v).mpr (q54_sp v.1 K hw h.1 h.2))

def q88_G:List (Nat×App):=[(24,q89_S),(16,q65_S),(28,q78_S),(62,q28_S),(63,q54_S)]
theorem q88_Gok:GOk Tryz.prog (getG q88_G):=GOk.cons q89_ok (GOk.cons q65_ok (GOk.cons q78_ok (GOk.cons q28_ok (GOk.cons q54_ok (GOk.nil)))))
def q88_raw (t0:LI) (at1:Int) (m2:(Unit×Int)) (b3:tBk) (hunt4:LI) (x5:tEx) (K:Res→List Cell→Prop):Prop:=
 q89_P t0 at1∧(
 ∀ (r1:Int×Int),r1=q89_F t0 at1→(
 wfR (.tup [.v yI r1.1,.v yI r1.2])→(
 bif (!decide (r1.2=(0:Int))) then
 K (.tup [.v tyE (([]:List ((Int×LI×LI))),(0:Int),(false,false,([]:LI)),(0:Int),false),.v yI (2:Int)]) []
 else
 q65_P x5∧(
 ∀ (r2:LI),r2=q65_F x5→(
 wfR (.one (.v yB r2))→(
 bif (decide ((List.length r2:Int)=(0:Int))) then
 K (.tup [.v tyE (([]:List ((Int×LI×LI))),(0:Int),(false,false,([]:LI)),(0:Int),false),.v yI (240:Int)]) []
 else
 q78_P t0∧(
 ∀ (r3:Int),r3=q78_F t0→(
 wI r3→(
 q28_P (t0,at1,(IntKind.wrap .i64 (r1.1+(1:Int))),r3,m2,b3,hunt4,x5,(0:Int),(0:Int))∧(
 ∀ (r4:Int×tWk),r4=q28_F (t0,at1,(IntKind.wrap .i64 (r1.1+(1:Int))),r3,m2,b3,hunt4,x5,(0:Int),(0:Int))→(
 wI r4.1→(
 bif (!decide (r4.1=(0:Int))) then
 K (.tup [.v tyE (([]:List ((Int×LI×LI))),(0:Int),(false,false,([]:LI)),(0:Int),false),.v yI r4.1]) []
 else
 q54_P r4.2∧(
 ∀ (r5:tEf×Int×tWk),r5=q54_F r4.2→(
 wfR (.tup [.v tyE r5.1,.v yI r5.2.1])→(
 bif (!decide (r5.2.1=(0:Int))) then
 K (.tup [.v tyE (([]:List ((Int×LI×LI))),(0:Int),(false,false,([]:LI)),(0:Int),false),.v yI r5.2.1]) []
 else
 K (.tup [.v tyE r5.1,.v yI (0:Int)]) [])))))))))))))))
def q88_A:List AS:=[.v yB,.v yI,.v (.st (.pair (.arr 26 yI) yI)),.v tyB,.v yB,.v tyX]

def q88_P (t0:LI) (at1:Int) (m2:(Unit×Int)) (b3:tBk) (hunt4:LI) (x5:tEx):Prop:=
 q89_P t0 at1∧(
 let r1:Int×Int:=q89_F t0 at1
 bif (!decide (r1.2=(0:Int))) then
 True
 else
 q65_P x5∧(
 let r2:LI:=q65_F x5
 bif (decide ((List.length r2:Int)=(0:Int))) then
 True
 else
 q78_P t0∧(
 let r3:Int:=q78_F t0
 q28_P (t0,at1,(IntKind.wrap .i64 (r1.1+(1:Int))),r3,m2,b3,hunt4,x5,(0:Int),(0:Int))∧(
 let r4:Int×tWk:=q28_F (t0,at1,(IntKind.wrap .i64 (r1.1+(1:Int))),r3,m2,b3,hunt4,x5,(0:Int),(0:Int))
 bif (!decide (r4.1=(0:Int))) then
 True
 else
 q54_P r4.2))))
def q88_F (t0:LI) (at1:Int) (m2:(Unit×Int)) (b3:tBk) (hunt4:LI) (x5:tEx):tEf×Int:=
 let r1:Int×Int:=q89_F t0 at1
 bif (!decide (r1.2=(0:Int))) then
 ((([]:List ((Int×LI×LI))),(0:Int),(false,false,([]:LI)),(0:Int),false),(2:Int))
 else
 let r2:LI:=q65_F x5
 bif (decide ((List.length r2:Int)=(0:Int))) then
 ((([]:List ((Int×LI×LI))),(0:Int),(false,false,([]:LI)),(0:Int),false),(240:Int))
 else
 let r3:Int:=q78_F t0
 let r4:Int×tWk:=q28_F (t0,at1,(IntKind.wrap .i64 (r1.1+(1:Int))),r3,m2,b3,hunt4,x5,(0:Int),(0:Int))
 bif (!decide (r4.1=(0:Int))) then
 ((([]:List ((Int×LI×LI))),(0:Int),(false,false,([]:LI)),(0:Int),false),r4.1)
 else
 let r5:tEf×Int×tWk:=q54_F r4.2
 bif (!decide (r5.2.1=(0:Int))) then
 ((([]:List ((Int×LI×LI))),(0:Int),(false,false,([]:LI)),(0:Int),false),r5.2.1)
 else
 (r5.1,(0:Int))
theorem q88_sp (t0:LI) (at1:Int) (m2:(Unit×Int)) (b3:tBk) (hunt4:LI) (x5:tEx) (K:Res→List Cell→Prop) (_:wfA q88_A (t0,at1,m2,b3,hunt4,x5,())) (hp:q88_P t0 at1 m2 b3 hunt4 x5) (h:∀ r:tEf×Int,r=q88_F t0 at1 m2 b3 hunt4 x5→K (.tup [.v tyE r.1,.v yI r.2]) []):q88_raw t0 at1 m2 b3 hunt4 x5 K:=
 an1 hp fun hp=>al (br1 hp h (fun _ hp h=>h _ rfl)
 fun _ hp h=>an1 hp fun hp=>al (br1 hp h (fun _ hp h=>h _ rfl)
 fun _ hp h=>an1 hp fun hp=>al (an1 hp fun hp=>al (br1 hp h (fun _ hp h=>h _ rfl)
 fun _ hp h=>⟨hp,al (br0 h (fun _ h=>h _ rfl)
 fun _ h=>h _ rfl)⟩))))
def q88_C (v:valsA q88_A) (K:Res→List Cell→Prop):Prop:=q88_P v.1 v.2.1 v.2.2.1 v.2.2.2.1 v.2.2.2.2.1 v.2.2.2.2.2.1∧∀ r:tEf×Int,r=q88_F v.1 v.2.1 v.2.2.1 v.2.2.2.1 v.2.2.2.2.1 v.2.2.2.2.2.1→K (.tup [.v tyE r.1,.v yI r.2]) []
def q88_S:App:=specW q88_A q88_C
theorem q88_wv (K:Res→List Cell→Prop):∀ v:valsA q88_A,runF tb (getG q88_G) [] Tryz.f18 [true,true] (mkA q88_A v) K=q88_raw v.1 v.2.1 v.2.2.1 v.2.2.2.1 v.2.2.2.2.1 v.2.2.2.2.2.1 K
  | (t0,at1,m2,b3,hunt4,x5,())=>by kernel_rfl
theorem q88_ok:AppOk Tryz.prog 18 q88_S:=
  AppOk.specW (spec_ok ((runF_ok tb_M tb_ok q88_Gok (LabsOk.nil) (f:=18) (fn:=Tryz.f18) (by kernel_rfl) (by kernel_rfl) (by kernel_rfl) [true,true])) fun v K hw h=>(q88_wv K v).mpr (q88_sp v.1 v.2.1 v.2.2.1 v.2.2.2.1 v.2.2.2.2.1 v.2.2.2.2.2.1 K hw h.1 h.2))

end Go.VE
namespace Go.VE
abbrev awX:ExD:=((110,2,0,[],0,true),(0,0,0,[],0,false),false,[100],(0,0,0,[],0,false),0,0,[],[],false)
theorem aw_parM:parM [50,100]=.inl awX:=by kernel_rfl
theorem aw_parse:q63_P [50,100]∧q63_F [50,100]=(awX,0):=by
  obtain ⟨p,f⟩:=parse_s [50,100] (by decide)
  exact ⟨p,by rw [f,aw_parM]; rfl⟩
theorem aw_q:q63_P [113]∧q63_F [113]=(exZ,240):=by
  obtain ⟨p,f⟩:=parse_s [113] (by decide)
  exact ⟨p,by rw [f,show parM [113]=.inr 240 by kernel_rfl]; rfl⟩
theorem aw_spell:q65_P awX∧q65_F awX=[50,100]:=by
  obtain ⟨p,f⟩:=spell_s awX (by decide)
  refine ⟨p,?_⟩
  rw [f,if_neg (by decide),show spS awX=[50,100] by kernel_rfl]
  unfold chk
  rw [aw_parM]
  kernel_rfl
abbrev awT:LI:=[97,10,98,10,99]
theorem aw_do:q88_F awT 0 ((),0) ((false,false,[]),(false,false,[]),(),()) [] awX=(([(2,[98,10],[])],2,(true,true,[98,10]),2,false),0):=by
  unfold q88_F
  rw [aw_spell.2]
  kernel_rfl
theorem aw_doP:q88_P awT 0 ((),0) ((false,false,[]),(false,false,[]),(),()) [] awX:=by
  unfold q88_P
  rw [aw_spell.2]
  refine ⟨?_,aw_spell.1,?_,?_,?_⟩
  · refine ⟨⟨by decide,by decide⟩,rfl⟩
  · exact rfl
  · rw [show IntKind.wrap .i64 ((q89_F awT 0).1+1)=1 by kernel_rfl,show q78_F awT=3 by kernel_rfl]
    have e:q28_P (awT,0,1,3,((),0),((false,false,[]),(false,false,[]),(),()),[],awX,0,0)=(q66_P awT 1 ((),0) [] (110,2,0,[],0,true)∧True):=by kernel_rfl
    rw [e]
    refine ⟨?_,trivial⟩
    rw [show q66_P awT 1 ((),0) [] (110,2,0,[],0,true)=(q78_P awT∧True) by kernel_rfl]
    exact ⟨rfl,trivial⟩
  · rw [show IntKind.wrap .i64 ((q89_F awT 0).1+1)=1 by kernel_rfl,show q78_F awT=3 by kernel_rfl]
    have e:q28_F (awT,0,1,3,((),0),((false,false,[]),(false,false,[]),(),()),[],awX,0,0)=(0,(awT,0,1,3,((),0),((false,false,[]),(false,false,[]),(),()),[],awX,2,2)):=by kernel_rfl
    rw [e]
    have e2:q54_P (awT,0,1,3,((),0),((false,false,[]),(false,false,[]),(),()),[],awX,2,2)=q91_P awT 0 [100] (2,4,true,false) 1:=by kernel_rfl
    show q54_P (awT,0,1,3,((),0),((false,false,[]),(false,false,[]),(),()),[],awX,2,2)
    rw [e2]
    refine ⟨rfl,fun _=>⟨?_,fun _=>?_⟩⟩
    · rw [show q69_P awT 0 (2,4,true,false)=(q89_P awT 2∧q69_J1_P awT 0 1 (2,4,true,false)) by kernel_rfl]
      refine ⟨⟨⟨by decide,by decide⟩,rfl⟩,?_⟩
      exact ⟨⟨⟨by decide,by decide⟩,rfl⟩,⟨⟨by decide,by decide⟩,rfl⟩,rfl,rfl,rfl,by decide⟩
    · rw [show (q69_F awT 0 (2,4,true,false)).1=1 by kernel_rfl,show (q69_F awT 0 (2,4,true,false)).2.1=1 by kernel_rfl]
      rw [show q38_P (awT,0,(2,4,true,false),1,1,1)=(q81_P awT 2 4 []∧(q53_P (awT,0,(2,4,true,false),1,1,1)∧(q87_P awT [(2,[98,10],[])]∧q78_P [97,10,99]))) by kernel_rfl]
      refine ⟨?_,?_,?_,rfl⟩
      · refine ⟨⟨by decide,by decide,by decide⟩,⟨by decide,by decide,by decide⟩,(by unfold q71_P; decide),(by unfold q71_P; decide)⟩
      · rw [show q53_P (awT,0,(2,4,true,false),1,1,1)=((0≤(2:Int)∧(2:Int)≤4∧(4:Int)≤(awT.length:Int))∧q82_J0_P [98,10] (2,4,true,false) (false,false,[])) by kernel_rfl]
        refine ⟨⟨by decide,by decide,by decide⟩,?_⟩
        refine ⟨(by unfold q14_P; decide),⟨by decide,by decide⟩,trivial⟩
      · exact show awT.length+newsL [(2,[98,10],[])]≤lim by decide
end Go.VE
namespace Go.VE
open Go Go.Proofs
def q42_G:List (Nat×App):=[(13,q63_S),(18,q88_S),(16,q65_S)]
theorem q42_Gok:GOk Tryz.prog (getG q42_G):=GOk.cons q63_ok (GOk.cons q88_ok (GOk.cons q65_ok (GOk.nil)))
def q42_raw  (K:Res→List Cell→Prop):Prop:=
 q63_P ([(50:Int),(100:Int)]:LI)∧(
 ∀ (r1:tEx×Int),r1=q63_F ([(50:Int),(100:Int)]:LI)→(
 wfR (.tup [.v tyX r1.1,.v yI r1.2])→(
 q88_P ([(97:Int),(10:Int),(98:Int),(10:Int),(99:Int)]:LI) (0:Int) ((),(0:Int)) ((false,false,([]:LI)),(false,false,([]:LI)),(),()) ([]:LI) r1.1∧(
 ∀ (r2:tEf×Int),r2=q88_F ([(97:Int),(10:Int),(98:Int),(10:Int),(99:Int)]:LI) (0:Int) ((),(0:Int)) ((false,false,([]:LI)),(false,false,([]:LI)),(),()) ([]:LI) r1.1→(
 wfR (.tup [.v tyE r2.1,.v yI r2.2])→(
 q63_P ([(113:Int)]:LI)∧(
 ∀ (r3:tEx×Int),r3=q63_F ([(113:Int)]:LI)→(
 wfR (.tup [.v tyX r3.1,.v yI r3.2])→(
 bif (decide (r1.2=(0:Int))) then
 bif (decide (r2.2=(0:Int))) then
 bif (decide (r3.2=(240:Int))) then
 bif (decide ((List.length r2.1.1:Int)=(1:Int))) then
 bif decide (0≤(0:Int)∧(0:Int)<(List.length r2.1.1:Int)) then
 bif (decide ((rd ((0:Int),([]:LI),([]:LI)) r2.1.1 (0:Int)).2.1=([98,10]:LI))) then
 bif (decide (r2.1.2.1=(2:Int))) then
 bif (decide (r2.1.2.2.2.1=(2:Int))) then
 q65_P r1.1∧(
 ∀ (r4:LI),r4=q65_F r1.1→(
 wfR (.one (.v yB r4))→(
 K (.one (.v .bool (decide (r4=([50,100]:LI))))) [])))
 else
 K (.one (.v .bool false)) []
 else
 K (.one (.v .bool false)) []
 else
 K (.one (.v .bool false)) []
 else False
 else
 K (.one (.v .bool false)) []
 else
 K (.one (.v .bool false)) []
 else
 K (.one (.v .bool false)) []
 else
 K (.one (.v .bool false)) [])))))))))
def q42_A:List AS:=[]
def q42_F:Bool:=true
theorem q42_sp (K:Res→List Cell→Prop) (_:wfA q42_A ()) (h:∀ r:Bool,r=q42_F→K (.one (.v .bool r)) []):q42_raw K:=by
  unfold q42_raw
  refine ⟨aw_parse.1,fun r1 h1 _=>?_⟩
  rw [aw_parse.2] at h1
  subst h1
  refine ⟨aw_doP,fun r2 h2 _=>?_⟩
  have h2:=h2.trans aw_do
  subst h2
  refine ⟨aw_q.1,fun r3 h3 _=>?_⟩
  rw [aw_q.2] at h3
  subst h3
  refine brn (fun _=>?_) (fun hh=>absurd rfl hh)
  refine brn (fun _=>?_) (fun hh=>absurd rfl hh)
  refine brn (fun _=>?_) (fun hh=>absurd rfl hh)
  refine brn (fun _=>?_) (fun hh=>absurd rfl hh)
  refine asrt ⟨by decide,by decide⟩ ?_
  refine brn (fun _=>?_) (fun hh=>absurd rfl hh)
  refine brn (fun _=>?_) (fun hh=>absurd rfl hh)
  refine brn (fun _=>?_) (fun hh=>absurd rfl hh)
  refine ⟨aw_spell.1,fun r4 h4 _=>?_⟩
  have h4:=h4.trans aw_spell.2
  subst h4
  exact h _ (by kernel_rfl)

def q42_C (v:valsA q42_A) (K:Res→List Cell→Prop):Prop:=∀ r:Bool,r=q42_F→K (.one (.v .bool r)) []
def q42_S:App:=specW q42_A q42_C
theorem q42_wv (K:Res→List Cell→Prop):∀ v:valsA q42_A,runF tb (getG q42_G) [] Tryz.f11 [true] (mkA q42_A v) K=q42_raw  K
  | ()=>by kernel_rfl
set_option maxRecDepth 20000 in
theorem q42_ok:AppOk Tryz.prog 11 q42_S:=
  AppOk.specW (spec_ok ((runF_ok tb_M tb_ok q42_Gok (LabsOk.nil) (f:=11) (fn:=Tryz.f11) (by kernel_rfl) (by kernel_rfl) (by kernel_rfl) [true])) fun v K hw h=>(q42_wv K v).mpr (q42_sp  K hw h))

def q17_G:List (Nat×App):=[(11,q42_S),(16,q65_S),(13,q63_S),(14,q45_S)]
theorem q17_Gok:GOk Tryz.prog (getG q17_G):=GOk.cons q42_ok (GOk.cons q65_ok (GOk.cons q63_ok (GOk.cons q45_ok (GOk.nil))))
theorem q17_st:storesC (bodyOf Tryz.f6)=true:=by kernel_rfl
def q17_d0:List LS:=[.v 0 yB]
def q17_d0r:List LS:=[.v 4 .bool]
def q17_dx0:DX:=⟨none,some q17_d0r,[]⟩
def q17_y0r (k:Ex→St→Prop) (x4:Bool):Prop:=wfD q17_d0r (x4,())→k .ret (mkD 78 q17_d0r (x4,()))
def q17_J0 (kr:Bool→Prop) (line0:LI):Prop:=
 q63_P line0∧(
 ∀ (r5:tEx×Int),r5=q63_F line0→(
 wfR (.tup [.v tyX r5.1,.v yI r5.2])→(
 bif (!decide (r5.2=(0:Int))) then
 ∀ (r6:Bool),r6=q45_F r5.1 zX→(
 wB r6→(
 bif r6 then
 bif (decide (r5.2=(230:Int))) then
 kr true
 else
 kr (decide (r5.2=(240:Int)))
 else
 kr false))
 else
 q65_P r5.1∧(
 ∀ (r7:LI),r7=q65_F r5.1→(
 wfR (.one (.v yB r7))→(
 q63_P r7∧(
 ∀ (r8:tEx×Int),r8=q63_F r7→(
 wfR (.tup [.v tyX r8.1,.v yI r8.2])→(
 bif (decide ((0:Int)<(List.length r7:Int))) then
 bif (decide (r8.2=(0:Int))) then
 ∀ (r9:Bool),r9=q45_F r8.1 r5.1→(
 wB r9→(
 bif r9 then
 q65_P r8.1∧(
 ∀ (r10:LI),r10=q65_F r8.1→(
 wfR (.one (.v yB r10))→(
 kr (decide (r10=r7)))))
 else
 kr false))
 else
 kr false
 else
 kr false)))))))))
def q17_g0 (k:Ex→St→Prop) (v:vals q17_d0):Prop:=q17_J0 (q17_y0r k) v.1
theorem q17_v0 (k:Ex→St→Prop):∀ v:vals q17_d0,ex tb (getG q17_G) [] (at' (bodyOf Tryz.f6) [1,1,1]) [1,1,1] (mkD 78 q17_d0 v) (wk 78 q17_dx0 k)=q17_g0 k v
  | (line0,())=>by kernel_rfl
def q17_X0:Pce:=fun st k=>ckD 78 q17_d0 st fun v=>wfD q17_d0 v→q17_g0 k v
set_option maxRecDepth 20000 in
theorem q17_x0:SemOk Tryz.prog (at' (bodyOf Tryz.f6) [1,1,1]) q17_X0:=
  (SemOk.wk (N:=78) (ds:=q17_d0) (dx:=q17_dx0) (ex_sound tb_M tb_ok q17_Gok (LabsOk.nil) (at' (bodyOf Tryz.f6) [1,1,1]) [1,1,1] rfl (storesC_at q17_st [1,1,1]))).mono fun st k h=>ckD_mono h fun v hv hw=>Eq.mpr (q17_v0 k v) (hv hw)
def q17_B0:Labs:=([1,1,1],q17_X0)::[]
theorem q17_b0:LabsOk Tryz.prog (bodyOf Tryz.f6) q17_B0:=LabsOk.cons q17_x0 (LabsOk.nil)
def q17_raw (line0:LI) (y1:tEx) (K:Res→List Cell→Prop):Prop:=
 ∀ (r1:Bool),r1=q42_F→(
 wB r1→(
 bif (!r1) then
 K (.one (.v .bool false)) []
 else
 q65_P y1∧(
 ∀ (r2:LI),r2=q65_F y1→(
 wfR (.one (.v yB r2))→(
 bif (decide ((0:Int)<(List.length r2:Int))) then
 q63_P r2∧(
 ∀ (r3:tEx×Int),r3=q63_F r2→(
 wfR (.tup [.v tyX r3.1,.v yI r3.2])→(
 bif (!decide (r3.2=(0:Int))) then
 K (.one (.v .bool false)) []
 else
 ∀ (r4:Bool),r4=q45_F r3.1 y1→(
 wB r4→(
 bif (!r4) then
 K (.one (.v .bool false)) []
 else
 (wfD q17_d0 (line0,())→q17_J0 (fun (x4:Bool)=>wfD q17_d0r (x4,())→(
 K (.one (.v .bool x4)) [])) line0))))))
 else
 (wfD q17_d0 (line0,())→q17_J0 (fun (x4:Bool)=>wfD q17_d0r (x4,())→(
 K (.one (.v .bool x4)) [])) line0))))))
def q17_A:List AS:=[.v yB,.v tyX]
theorem q17_walk (line0:LI) (y1:tEx) (K:Res→List Cell→Prop):runF tb (getG q17_G) q17_B0 Tryz.f6 [true] (mkA q17_A (line0,y1,())) K=q17_raw line0 y1 K:=by kernel_rfl

def q17_R:App:=runF tb (getG q17_G) q17_B0 Tryz.f6 [true]
theorem q17_ok:AppOk Tryz.prog 6 q17_R:=runF_ok tb_M tb_ok q17_Gok (q17_b0) (f:=6) (fn:=Tryz.f6) (by kernel_rfl) (by kernel_rfl) q17_st [true]
end Go.VE
namespace Go.VE
theorem bulk_ad (a:Adr):bulk adrT a=a.2.2.2.1.length+6:=by
  show 1+(1+(1+(bulk (.sl (.int .u8)) a.2.2.2.1+(1+1))))=_
  rw [bulk_bytes]; omega
theorem bulk_ex (y:ExD):szX y≤bulk exT y:=by
  show _≤bulk adrT y.1+(bulk adrT y.2.1+(1+((y.2.2.2.1.length+1)+(bulk adrT y.2.2.2.2.1+(1+(1+(bulk (.sl (.int .u8)) y.2.2.2.2.2.2.2.1+(bulk (.sl (.int .u8)) y.2.2.2.2.2.2.2.2.1+1))))))))
  rw [bulk_ad,bulk_ad,bulk_ad,bulk_bytes,bulk_bytes]
  unfold szX
  omega
theorem chk_in {x:ExD} {o:LI} (h:chk x o≠[]):chk x o=o∧parM o=.inl x:=by
  unfold chk at h ⊢
  cases hp:parM o with
  | inr e=>rw [hp] at h; exact absurd rfl h
  | inl y=>
    rw [hp] at h
    dsimp only at h ⊢
    by_cases c:q75_F x y=true
    · rw [if_pos c]
      exact ⟨rfl,by rw [(same_x x y).1 c]⟩
    · rw [if_neg c] at h; exact absurd rfl h
theorem chk_of {x:ExD} {o:LI} (h:parM o=.inl x):chk x o=o:=by
  unfold chk
  rw [h]
  dsimp only
  rw [if_pos ((same_x x x).2 rfl)]
theorem spell_in (x:ExD) (hx:3 * szX x+30000≤lim) (h:q65_F x≠[]):parM (q65_F x)=.inl x∧q65_F x=spS x∧(spS x).length≤lim:=by
  obtain ⟨_,f⟩:=spell_s x hx
  by_cases c:x.2.2.2.2.2.2.1<0∨9999<x.2.2.2.2.2.2.1
  · rw [f,if_pos c] at h; exact absurd rfl h
  · rw [if_neg c] at f
    rw [f] at h
    obtain ⟨q1,q2⟩:=chk_in h
    rw [f,q1]
    refine ⟨q2,rfl,?_⟩
    have h1:=rgS_len x
    have h2:=nmS_len x (by omega)
    have h3:=rS_len x
    have h4:=tlS_len x
    unfold szX at hx
    unfold spS
    simp only [List.length_append]
    omega
theorem back_j0 (kr:Bool→Prop) (s:LI) (hs:s.length≤1048576) (hk:kr true):q17_J0 kr s:=by
  have hlim:lim=1099511627776:=rfl
  obtain ⟨p,f⟩:=parse_s s (by omega)
  unfold q17_J0
  refine ⟨p,fun r5 h5 _=>?_⟩
  rw [f] at h5
  cases hp:parM s with
  | inr e=>
    rw [hp] at h5
    subst h5
    rcases par_err hp with rfl | rfl
    · refine brb (fun _=>?_) (fun h=>absurd h (by decide))
      intro r6 h6 _
      have h6:=h6.trans ((same_r exZ exZ).2 rfl)
      subst h6
      exact hk
    · refine brb (fun _=>?_) (fun h=>absurd h (by decide))
      intro r6 h6 _
      have h6:=h6.trans ((same_r exZ exZ).2 rfl)
      subst h6
      exact hk
  | inl x=>
    rw [hp] at h5
    subst h5
    refine brb (fun h=>absurd h (by show ¬ (!decide ((0:Int)=0))=true; decide)) (fun _=>?_)
    have hz:=par_sz hp
    obtain ⟨sp,sf⟩:=spell_s x (by omega)
    obtain ⟨q1,q2,q3,q4⟩:=round hp
    have hsp:q65_F x=spS x:=by rw [sf,if_neg (by omega),chk_of q1]
    have hin:=spell_in x (by omega) (by rw [hsp]; exact q2)
    refine ⟨sp,fun r7 h7 _=>?_⟩
    have h7:=h7.trans hsp
    subst h7
    obtain ⟨p8,f8⟩:=parse_s (spS x) hin.2.2
    refine ⟨p8,fun r8 h8 _=>?_⟩
    rw [f8,q1] at h8
    subst h8
    refine brn (fun _=>?_) (fun h=>absurd (show (0:Int)<((spS x).length:Int) from ?_) h)
    · refine brn (fun _=>?_) (fun h=>absurd rfl h)
      intro r9 h9 _
      have h9:=h9.trans ((same_r x x).2 rfl)
      subst h9
      refine ⟨sp,fun r10 h10 _=>?_⟩
      have h10:=h10.trans hsp
      subst h10
      rw [decide_eq_true rfl]
      exact hk
    · have:(spS x).length≠0:=fun h=>q2 (List.eq_nil_of_length_eq_zero h)
      omega
set_option maxRecDepth 100000 in
theorem back_law (v:valsA q17_A) (hw:wfA q17_A v) (hb:bulkA q17_A v≤1048576):q17_R (mkA q17_A v) (fun r _=>r=.one (.v .bool true)):=by
  obtain ⟨s,y,⟨⟩⟩:=v
  refine (q17_walk s y _).mpr ?_
  change bulk (.sl (.int .u8)) s+(bulk exT y+0)≤1048576 at hb
  rw [bulk_bytes] at hb
  have hs:s.length≤1048576:=by omega
  have hz:szX y≤1048576:=by
    have:=bulk_ex y
    omega
  have hlim:lim=1099511627776:=rfl
  obtain ⟨sp,sf⟩:=spell_s y (by omega)
  unfold q17_raw
  intro r1 h1 _
  subst h1
  refine brb (fun h=>absurd h (by decide)) (fun _=>?_)
  refine ⟨sp,fun r2 h2 _=>?_⟩
  refine brn (fun hl=>?_) (fun _=>fun _=>back_j0 _ s hs (fun _=>rfl))
  have hne:q65_F y≠[]:=fun h=>by rw [h2,h] at hl; simp at hl
  obtain ⟨q1,q2,q3⟩:=spell_in y (by omega) hne
  obtain ⟨p3,f3⟩:=parse_s (q65_F y) (by rw [q2]; exact q3)
  subst h2
  refine ⟨p3,fun r3 h3 _=>?_⟩
  rw [f3,q1] at h3
  subst h3
  refine brb (fun h=>absurd h (by show ¬ (!decide ((0:Int)=0))=true; decide)) (fun _=>?_)
  intro r4 h4 _
  have h4:=h4.trans ((same_r y y).2 rfl)
  subst h4
  refine brb (fun h=>absurd h (by decide)) (fun _=>fun _=>back_j0 _ s hs (fun _=>rfl))
end Go.VE
