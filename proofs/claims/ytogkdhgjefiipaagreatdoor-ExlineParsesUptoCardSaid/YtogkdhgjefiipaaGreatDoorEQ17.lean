import Derived.Test.YtogkdhgjefiipaaGreatDoorEQ16
import Derived.MapKept
set_option linter.unusedVariables false
set_option linter.unusedSectionVars false
set_option linter.unusedSimpArgs false
namespace Go.VE
open Go Go.Proofs Go.RowKit Go.Lib Go.MapKept

structure MapAt (w0 w:World) (es:Array MapEntry):Prop where
  at_:w.heap[w0.heap.size]?=some (.map es es.size)
  size:w.heap.size=w0.heap.size+1
  old:∀ b,b<w0.heap.size→w.heap[b]?=w0.heap[b]?
  os:w.os=w0.os
  tape:w.tape=w0.tape
  output:w.output=w0.output

theorem MapAt.made (w:World):MapAt w (w.alloc (.map #[] 0)) #[]:=
  { at_:=by show (w.heap.push _)[w.heap.size]?=_; simp,size:=by simp,old:=fun b hb=>(by show (w.heap.push _)[b]?=_; rw [Array.getElem?_push,if_neg (by omega)]),os:=rfl,tape:=rfl,output:=rfl }

theorem MapAt.upd {P:Program} {t k e:TypeId} {w0 w:World} {es:Array MapEntry} (M:MapAt w0 w es) (hu:P.underlying t=some (.map k e)) (hk:P.underlying k=some .string) {s:ByteArray} {v:Value}
    (hf:Instr.findNow .string (.string s) es.toList 0=some none) :
    ∃ w',(Instr.mapUpdate t (.map (some w0.heap.size)) (.string s) v).run P w=.ok () w'∧MapAt w0 w' (es.push { key:=.string s,val:=v,born:=es.size }):=by
  refine ⟨{ w with heap:=w.heap.setIfInBounds w0.heap.size (.map (es.push { key:=.string s,val:=v,born:=es.size }) (es.size+1)) },?_,?_⟩
  · have h1:=run_checkKey (P:=P) (w:=w) (kt:=k) (k:=.string s) hk (by trivial) false 9999
    have h2:=run_findKey (P:=P) (w:=w) hk hf
    have h3:=MapKept.run_setObj_map (P:=P) (.map (es.push { key:=.string s,val:=v,born:=es.size }) (es.size+1)) M.at_
    have h4:=MapKept.run_getObj_map (P:=P) M.at_
    simp only [Instr.mapUpdate,Sem.run_bind,run_underlying hu,h4,Result.andThen_ok,h1,h2,h3]
  · have hs:=M.size
    refine { at_:=?_,size:=by simpa using M.size,old:=fun b hb=>?_,os:=M.os,tape:=M.tape,output:=M.output }
    · simp [hs]
    · rw [← M.old b hb]
      exact Array.getElem?_setIfInBounds_ne (by omega)

section
variable {P:Program} {ops:Array Oper} {Q:Exit→Act→World→Prop} {ix:List Nat} {j:Nat} {a:Act} {w w':World} {v:Value}

theorem op_val {o:Oper} (hj:ops[j]?=some o) (hg:o.guard=none) (hr:(execOp a.eval o).run P w=.ok (.value v) w') (hn:wpOps P ops Q ix (a.put o.dst v) w'):wpOps P ops Q (j::ix) a w:=by
  simp only [wpOps,hj]
  rw [if_pos (by simp [Region.wanted,hg])]
  exact .inl (wp_val hr hn)

theorem op_skip {o:Oper} (hj:ops[j]?=some o) (hg:o.guard=none) (hr:(execOp a.eval o).run P w=.ok .skip w') (hn:wpOps P ops Q ix (a.put o.dst undef) w'):wpOps P ops Q (j::ix) a w:=by
  simp only [wpOps,hj]
  rw [if_pos (by simp [Region.wanted,hg])]
  refine .inl ?_
  unfold Oper.wp
  rw [hr]
  exact hn

theorem op_enter {o:Oper} {f:FuncId} {args:Array Value} (hj:ops[j]?=some o) (hg:o.guard=none) (hr:(execOp a.eval o).run P w=.ok (.enter f args) w)
    (h:Calls P f args w fun e w'=>∃ v,e=.returned v∧wpOps P ops Q ix (a.put o.dst v) w'):wpOps P ops Q (j::ix) a w:=by
  simp only [wpOps,hj]
  rw [if_pos (by simp [Region.wanted,hg])]
  refine .inl ?_
  unfold Oper.wp
  rw [hr]
  refine h.mono ?_
  rintro e w' ⟨v,rfl,hb⟩
  exact hb
end

def ent (k:ByteArray) (f i:Nat):MapEntry:={ key:=.string k,val:=.func (.func f) #[] #[],born:=i }

def opsOf:Code→Array Oper
  | .region _ ops _=>ops
  | _=>#[]

section
variable {P:Program} {ops:Array Oper} {Q:Exit→Act→World→Prop} {ix:List Nat} {j:Nat} {a:Act} {w w':World} {v:Value} {dst:Option Tmp}
theorem op_val' (op:Op) (hj:(ops[j]?).map (fun o=>(o.op,o.dst,o.guard))=some (op,dst,none)) (hr:∀ o:Oper,o.op=op→o.dst=dst→(execOp a.eval o).run P w=.ok (.value v) w') (hn:wpOps P ops Q ix (a.put dst v) w'):wpOps P ops Q (j::ix) a w:=by
  cases ho:ops[j]? with
  | none=>rw [ho] at hj; cases hj
  | some o=>
    rw [ho] at hj
    simp only [Option.map_some,Option.some.injEq,Prod.mk.injEq] at hj
    obtain ⟨h1,h2,h3⟩:=hj
    exact op_val ho h3 (hr o h1 h2) (by rw [h2]; exact hn)
theorem op_skip' (op:Op) (hj:(ops[j]?).map (fun o=>(o.op,o.dst,o.guard))=some (op,none,none)) (hr:∀ o:Oper,o.op=op→o.dst=none→(execOp a.eval o).run P w=.ok .skip w') (hn:wpOps P ops Q ix a w'):wpOps P ops Q (j::ix) a w:=by
  cases ho:ops[j]? with
  | none=>rw [ho] at hj; cases hj
  | some o=>
    rw [ho] at hj
    simp only [Option.map_some,Option.some.injEq,Prod.mk.injEq] at hj
    obtain ⟨h1,h2,h3⟩:=hj
    exact op_skip ho h3 (hr o h1 h2) (by rw [h2]; exact hn)
theorem op_enter' (op:Op) {f:FuncId} {args:Array Value} (hj:(ops[j]?).map (fun o=>(o.op,o.dst,o.guard))=some (op,dst,none)) (hr:∀ o:Oper,o.op=op→o.dst=dst→(execOp a.eval o).run P w=.ok (.enter f args) w)
    (h:Calls P f args w fun e w'=>∃ v,e=.returned v∧wpOps P ops Q ix (a.put dst v) w'):wpOps P ops Q (j::ix) a w:=by
  cases ho:ops[j]? with
  | none=>rw [ho] at hj; cases hj
  | some o=>
    rw [ho] at hj
    simp only [Option.map_some,Option.some.injEq,Prod.mk.injEq] at hj
    obtain ⟨h1,h2,h3⟩:=hj
    exact op_enter ho h3 (hr o h1 h2) (by rw [h2]; exact h)
theorem op_ins {t k e:TypeId} {w0:World} {es:Array MapEntry} (T:Tmp) (M:MapAt w0 w es) (hu:P.underlying t=some (.map k e)) (hk:P.underlying k=some .string) (hT:a.eval (.tmp T)=.map (some w0.heap.size)) (s:ByteArray) (f:FuncId)
    (hj:(ops[j]?).map (fun o=>(o.op,o.dst,o.guard))=some (.insert t (.tmp T) (.const (.string s)) (.func f),none,none))
    (hf:Instr.findNow .string (.string s) es.toList 0=some none) (hn:∀ w',MapAt w0 w' (es.push (ent s f es.size))→wpOps P ops Q ix a w'):wpOps P ops Q (j::ix) a w:=by
  obtain ⟨w',hr,M'⟩:=M.upd (v:=.func (.func f) #[] #[]) hu hk hf
  refine op_skip' _ hj (fun o ho hd=>?_) (hn w' M')
  unfold execOp
  rw [ho]
  dsimp only
  rw [hT]
  show (Sem.run P (do Instr.mapUpdate t (.map (some w0.heap.size)) (.string s) (.func (.func f) #[] #[]); pure _) w)=_
  rw [Sem.run_bind,hr]
  rfl
end

def tabE:Array MapEntry:=#[ent ⟨#[100]⟩ 235 0,ent ⟨#[99]⟩ 236 1,ent ⟨#[121]⟩ 237 2,ent ⟨#[62]⟩ 238 3,ent ⟨#[60]⟩ 239 4,ent ⟨#[103,126]⟩ 240 5,ent ⟨#[103,117]⟩ 243 6,ent ⟨#[103,85]⟩ 245 7]

theorem tab_mt:Tryz.prog.underlying 233=some (.map 9 231):=by kernel_rfl
theorem tab_kt:Tryz.prog.underlying 9=some .string:=by kernel_rfl
theorem operators_body:Tryz.f208.body=some (.seq (.region 0 (opsOf (at' (bodyOf Tryz.f208) [0])) false) (.seq (.region 1 (opsOf (at' (bodyOf Tryz.f208) [0,1])) false) .ret)):=by kernel_rfl
theorem operators_run (w:World):Calls Tryz.prog 208 #[] w fun e w'=>e=.returned (.map (some w.heap.size))∧MapAt w w' tabE:=by
  refine calls_of_wp (fn:=Tryz.f208) (by kernel_rfl) operators_body ?_
  refine wp_seq (wp_region ?_)
  rw [show List.range (opsOf (at' (bodyOf Tryz.f208) [0])).size=[0] by kernel_rfl]
  refine op_val' (.assign (.const (.map none))) (dst:=some 0) (by kernel_rfl) (fun o ho hd=>by unfold execOp; rw [ho]; rfl) ?_
  show Code.wp _ _ _ _ _
  refine wp_seq (wp_region ?_)
  rw [show List.range (opsOf (at' (bodyOf Tryz.f208) [0,1])).size=[0,1,2,3,4,5,6,7,8,9,10] by kernel_rfl]
  refine op_val' (.makeMap 233 none) (dst:=some 1) (by kernel_rfl) (fun o ho hd=>by unfold execOp; rw [ho]; rfl) ?_
  have hT:∀ (x y z:Value) (ds:List Deferred) (m:Value),(((Act.mk #[x,y,z] ds).put (some 1) m).eval (.tmp 1))=m:=fun _ _ _ _ _=>rfl
  refine op_ins 1 (MapAt.made w) tab_mt tab_kt rfl ⟨#[100]⟩ 235 (by kernel_rfl) (by kernel_rfl) fun w M=>?_
  refine op_ins 1 M tab_mt tab_kt rfl ⟨#[99]⟩ 236 (by kernel_rfl) (by kernel_rfl) fun w M=>?_
  refine op_ins 1 M tab_mt tab_kt rfl ⟨#[121]⟩ 237 (by kernel_rfl) (by kernel_rfl) fun w M=>?_
  refine op_ins 1 M tab_mt tab_kt rfl ⟨#[62]⟩ 238 (by kernel_rfl) (by kernel_rfl) fun w M=>?_
  refine op_ins 1 M tab_mt tab_kt rfl ⟨#[60]⟩ 239 (by kernel_rfl) (by kernel_rfl) fun w M=>?_
  refine op_ins 1 M tab_mt tab_kt rfl ⟨#[103,126]⟩ 240 (by kernel_rfl) (by kernel_rfl) fun w M=>?_
  refine op_ins 1 M tab_mt tab_kt rfl ⟨#[103,117]⟩ 243 (by kernel_rfl) (by kernel_rfl) fun w M=>?_
  refine op_ins 1 M tab_mt tab_kt rfl ⟨#[103,85]⟩ 245 (by kernel_rfl) (by kernel_rfl) fun w M=>?_
  refine op_val' (.move (.tmp 1)) (dst:=some 2) (by kernel_rfl) (fun o ho hd=>by unfold execOp; rw [ho]; rfl) ?_
  refine op_val' (.assign (.tmp 2)) (dst:=some 0) (by kernel_rfl) (fun o ho hd=>by unfold execOp; rw [ho]; rfl) ?_
  refine wp_ret ?_
  refine ⟨rfl,_,?_,rfl,M⟩
  rw [results_eq,show Tryz.f208.results=#[.tmp 0] by kernel_rfl]
  simp [resSem,Act.put]
  rfl

theorem lookup_run {P:Program} {t k e:TypeId} (hu:P.underlying t=some (.map k e)) (hk:P.underlying k=some .string) {es:Array MapEntry} {c r i:Nat} {w:World} (hb:w.heap[r]?=some (.map es c)) {s:ByteArray} {v:Value}
    (hf:Instr.findNow .string (.string s) es.toList 0=some (some (i,v))):(Instr.lookup t (.map (some r)) (.string s) true).run P w=.ok (.tuple #[v,.bool true]) w:=by
  have h1:=run_checkKey (P:=P) (w:=w) (kt:=k) (k:=.string s) hk (by trivial) es.isEmpty 9999
  have h2:=run_findKey (P:=P) (w:=w) hk hf
  have h4:=MapKept.run_getObj_map (P:=P) hb
  simp [Instr.lookup,run_underlying hu,h4,h1,h2,Result.andThen]

theorem lookup_none {P:Program} {t k e:TypeId} (hu:P.underlying t=some (.map k e)) (hk:P.underlying k=some .string) {es:Array MapEntry} {c r:Nat} {w:World} (hb:w.heap[r]?=some (.map es c)) {s:ByteArray} {z:Value}
    (hz:(zeroValue e).run P w=.ok z w) (hf:Instr.findNow .string (.string s) es.toList 0=some none):(Instr.lookup t (.map (some r)) (.string s) true).run P w=.ok (.tuple #[z,.bool false]) w:=by
  have h1:=run_checkKey (P:=P) (w:=w) (kt:=k) (k:=.string s) hk (by trivial) es.isEmpty 9999
  have h2:=run_findKey (P:=P) (w:=w) hk hf
  have h4:=MapKept.run_getObj_map (P:=P) hb
  simp [Instr.lookup,run_underlying hu,h4,h1,h2,hz,Result.andThen]

def goK:List (LI×Nat)→LI→(Nat→Prop)→Prop
  | [],_,_=>False
  | (a,f)::r,x,k=>bif decide (x=a) then k f else goK r x k

theorem goK_mem:∀ {ks:List (LI×Nat)} {x:LI} {k:Nat→Prop},goK ks x k→∃ f,(x,f)∈ks∧k f
  | [],_,_,h=>by cases h
  | (a,f)::r,x,k,h=>by
    unfold goK at h
    by_cases c:x=a
    · rw [decide_eq_true c] at h
      exact ⟨f,by rw [c]; exact List.mem_cons_self,h⟩
    · rw [decide_eq_false c] at h
      obtain ⟨f',h1,h2⟩:=goK_mem h
      exact ⟨f',List.mem_cons_of_mem _ h1,h2⟩

def tabKeys:List (LI×Nat):=[([100],235)]

theorem bytes_eq {s t:ByteArray} (h:bytesOf s=bytesOf t):s=t:=by
  have:=bytesOf_inj h
  cases s; cases t
  simp only [ByteArray.mk.injEq]
  exact Array.ext' this

theorem tabE_find {x:LI} {f:Nat} (h:(x,f)∈tabKeys) {s:ByteArray} (hs:bytesOf s=x):∃ i,Instr.findNow .string (.string s) tabE.toList 0=some (some (i,.func (.func f) #[] #[])):=by
  have key:∀ (t:ByteArray) (i:Nat),bytesOf t=x→Instr.findNow .string (.string t) tabE.toList 0=some (some (i,.func (.func f) #[] #[]))→∃ i,Instr.findNow .string (.string s) tabE.toList 0=some (some (i,.func (.func f) #[] #[])):=fun t i ht hi=>by
    rw [bytes_eq (hs.trans ht.symm)]; exact ⟨i,hi⟩
  simp only [tabKeys,List.mem_cons,Prod.mk.injEq,List.not_mem_nil,or_false] at h
  obtain ⟨rfl,rfl⟩:=h
  exact key ⟨#[100]⟩ 0 (by decide) (by kernel_rfl)

def tabSt (st:St) (x:LI) (f:Nat):St:=
  (((((((st.put (some 18) .no).put (some 19) (.v .str x)).put (some 20) .no).put (some 17) .no).put (some 21) .no).put (some 22) .no).put (some 12) (.fn f [])).put (some 13) (.v .bool true)

def tabX (R:Pce):Pce:=fun st k=>match st.ev (.tmp 2),Nat.beq st.tmps.length 77 with
  | .v .str x,true=>goK tabKeys x fun f=>R (tabSt st x f) k
  | _,_=>False

theorem Do_at:at' (bodyOf Tryz.f171) [1]=.seq (.region 1 (opsOf (at' (bodyOf Tryz.f171) [0,1])) false) (at' (bodyOf Tryz.f171) [1,1]):=by kernel_rfl

theorem wpOps_then {P:Program} {ops:Array Oper} {c:Code} {Q:Exit→Act→World→Prop} {a:Act} {w:World} (h:c.wp P Q a w):wpOps P ops (Exit.then (c.wp P Q) Q) [] a w:=h

set_option maxRecDepth 20000 in
theorem tabX_ok {R:Pce} (hR:SemOk Tryz.prog (at' (bodyOf Tryz.f171) [1,1]) R):SemOk Tryz.prog (at' (bodyOf Tryz.f171) [1]) (tabX R):=by
  intro w0 F Fn I0 W ds G I st tm w Q k hW hI hx hk hp
  unfold tabX at hx
  split at hx
  · rename_i x hev hlen
    obtain ⟨f,hf,hR'⟩:=goK_mem hx
    have hlen:=Nat.eq_of_beq_eq_true hlen
    have hsz:tm.size=77:=hI.size.trans hlen
    have h2:=hI.ev (.tmp 2) ds
    rw [hev] at h2
    obtain ⟨s,hs,hsx,hsl⟩:=RepV.str_eq h2
    obtain ⟨i,hfind⟩:=tabE_find hf hsx
    have hs2:tm[2]?=some (.string s):=by
      have:tm.getD 2 undef=.string s:=hs
      rw [Array.getD_eq_getD_getElem?] at this
      rw [Array.getElem?_eq_getElem (by omega)] at this ⊢
      exact congrArg some this
    rw [Do_at]
    refine wp_seq (wp_region ?_)
    rw [show List.range (opsOf (at' (bodyOf Tryz.f171) [0,1])).size=[0,1,2,3,4,5,6,7] by kernel_rfl]
    refine op_enter' (.call ⟨.value (.func 208),#[],#[]⟩) (f:=208) (args:=#[]) (dst:=some 18) (by kernel_rfl) (fun o ho hd=>?_) ((operators_run w).mono ?_)
    · have:=enters_of (P:=Tryz.prog) (f:=208) (fn:=Tryz.f208) (by kernel_rfl) (by kernel_rfl) #[] w
      unfold execOp
      rw [ho]
      simp [Sem.run_bind,resolve,Act.eval,Deferred.ofValue,invoke,this]
    rintro e w' ⟨rfl,M⟩
    refine ⟨_,rfl,?_⟩
    have hI1:=hI.grow (w':=w') (by rw [M.size]; omega) M.old M.os M.tape M.output
    refine op_val' (.move (.tmp 2)) (w':=w') (v:=.string s) (dst:=some 19) (by kernel_rfl) (fun o ho hd=>?_) ?_
    · unfold execOp; rw [ho]; simp [Act.eval,Act.put,hs2]
    refine op_val' (.lookup 233 (.tmp 18) (.tmp 19) true) (w':=w') (v:=.tuple #[.func (.func f) #[] #[],.bool true]) (dst:=some 20) (by kernel_rfl) (fun o ho hd=>?_) ?_
    · have hl:=lookup_run tab_mt tab_kt M.at_ hfind
      unfold execOp
      rw [ho]
      simp [Act.eval,Act.put,hsz,hl]
    refine op_val' (.move (.tmp 20)) (w':=w') (v:=.tuple #[.func (.func f) #[] #[],.bool true]) (dst:=some 17) (by kernel_rfl) (fun o ho hd=>?_) ?_
    · unfold execOp; rw [ho]; simp [Act.eval,Act.put,hsz]
    refine op_val' (.extract (.tmp 17) 0) (w':=w') (v:=.func (.func f) #[] #[]) (dst:=some 21) (by kernel_rfl) (fun o ho hd=>?_) ?_
    · unfold execOp; rw [ho]; simp [Act.eval,Act.put,hsz,Instr.extract]
    refine op_val' (.extract (.tmp 17) 1) (w':=w') (v:=.bool true) (dst:=some 22) (by kernel_rfl) (fun o ho hd=>?_) ?_
    · unfold execOp; rw [ho]; simp [Act.eval,Act.put,hsz,Instr.extract]
    refine op_val' (.assign (.tmp 21)) (w':=w') (v:=.func (.func f) #[] #[]) (dst:=some 12) (by kernel_rfl) (fun o ho hd=>?_) ?_
    · unfold execOp; rw [ho]; simp [Act.eval,Act.put,hsz]
    refine op_val' (.assign (.tmp 22)) (w':=w') (v:=.bool true) (dst:=some 13) (by kernel_rfl) (fun o ho hd=>?_) ?_
    · unfold execOp; rw [ho]; simp [Act.eval,Act.put,hsz]
    refine wpOps_then ?_
    have hI2:=(hI1.put (some 18) (s:=.no) (v:=.map (some w.heap.size)) trivial).put (some 19) (s:=.v .str x) (v:=.string s) (by rw [← hsx]; exact RepV.str_mk hsl)
    have hI3:=((hI2.put (some 20) (s:=.no) (v:=.tuple #[.func (.func f) #[] #[],.bool true]) trivial).put (some 17) (s:=.no) (v:=.tuple #[.func (.func f) #[] #[],.bool true]) trivial).put (some 21) (s:=.no) (v:=.func (.func f) #[] #[]) trivial
    have hI4:=((hI3.put (some 22) (s:=.no) (v:=.bool true) trivial).put (some 12) (s:=.fn f []) (v:=.func (.func f) #[] #[]) ⟨[],rfl,rfl,fun i k u hk=>by simp at hk⟩).put (some 13) (s:=.v .bool true) (v:=.bool true) RepV.bool_mk
    simp only [Act.put]
    exact hR Q k hW hI4 hR' hk hp
  · cases hx
end Go.VE
namespace Go.VE
set_option maxRecDepth 20000
open Go Go.Proofs
def q103_G:List (Nat×App):=[(209,q80_S),(210,q81_S),(235,q49_S)]
theorem q103_Gok:GOk Tryz.prog (getG q103_G):=GOk.cons q80_ok (GOk.cons q81_ok (GOk.cons q49_ok (GOk.nil)))
theorem q103_st:storesC (bodyOf Tryz.f171)=true:=by kernel_rfl
def q103_XT:Pce:=tabX (ex tb (getG q103_G) [] (at' (bodyOf Tryz.f171) [1,1]) [1,1])
theorem q103_xT:SemOk Tryz.prog (at' (bodyOf Tryz.f171) [1]) q103_XT:=tabX_ok (ex_sound tb_M tb_ok q103_Gok (LabsOk.nil) (at' (bodyOf Tryz.f171) [1,1]) [1,1] rfl (storesC_at q103_st [1,1]))
def q103_BT:Labs:=([1],q103_XT)::[]
theorem q103_bT:LabsOk Tryz.prog (bodyOf Tryz.f171) q103_BT:=LabsOk.cons q103_xT (LabsOk.nil)
def q103_raw (t0:LI) (at1:Int) (op2:LI) (rv3:(Int×Int×Bool×Bool)) (count4:Int) (K:Res→List Cell→Prop):Prop:=
 bif (decide (op2=([100]:LI))) then
 ∀ (r1:Bool),r1=q80_F t0 at1 count4 (1:Int)→(
 wB r1→(
 bif r1 then
 K (.tup [.v tyE (([]:List ((Int×LI×LI))),(0:Int),(false,false,([]:LI)),(0:Int),false),.v yI (2:Int)]) []
 else
 q81_P t0 at1 rv3∧(
 ∀ (r2:Int×Int×Bool),r2=q81_F t0 at1 rv3→(
 wfR (.tup [.v yI r2.1,.v yI r2.2.1,.v .bool r2.2.2])→(
 bif (!r2.2.2) then
 K (.tup [.v tyE (([]:List ((Int×LI×LI))),(0:Int),(false,false,([]:LI)),(0:Int),false),.v yI (2:Int)]) []
 else
 bif (decide (rv3.1=rv3.2.1)) then
 bif (!rv3.2.2.1) then
 bif (!decide (op2=([99]:LI))) then
 K (.tup [.v tyE (([]:List ((Int×LI×LI))),(0:Int),(false,false,([]:LI)),(0:Int),false),.v yI (190:Int)]) []
 else
 bif rv3.2.2.1 then
 bif (decide (op2=([100]:LI))) then
 K (.tup [.v tyE (([]:List ((Int×LI×LI))),(0:Int),(false,false,([]:LI)),(0:Int),false),.v yI (190:Int)]) []
 else
 q49_P (t0,at1,rv3,r2.1,r2.2.1,count4)∧(
 ∀ (r3:tEf×Int),r3=q49_F (t0,at1,rv3,r2.1,r2.2.1,count4)→(
 wfR (.tup [.v tyE r3.1,.v yI r3.2])→(
 K (.tup [.v tyE r3.1,.v yI r3.2]) [])))
 else
 q49_P (t0,at1,rv3,r2.1,r2.2.1,count4)∧(
 ∀ (r4:tEf×Int),r4=q49_F (t0,at1,rv3,r2.1,r2.2.1,count4)→(
 wfR (.tup [.v tyE r4.1,.v yI r4.2])→(
 K (.tup [.v tyE r4.1,.v yI r4.2]) [])))
 else
 bif rv3.2.2.1 then
 bif (decide (op2=([100]:LI))) then
 K (.tup [.v tyE (([]:List ((Int×LI×LI))),(0:Int),(false,false,([]:LI)),(0:Int),false),.v yI (190:Int)]) []
 else
 q49_P (t0,at1,rv3,r2.1,r2.2.1,count4)∧(
 ∀ (r5:tEf×Int),r5=q49_F (t0,at1,rv3,r2.1,r2.2.1,count4)→(
 wfR (.tup [.v tyE r5.1,.v yI r5.2])→(
 K (.tup [.v tyE r5.1,.v yI r5.2]) [])))
 else
 q49_P (t0,at1,rv3,r2.1,r2.2.1,count4)∧(
 ∀ (r6:tEf×Int),r6=q49_F (t0,at1,rv3,r2.1,r2.2.1,count4)→(
 wfR (.tup [.v tyE r6.1,.v yI r6.2])→(
 K (.tup [.v tyE r6.1,.v yI r6.2]) [])))
 else
 q49_P (t0,at1,rv3,r2.1,r2.2.1,count4)∧(
 ∀ (r7:tEf×Int),r7=q49_F (t0,at1,rv3,r2.1,r2.2.1,count4)→(
 wfR (.tup [.v tyE r7.1,.v yI r7.2])→(
 K (.tup [.v tyE r7.1,.v yI r7.2]) []))))))))
 else
 False
def q103_A:List AS:=[.v yB,.v yI,.v .str,.v (.st (.pair yI (.pair yI (.pair .bool .bool)))),.v yI]
abbrev Eff:=List (Int×LI×LI)×Int×(Bool×Bool×LI)×Int×Bool
abbrev Job:=LI×Int×(Int×Int×Bool×Bool)×Int×Int×Int
def doBr (JP:Job→Prop) (JF:Job→Eff×Int) (t0:LI) (at1:Int) (op2:LI) (rv3:(Int×Int×Bool×Bool)) (count4:Int) (K:Res→List Cell→Prop):Prop:=
  ∀ (r1:Bool),r1=q80_F t0 at1 count4 (1:Int)→(
  wB r1→(
  bif r1 then
    K (.tup [.v tyE (([]:List ((Int×LI×LI))),(0:Int),(false,false,([]:LI)),(0:Int),false),.v yI (2:Int)]) []
  else
    q81_P t0 at1 rv3∧(
    ∀ (r2:Int×Int×Bool),r2=q81_F t0 at1 rv3→(
    wfR (.tup [.v yI r2.1,.v yI r2.2.1,.v .bool r2.2.2])→(
    bif (!r2.2.2) then
      K (.tup [.v tyE (([]:List ((Int×LI×LI))),(0:Int),(false,false,([]:LI)),(0:Int),false),.v yI (2:Int)]) []
    else
    bif (decide (rv3.1=rv3.2.1)) then
      bif (!rv3.2.2.1) then
        bif (!decide (op2=([99]:LI))) then
          K (.tup [.v tyE (([]:List ((Int×LI×LI))),(0:Int),(false,false,([]:LI)),(0:Int),false),.v yI (190:Int)]) []
        else
        bif rv3.2.2.1 then
          bif (decide (op2=([100]:LI))) then
            K (.tup [.v tyE (([]:List ((Int×LI×LI))),(0:Int),(false,false,([]:LI)),(0:Int),false),.v yI (190:Int)]) []
          else
            JP (t0,at1,rv3,r2.1,r2.2.1,count4)∧(
            ∀ (r3:tEf×Int),r3=JF (t0,at1,rv3,r2.1,r2.2.1,count4)→(
            wfR (.tup [.v tyE r3.1,.v yI r3.2])→(
            K (.tup [.v tyE r3.1,.v yI r3.2]) [])))
        else
          JP (t0,at1,rv3,r2.1,r2.2.1,count4)∧(
          ∀ (r4:tEf×Int),r4=JF (t0,at1,rv3,r2.1,r2.2.1,count4)→(
          wfR (.tup [.v tyE r4.1,.v yI r4.2])→(
          K (.tup [.v tyE r4.1,.v yI r4.2]) [])))
      else
      bif rv3.2.2.1 then
        bif (decide (op2=([100]:LI))) then
          K (.tup [.v tyE (([]:List ((Int×LI×LI))),(0:Int),(false,false,([]:LI)),(0:Int),false),.v yI (190:Int)]) []
        else
          JP (t0,at1,rv3,r2.1,r2.2.1,count4)∧(
          ∀ (r5:tEf×Int),r5=JF (t0,at1,rv3,r2.1,r2.2.1,count4)→(
          wfR (.tup [.v tyE r5.1,.v yI r5.2])→(
          K (.tup [.v tyE r5.1,.v yI r5.2]) [])))
      else
        JP (t0,at1,rv3,r2.1,r2.2.1,count4)∧(
        ∀ (r6:tEf×Int),r6=JF (t0,at1,rv3,r2.1,r2.2.1,count4)→(
        wfR (.tup [.v tyE r6.1,.v yI r6.2])→(
        K (.tup [.v tyE r6.1,.v yI r6.2]) [])))
    else
      JP (t0,at1,rv3,r2.1,r2.2.1,count4)∧(
      ∀ (r7:tEf×Int),r7=JF (t0,at1,rv3,r2.1,r2.2.1,count4)→(
      wfR (.tup [.v tyE r7.1,.v yI r7.2])→(
      K (.tup [.v tyE r7.1,.v yI r7.2]) []))))))))
def doF (JF:Job→Eff×Int) (t:LI) (at_:Int) (op:LI) (r:Int×Int×Bool×Bool) (count:Int):Eff×Int:=
  if q80_F t at_ count 1=true then (([],0,(false,false,[]),0,false),2)
  else if (q81_F t at_ r).2.2=false then (([],0,(false,false,[]),0,false),2)
  else if r.1=r.2.1∧(r.2.2.1=false∧op≠[99]∨r.2.2.1=true∧op=[100]) then (([],0,(false,false,[]),0,false),190)
  else JF (t,at_,r,(q81_F t at_ r).1,(q81_F t at_ r).2.1,count)
theorem doBr_of (JP:Job→Prop) (JF:Job→Eff×Int) (t:LI) (at_:Int) (op:LI) (r:Int×Int×Bool×Bool) (count:Int) (K:Res→List Cell→Prop)
    (hp:q80_F t at_ count 1=false→q81_P t at_ r∧((q81_F t at_ r).2.2=true→JP (t,at_,r,(q81_F t at_ r).1,(q81_F t at_ r).2.1,count)))
    (h:∀ r':Eff×Int,r'=doF JF t at_ op r count→K (.tup [.v tyE r'.1,.v yI r'.2]) []):doBr JP JF t at_ op r count K:=by
  unfold doBr
  intro r1 h1 _
  refine brb (fun c=>h (_,_) (by unfold doF; rw [if_pos (h1.symm.trans c)])) (fun c=>?_)
  have c:=h1.symm.trans c
  obtain ⟨hp1,hp2⟩:=hp c
  refine ⟨hp1,fun r2 h2 _=>?_⟩
  have hc:¬ q80_F t at_ count 1=true:=by rw [c]; simp
  subst h2
  refine brb (fun c2=>h (_,_) (by unfold doF; rw [if_neg hc,if_pos (by simpa using c2)])) (fun c2=>?_)
  have c2:(q81_F t at_ r).2.2=true:=by simpa using c2
  have hc2:¬ (q81_F t at_ r).2.2=false:=by rw [c2]; simp
  have hj:=hp2 c2
  have fin:¬ (r.1=r.2.1∧(r.2.2.1=false∧op≠[99]∨r.2.2.1=true∧op=[100]))→∀ (r3:Eff×Int),r3=JF (t,at_,r,(q81_F t at_ r).1,(q81_F t at_ r).2.1,count)→K (.tup [.v tyE r3.1,.v yI r3.2]) []:=fun hn r3 h3=>h r3 (by unfold doF; rw [if_neg hc,if_neg hc2,if_neg hn,h3])
  have bad:(r.1=r.2.1∧(r.2.2.1=false∧op≠[99]∨r.2.2.1=true∧op=[100]))→K (.tup [.v tyE (([],0,(false,false,[]),0,false):Eff),.v yI (190:Int)]) []:=fun hn=>h (_,_) (by unfold doF; rw [if_neg hc,if_neg hc2,if_pos hn])
  refine brn (fun d1=>?_) (fun d1=>⟨hj,fun r3 h3 _=>fin (fun hn=>d1 hn.1) r3 h3⟩)
  refine brb (fun d2=>?_) (fun d2=>?_)
  · have d2:r.2.2.1=false:=by simpa using d2
    refine brx (fun d3=>bad ⟨d1,.inl ⟨d2,d3⟩⟩) (fun d3=>?_)
    refine brb (fun d4=>by rw [d2] at d4; cases d4) (fun _=>⟨hj,fun r3 h3 _=>fin (fun hn=>?_) r3 h3⟩)
    rcases hn.2 with hh | hh
    · exact hh.2 d3
    · rw [d2] at hh; cases hh.1
  · have d2:r.2.2.1=true:=by simpa using d2
    refine brb (fun _=>brn (fun d3=>bad ⟨d1,.inr ⟨d2,d3⟩⟩) (fun d3=>⟨hj,fun r3 h3 _=>fin (fun hn=>?_) r3 h3⟩)) (fun d4=>by rw [d2] at d4; cases d4)
    rcases hn.2 with hh | hh
    · rw [d2] at hh; cases hh.1
    · exact d3 hh.2
def q103_P (t:LI) (at_:Int) (op:LI) (r:Int×Int×Bool×Bool) (count:Int):Prop:=
 op=[100]∧(q80_F t at_ count 1=false→q81_P t at_ r∧((q81_F t at_ r).2.2=true→q49_P (t,at_,r,(q81_F t at_ r).1,(q81_F t at_ r).2.1,count)))
def q103_F (t:LI) (at_:Int) (op:LI) (r:Int×Int×Bool×Bool) (count:Int):Eff×Int:=doF q49_F t at_ op r count
theorem q103_sp (t:LI) (at_:Int) (op:LI) (r:Int×Int×Bool×Bool) (count:Int) (K:Res→List Cell→Prop) (_:wfA q103_A (t,at_,op,r,count,())) (hp:q103_P t at_ op r count)
    (h:∀ r':Eff×Int,r'=q103_F t at_ op r count→K (.tup [.v tyE r'.1,.v yI r'.2]) []):q103_raw t at_ op r count K:=by
  obtain ⟨hop,hp⟩:=hp
  unfold q103_raw
  exact brn (fun c=>doBr_of _ _ t at_ op r count K hp h) (fun c=>absurd hop c)

def q103_C (v:valsA q103_A) (K:Res→List Cell→Prop):Prop:=q103_P v.1 v.2.1 v.2.2.1 v.2.2.2.1 v.2.2.2.2.1∧∀ r:tEf×Int,r=q103_F v.1 v.2.1 v.2.2.1 v.2.2.2.1 v.2.2.2.2.1→K (.tup [.v tyE r.1,.v yI r.2]) []
def q103_S:App:=specW q103_A q103_C
theorem q103_wv (K:Res→List Cell→Prop):∀ v:valsA q103_A,runF tb (getG q103_G) q103_BT Tryz.f171 [true,true] (mkA q103_A v) K=q103_raw v.1 v.2.1 v.2.2.1 v.2.2.2.1 v.2.2.2.2.1 K
  | (t0,at1,op2,rv3,count4,())=>by kernel_rfl
theorem q103_ok:AppOk Tryz.prog 171 q103_S:=
  AppOk.specW (spec_ok ((runF_ok tb_M tb_ok q103_Gok (q103_bT) (f:=171) (fn:=Tryz.f171) (by kernel_rfl) (by kernel_rfl) q103_st [true,true])) fun v K hw h=>(q103_wv K v).mpr (q103_sp v.1 v.2.1 v.2.2.1 v.2.2.2.1 v.2.2.2.2.1 K hw h.1 h.2))

def q50_G:List (Nat×App):=[(170,q79_S),(171,q103_S)]
theorem q50_Gok:GOk Tryz.prog (getG q50_G):=GOk.cons q79_ok (GOk.cons q103_ok (GOk.nil))
def q50_raw (w0:tWk) (op1:LI) (count2:Int) (K:Res→List Cell→Prop):Prop:=
 (
 ∀ (r1:(Int×Int×Bool×Bool)×Int),r1=q79_F w0.1 (IntKind.wrap .i64 (w0.2.2.2.2.2.2.2.2.1 - (1:Int))) (IntKind.wrap .i64 (w0.2.2.2.2.2.2.2.2.2 - (1:Int)))→(
 wfR (.tup [.v (.st (.pair yI (.pair yI (.pair .bool .bool)))) r1.1,.v yI r1.2])→(
 bif (!decide (r1.2=(0:Int))) then
 K (.tup [.v tyE (([]:List ((Int×LI×LI))),(0:Int),(false,false,([]:LI)),(0:Int),false),.v yI r1.2]) [⟨.st (.pair yB (.pair yI (.pair yI (.pair yI (.pair (.st (.pair (.arr 26 yI) yI)) (.pair tyB (.pair yB (.pair tyX (.pair yI yI))))))))),w0⟩]
 else
 q103_P w0.1 w0.2.1 op1 r1.1 count2∧(
 ∀ (r2:tEf×Int),r2=q103_F w0.1 w0.2.1 op1 r1.1 count2→(
 wfR (.tup [.v tyE r2.1,.v yI r2.2])→(
 K (.tup [.v tyE r2.1,.v yI r2.2]) [⟨.st (.pair yB (.pair yI (.pair yI (.pair yI (.pair (.st (.pair (.arr 26 yI) yI)) (.pair tyB (.pair yB (.pair tyX (.pair yI yI))))))))),w0⟩]))))))∧(
 ∀ (r3:(Int×Int×Bool×Bool)×Int),r3=q79_F w0.1 (IntKind.wrap .i64 (w0.2.2.2.2.2.2.2.2.1 - (1:Int))) (IntKind.wrap .i64 (w0.2.2.2.2.2.2.2.2.2 - (1:Int)))→(
 wfR (.tup [.v (.st (.pair yI (.pair yI (.pair .bool .bool)))) r3.1,.v yI r3.2])→(
 bif (!decide (r3.2=(0:Int))) then
 K (.tup [.v tyE (([]:List ((Int×LI×LI))),(0:Int),(false,false,([]:LI)),(0:Int),false),.v yI r3.2]) [⟨.st (.pair yB (.pair yI (.pair yI (.pair yI (.pair (.st (.pair (.arr 26 yI) yI)) (.pair tyB (.pair yB (.pair tyX (.pair yI yI))))))))),w0⟩]
 else
 q103_P w0.1 w0.2.1 op1 r3.1 count2∧(
 ∀ (r4:tEf×Int),r4=q103_F w0.1 w0.2.1 op1 r3.1 count2→(
 wfR (.tup [.v tyE r4.1,.v yI r4.2])→(
 K (.tup [.v tyE r4.1,.v yI r4.2]) [⟨.st (.pair yB (.pair yI (.pair yI (.pair yI (.pair (.st (.pair (.arr 26 yI) yI)) (.pair tyB (.pair yB (.pair tyX (.pair yI yI))))))))),w0⟩]))))))∧True
def q50_A:List AS:=[.r none tyW,.v .str,.v yI]

def q50_P (w0:tWk) (op1:LI) (count2:Int):Prop:=
 let r1:(Int×Int×Bool×Bool)×Int:=q79_F w0.1 (IntKind.wrap .i64 (w0.2.2.2.2.2.2.2.2.1 - (1:Int))) (IntKind.wrap .i64 (w0.2.2.2.2.2.2.2.2.2 - (1:Int)))
 bif (!decide (r1.2=(0:Int))) then
 True
 else
 q103_P w0.1 w0.2.1 op1 r1.1 count2
def q50_F (w0:tWk) (op1:LI) (count2:Int):tEf×Int:=
 let r1:(Int×Int×Bool×Bool)×Int:=q79_F w0.1 (IntKind.wrap .i64 (w0.2.2.2.2.2.2.2.2.1 - (1:Int))) (IntKind.wrap .i64 (w0.2.2.2.2.2.2.2.2.2 - (1:Int)))
 bif (!decide (r1.2=(0:Int))) then
 ((([]:List ((Int×LI×LI))),(0:Int),(false,false,([]:LI)),(0:Int),false),r1.2)
 else
 let r2:tEf×Int:=q103_F w0.1 w0.2.1 op1 r1.1 count2
 (r2.1,r2.2)
theorem q50_sp (w0:tWk) (op1:LI) (count2:Int) (K:Res→List Cell→Prop) (_:wfA q50_A (w0,op1,count2,())) (hp:q50_P w0 op1 count2) (h:∀ r:tEf×Int,r=q50_F w0 op1 count2→K (.tup [.v tyE r.1,.v yI r.2]) [⟨.st (.pair yB (.pair yI (.pair yI (.pair yI (.pair (.st (.pair (.arr 26 yI) yI)) (.pair tyB (.pair yB (.pair tyX (.pair yI yI))))))))),w0⟩]):q50_raw w0 op1 count2 K:=
 ⟨al (br1 hp h (fun _ hp h=>h _ rfl)
 fun _ hp h=>⟨hp,al (h _ rfl)⟩),
 al (br1 hp h (fun _ hp h=>h _ rfl)
 fun _ hp h=>⟨hp,al (h _ rfl)⟩),trivial⟩
def q50_C (v:valsA q50_A) (K:Res→List Cell→Prop):Prop:=q50_P v.1 v.2.1 v.2.2.1∧∀ r:tEf×Int,r=q50_F v.1 v.2.1 v.2.2.1→K (.tup [.v tyE r.1,.v yI r.2]) [⟨.st (.pair yB (.pair yI (.pair yI (.pair yI (.pair (.st (.pair (.arr 26 yI) yI)) (.pair tyB (.pair yB (.pair tyX (.pair yI yI))))))))),v.1⟩]
def q50_S:App:=specW q50_A q50_C
theorem q50_wv (K:Res→List Cell→Prop):∀ v:valsA q50_A,runF tb (getG q50_G) [] Tryz.f117 [true,true] (mkA q50_A v) K=q50_raw v.1 v.2.1 v.2.2.1 K
  | (w0,op1,count2,())=>by kernel_rfl
theorem q50_ok:AppOk Tryz.prog 117 q50_S:=
  AppOk.specW (spec_ok ((runF_ok tb_M tb_ok q50_Gok (LabsOk.nil) (f:=117) (fn:=Tryz.f117) (by kernel_rfl) (by kernel_rfl) (by kernel_rfl) [true,true])) fun v K hw h=>(q50_wv K v).mpr (q50_sp v.1 v.2.1 v.2.2.1 K hw h.1 h.2))

end Go.VE
namespace Go.VE
open Go Go.Proofs
def q61_A:List AS:=[]
def q61_S:App:=specW q61_A fun _ _=>False
theorem q61_ok:AppOk Tryz.prog 118 q61_S:=AppOk.never
def q51_A:List AS:=[]
def q51_S:App:=specW q51_A fun _ _=>False
theorem q51_ok:AppOk Tryz.prog 119 q51_S:=AppOk.never
def q52_A:List AS:=[]
def q52_S:App:=specW q52_A fun _ _=>False
theorem q52_ok:AppOk Tryz.prog 120 q52_S:=AppOk.never
def q33_A:List AS:=[]
def q33_S:App:=specW q33_A fun _ _=>False
theorem q33_ok:AppOk Tryz.prog 121 q33_S:=AppOk.never
def q40_A:List AS:=[]
def q40_S:App:=specW q40_A fun _ _=>False
theorem q40_ok:AppOk Tryz.prog 122 q40_S:=AppOk.never
def q21_A:List AS:=[]
def q21_S:App:=specW q21_A fun _ _=>False
theorem q21_ok:AppOk Tryz.prog 123 q21_S:=AppOk.never
end Go.VE
namespace Go.VE
set_option maxRecDepth 20000
open Go Go.Proofs
def q66_G:List (Nat×App):=[(116,q92_S),(117,q50_S),(118,q61_S),(119,q51_S),(120,q52_S),(121,q33_S),(122,q40_S),(123,q21_S)]
theorem q66_Gok:GOk Tryz.prog (getG q66_G):=GOk.cons q92_ok (GOk.cons q50_ok (GOk.cons q61_ok (GOk.cons q51_ok (GOk.cons q52_ok (GOk.cons q33_ok (GOk.cons q40_ok (GOk.cons q21_ok (GOk.nil))))))))
theorem q66_st:storesC (bodyOf Tryz.f63)=true:=by kernel_rfl
def q66_d0:List LS:=[.b 0 7 [],.b 2 16 [],.v 12 .str,.v 68 .bool,.c 7 tyW,.c 16 tyE]
def q66_d0n:List LS:=[.b 0 7 [],.b 2 16 [],.c 7 tyW,.c 16 tyE]
def q66_dx0:DX:=⟨some q66_d0n,none,[]⟩
def q66_y0n (k:Ex→St→Prop) (w0b:tWk) (x2b:tEf):Prop:=wfD q66_d0n (w0b,x2b,())→k .nrm (mkD 103 q66_d0n (w0b,x2b,()))
def q66_J0 (kn:tWk→tEf→Prop) (x12:LI) (x68:Bool) (w0b:tWk) (x2b:tEf):Prop:=
 bif x68 then
 False
 else
 bif (decide (x12=([106]:LI))) then
 False
 else
 bif (decide (x12=([106,33]:LI))) then
 False
 else
 bif (decide (x12=([116]:LI))) then
 False
 else
 bif (decide (x12=([109]:LI))) then
 False
 else
 kn w0b x2b
def q66_g0 (k:Ex→St→Prop) (v:vals q66_d0):Prop:=q66_J0 (q66_y0n k) v.1 v.2.1 v.2.2.1 v.2.2.2.1
theorem q66_v0 (k:Ex→St→Prop):∀ v:vals q66_d0,ex tb (getG q66_G) [] (at' (bodyOf Tryz.f63) [1,1,1,1,1,1,1,1,1,0,1,0,1]) [1,1,1,1,1,1,1,1,1,0,1,0,1] (mkD 103 q66_d0 v) (wk 103 q66_dx0 k)=q66_g0 k v
  | (x12,x68,w0b,x2b,())=>by kernel_rfl
def q66_X0:Pce:=fun st k=>ckD 103 q66_d0 st fun v=>wfD q66_d0 v→q66_g0 k v
theorem q66_x0:SemOk Tryz.prog (at' (bodyOf Tryz.f63) [1,1,1,1,1,1,1,1,1,0,1,0,1]) q66_X0:=
  (SemOk.wk (N:=103) (ds:=q66_d0) (dx:=q66_dx0) (ex_sound tb_M tb_ok q66_Gok (LabsOk.nil) (at' (bodyOf Tryz.f63) [1,1,1,1,1,1,1,1,1,0,1,0,1]) [1,1,1,1,1,1,1,1,1,0,1,0,1] rfl (storesC_at q66_st [1,1,1,1,1,1,1,1,1,0,1,0,1]))).mono fun st k h=>ckD_mono h fun v hv hw=>Eq.mpr (q66_v0 k v) (hv hw)
def q66_B0:Labs:=([1,1,1,1,1,1,1,1,1,0,1,0,1],q66_X0)::[]
theorem q66_b0:LabsOk Tryz.prog (bodyOf Tryz.f63) q66_B0:=LabsOk.cons q66_x0 (LabsOk.nil)
def q66_d1:List LS:=[.b 0 7 [],.b 2 16 [],.v 12 .str,.v 51 .bool,.c 7 tyW,.c 16 tyE]
def q66_d1r:List LS:=[.b 2 16 [],.v 3 yI,.c 7 tyW,.c 16 tyE]
def q66_d1n:List LS:=[.b 0 7 [],.b 2 16 [],.c 7 tyW,.c 16 tyE]
def q66_dx1:DX:=⟨some q66_d1n,some q66_d1r,[]⟩
def q66_y1r (k:Ex→St→Prop) (x3:Int) (w0b:tWk) (x2b:tEf):Prop:=wfD q66_d1r (x3,w0b,x2b,())→k .ret (mkD 103 q66_d1r (x3,w0b,x2b,()))
def q66_y1n (k:Ex→St→Prop) (w0b:tWk) (x2b:tEf):Prop:=wfD q66_d1n (w0b,x2b,())→k .nrm (mkD 103 q66_d1n (w0b,x2b,()))
def q66_J1 (kr:Int→tWk→tEf→Prop) (kn:tWk→tEf→Prop) (x12:LI) (x51:Bool) (w0b:tWk) (x2b:tEf):Prop:=
 bif x51 then
 (
 q50_P w0b w0b.2.2.2.2.2.2.2.1.2.2.2.1 w0b.2.2.2.2.2.2.2.1.2.2.2.2.2.2.1∧(
 ∀ (r4:tEf×Int),r4=q50_F w0b w0b.2.2.2.2.2.2.2.1.2.2.2.1 w0b.2.2.2.2.2.2.2.1.2.2.2.2.2.2.1→(
 wfR (.tup [.v tyE r4.1,.v yI r4.2])→(
 kr r4.2 w0b r4.1))))∧(
 q50_P w0b w0b.2.2.2.2.2.2.2.1.2.2.2.1 w0b.2.2.2.2.2.2.2.1.2.2.2.2.2.2.1∧(
 ∀ (r5:tEf×Int),r5=q50_F w0b w0b.2.2.2.2.2.2.2.1.2.2.2.1 w0b.2.2.2.2.2.2.2.1.2.2.2.2.2.2.1→(
 wfR (.tup [.v tyE r5.1,.v yI r5.2])→(
 kr r5.2 w0b r5.1))))∧True
 else
 bif (decide (x12=([112,117]:LI))) then
 (wfD q66_d0 (x12,(decide (x12=([112,117]:LI))),w0b,x2b,())→q66_J0 (fun (w0b:tWk) (x2b:tEf)=>wfD q66_d0n (w0b,x2b,())→(
 kn w0b x2b)) x12 (decide (x12=([112,117]:LI))) w0b x2b)
 else
 (wfD q66_d0 (x12,(decide (x12=([112,117,33]:LI))),w0b,x2b,())→q66_J0 (fun (w0b:tWk) (x2b:tEf)=>wfD q66_d0n (w0b,x2b,())→(
 kn w0b x2b)) x12 (decide (x12=([112,117,33]:LI))) w0b x2b)
def q66_g1 (k:Ex→St→Prop) (v:vals q66_d1):Prop:=q66_J1 (q66_y1r k) (q66_y1n k) v.1 v.2.1 v.2.2.1 v.2.2.2.1
theorem q66_v1 (k:Ex→St→Prop):∀ v:vals q66_d1,ex tb (getG q66_G) q66_B0 (at' (bodyOf Tryz.f63) [1,1,1,1,1,1,1,0,1,0,1]) [1,1,1,1,1,1,1,0,1,0,1] (mkD 103 q66_d1 v) (wk 103 q66_dx1 k)=q66_g1 k v
  | (x12,x51,w0b,x2b,())=>by kernel_rfl
def q66_X1:Pce:=fun st k=>ckD 103 q66_d1 st fun v=>wfD q66_d1 v→q66_g1 k v
theorem q66_x1:SemOk Tryz.prog (at' (bodyOf Tryz.f63) [1,1,1,1,1,1,1,0,1,0,1]) q66_X1:=
  (SemOk.wk (N:=103) (ds:=q66_d1) (dx:=q66_dx1) (ex_sound tb_M tb_ok q66_Gok (q66_b0) (at' (bodyOf Tryz.f63) [1,1,1,1,1,1,1,0,1,0,1]) [1,1,1,1,1,1,1,0,1,0,1] rfl (storesC_at q66_st [1,1,1,1,1,1,1,0,1,0,1]))).mono fun st k h=>ckD_mono h fun v hv hw=>Eq.mpr (q66_v1 k v) (hv hw)
def q66_B1:Labs:=([1,1,1,1,1,1,1,0,1,0,1],q66_X1)::q66_B0
theorem q66_b1:LabsOk Tryz.prog (bodyOf Tryz.f63) q66_B1:=LabsOk.cons q66_x1 (q66_b0)
def q66_d2:List LS:=[.b 0 7 [],.b 2 16 [],.c 7 tyW,.c 16 tyE]
def q66_dx2:DX:=⟨none,none,[]⟩
def q66_J2  (w0b:tWk) (x2b:tEf):Prop:=
 False
def q66_g2 (k:Ex→St→Prop) (v:vals q66_d2):Prop:=q66_J2  v.1 v.2.1
theorem q66_v2 (k:Ex→St→Prop):∀ v:vals q66_d2,ex tb (getG q66_G) q66_B1 (at' (bodyOf Tryz.f63) [1,1]) [1,1] (mkD 103 q66_d2 v) (wk 103 q66_dx2 k)=q66_g2 k v
  | (w0b,x2b,())=>by kernel_rfl
def q66_X2:Pce:=fun st k=>ckD 103 q66_d2 st fun v=>wfD q66_d2 v→q66_g2 k v
theorem q66_x2:SemOk Tryz.prog (at' (bodyOf Tryz.f63) [1,1]) q66_X2:=
  (SemOk.wk (N:=103) (ds:=q66_d2) (dx:=q66_dx2) (ex_sound tb_M tb_ok q66_Gok (q66_b1) (at' (bodyOf Tryz.f63) [1,1]) [1,1] rfl (storesC_at q66_st [1,1]))).mono fun st k h=>ckD_mono h fun v hv hw=>Eq.mpr (q66_v2 k v) (hv hw)
def q66_B2:Labs:=([1,1],q66_X2)::q66_B1
theorem q66_b2:LabsOk Tryz.prog (bodyOf Tryz.f63) q66_B2:=LabsOk.cons q66_x2 (q66_b1)
def q66_raw (w0:tWk) (K:Res→List Cell→Prop):Prop:=
 bif (decide (w0.2.2.2.2.2.2.2.1.2.2.2.1=([]:LI))) then
 ∀ (r1:Int×Int),r1=q92_F w0.1 (IntKind.wrap .i64 (w0.2.2.2.2.2.2.2.2.2 - (1:Int)))→(
 wfR (.tup [.v yI r1.1,.v yI r1.2])→(
 K (.tup [.v tyE (([]:List ((Int×LI×LI))),r1.1,(false,false,([]:LI)),(0:Int),false),.v yI r1.2]) [⟨.st (.pair yB (.pair yI (.pair yI (.pair yI (.pair (.st (.pair (.arr 26 yI) yI)) (.pair tyB (.pair yB (.pair tyX (.pair yI yI))))))))),w0⟩]))
 else
 bif (decide (w0.2.2.2.2.2.2.2.1.2.2.2.1=([100]:LI))) then
 q50_P w0 ([100]:LI) (1:Int)∧(
 ∀ (r2:tEf×Int),r2=q50_F w0 ([100]:LI) (1:Int)→(
 wfR (.tup [.v tyE r2.1,.v yI r2.2])→(
 K (.tup [.v tyE r2.1,.v yI r2.2]) [⟨.st (.pair yB (.pair yI (.pair yI (.pair yI (.pair (.st (.pair (.arr 26 yI) yI)) (.pair tyB (.pair yB (.pair tyX (.pair yI yI))))))))),w0⟩])))
 else
 bif (decide (w0.2.2.2.2.2.2.2.1.2.2.2.1=([121]:LI))) then
 q50_P w0 ([121]:LI) (1:Int)∧(
 ∀ (r3:tEf×Int),r3=q50_F w0 ([121]:LI) (1:Int)→(
 wfR (.tup [.v tyE r3.1,.v yI r3.2])→(
 K (.tup [.v tyE (r3.1.1,w0.2.1,r3.1.2.2.1,r3.1.2.2.2.1,r3.1.2.2.2.2),.v yI r3.2]) [⟨.st (.pair yB (.pair yI (.pair yI (.pair yI (.pair (.st (.pair (.arr 26 yI) yI)) (.pair tyB (.pair yB (.pair tyX (.pair yI yI))))))))),w0⟩])))
 else
 bif (decide (w0.2.2.2.2.2.2.2.1.2.2.2.1=([62]:LI))) then
 (wfD q66_d1 (w0.2.2.2.2.2.2.2.1.2.2.2.1,(decide (w0.2.2.2.2.2.2.2.1.2.2.2.1=([62]:LI))),w0,(([]:List ((Int×LI×LI))),(0:Int),(false,false,([]:LI)),(0:Int),false),())→q66_J1 (fun (x3:Int) (w0b:tWk) (x2b:tEf)=>wfD q66_d1r (x3,w0b,x2b,())→(
 K (.tup [.v tyE x2b,.v yI x3]) [⟨.st (.pair yB (.pair yI (.pair yI (.pair yI (.pair (.st (.pair (.arr 26 yI) yI)) (.pair tyB (.pair yB (.pair tyX (.pair yI yI))))))))),w0b⟩])) (fun (w0b:tWk) (x2b:tEf)=>wfD q66_d1n (w0b,x2b,())→(
 (wfD q66_d2 (w0b,x2b,())→q66_J2  w0b x2b))) w0.2.2.2.2.2.2.2.1.2.2.2.1 (decide (w0.2.2.2.2.2.2.2.1.2.2.2.1=([62]:LI))) w0 (([]:List ((Int×LI×LI))),(0:Int),(false,false,([]:LI)),(0:Int),false))
 else
 (wfD q66_d1 (w0.2.2.2.2.2.2.2.1.2.2.2.1,(decide (w0.2.2.2.2.2.2.2.1.2.2.2.1=([60]:LI))),w0,(([]:List ((Int×LI×LI))),(0:Int),(false,false,([]:LI)),(0:Int),false),())→q66_J1 (fun (x3:Int) (w0b:tWk) (x2b:tEf)=>wfD q66_d1r (x3,w0b,x2b,())→(
 K (.tup [.v tyE x2b,.v yI x3]) [⟨.st (.pair yB (.pair yI (.pair yI (.pair yI (.pair (.st (.pair (.arr 26 yI) yI)) (.pair tyB (.pair yB (.pair tyX (.pair yI yI))))))))),w0b⟩])) (fun (w0b:tWk) (x2b:tEf)=>wfD q66_d1n (w0b,x2b,())→(
 (wfD q66_d2 (w0b,x2b,())→q66_J2  w0b x2b))) w0.2.2.2.2.2.2.2.1.2.2.2.1 (decide (w0.2.2.2.2.2.2.2.1.2.2.2.1=([60]:LI))) w0 (([]:List ((Int×LI×LI))),(0:Int),(false,false,([]:LI)),(0:Int),false))
def q66_A:List AS:=[.r none tyW]

def q66_J0_P (x12:LI) (x68:Bool) (w0b:tWk) (x2b:tEf):Prop:=
 bif x68 then
 False
 else
 bif (decide (x12=([106]:LI))) then
 False
 else
 bif (decide (x12=([106,33]:LI))) then
 False
 else
 bif (decide (x12=([116]:LI))) then
 False
 else
 bif (decide (x12=([109]:LI))) then
 False
 else
 True
def q66_J0_F (x12:LI) (x68:Bool) (w0b:tWk) (x2b:tEf):tWk×tEf:=
 bif x68 then
 default
 else
 bif (decide (x12=([106]:LI))) then
 default
 else
 bif (decide (x12=([106,33]:LI))) then
 default
 else
 bif (decide (x12=([116]:LI))) then
 default
 else
 bif (decide (x12=([109]:LI))) then
 default
 else
 (w0b,x2b)
theorem q66_J0_sp (kn:tWk→tEf→Prop) (x12:LI) (x68:Bool) (w0b:tWk) (x2b:tEf) (hp:q66_J0_P x12 x68 w0b x2b) (hn:∀ q:tWk×tEf,q=q66_J0_F x12 x68 w0b x2b→kn q.1 q.2):q66_J0 kn x12 x68 w0b x2b:=
 have h:=hn; br1 hp h (fun _ hp h=>hp.elim)
 fun _ hp h=>br1 hp h (fun _ hp h=>hp.elim)
 fun _ hp h=>br1 hp h (fun _ hp h=>hp.elim)
 fun _ hp h=>br1 hp h (fun _ hp h=>hp.elim)
 fun _ hp h=>br1 hp h (fun _ hp h=>hp.elim)
 fun _ hp h=>h _ rfl
def q66_J1_P (x12:LI) (x51:Bool) (w0b:tWk) (x2b:tEf):Prop:=
 bif x51 then
 q50_P w0b w0b.2.2.2.2.2.2.2.1.2.2.2.1 w0b.2.2.2.2.2.2.2.1.2.2.2.2.2.2.1
 else
 bif (decide (x12=([112,117]:LI))) then
 q66_J0_P x12 (decide (x12=([112,117]:LI))) w0b x2b
 else
 q66_J0_P x12 (decide (x12=([112,117,33]:LI))) w0b x2b
def q66_J1_F (x12:LI) (x51:Bool) (w0b:tWk) (x2b:tEf):(Int×tWk×tEf)⊕(tWk×tEf):=
 bif x51 then
 let r4:tEf×Int:=q50_F w0b w0b.2.2.2.2.2.2.2.1.2.2.2.1 w0b.2.2.2.2.2.2.2.1.2.2.2.2.2.2.1
 .inl (r4.2,w0b,r4.1)
 else
 bif (decide (x12=([112,117]:LI))) then
 let q0n:tWk×tEf:=q66_J0_F x12 (decide (x12=([112,117]:LI))) w0b x2b
 let w0b:tWk:=q0n.1
 let x2b:tEf:=q0n.2
 .inr (w0b,x2b)
 else
 let q0n:tWk×tEf:=q66_J0_F x12 (decide (x12=([112,117,33]:LI))) w0b x2b
 let w0b:tWk:=q0n.1
 let x2b:tEf:=q0n.2
 .inr (w0b,x2b)
theorem q66_J1_sp (kr:Int→tWk→tEf→Prop) (kn:tWk→tEf→Prop) (x12:LI) (x51:Bool) (w0b:tWk) (x2b:tEf) (hp:q66_J1_P x12 x51 w0b x2b) (hr:∀ q:Int×tWk×tEf,q66_J1_F x12 x51 w0b x2b=.inl q→kr q.1 q.2.1 q.2.2) (hn:∀ q:tWk×tEf,q66_J1_F x12 x51 w0b x2b=.inr q→kn q.1 q.2):q66_J1 kr kn x12 x51 w0b x2b:=
 have h:=hc2 hr hn; br1 hp h (fun _ hp h=>⟨⟨hp,al (h _ rfl)⟩,
 ⟨hp,al (h _ rfl)⟩,trivial⟩)
 fun _ hp h=>br1 hp h (fun _ hp h=>fun _=>q66_J0_sp _ _ _ _ _ hp (al (h _ rfl)))
 fun _ hp h=>fun _=>q66_J0_sp _ _ _ _ _ hp (al (h _ rfl))
def q66_P (w0:tWk):Prop:=
 bif (decide (w0.2.2.2.2.2.2.2.1.2.2.2.1=([]:LI))) then
 True
 else
 bif (decide (w0.2.2.2.2.2.2.2.1.2.2.2.1=([100]:LI))) then
 q50_P w0 ([100]:LI) (1:Int)
 else
 bif (decide (w0.2.2.2.2.2.2.2.1.2.2.2.1=([121]:LI))) then
 q50_P w0 ([121]:LI) (1:Int)
 else
 bif (decide (w0.2.2.2.2.2.2.2.1.2.2.2.1=([62]:LI))) then
 q66_J1_P w0.2.2.2.2.2.2.2.1.2.2.2.1 (decide (w0.2.2.2.2.2.2.2.1.2.2.2.1=([62]:LI))) w0 (([]:List ((Int×LI×LI))),(0:Int),(false,false,([]:LI)),(0:Int),false)∧(
 Sum.elim (fun q1r=>
 True) (fun q1n=>
 let w0b:tWk:=q1n.1
 let x2b:tEf:=q1n.2
 False) (q66_J1_F w0.2.2.2.2.2.2.2.1.2.2.2.1 (decide (w0.2.2.2.2.2.2.2.1.2.2.2.1=([62]:LI))) w0 (([]:List ((Int×LI×LI))),(0:Int),(false,false,([]:LI)),(0:Int),false)))
 else
 q66_J1_P w0.2.2.2.2.2.2.2.1.2.2.2.1 (decide (w0.2.2.2.2.2.2.2.1.2.2.2.1=([60]:LI))) w0 (([]:List ((Int×LI×LI))),(0:Int),(false,false,([]:LI)),(0:Int),false)∧(
 Sum.elim (fun q1r=>
 True) (fun q1n=>
 let w0b:tWk:=q1n.1
 let x2b:tEf:=q1n.2
 False) (q66_J1_F w0.2.2.2.2.2.2.2.1.2.2.2.1 (decide (w0.2.2.2.2.2.2.2.1.2.2.2.1=([60]:LI))) w0 (([]:List ((Int×LI×LI))),(0:Int),(false,false,([]:LI)),(0:Int),false)))
def q66_F (w0:tWk):tEf×Int×tWk:=
 bif (decide (w0.2.2.2.2.2.2.2.1.2.2.2.1=([]:LI))) then
 let r1:Int×Int:=q92_F w0.1 (IntKind.wrap .i64 (w0.2.2.2.2.2.2.2.2.2 - (1:Int)))
 ((([]:List ((Int×LI×LI))),r1.1,(false,false,([]:LI)),(0:Int),false),r1.2,w0)
 else
 bif (decide (w0.2.2.2.2.2.2.2.1.2.2.2.1=([100]:LI))) then
 let r2:tEf×Int:=q50_F w0 ([100]:LI) (1:Int)
 (r2.1,r2.2,w0)
 else
 bif (decide (w0.2.2.2.2.2.2.2.1.2.2.2.1=([121]:LI))) then
 let r3:tEf×Int:=q50_F w0 ([121]:LI) (1:Int)
 ((r3.1.1,w0.2.1,r3.1.2.2.1,r3.1.2.2.2.1,r3.1.2.2.2.2),r3.2,w0)
 else
 bif (decide (w0.2.2.2.2.2.2.2.1.2.2.2.1=([62]:LI))) then
 Sum.elim (fun q1r=>
 let x3:Int:=q1r.1
 let w0b:tWk:=q1r.2.1
 let x2b:tEf:=q1r.2.2
 (x2b,x3,w0b)) (fun q1n=>
 let w0b:tWk:=q1n.1
 let x2b:tEf:=q1n.2
 default) (q66_J1_F w0.2.2.2.2.2.2.2.1.2.2.2.1 (decide (w0.2.2.2.2.2.2.2.1.2.2.2.1=([62]:LI))) w0 (([]:List ((Int×LI×LI))),(0:Int),(false,false,([]:LI)),(0:Int),false))
 else
 Sum.elim (fun q1r=>
 let x3:Int:=q1r.1
 let w0b:tWk:=q1r.2.1
 let x2b:tEf:=q1r.2.2
 (x2b,x3,w0b)) (fun q1n=>
 let w0b:tWk:=q1n.1
 let x2b:tEf:=q1n.2
 default) (q66_J1_F w0.2.2.2.2.2.2.2.1.2.2.2.1 (decide (w0.2.2.2.2.2.2.2.1.2.2.2.1=([60]:LI))) w0 (([]:List ((Int×LI×LI))),(0:Int),(false,false,([]:LI)),(0:Int),false))
theorem q66_sp (w0:tWk) (K:Res→List Cell→Prop) (_:wfA q66_A (w0,())) (hp:q66_P w0) (h:∀ r:tEf×Int×tWk,r=q66_F w0→K (.tup [.v tyE r.1,.v yI r.2.1]) [⟨.st (.pair yB (.pair yI (.pair yI (.pair yI (.pair (.st (.pair (.arr 26 yI) yI)) (.pair tyB (.pair yB (.pair tyX (.pair yI yI))))))))),r.2.2⟩]):q66_raw w0 K:=
 br1 hp h (fun _ hp h=>al (h _ rfl))
 fun _ hp h=>br1 hp h (fun _ hp h=>⟨hp,al (h _ rfl)⟩)
 fun _ hp h=>br1 hp h (fun _ hp h=>⟨hp,al (h _ rfl)⟩)
 fun _ hp h=>br1 hp h (fun _ hp h=>fun _=>q66_J1_sp _ _ _ _ _ _ hp.1
 (fun _ e _=>have h:=sl e h; h _ rfl)
 (fun _ e _=>have h:=sr e h; have hp:=cR e hp.2; hp.elim))
 fun _ hp h=>fun _=>q66_J1_sp _ _ _ _ _ _ hp.1
 (fun _ e _=>have h:=sl e h; h _ rfl)
 (fun _ e _=>have h:=sr e h; have hp:=cR e hp.2; hp.elim)
def q66_C (v:valsA q66_A) (K:Res→List Cell→Prop):Prop:=q66_P v.1∧∀ r:tEf×Int×tWk,r=q66_F v.1→K (.tup [.v tyE r.1,.v yI r.2.1]) [⟨.st (.pair yB (.pair yI (.pair yI (.pair yI (.pair (.st (.pair (.arr 26 yI) yI)) (.pair tyB (.pair yB (.pair tyX (.pair yI yI))))))))),r.2.2⟩]
def q66_S:App:=specW q66_A q66_C
theorem q66_wv (K:Res→List Cell→Prop):∀ v:valsA q66_A,runF tb (getG q66_G) q66_B2 Tryz.f63 [true,true] (mkA q66_A v) K=q66_raw v.1 K
  | (w0,())=>by kernel_rfl
theorem q66_ok:AppOk Tryz.prog 63 q66_S:=
  AppOk.specW (spec_ok ((runF_ok tb_M tb_ok q66_Gok (q66_b2) (f:=63) (fn:=Tryz.f63) (by kernel_rfl) (by kernel_rfl) q66_st [true,true])) fun v K hw h=>(q66_wv K v).mpr (q66_sp v.1 K hw h.1 h.2))

def q100_G:List (Nat×App):=[(24,q101_S),(16,q77_S),(28,q90_S),(62,q32_S),(63,q66_S)]
theorem q100_Gok:GOk Tryz.prog (getG q100_G):=GOk.cons q101_ok (GOk.cons q77_ok (GOk.cons q90_ok (GOk.cons q32_ok (GOk.cons q66_ok (GOk.nil)))))
def q100_raw (t0:LI) (at1:Int) (m2:(Unit×Int)) (b3:tBk) (hunt4:LI) (x5:tEx) (K:Res→List Cell→Prop):Prop:=
 q101_P t0 at1∧(
 ∀ (r1:Int×Int),r1=q101_F t0 at1→(
 wfR (.tup [.v yI r1.1,.v yI r1.2])→(
 bif (!decide (r1.2=(0:Int))) then
 K (.tup [.v tyE (([]:List ((Int×LI×LI))),(0:Int),(false,false,([]:LI)),(0:Int),false),.v yI (2:Int)]) []
 else
 q77_P x5∧(
 ∀ (r2:LI),r2=q77_F x5→(
 wfR (.one (.v yB r2))→(
 bif (decide ((List.length r2:Int)=(0:Int))) then
 K (.tup [.v tyE (([]:List ((Int×LI×LI))),(0:Int),(false,false,([]:LI)),(0:Int),false),.v yI (240:Int)]) []
 else
 q90_P t0∧(
 ∀ (r3:Int),r3=q90_F t0→(
 wI r3→(
 q32_P (t0,at1,(IntKind.wrap .i64 (r1.1+(1:Int))),r3,m2,b3,hunt4,x5,(0:Int),(0:Int))∧(
 ∀ (r4:Int×tWk),r4=q32_F (t0,at1,(IntKind.wrap .i64 (r1.1+(1:Int))),r3,m2,b3,hunt4,x5,(0:Int),(0:Int))→(
 wI r4.1→(
 bif (!decide (r4.1=(0:Int))) then
 K (.tup [.v tyE (([]:List ((Int×LI×LI))),(0:Int),(false,false,([]:LI)),(0:Int),false),.v yI r4.1]) []
 else
 q66_P r4.2∧(
 ∀ (r5:tEf×Int×tWk),r5=q66_F r4.2→(
 wfR (.tup [.v tyE r5.1,.v yI r5.2.1])→(
 bif (!decide (r5.2.1=(0:Int))) then
 K (.tup [.v tyE (([]:List ((Int×LI×LI))),(0:Int),(false,false,([]:LI)),(0:Int),false),.v yI r5.2.1]) []
 else
 K (.tup [.v tyE r5.1,.v yI (0:Int)]) [])))))))))))))))
def q100_A:List AS:=[.v yB,.v yI,.v (.st (.pair (.arr 26 yI) yI)),.v tyB,.v yB,.v tyX]

def q100_P (t0:LI) (at1:Int) (m2:(Unit×Int)) (b3:tBk) (hunt4:LI) (x5:tEx):Prop:=
 q101_P t0 at1∧(
 let r1:Int×Int:=q101_F t0 at1
 bif (!decide (r1.2=(0:Int))) then
 True
 else
 q77_P x5∧(
 let r2:LI:=q77_F x5
 bif (decide ((List.length r2:Int)=(0:Int))) then
 True
 else
 q90_P t0∧(
 let r3:Int:=q90_F t0
 q32_P (t0,at1,(IntKind.wrap .i64 (r1.1+(1:Int))),r3,m2,b3,hunt4,x5,(0:Int),(0:Int))∧(
 let r4:Int×tWk:=q32_F (t0,at1,(IntKind.wrap .i64 (r1.1+(1:Int))),r3,m2,b3,hunt4,x5,(0:Int),(0:Int))
 bif (!decide (r4.1=(0:Int))) then
 True
 else
 q66_P r4.2))))
def q100_F (t0:LI) (at1:Int) (m2:(Unit×Int)) (b3:tBk) (hunt4:LI) (x5:tEx):tEf×Int:=
 let r1:Int×Int:=q101_F t0 at1
 bif (!decide (r1.2=(0:Int))) then
 ((([]:List ((Int×LI×LI))),(0:Int),(false,false,([]:LI)),(0:Int),false),(2:Int))
 else
 let r2:LI:=q77_F x5
 bif (decide ((List.length r2:Int)=(0:Int))) then
 ((([]:List ((Int×LI×LI))),(0:Int),(false,false,([]:LI)),(0:Int),false),(240:Int))
 else
 let r3:Int:=q90_F t0
 let r4:Int×tWk:=q32_F (t0,at1,(IntKind.wrap .i64 (r1.1+(1:Int))),r3,m2,b3,hunt4,x5,(0:Int),(0:Int))
 bif (!decide (r4.1=(0:Int))) then
 ((([]:List ((Int×LI×LI))),(0:Int),(false,false,([]:LI)),(0:Int),false),r4.1)
 else
 let r5:tEf×Int×tWk:=q66_F r4.2
 bif (!decide (r5.2.1=(0:Int))) then
 ((([]:List ((Int×LI×LI))),(0:Int),(false,false,([]:LI)),(0:Int),false),r5.2.1)
 else
 (r5.1,(0:Int))
theorem q100_sp (t0:LI) (at1:Int) (m2:(Unit×Int)) (b3:tBk) (hunt4:LI) (x5:tEx) (K:Res→List Cell→Prop) (_:wfA q100_A (t0,at1,m2,b3,hunt4,x5,())) (hp:q100_P t0 at1 m2 b3 hunt4 x5) (h:∀ r:tEf×Int,r=q100_F t0 at1 m2 b3 hunt4 x5→K (.tup [.v tyE r.1,.v yI r.2]) []):q100_raw t0 at1 m2 b3 hunt4 x5 K:=
 an1 hp fun hp=>al (br1 hp h (fun _ hp h=>h _ rfl)
 fun _ hp h=>an1 hp fun hp=>al (br1 hp h (fun _ hp h=>h _ rfl)
 fun _ hp h=>an1 hp fun hp=>al (an1 hp fun hp=>al (br1 hp h (fun _ hp h=>h _ rfl)
 fun _ hp h=>⟨hp,al (br0 h (fun _ h=>h _ rfl)
 fun _ h=>h _ rfl)⟩))))
def q100_C (v:valsA q100_A) (K:Res→List Cell→Prop):Prop:=q100_P v.1 v.2.1 v.2.2.1 v.2.2.2.1 v.2.2.2.2.1 v.2.2.2.2.2.1∧∀ r:tEf×Int,r=q100_F v.1 v.2.1 v.2.2.1 v.2.2.2.1 v.2.2.2.2.1 v.2.2.2.2.2.1→K (.tup [.v tyE r.1,.v yI r.2]) []
def q100_S:App:=specW q100_A q100_C
theorem q100_wv (K:Res→List Cell→Prop):∀ v:valsA q100_A,runF tb (getG q100_G) [] Tryz.f18 [true,true] (mkA q100_A v) K=q100_raw v.1 v.2.1 v.2.2.1 v.2.2.2.1 v.2.2.2.2.1 v.2.2.2.2.2.1 K
  | (t0,at1,m2,b3,hunt4,x5,())=>by kernel_rfl
theorem q100_ok:AppOk Tryz.prog 18 q100_S:=
  AppOk.specW (spec_ok ((runF_ok tb_M tb_ok q100_Gok (LabsOk.nil) (f:=18) (fn:=Tryz.f18) (by kernel_rfl) (by kernel_rfl) (by kernel_rfl) [true,true])) fun v K hw h=>(q100_wv K v).mpr (q100_sp v.1 v.2.1 v.2.2.1 v.2.2.2.1 v.2.2.2.2.1 v.2.2.2.2.2.1 K hw h.1 h.2))

end Go.VE
namespace Go.VE
def rgS (x:ExD):LI:=if x.2.2.1=true then [37] else adS x.1++(if x.2.1.2.2.2.2.2=true then 44::adS x.2.1 else [])
def nmS (x:ExD):LI:=if x.2.2.2.1=[62]∨x.2.2.2.1=[60] then repB x.2.2.2.1 x.2.2.2.2.2.2.1.toNat else x.2.2.2.1
def rS (x:ExD):LI:=if x.2.2.2.2.2.1=0 then [] else [32,x.2.2.2.2.2.1]
def tlS (x:ExD):LI:=if x.2.2.2.1=[100]∨x.2.2.2.1=[121]∨x.2.2.2.1=[106]∨x.2.2.2.1=[106,33] then (if 0<x.2.2.2.2.2.2.1 then 32::dec x.2.2.2.2.2.2.1.toNat else [])
  else if x.2.2.2.1=[116]∨x.2.2.2.1=[109] then 32::adS x.2.2.2.2.1
  else if x.2.2.2.1=[115] then 47::(x.2.2.2.2.2.2.2.1++(47::(x.2.2.2.2.2.2.2.2.1++(if x.2.2.2.2.2.2.2.2.2=true then [47,103] else []))))
  else []
def spS (x:ExD):LI:=rgS x++(nmS x++(rS x++tlS x))
def szX (x:ExD):Nat:=x.1.2.2.2.1.length+x.2.1.2.2.2.1.length+x.2.2.2.1.length+x.2.2.2.2.1.2.2.2.1.length+x.2.2.2.2.2.2.2.1.length+x.2.2.2.2.2.2.2.2.1.length
def chk (x:ExD) (out:LI):LI:=match parM out with
  | .inl y=>if q87_F x y=true then out else []
  | .inr _=>[]
theorem chk_s (out:LI) (ho:out.length≤lim) (x:ExD):q77_J3_P out x∧q77_J3_F out x=chk x out:=by
  obtain ⟨p,f⟩:=parse_s out ho
  refine ⟨p,?_⟩
  unfold q77_J3_F chk
  simp only [f]
  cases hp:parM out with
  | inl y=>
    simp only [toB]
    cases q87_F x y <;> rfl
  | inr e=>
    rcases par_err hp with rfl | rfl <;> rfl
section
variable (x:ExD) (h0:0≤x.2.2.2.2.2.2.1) (h9:x.2.2.2.2.2.2.1≤9999)
theorem rgS_len:(rgS x).length≤x.1.2.2.2.1.length+x.2.1.2.2.2.1.length+50:=by
  unfold rgS
  have h1:=adS_len x.1
  have h2:=adS_len x.2.1
  repeat' split
  all_goals ((try simp only [List.length_append,List.length_cons,List.length_nil]); omega)
theorem rS_len:(rS x).length≤2:=by
  unfold rS
  split <;> simp
include h9 in
theorem nmS_len:(nmS x).length≤x.2.2.2.1.length+9999:=by
  unfold nmS
  split
  · rename_i h
    rw [repB_length]
    have:x.2.2.2.1.length=1:=by rcases h with h | h <;> rw [h] <;> rfl
    rw [this]; omega
  · omega
theorem tlS_len:(tlS x).length≤x.2.2.2.2.1.2.2.2.1.length+x.2.2.2.2.2.2.2.1.length+x.2.2.2.2.2.2.2.2.1.length+50:=by
  unfold tlS
  have h1:=adS_len x.2.2.2.2.1
  have h2:=dec_len x.2.2.2.2.2.2.1.toNat
  repeat' split
  all_goals ((try simp only [List.length_append,List.length_cons,List.length_nil]); omega)
theorem j1_sp (out:LI) (ho:out.length+szX x+100≤lim) (fl:Bool) (hfl:fl=(decide (x.2.2.2.1=[116]) || decide (x.2.2.2.1=[109]))) (hd:¬ (x.2.2.2.1=[100]∨x.2.2.2.1=[121]∨x.2.2.2.1=[106]∨x.2.2.2.1=[106,33])) :
    q77_J1_P out x.2.2.2.1 fl x∧q77_J1_F out x.2.2.2.1 fl x=(out++tlS x,x):=by
  obtain ⟨a,b,w,nm,d,rg,cn,old,new,all⟩:=x
  unfold szX at ho
  dsimp only at ho hfl hd ⊢
  unfold q77_J1_P q77_J1_F tlS
  dsimp only
  rw [if_neg hd]
  by_cases c1:nm=[116]∨nm=[109]
  · rw [show fl=true by rw [hfl]; rcases c1 with h | h <;> simp [h],if_pos c1]
    obtain ⟨sp,sf⟩:=addr_s d (by omega)
    have:=adS_len d
    rw [sf]
    refine ⟨⟨by simp only [List.length_cons,List.length_nil]; omega,sp,by simp only [List.length_append,List.length_cons,List.length_nil]; omega⟩,?_⟩
    simp
  · rw [show fl=false by rw [hfl]; simp at c1; simp [c1],if_neg c1]
    by_cases c2:nm=[115]
    · rw [decide_eq_true c2,if_pos c2]
      refine ⟨⟨by simp only [List.length_cons,List.length_nil]; omega,by simp only [List.length_append,List.length_cons,List.length_nil]; omega,by simp only [List.length_append,List.length_cons,List.length_nil]; omega,by simp only [List.length_append,List.length_cons,List.length_nil]; omega,?_⟩,?_⟩
      · refine brb (fun _=>?_) (fun _=>trivial)
        simp only [List.length_append,List.length_cons,List.length_nil]; omega
      · cases all <;> simp
    · rw [decide_eq_false c2,if_neg c2]
      exact ⟨trivial,by simp⟩
include h0 h9 in
theorem j2_sp (out:LI) (ho:out.length+szX x+100≤lim) (fl:Bool) (hfl:fl=decide (x.2.2.2.1=[100]∨x.2.2.2.1=[121]∨x.2.2.2.1=[106]∨x.2.2.2.1=[106,33])) :
    q77_J2_P out x.2.2.2.1 fl x∧q77_J2_F out x.2.2.2.1 fl x=(out++tlS x,x):=by
  have hsz:szX x≤lim:=by omega
  unfold q77_J2_P q77_J2_F
  by_cases c0:x.2.2.2.1=[100]∨x.2.2.2.1=[121]∨x.2.2.2.1=[106]∨x.2.2.2.1=[106,33]
  · rw [show fl=true by rw [hfl]; exact decide_eq_true c0]
    have e:tlS x=if 0<x.2.2.2.2.2.2.1 then 32::dec x.2.2.2.2.2.2.1.toNat else []:=by unfold tlS; rw [if_pos c0]
    rw [e]
    by_cases c1:0<x.2.2.2.2.2.2.1
    · rw [decide_eq_true c1,if_pos c1]
      have hdl:=dec_len x.2.2.2.2.2.2.1.toNat
      refine ⟨⟨by simp only [List.length_cons,List.length_nil]; omega,⟨10,by omega,by omega,by omega,by omega⟩,?_⟩,?_⟩
      · show (out++[32]).length+(dec x.2.2.2.2.2.2.1.toNat).length≤lim
        simp only [List.length_append,List.length_cons,List.length_nil]; omega
      · show ((out++[32])++dec x.2.2.2.2.2.2.1.toNat,x)=_
        rw [List.append_assoc]; rfl
    · rw [decide_eq_false c1,if_neg c1,List.append_nil]
      exact ⟨trivial,rfl⟩
  · rw [show fl=false by rw [hfl]; exact decide_eq_false c0]
    by_cases c1:x.2.2.2.1=[116]
    · obtain ⟨p,f⟩:=j1_sp x out ho true (by rw [decide_eq_true c1]; rfl) c0
      rw [decide_eq_true c1]
      simp only [f]
      exact ⟨p,rfl⟩
    · obtain ⟨p,f⟩:=j1_sp x out ho (decide (x.2.2.2.1=[109])) (by rw [decide_eq_false c1]; rfl) c0
      rw [decide_eq_false c1]
      simp only [cond_false,f]
      exact ⟨p,trivial⟩
include h0 h9 in
theorem j4_sp (out:LI) (ho:out.length+szX x+200≤lim):q77_J4_P out x∧q77_J4_F out x=chk x (out++tlS x):=by
  have htl:=tlS_len x
  have hz:x.2.2.2.2.1.2.2.2.1.length+x.2.2.2.2.2.2.2.1.length+x.2.2.2.2.2.2.2.2.1.length≤szX x:=by unfold szX; omega
  have hk:=chk_s (out++tlS x) (by rw [List.length_append]; omega) x
  have j:=j2_sp x h0 h9 out (by omega)
  unfold q77_J4_P q77_J4_F
  by_cases c1:x.2.2.2.1=[100]
  · have j:=j true (by rw [decide_eq_true (.inl c1)])
    rw [decide_eq_true c1]
    simp only [cond_true,j.2]
    exact ⟨⟨j.1,hk.1⟩,hk.2⟩
  rw [decide_eq_false c1]
  by_cases c2:x.2.2.2.1=[121]
  · have j:=j true (by rw [decide_eq_true (.inr (.inl c2))])
    rw [decide_eq_true c2]
    simp only [cond_true,cond_false,j.2]
    exact ⟨⟨j.1,hk.1⟩,hk.2⟩
  rw [decide_eq_false c2]
  by_cases c3:x.2.2.2.1=[106]
  · have j:=j true (by rw [decide_eq_true (.inr (.inr (.inl c3)))])
    rw [decide_eq_true c3]
    simp only [cond_true,cond_false,j.2]
    exact ⟨⟨j.1,hk.1⟩,hk.2⟩
  rw [decide_eq_false c3]
  have j:=j (decide (x.2.2.2.1=[106,33])) (by simp [c1,c2,c3])
  simp only [cond_false,j.2]
  exact ⟨⟨j.1,hk.1⟩,hk.2⟩
include h0 h9 in
theorem j5_sp (out:LI) (ho:out.length+szX x+300≤lim):q77_J5_P out x∧q77_J5_F out x=chk x (out++(rS x++tlS x)):=by
  unfold q77_J5_P q77_J5_F rS
  by_cases c:x.2.2.2.2.2.1=0
  · have j:=j4_sp x h0 h9 out (by omega)
    rw [decide_eq_true c,if_pos c,List.nil_append]
    exact j
  · have j:=j4_sp x h0 h9 (out++[32,x.2.2.2.2.2.1]) (by simp only [List.length_append,List.length_cons,List.length_nil]; omega)
    rw [List.append_assoc] at j
    rw [decide_eq_false c,if_neg c]
    exact ⟨⟨by simp only [List.length_cons,List.length_nil]; omega,j.1⟩,j.2⟩
include h0 h9 in
theorem j6_sp (out:LI) (ho:out.length+szX x+szX x+20000≤lim):q77_J6_P out x∧q77_J6_F out x=chk x (out++(nmS x++(rS x++tlS x))):=by
  have hn:=nmS_len x h9
  have hz:x.2.2.2.1.length≤szX x:=by unfold szX; omega
  have j:=j5_sp x h0 h9 (out++nmS x) (by rw [List.length_append]; omega)
  rw [List.append_assoc] at j
  have j0:q77_J0_P out (decide (x.2.2.2.1=[62]) || decide (x.2.2.2.1=[60])) x∧q77_J0_F out (decide (x.2.2.2.1=[62]) || decide (x.2.2.2.1=[60])) x=(out++nmS x,x):=by
    unfold q77_J0_P q77_J0_F nmS
    by_cases c:x.2.2.2.1=[62]∨x.2.2.2.1=[60]
    · rw [show (decide (x.2.2.2.1=[62]) || decide (x.2.2.2.1=[60]))=true by rcases c with h | h <;> simp [h],if_pos c]
      have hl:x.2.2.2.1.length=1:=by rcases c with h | h <;> rw [h] <;> rfl
      refine ⟨⟨⟨h0,by omega,by rw [hl]; omega,by rw [hl]; omega⟩,?_⟩,rfl⟩
      show out.length+(repB x.2.2.2.1 x.2.2.2.2.2.2.1.toNat).length≤lim
      rw [repB_length,hl]; omega
    · rw [show (decide (x.2.2.2.1=[62]) || decide (x.2.2.2.1=[60]))=false by simp at c; simp [c],if_neg c]
      exact ⟨show out.length+x.2.2.2.1.length≤lim by omega,rfl⟩
  unfold q77_J6_P q77_J6_F
  by_cases c1:x.2.2.2.1=[62]
  · rw [decide_eq_true c1,Bool.true_or] at j0
    rw [decide_eq_true c1]
    simp only [cond_true,j0.2]
    exact ⟨⟨j0.1,j.1⟩,j.2⟩
  · rw [decide_eq_false c1,Bool.false_or] at j0
    rw [decide_eq_false c1]
    simp only [cond_false,j0.2]
    exact ⟨⟨j0.1,j.1⟩,j.2⟩
end
theorem spell_s (x:ExD) (hx:3 * szX x+30000≤lim):q77_P x∧q77_F x=if x.2.2.2.2.2.2.1<0∨9999<x.2.2.2.2.2.2.1 then [] else chk x (spS x):=by
  unfold q77_P q77_F
  by_cases h0:x.2.2.2.2.2.2.1<0
  · rw [decide_eq_true h0,if_pos (.inl h0)]; exact ⟨trivial,rfl⟩
  rw [decide_eq_false h0]
  by_cases h9:9999<x.2.2.2.2.2.2.1
  · rw [decide_eq_true h9,if_pos (.inr h9)]; exact ⟨trivial,rfl⟩
  rw [decide_eq_false h9,if_neg (by omega)]
  have hz1:x.1.2.2.2.1.length+x.2.1.2.2.2.1.length≤szX x:=by unfold szX; omega
  have hr:=rgS_len x
  have j:=j6_sp x (by omega) (by omega) (rgS x) (by omega)
  unfold spS
  cases hw:x.2.2.1
  · obtain ⟨sp,sf⟩:=addr_s x.1 (by omega)
    obtain ⟨tp,tf⟩:=addr_s x.2.1 (by omega)
    have l1:=adS_len x.1
    have l2:=adS_len x.2.1
    simp only [cond_false,sf,tf]
    cases hg:x.2.1.2.2.2.2.2
    · have e:rgS x=[]++adS x.1:=by unfold rgS; rw [hw,hg]; simp
      rw [e] at j
      rw [e]
      exact ⟨⟨sp,by simp only [List.length_nil]; omega,j.1⟩,j.2⟩
    · have e:rgS x=([]++adS x.1++[44])++adS x.2.1:=by unfold rgS; rw [hw,hg]; simp
      rw [e] at j
      rw [e]
      exact ⟨⟨sp,by simp only [List.length_nil]; omega,by simp only [List.length_append,List.length_cons,List.length_nil]; omega,tp,by simp only [List.length_append,List.length_cons,List.length_nil]; omega,j.1⟩,j.2⟩
  · have e:rgS x=[]++[37]:=by unfold rgS; rw [hw]; simp
    rw [e] at j
    rw [e]
    exact ⟨⟨by simp only [List.length_cons,List.length_nil]; omega,j.1⟩,j.2⟩
end Go.VE
namespace Go.VE
abbrev awX:ExD:=((110,2,0,[],0,true),(0,0,0,[],0,false),false,[100],(0,0,0,[],0,false),0,0,[],[],false)
theorem aw_parM:parM [50,100]=.inl awX:=by kernel_rfl
theorem aw_parse:q75_P [50,100]∧q75_F [50,100]=(awX,0):=by
  obtain ⟨p,f⟩:=parse_s [50,100] (by decide)
  exact ⟨p,by rw [f,aw_parM]; rfl⟩
theorem aw_q:q75_P [113]∧q75_F [113]=(exZ,240):=by
  obtain ⟨p,f⟩:=parse_s [113] (by decide)
  exact ⟨p,by rw [f,show parM [113]=.inr 240 by kernel_rfl]; rfl⟩
theorem aw_spell:q77_P awX∧q77_F awX=[50,100]:=by
  obtain ⟨p,f⟩:=spell_s awX (by decide)
  refine ⟨p,?_⟩
  rw [f,if_neg (by decide),show spS awX=[50,100] by kernel_rfl]
  unfold chk
  rw [aw_parM]
  kernel_rfl
abbrev awT:LI:=[97,10,98,10,99]
theorem aw_do:q100_F awT 0 ((),0) ((false,false,[]),(false,false,[]),(),()) [] awX=(([(2,[98,10],[])],2,(true,true,[98,10]),2,false),0):=by
  unfold q100_F
  rw [aw_spell.2]
  kernel_rfl
theorem aw_doP:q100_P awT 0 ((),0) ((false,false,[]),(false,false,[]),(),()) [] awX:=by
  unfold q100_P
  rw [aw_spell.2]
  refine ⟨?_,aw_spell.1,?_,?_,?_⟩
  · refine ⟨⟨by decide,by decide⟩,rfl⟩
  · exact rfl
  · rw [show IntKind.wrap .i64 ((q101_F awT 0).1+1)=1 by kernel_rfl,show q90_F awT=3 by kernel_rfl]
    have e:q32_P (awT,0,1,3,((),0),((false,false,[]),(false,false,[]),(),()),[],awX,0,0)=(q78_P awT 1 ((),0) [] (110,2,0,[],0,true)∧True):=by kernel_rfl
    rw [e]
    refine ⟨?_,trivial⟩
    rw [show q78_P awT 1 ((),0) [] (110,2,0,[],0,true)=(q90_P awT∧True) by kernel_rfl]
    exact ⟨rfl,trivial⟩
  · rw [show IntKind.wrap .i64 ((q101_F awT 0).1+1)=1 by kernel_rfl,show q90_F awT=3 by kernel_rfl]
    have e:q32_F (awT,0,1,3,((),0),((false,false,[]),(false,false,[]),(),()),[],awX,0,0)=(0,(awT,0,1,3,((),0),((false,false,[]),(false,false,[]),(),()),[],awX,2,2)):=by kernel_rfl
    rw [e]
    have e2:q66_P (awT,0,1,3,((),0),((false,false,[]),(false,false,[]),(),()),[],awX,2,2)=q103_P awT 0 [100] (2,4,true,false) 1:=by kernel_rfl
    show q66_P (awT,0,1,3,((),0),((false,false,[]),(false,false,[]),(),()),[],awX,2,2)
    rw [e2]
    refine ⟨rfl,fun _=>⟨?_,fun _=>?_⟩⟩
    · rw [show q81_P awT 0 (2,4,true,false)=(q101_P awT 2∧q81_J1_P awT 0 1 (2,4,true,false)) by kernel_rfl]
      refine ⟨⟨⟨by decide,by decide⟩,rfl⟩,?_⟩
      exact ⟨⟨⟨by decide,by decide⟩,rfl⟩,⟨⟨by decide,by decide⟩,rfl⟩,rfl,rfl,rfl,by decide⟩
    · rw [show (q81_F awT 0 (2,4,true,false)).1=1 by kernel_rfl,show (q81_F awT 0 (2,4,true,false)).2.1=1 by kernel_rfl]
      rw [show q49_P (awT,0,(2,4,true,false),1,1,1)=(q93_P awT 2 4 []∧(q65_P (awT,0,(2,4,true,false),1,1,1)∧(q99_P awT [(2,[98,10],[])]∧q90_P [97,10,99]))) by kernel_rfl]
      refine ⟨?_,?_,?_,rfl⟩
      · refine ⟨⟨by decide,by decide,by decide⟩,⟨by decide,by decide,by decide⟩,(by unfold q83_P; decide),(by unfold q83_P; decide)⟩
      · rw [show q65_P (awT,0,(2,4,true,false),1,1,1)=((0≤(2:Int)∧(2:Int)≤4∧(4:Int)≤(awT.length:Int))∧q94_J0_P [98,10] (2,4,true,false) (false,false,[])) by kernel_rfl]
        refine ⟨⟨by decide,by decide,by decide⟩,?_⟩
        refine ⟨(by unfold q15_P; decide),⟨by decide,by decide⟩,trivial⟩
      · exact show awT.length+newsL [(2,[98,10],[])]≤lim by decide
end Go.VE
namespace Go.VE
open Go Go.Proofs
def q53_G:List (Nat×App):=[(13,q75_S),(18,q100_S),(16,q77_S)]
theorem q53_Gok:GOk Tryz.prog (getG q53_G):=GOk.cons q75_ok (GOk.cons q100_ok (GOk.cons q77_ok (GOk.nil)))
def q53_raw  (K:Res→List Cell→Prop):Prop:=
 q75_P ([(50:Int),(100:Int)]:LI)∧(
 ∀ (r1:tEx×Int),r1=q75_F ([(50:Int),(100:Int)]:LI)→(
 wfR (.tup [.v tyX r1.1,.v yI r1.2])→(
 q100_P ([(97:Int),(10:Int),(98:Int),(10:Int),(99:Int)]:LI) (0:Int) ((),(0:Int)) ((false,false,([]:LI)),(false,false,([]:LI)),(),()) ([]:LI) r1.1∧(
 ∀ (r2:tEf×Int),r2=q100_F ([(97:Int),(10:Int),(98:Int),(10:Int),(99:Int)]:LI) (0:Int) ((),(0:Int)) ((false,false,([]:LI)),(false,false,([]:LI)),(),()) ([]:LI) r1.1→(
 wfR (.tup [.v tyE r2.1,.v yI r2.2])→(
 q75_P ([(113:Int)]:LI)∧(
 ∀ (r3:tEx×Int),r3=q75_F ([(113:Int)]:LI)→(
 wfR (.tup [.v tyX r3.1,.v yI r3.2])→(
 bif (decide (r1.2=(0:Int))) then
 bif (decide (r2.2=(0:Int))) then
 bif (decide (r3.2=(240:Int))) then
 bif (decide ((List.length r2.1.1:Int)=(1:Int))) then
 bif decide (0≤(0:Int)∧(0:Int)<(List.length r2.1.1:Int)) then
 bif (decide ((rd ((0:Int),([]:LI),([]:LI)) r2.1.1 (0:Int)).2.1=([98,10]:LI))) then
 bif (decide (r2.1.2.1=(2:Int))) then
 bif (decide (r2.1.2.2.2.1=(2:Int))) then
 q77_P r1.1∧(
 ∀ (r4:LI),r4=q77_F r1.1→(
 wfR (.one (.v yB r4))→(
 K (.one (.v .bool (decide (r4=([50,100]:LI))))) [])))
 else
 K (.one (.v .bool false)) []
 else
 K (.one (.v .bool false)) []
 else
 K (.one (.v .bool false)) []
 else False
 else
 K (.one (.v .bool false)) []
 else
 K (.one (.v .bool false)) []
 else
 K (.one (.v .bool false)) []
 else
 K (.one (.v .bool false)) [])))))))))
def q53_A:List AS:=[]
def q53_F:Bool:=true
theorem q53_sp (K:Res→List Cell→Prop) (_:wfA q53_A ()) (h:∀ r:Bool,r=q53_F→K (.one (.v .bool r)) []):q53_raw K:=by
  unfold q53_raw
  refine ⟨aw_parse.1,fun r1 h1 _=>?_⟩
  rw [aw_parse.2] at h1
  subst h1
  refine ⟨aw_doP,fun r2 h2 _=>?_⟩
  have h2:=h2.trans aw_do
  subst h2
  refine ⟨aw_q.1,fun r3 h3 _=>?_⟩
  rw [aw_q.2] at h3
  subst h3
  refine brn (fun _=>?_) (fun hh=>absurd rfl hh)
  refine brn (fun _=>?_) (fun hh=>absurd rfl hh)
  refine brn (fun _=>?_) (fun hh=>absurd rfl hh)
  refine brn (fun _=>?_) (fun hh=>absurd rfl hh)
  refine asrt ⟨by decide,by decide⟩ ?_
  refine brn (fun _=>?_) (fun hh=>absurd rfl hh)
  refine brn (fun _=>?_) (fun hh=>absurd rfl hh)
  refine brn (fun _=>?_) (fun hh=>absurd rfl hh)
  refine ⟨aw_spell.1,fun r4 h4 _=>?_⟩
  have h4:=h4.trans aw_spell.2
  subst h4
  exact h _ (by kernel_rfl)

def q53_C (v:valsA q53_A) (K:Res→List Cell→Prop):Prop:=∀ r:Bool,r=q53_F→K (.one (.v .bool r)) []
def q53_S:App:=specW q53_A q53_C
theorem q53_wv (K:Res→List Cell→Prop):∀ v:valsA q53_A,runF tb (getG q53_G) [] Tryz.f11 [true] (mkA q53_A v) K=q53_raw  K
  | ()=>by kernel_rfl
set_option maxRecDepth 20000 in
theorem q53_ok:AppOk Tryz.prog 11 q53_S:=
  AppOk.specW (spec_ok ((runF_ok tb_M tb_ok q53_Gok (LabsOk.nil) (f:=11) (fn:=Tryz.f11) (by kernel_rfl) (by kernel_rfl) (by kernel_rfl) [true])) fun v K hw h=>(q53_wv K v).mpr (q53_sp  K hw h))

def q9_G:List (Nat×App):=[(11,q53_S),(12,q47_S),(13,q75_S),(14,q57_S)]
theorem q9_Gok:GOk Tryz.prog (getG q9_G):=GOk.cons q53_ok (GOk.cons q47_ok (GOk.cons q75_ok (GOk.cons q57_ok (GOk.nil))))
def q9_raw (line0:LI) (K:Res→List Cell→Prop):Prop:=
 ∀ (r1:Bool),r1=q53_F→(
 wB r1→(
 bif (!r1) then
 K (.one (.v .bool false)) []
 else
 q47_P line0∧(
 ∀ (r2:tEx×Int),r2=q47_F line0→(
 wfR (.tup [.v tyX r2.1,.v yI r2.2])→(
 q75_P line0∧(
 ∀ (r3:tEx×Int),r3=q75_F line0→(
 wfR (.tup [.v tyX r3.1,.v yI r3.2])→(
 bif (decide (r3.2=r2.2)) then
 ∀ (r4:Bool),r4=q57_F r3.1 r2.1→(
 wB r4→(
 K (.one (.v .bool r4)) []))
 else
 K (.one (.v .bool false)) []))))))))
def q9_A:List AS:=[.v yB]
theorem q9_walk (line0:LI) (K:Res→List Cell→Prop):runF tb (getG q9_G) [] Tryz.f3 [true] (mkA q9_A (line0,())) K=q9_raw line0 K:=by kernel_rfl

def q9_R:App:=runF tb (getG q9_G) [] Tryz.f3 [true]
theorem q9_ok:AppOk Tryz.prog 3 q9_R:=runF_ok tb_M tb_ok q9_Gok (LabsOk.nil) (f:=3) (fn:=Tryz.f3) (by kernel_rfl) (by kernel_rfl) (by kernel_rfl) [true]
end Go.VE
namespace Go.VE
theorem bulk_bytes:∀ xs:List Int,bulk (.sl (.int .u8)) xs=xs.length+1:=by
  intro xs
  show (xs.map (bulk (.int .u8))).sum+1=_
  congr 1
  induction xs with
  | nil=>rfl
  | cons x xs ih=>rw [List.map_cons,List.sum_cons,ih,List.length_cons]; show 1+xs.length=_; omega
end Go.VE
namespace Go.VE
set_option maxRecDepth 100000 in
theorem parses_law (v:valsA q9_A) (hw:wfA q9_A v) (hb:bulkA q9_A v≤1048576):q9_R (mkA q9_A v) (fun r _=>r=.one (.v .bool true)):=by
  obtain ⟨s,⟨⟩⟩:=v
  refine (q9_walk s _).mpr ?_
  have hs:s.length≤lim:=by
    change bulk (.sl (.int .u8)) s+0≤1048576 at hb
    rw [bulk_bytes] at hb
    unfold lim; omega
  obtain ⟨p,f⟩:=parse_s s hs
  obtain ⟨rp,rf⟩:=refParse_s s hs
  unfold q9_raw
  intro r1 h1 _
  subst h1
  refine brb (fun h=>absurd h (by decide)) (fun _=>?_)
  refine ⟨rp,fun r2 h2 _=>⟨p,fun r3 h3 _=>?_⟩⟩
  rw [rf] at h2
  rw [f] at h3
  subst h2
  subst h3
  refine brn (fun _=>?_) (fun h=>absurd rfl h)
  intro r4 h4 _
  rw [(same_r _ _).2 rfl] at h4
  subst h4
  rfl
end Go.VE
