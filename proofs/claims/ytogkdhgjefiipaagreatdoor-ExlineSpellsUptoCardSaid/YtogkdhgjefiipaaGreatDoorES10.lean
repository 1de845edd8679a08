import Derived.Test.YtogkdhgjefiipaaGreatDoorES9
import Derived.OpenShut
import Derived.JoinedCond
set_option linter.unusedVariables false
set_option linter.unusedSectionVars false
set_option linter.unusedSimpArgs false
namespace Go.VE
variable [D1]
open Go Go.RowKit Go.ChangeShapes
def a5Q:(l:List AS)→j3 l→Nat
 | [],_=>0
 | .v t::r,v=>bulk t v.1+a5Q r v.2
 | .r _ t::r,v=>bulk t v.1+a5Q r v.2
 | .o _ e::r,v=>bulk (.sl e) v.1+a5Q r v.2
 | .f _::r,v=>a5Q r v.2
def d2e (tb:Tab):List AS→List TypeId→Bool
 | [],[]=>true
 | .v t::l,i::r=>match tb.get i with
  | some ti=>match ti.ty.beq t with | true=>d2e tb l r | false=>false
  | none=>false
 | _,_=>false
def d1x (P:Program) (ts:List TypeId):Bool:=ts.all fun t=>P.readableRec t && decide (t<P.types.size)
theorem b1K {P:Program} {tb:Tab} (hT:q9 P tb) (hna:a9D tb=true) {H:Type} {enc:TypeId×Value→H} {W:World} {U:DataW H→Nat} {UA:List (DataW H)→Nat} (hU:a5v U UA) {base:Nat} :
  ∀ (l:List AS) (ts:List TypeId) (vs:List Value) (ds:List (DataW H)) (ps:List MemPlace),d2e tb l ts=true→
   (∀ (j:Nat) t v,ts[j]?=some t→vs[j]?=some v→Value.okWide P W .any base t v)→DataW.TrodAll enc P W 0 (fun _=>true) true ts vs ds ps→
   ∃ x:j3 l,o6 (Old W) W (mkA l x) vs []∧a5Q l x≤UA ds
 | [],[],vs,ds,ps,_,_,h=>by
  obtain ⟨rfl,rfl,rfl⟩:=trodAll_nil h
  exact ⟨(),trivial,Nat.zero_le _⟩
 | [],_::_,_,_,_,h,_,_=>by cases h
 | .v _::_,[],_,_,_,h,_,_=>by cases h
 | .r _ _::_,[],_,_,_,h,_,_=>by cases h
 | .r _ _::_,_::_,_,_,_,h,_,_=>by cases h
 | .v t::l,i::r,vs,ds,ps,hp,hok,h=>by
  obtain ⟨v,vs,d,ds,a,b,rfl,rfl,rfl,h1,h2⟩:=trodAll_cons h
  simp only [d2e] at hp
  split at hp
  ·rename_i ti hti
   split at hp
   ·rename_i he
    have he:=Ty.beq_eq he
    obtain ⟨x,hx,hb⟩:=c3Q hT hna hU hti (hok 0 i v rfl rfl) h1
    obtain ⟨y,hy,hb2⟩:=b1K hT hna hU l r vs ds b hp (fun j t v h3 h4=>hok (j+1) t v (by simpa using h3) (by simpa using h4)) h2
    subst he
    have:=hU.cons d ds
    exact ⟨(x,y),⟨hx,hy⟩,by simp only [a5Q]; omega⟩
   ·cases hp
  ·cases hp
theorem a7B {P:Program} (hl:laidOutB P=true) {H:Type} {enc:TypeId×Value→H} {W W':World} (hb:Below W.heap.size W W') {sp:Nat→Bool} :
  ∀ (ts:List TypeId) (vs:List Value) (ds:List (DataW H)) (ps:List MemPlace),d1x P ts=true→DataW.TrodAll enc P W 0 (fun _=>true) true ts vs ds ps→
   (∀ p∈ps,p.block<W.heap.size)→(∀ p∈ps,sp p.block=true)→DataW.TrodAll enc P W' 0 sp true ts vs ds ps
 | [],vs,ds,ps,_,h,_,_=>by
  obtain ⟨rfl,rfl,rfl⟩:=trodAll_nil h
  exact rfl
 | t::ts,vs,ds,ps,hr,h,hlt,hs=>by
  obtain ⟨v,vs,d,ds,a,b,rfl,rfl,rfl,h1,h2⟩:=trodAll_cons h
  simp only [d1x,List.all_cons,Bool.and_eq_true,decide_eq_true_eq] at hr
  exact ⟨a,b,WideElems.Trod_stays hl hr.1.1 hr.1.2 h1 (fun x hx=>hb.same (hlt x (List.mem_append_left _ hx))) (fun x hx=>hs x (List.mem_append_left _ hx)),
   a7B hl hb ts vs ds b hr.2 h2 (fun x hx=>hlt x (List.mem_append_right _ hx)) (fun x hx=>hs x (List.mem_append_right _ hx)),rfl⟩
theorem L5.below {w w':World} (h:L5 w w' (fun b=>b∈([]:List Nat))):Below w.heap.size w w':=⟨h.os,h.tape,h.output,h.size,fun k hk=>h.block k hk (by simp)⟩
theorem b26 {P:Program} {tb:Tab} (hT:q9 P tb) {f:FuncId} {fn:Func} (hf:P.funcs[f]?=some fn) (he:a4u fn=true) {l:List AS} {A:App} (hA:g8 P f A)
  (hpar:d2e tb l fn.params.toList=true) (hrows:d1x P fn.params.toList=true) (hlay:laidOutB P=true) {rt:TypeId} (hrt:fn.resultTypes=#[rt]) (hrb:P.underlying rt=some .bool)
  {H:Type} {enc:TypeId×Value→H} {U:DataW H→Nat} {UA:List (DataW H)→Nat} (hU:a5v U UA) {s:ChangeSpec} (hv:s.vars=[]) {N:Nat}
  (hs:∀ ds:List (DataW H),ds.length=fn.params.toList.length→s.fn H ds={ results:=[.lit (.bool true)],args:=ds })
  (hna:a9D tb=true:=by rfl) (hlaw:∀ v:j3 l,wfA l v→a5Q l v≤N→A (mkA l v) fun r _=>r=.one (.v .bool true))
  {W:World} (hgl:D1.ok (Old W) W) {base:Nat} {args:Array Value} {ds gs:List (DataW H)} {before:List MemPlace}
  (hval:∀ (j:Nat) t v,fn.params[j]?=some t→args[j]?=some v→Value.okWide P W .any base t v)
  (hW:DataW.Whole enc P fn.params.toList s.vars false W args.toList ds gs before) (hk:UA (ds++gs)≤N) :
  Calls P f args W fun e W'=>∃ v,e=.returned v∧s.post enc P fn false true false false W args v W':=by
 have hW0:=hW
 obtain ⟨p,q,hA0,hV,rfl,hfz,hnd⟩:=hW
 rw [hv] at hV
 obtain ⟨rfl,rfl⟩:=trodVars_none hV
 rw [List.append_nil] at hk
 obtain ⟨x,hx,hb⟩:=b1K hT hna hU l fn.params.toList args.toList ds p hpar (fun j t v h1 h2=>hval j t v (by simpa using h1) (by simpa using h2)) hA0
 have hen:=enters_of hf he
 have hlen:ds.length=fn.params.toList.length:=by
  have:∀ (ts:List TypeId) (vs:List Value) (ds:List (DataW H)) (ps:List MemPlace),DataW.TrodAll enc P W 0 (fun _=>true) true ts vs ds ps→ds.length=ts.length:=by
   intro ts
   induction ts with
   | nil=>intro vs ds ps h; obtain ⟨rfl,rfl,rfl⟩:=trodAll_nil h; rfl
   | cons t ts ih=>intro vs ds ps h; obtain ⟨v,vs,d,ds,a,b,rfl,rfl,rfl,h1,h2⟩:=trodAll_cons h; simp [ih _ _ _ h2]
  exact this _ _ _ _ hA0
 have hwf:wfA l x:=o6.wf l x hx
 rcases hA _ _ (hlaw x hwf (Nat.le_trans hb hk)) with ⟨_,hc⟩ | hx2
 ·refine (hc (Old W) W args.toList [] (fun b h=>h) hgl hx).mono fun e W' hE=>?_
  obtain ⟨v,he,hB⟩ | ⟨n,_,hB,_⟩:=hE
  case inr=>cases hB
  obtain ⟨res,outs,J,fb,hres,hsi,_,_,hr,_⟩:=hB
  subst he; subst hres
  obtain ⟨b,_,hr⟩:=hr
  have hvb:=l0.bool_eq hr.2
  subst hvb
  have hbl:=hsi.below
  have hlt:∀ y∈p,y.block<W.heap.size:=fun y hy=>hW0.lt y (by simp [hy])
  refine ⟨_,rfl,ds,[],p++[],[],p,[],hW0,?_,?_,?_,hbl.frame _,fun h=>by cases h⟩
  ·rw [List.append_nil,hs ds hlen,hrt]
   exact trodAll_cons_mk (shut_bool hrb _) trodAll_mk0
  ·rw [List.append_nil,hs ds hlen]
   exact a7B hlay hbl _ _ _ _ hrows hA0 hlt (fun y hy=>by simpa using hlt y hy)
  ·rw [List.append_nil,hs ds hlen,hv]; exact rfl
 ·exfalso
  obtain ⟨v,w',h1,_⟩:=hx2 (Old W) W args.toList [] (fun b h=>h) hgl hx
  have h2:=hen args W
  simp only [Array.toArray_toList] at h1
  rw [h2] at h1
  cases h1
end Go.VE
