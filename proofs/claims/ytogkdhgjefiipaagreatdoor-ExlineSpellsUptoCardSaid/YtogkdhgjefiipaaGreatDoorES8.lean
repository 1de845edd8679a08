import Derived.Test.YtogkdhgjefiipaaGreatDoorES7
import Derived.Lib.MakeNoZero
set_option linter.unusedVariables false
set_option linter.unusedSectionVars false
set_option linter.unusedSimpArgs false
namespace Go.VE
variable [D1]
open Go Go.RowKit Go.Lib
theorem a9q:∀ (n t:Nat) (acc:Array Value) (j:Nat) (v:Value),(∀ v∈acc.toList,∃ d:Int,v=.int .u8 d∧inR .u8 d)→(Extern.BytealgMakeNoZero.digits n t acc)[j]?=some v→∃ d:Int,v=.int .u8 d∧inR .u8 d
 | 0,_,acc,j,v,h,hj=>h v (by rw [← Array.getElem?_toList] at hj; exact List.mem_of_getElem? hj)
 | n+1,t,acc,j,v,h,hj=>by
  refine a9q n (t / 256) _ j v (fun v hv=>?_) hj
  rw [Array.toList_push,List.mem_append] at hv
  rcases hv with hv | hv
  ·exact h v hv
  ·rw [List.mem_singleton] at hv
   refine ⟨_,hv,?_⟩
   have:=Nat.mod_lt t (show 0<256 by omega)
   constructor <;> simp only [a0X,a0G,Int.ofNat_eq_natCast] <;> omega
def d1w (n:Int):Prop:=0≤n∧n≤(lim:Int)
def b9q (n:Int) (r:List Int):Prop:=r.length=n.toNat
theorem c4f {P : Program} {tb : Tab} (hT : q9 P tb) {f : FuncId} {fn : Func} {t : TypeId} {ti : TI} (ht : tb.get t = some ti) (hti : ti.ty = .sl (.int .u8)) (hf : P.funcs[f]? = some fn) (hname : (fn.name == "runtime.NumGoroutine") = false)
  (hb:fn.body.isNone=true) (hn:Extern.findNext fn=none) {ps:Array TypeId} (he:Extern.find fn=some (Extern.BytealgMakeNoZero.makeNoZero ps #[t])) {et:Nat} (het:ti.el=et) :
  g8 P f (specW [.v (.int .i64)] fun v K=>d1w v.1∧∀ r:List Int,b9q v.1 r→K (.one (.fr et (.int .u8) r)) []):=by
 refine g8.specW fun ags K hs=>?_
 obtain ⟨v,rfl,hp,hk⟩:=G5 _ ags _ hs
 refine .inr fun I w vs bs hI _ ha=>?_
 obtain ⟨n,⟨⟩⟩:=v
 match vs,bs,ha with
 | [x],[],ha=>
  obtain ⟨hx,_⟩:=ha
  obtain ⟨hc,rfl⟩:=l0.int_eq hx
  obtain ⟨h0,h1⟩:0≤n∧n≤(lim:Int):=hp
  obtain ⟨m,rfl⟩:=Int.eq_ofNat_of_zero_le h0
  have hm:m≤lim:=Int.ofNat_le.1 h1
  have hm2:m≤281474976710656:=by unfold lim at hm; omega
  obtain ⟨hu,_⟩:=(hT t ti ht).sl _ hti
  rw [het] at hu
  have hel0:eR et=et:=by rw [← het]; exact (hT t ti ht).el
  generalize hcs : Extern.BytealgMakeNoZero.digits (grownCap w m 0 et) ((Question.extern "internal/bytealg.MakeNoZero.bytes" 0).cut (w.tape (w.drawn + 1) (.extern "internal/bytealg.MakeNoZero.bytes" 0))) #[] = cs
  have hrun:(Extern.BytealgMakeNoZero.makeNoZero ps #[t] #[.int .i64 m]).run P w=.ok (.slice (some ⟨w.heap.size,0,none⟩) m cs.size) (w.drew.drew.alloc (.cells cs et)):=by
   have hdef:Extern.BytealgMakeNoZero.makeNoZero ps #[t] #[.int .i64 m] =
     (do
      let .slice elem ← underlying t | stuck "bytealg.MakeNoZero: slice type expected"
      if (m : Int) < 0 || (m : Int) > 2 ^ 48 then runtimePanic (.error "makeslice: len out of range")
      let cap ← choose (.appendCap (m:Int).toNat 0 elem)
      askRoom cap
      let bytes ← choose (.extern "internal/bytealg.MakeNoZero.bytes" 0)
      let a ← newRow elem (Extern.BytealgMakeNoZero.digits cap bytes #[])
      pure (.slice (some a) (m:Int).toNat cap)):=rfl
   have e1:¬ (m:Int)<0:=by omega
   have e2:¬ (281474976710656:Int)<(m:Int):=by omega
   rw [hdef,← hcs]
   simp [run_underlying hu,e1,e2,Question.forced,newRow,size_digits,grownCap]
  have hsz:cs.size=grownCap w m 0 et:=by rw [← hcs,size_digits]; simp
  have hge:m≤cs.size:=by rw [hsz]; simpa using grownCap_ge w m 0 et
  have hle:cs.size≤maxLen:=by rw [hsz]; exact grownCap_le_maxLen w m 0 et (by unfold lim at hm; unfold maxLen; omega)
  have hget:∀ j,j<cs.size→∃ d:Int,cs[j]?=some (.int .u8 d)∧inR .u8 d:=by
   intro j hj
   obtain ⟨d,hd,hr⟩:=a9q _ _ #[] j cs[j] (fun v hv=>by simp at hv) (by rw [hcs]; exact Array.getElem?_eq_getElem hj)
   exact ⟨d,by rw [Array.getElem?_eq_getElem hj,hd],hr⟩
  let val:Nat→Int:=fun j=>match cs[j]? with | some (.int _ d)=>d | _=>0
  have hval:∀ j,j<cs.size→cs[j]?=some (.int .u8 (val j))∧inR .u8 (val j):=by
   intro j hj
   obtain ⟨d,hd,hr⟩:=hget j hj
   have:val j=d:=by simp only [val,hd]
   rw [this]; exact ⟨hd,hr⟩
  refine ⟨_,_,by rw [run_callFunc_extern hf hname hb hn he,hrun]; rfl,?_⟩
  have hnew:(w.drew.drew.alloc (.cells cs et)).heap[w.heap.size]?=some (.cells cs et (0,0)):=heap_alloc_new w.drew.drew _
  refine ⟨.one (.fr et (.int .u8) ((List.range m).map val)),[],fun _=>False,[some w.heap.size],hk _ (by simp [b9q]),⟨rfl,rfl,rfl,by show _≤(w.heap.push _).size; simp,fun k hk _=>heap_alloc_old w.drew.drew _ k hk,a9c fun k hk=>heap_alloc_old w.drew.drew _ k hk⟩,fun b h=>h.elim,fun i b h=>?_,⟨_,rfl,cs.size,cs,(0,0),by simp,by simpa using hge,hle,by { rw [hel0]; exact hnew },.inl rfl,by simp [Ty.cells],fun i hi=>?_⟩,trivial⟩
  ·cases i with
   | zero=>
    simp at h; subst h
    refine ⟨.inl (Nat.le_refl _),by show _<(w.heap.push _).size; simp,fun h=>h,fun j hj=>?_⟩
    cases j with
    | zero=>rfl
    | succ j=>simp at hj
   | succ i=>simp at h
  ·have him:i<m:=by simpa using hi
   obtain ⟨h1,h2⟩:=hval i (by omega)
   refine ⟨[.int .u8 (val i)],⟨by simpa using h2,by simp⟩,fun j u hu=>?_⟩
   have hj0:j=0:=by
    rcases Nat.lt_or_ge j 1 with h | h
    ·omega
    ·rw [List.getElem?_eq_none (by simpa using h)] at hu; cases hu
   subst hj0
   rw [← hu]
   simpa [Ty.cells] using h1
end Go.VE
