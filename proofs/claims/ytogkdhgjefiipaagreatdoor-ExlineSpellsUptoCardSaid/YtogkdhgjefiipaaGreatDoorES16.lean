import Derived.Test.YtogkdhgjefiipaaGreatDoorES15
import Derived.WalkKit
import Derived.Lib.Walk
import Derived.Lib.SliceRun
import Derived.Lib.JoinLaws
import Derived.Lib.AppendZeros
import Derived.Lib.AppendZerosOnto
import Derived.Laws.Externs
import Derived.Laws.IdiomCopy
set_option linter.unusedVariables false
set_option linter.unusedSectionVars false
set_option linter.unusedSimpArgs false
namespace Go.VE
open Go Go.RowKit Go.Lib
section
variable {P:Program}
def lay (cur:Array Value) (o:Nat) (vs:List Value):Array Value:=(cur.toList.take o++vs++cur.toList.drop (o+vs.length)).toArray
theorem B5 {cur:Array Value} {o:Nat} {vs:List Value} (h:o+vs.length≤cur.size):(lay cur o vs).size=cur.size:=by
 simp only [lay,List.size_toArray,List.length_append,List.length_take,List.length_drop,Array.length_toList]; omega
def bv (xs:LI):List Value:=xs.map (Value.int .u8)
theorem l7 (xs:LI):(bv xs).length=xs.length:=List.length_map _
theorem a5z (xs:LI):∀ v∈bv xs,v.oneCell'=true:=fun v hv=>by
 obtain ⟨x,_,rfl⟩:=List.mem_map.1 hv; rfl
def a8j (P:Program) (w:World) (v:Value) (xs:List Value):Prop:=∀ n d,n≤xs.length→(Builtin.firstCells 1 n v).run P { w with drawn:=d }=.ok (xs.take n).toArray { w with drawn:=d }
theorem b7v {w:World} {b o len cap:Nat} {xs:List Value} (h:∀ j v,xs[j]?=some v→w.cell? ⟨b,o+j,none⟩=some v):a8j P w (.slice (some ⟨b,o,none⟩) len cap) xs:=fun n d hn=>
 run_firstCells_some (P:=P) { w with drawn:=d } 1 n ⟨b,o,none⟩ len cap (xs.take n) (by rw [List.length_take]; omega) (fun j v hj=>by
  rw [C3]
  rw [List.getElem?_take] at hj
  split at hj
  ·exact h j v hj
  ·cases hj)
theorem c3E {w:World} {v:Value} {A:Option Addr} {l c:Nat} (hv:v=.slice A l c):a8j P w v []:=fun n d hn=>by
 have:n=0:=by simpa using hn
 subst this; subst hv
 cases A <;> simp [Builtin.firstCells,loadCells,loadCellsFrom]
theorem M4 (w:World) (dT sT:TypeId) (ty:TypeId) (el:TypeId) (hu:P.underlying dT=some (.slice el)) (hs:(P.info? el).map (·.size)=some 1) (b o n c:Nat) (cur:Array Value) (fr:Nat×Nat) (hh:w.heap[b]?=some (.cells cur el fr)) (hfr:fr.1=fr.2)
  (src:Option Addr) (sLen sCap:Nat) (xs:List Value) (hx:a8j P w (.slice src sLen sCap) xs) (hxl:Nat.min sLen n≤xs.length) (h1:∀ v∈xs,v.oneCell'=true) (hfit:o+Nat.min sLen n≤cur.size) :
  (Builtin.copy_ #[dT,sT] ty #[.slice (some ⟨b,o,none⟩) n c,.slice src sLen sCap]).run P w=.ok (goInt (Nat.min sLen n)) (w.setRow b (lay cur o (xs.take (Nat.min sLen n)))):=by
 have hl:=hx (Nat.min sLen n) w.drawn hxl
 have htl:(xs.take (Nat.min sLen n)).length=Nat.min sLen n:=by rw [List.length_take]; omega
 have hst:=B9 (P:=P) b o el fr (xs.take (Nat.min sLen n)) 0 cur w hh (by rw [htl]; omega) (fun v hv=>h1 v (List.mem_of_mem_take hv)) (.inl hfr)
 rw [Nat.add_zero] at hst
 replace hst:(storeCells ⟨b,o,none⟩ (xs.take (Nat.min sLen n)) 0).run P w=.ok () (w.setRow b (lay cur o (xs.take (Nat.min sLen n)))):=hst
 cases hq:P.info? el with
 | none=>simp [hq] at hs
 | some i=>
  have hi:i.size=1:=by simpa [hq] using hs
  simp only [Builtin.copy_]
  simp [run_underlying hu,Builtin.lenOf,sizeOf,typeInfo,hq,hi,hl,hst]
theorem b1M (w:World) (dT ty el:TypeId) (hu:P.underlying dT=some (.slice el)) (hz:∀ w,(zeroValue el).run P w=.ok (.int .u8 0) w) (b o n c:Nat) (cur:Array Value) (fr:Nat×Nat) (hh:w.heap[b]?=some (.cells cur el fr)) (hfr:fr.1=fr.2) (hfit:o+n≤cur.size) :
  (Builtin.clear_ #[dT] ty #[.slice (some ⟨b,o,none⟩) n c]).run P w=.ok (.tuple #[]) (w.setRow b (lay cur o (List.replicate n (.int .u8 0)))):=by
 have hst:=B9 (P:=P) b o el fr (List.replicate n (.int .u8 0)) 0 cur w hh (by rw [List.length_replicate]; omega) (fun v hv=>by rw [(List.mem_replicate.1 hv).2]; rfl) (.inl hfr)
 rw [Nat.add_zero] at hst
 replace hst:(storeCells ⟨b,o,none⟩ (List.replicate n (.int .u8 0)) 0).run P w=.ok () (w.setRow b (lay cur o (List.replicate n (.int .u8 0)))):=hst
 have hzc:(Builtin.zeroCells #[Value.int .u8 0] n).toList=List.replicate n (.int .u8 0):=by
  refine List.ext_getElem? fun i=>?_
  by_cases hi:i<n
  ·simp [Builtin.zeroCells,hi,List.getElem?_replicate,Nat.mod_one]
  ·simp [Builtin.zeroCells,hi,List.getElem?_replicate]
 cases n with
 | zero=>
  have:=setRow_self w b cur el fr hh
  simp [Builtin.clear_,run_underlying hu,lay,this]
 | succ n=>
  simp [Builtin.clear_,run_underlying hu,hz,Value.cells,hzc,hst]
theorem a54 (w:World) (tS tR e:TypeId) (ht:P.underlying tS=some (.slice e)) (size:Nat) (hz:∀ w,(sizeOf e).run P w=.ok size w)
  (a b:Addr) (la ca lb cb:Nat) (hne:a.block≠b.block) (tA tB:TypeId) (kA kB:Nat) (hsa:w.shape? a.block=some (tA,kA)) (hsb:w.shape? b.block=some (tB,kB))
  (hA:kA≠0) (hB:kB≠0) (hc:(∀ o,w.frozen? ⟨b.block,o,none⟩=false∧w.frozen? b=false)∨(∀ o,w.frozen? ⟨a.block,o,none⟩=false∧w.frozen? a=false)) :
  (Extern.SlicesOverlaps.overlaps #[tS,tS] #[tR] #[.slice (some a) la ca,.slice (some b) lb cb]).run P w=.ok (.bool false) w:=by
 have hnb:(a.block != b.block)=true:=by simpa using hne
 have hnb':(a.block == b.block)=false:=by simpa using hne
 change Sem.run P (α:=Value) (do
  let some t := (#[tS, tS] : Array TypeId)[0]? | stuck "slices.overlaps: no parameter types"
  let .slice elem ← underlying t | stuck "slices.overlaps: slice type expected"
  let size ← sizeOf elem
  match (some a:Option Addr),(some b:Option Addr) with
  | some a,some b=>
   if la=0∨lb=0∨size=0 then pure (Value.bool false)
   else if a.block != b.block && (← frozen a) && (← frozen b) then unsupported .addressObserved
   else do
    if a.block != b.block then do
     noView a; noView b
     if ← mayBeOne a b then return Value.bool ((← choose (.extern "sameAddr.stringBytes" 2)) == 1)
    pure (Value.bool (a.block == b.block && a.off<b.off+lb * size && b.off<a.off+la * size))
  | _,_=>pure (Value.bool false)) w=_
 by_cases h0:la=0∨lb=0∨size=0
 ·simp [run_underlying ht,hz,h0]
 ·obtain ⟨kA,rfl⟩:=Nat.exists_eq_succ_of_ne_zero hA
  obtain ⟨kB,rfl⟩:=Nat.exists_eq_succ_of_ne_zero hB
  rcases hc with hf | hf
  ·have h1:=(hf (kB+1)).1
   have h2:=(hf 0).2
   cases h3:w.frozen? a <;> cases h4:w.frozen? ⟨a.block,kA+1,none⟩ <;>
    simp [run_underlying ht,hz,h0,hnb,hnb',frozen,noView,viewAt,mayBeOne,stringish,shape,Sem.run,hsa,hsb,h1,h2,h3,h4]
  ·have h1:=(hf (kA+1)).1
   have h2:=(hf 0).2
   cases h3:w.frozen? b <;> cases h4:w.frozen? ⟨b.block,kB+1,none⟩ <;>
    simp [run_underlying ht,hz,h0,hnb,hnb',frozen,noView,viewAt,mayBeOne,stringish,shape,Sem.run,hsa,hsb,h1,h2,h3,h4]
end
end Go.VE
