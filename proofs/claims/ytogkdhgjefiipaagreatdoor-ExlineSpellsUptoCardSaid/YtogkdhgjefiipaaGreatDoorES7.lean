import Derived.Test.YtogkdhgjefiipaaGreatDoorES6
import Derived.Lib.BytesEntry
set_option linter.unusedVariables false
set_option linter.unusedSectionVars false
set_option linter.unusedSimpArgs false
namespace Go.VE
variable [D1]
open Go Go.RowKit Go.Lib
theorem b1h {P:Program} {I:Nat→Prop} {w:World} {xs:List Int} {v:Value} (h:l0 I w (.sl (.int .u8)) xs v):(Extern.Bytes.bytesOf v).run P w=.ok ⟨(Lib.bytesOf xs).toArray⟩ w:=by
 obtain ⟨A,cap,rfl,hl,hm2,hr⟩:=l0.sl_eq h
 cases A with
 | none=>
  have hx:xs=[]:=by
   cases xs with
   | nil=>rfl
   | cons n ns=>obtain ⟨b,o,hA,_⟩:=hr 0 (by simp); cases hA
  subst hx
  rfl
 | some a=>
  have hload:=run_loadBytesX (P:=P) w xs a .empty (fun j x hj=>by
   have hjl:j<xs.length:=(List.getElem?_eq_some_iff.1 hj).1
   obtain ⟨b,o,hA,_,cs,hc,_,hq⟩:=hr j hjl
   injection hA with hA; subst hA
   have hx:xs[j]=x:=by have:=(List.getElem?_eq_some_iff.1 hj).2; exact this
   obtain ⟨_,rfl⟩:=hc
   have:=hq 0 _ rfl
   rw [C3]
   rw [hx] at this
   simpa [Ty.cells] using this)
  have he:(⟨ByteArray.empty.data++(Lib.bytesOf xs).toArray⟩:ByteArray)=⟨(Lib.bytesOf xs).toArray⟩:=by
   apply ByteArray.ext
   show (#[]:Array UInt8)++(Lib.bytesOf xs).toArray=(Lib.bytesOf xs).toArray
   simp
  rw [he] at hload
  exact hload
def a2X (xs:List Int) (c:Int):Int:=if c∈xs then (xs.idxOf c:Int) else -1
theorem a8O {a b:Int} (ha:0≤a∧a≤255) (hb:0≤b∧b≤255):(UInt8.ofNat a.toNat=b.toNat.toUInt8)↔a=b:=by
 constructor
 ·intro h
  have h2:=congrArg UInt8.toNat h
  simp only [Nat.toUInt8,UInt8.toNat_ofNat'] at h2
  try omega
 ·intro h; rw [h]
theorem a2Y {c:Int} (hc:0≤c∧c≤255):∀ {xs:List Int},(∀ x∈xs,0≤x∧x≤255)→indexByte (Lib.bytesOf xs) c.toNat.toUInt8=a2X xs c
 | [],_=>by simp [Lib.bytesOf,indexByte,a2X]
 | x::xs,h=>by
  have hx:=h x List.mem_cons_self
  have ih:=a2Y hc (fun y hy=>h y (List.mem_cons_of_mem _ hy))
  have e:Lib.bytesOf (x::xs)=UInt8.ofNat x.toNat::Lib.bytesOf xs:=rfl
  rw [e]
  simp only [indexByte,ih]
  by_cases hxc:x=c
  ·subst hxc
   have hb:(UInt8.ofNat x.toNat == x.toNat.toUInt8)=true:=by rw [(a8O hx hx).2 rfl]; exact beq_self_eq_true _
   rw [if_pos hb]
   unfold a2X
   rw [if_pos List.mem_cons_self]
   simp
  ·have:¬ UInt8.ofNat x.toNat=c.toNat.toUInt8:=fun h=>hxc ((a8O hx hc).1 h)
   have hcx:¬ c=x:=fun h=>hxc h.symm
   unfold a2X
   by_cases hm:c∈xs
   ·have h0:¬ ((xs.idxOf c:Int) = -1):=by omega
    have hb:(x == c)=false:=by simpa using hxc
    simp [this,hm,h0,hcx,List.idxOf_cons,hb]
   ·simp [this,hm,hcx]
theorem a2E {c:Int} (hc:0≤c∧c≤255):∀ {xs:List Int},(∀ x∈xs,0≤x∧x≤255)→countByte (Lib.bytesOf xs) c.toNat.toUInt8=xs.count c
 | [],_=>rfl
 | x::xs,h=>by
  have hx:=h x List.mem_cons_self
  have ih:=a2E hc (fun y hy=>h y (List.mem_cons_of_mem _ hy))
  have e:Lib.bytesOf (x::xs)=UInt8.ofNat x.toNat::Lib.bytesOf xs:=rfl
  rw [e]
  unfold countByte at ih ⊢
  rw [List.count_cons,List.count_cons,ih]
  by_cases hxc:x=c
  ·have:=(a8O hx hc).2 hxc
   simp [hxc]
  ·have:¬ UInt8.ofNat x.toNat=c.toNat.toUInt8:=fun h=>hxc ((a8O hx hc).1 h)
   simp [this,hxc]
abbrev BS:Ty:=.sl (.int .u8)
def Z3:List AS:=[.v (.sl (.int .u8)),.v (.int .u8)]
theorem b1O {P : Program} {f : FuncId} {fn : Func} {e : Array Value → Sem Value} (hf : P.funcs[f]? = some fn) (hname : (fn.name == "runtime.NumGoroutine") = false)
  (hb:fn.body.isNone=true) (hn:Extern.findNext fn=none) (he:Extern.find fn=some e) (F:List Int→Int→Int)
  (hF:∀ (I:Nat→Prop) (w:World) (xs:List Int) (c:Int) (v:Value),l0 I w (.sl (.int .u8)) xs v→inR .u8 c→(e #[v,.int .u8 c]).run P w=.ok (.int .i64 (F xs c)) w∧inR .i64 (F xs c)) :
  g8 P f (specW Z3 fun v K=>∀ r:Int,r=F v.1 v.2.1→K (.one (.v (.int .i64) r)) []):=by
 refine g8.specW fun ags K hs=>?_
 obtain ⟨v,rfl,hk⟩:=G5 _ ags _ hs
 refine .inr fun I w vs bs hI _ ha=>?_
 obtain ⟨xs,c,⟨⟩⟩:=v
 match vs,bs,ha with
 | [x,y],[],ha=>
  obtain ⟨hx,hy,_⟩:=ha
  obtain ⟨hc,rfl⟩:=l0.int_eq hy
  obtain ⟨h1,h2⟩:=hF I w xs c x hx hc
  refine ⟨.int .i64 (F xs c),w,?_,?_⟩
  ·rw [run_callFunc_extern hf hname hb hn he,h1]; rfl
  ·exact ⟨.one (.v (.int .i64) (F xs c)),[],fun _=>False,[none],hk _ rfl,L5.refl _ _,fun b h=>h.elim,fun i b h=>by
    cases i with
    | zero=>simp at h
    | succ i=>simp at h,⟨none,rfl,rfl,l0.int_mk h2⟩,trivial⟩
theorem b1y {P : Program} {f : FuncId} {fn : Func} (hf : P.funcs[f]? = some fn) (hname : (fn.name == "runtime.NumGoroutine") = false)
  (hb:fn.body.isNone=true) (hn:Extern.findNext fn=none) (he:Extern.find fn=some Extern.BytealgIndexByte.indexByte) :
  g8 P f (specW Z3 fun v K=>∀ r:Int,r=a2X v.1 v.2.1→K (.one (.v (.int .i64) r)) []):=by
 refine b1O hf hname hb hn he a2X fun I w xs c v hv hc=>?_
 have hw:=l0.wf hv
 have hl:=b1h (P:=P) hv
 have hs:=run_indexByteString (P:=P) ⟨(Lib.bytesOf xs).toArray⟩ c w
 constructor
 ·rw [← a2Y hc hw.2]
  change Sem.run P (do
   let b ← Extern.Bytes.bytesOf v
   let c ← Extern.Bytes.asByte (.int .u8 c)
   match (List.range b.size).find? fun i=>b[i]! == c with
   | some i=>pure (goInt i)
   | none=>pure (goInt (-1))) w=_
  change Sem.run P (do
   let b ← Extern.Bytes.bytesOf (.string ⟨(Lib.bytesOf xs).toArray⟩)
   let c ← Extern.Bytes.asByte (.int .u8 c)
   match (List.range b.size).find? fun i=>b[i]! == c with
   | some i=>pure (goInt i)
   | none=>pure (goInt (-1))) w=_ at hs
  rw [Sem.run_bind,hl]
  rw [Sem.run_bind] at hs
  simpa [Extern.Bytes.bytesOf] using hs
 ·unfold a2X
  have:=hw.1
  have h2:=List.idxOf_le_length (a:=c) (l:=xs)
  split <;> constructor <;> simp only [a0X,a0G] <;> omega
theorem c3a {P : Program} {f : FuncId} {fn : Func} (hf : P.funcs[f]? = some fn) (hname : (fn.name == "runtime.NumGoroutine") = false)
  (hb:fn.body.isNone=true) (hn:Extern.findNext fn=none) (he:Extern.find fn=some Extern.BytealgCount.count) :
  g8 P f (specW Z3 fun v K=>∀ r:Int,r=(List.count v.2.1 (v.1:List Int):Int)→K (.one (.v (.int .i64) r)) []):=by
 refine b1O hf hname hb hn he (fun xs c=>(xs.count c:Int)) fun I w xs c v hv hc=>?_
 have hw:=l0.wf hv
 have hl:=b1h (P:=P) hv
 have hs:=run_countString (P:=P) ⟨(Lib.bytesOf xs).toArray⟩ c w
 constructor
 ·rw [← a2E hc hw.2]
  change Sem.run P (do
   let b ← Extern.Bytes.bytesOf v
   let c' ← Extern.Bytes.asByte (.int .u8 c)
   pure (goInt (b.foldl (fun n x=>if x == c' then n+1 else n) (0:Nat)))) w=_
  change Sem.run P (do
   let b ← Extern.Bytes.bytesOf (.string ⟨(Lib.bytesOf xs).toArray⟩)
   let c' ← Extern.Bytes.asByte (.int .u8 c)
   pure (goInt (b.foldl (fun n x=>if x == c' then n+1 else n) (0:Nat)))) w=_ at hs
  rw [Sem.run_bind,hl]
  rw [Sem.run_bind] at hs
  simpa [Extern.Bytes.bytesOf] using hs
 ·have:=hw.1
  have h2:=List.count_le_length (a:=c) (l:=xs)
  constructor <;> simp only [a0X,a0G] <;> omega
end Go.VE
namespace Go.VE
open Go
variable [D1]
def b1Y (st:St):List (Nat×Nat)→Bool
 | []=>true
 | (i,k)::ps=>match C0 st.tmps i with
  | .box k' []=>match Nat.beq k k' with
   | true=>b1Y st ps
   | false=>false
  | _=>false
theorem a9I {st:St}:∀ {ps:List (Nat×Nat)},b1Y st ps=true→∀ i k,(i,k)∈ps→C0 st.tmps i=.box k []
 | [],_,i,k,hm=>by cases hm
 | (i',k')::ps,h,i,k,hm=>by
  unfold b1Y at h
  split at h
  ·rename_i k2 hg
   split at h
   ·rename_i hb
    rcases List.mem_cons.1 hm with e | hm
    ·injection e with e1 e2; subst e1; subst e2
     rw [hg,Nat.eq_of_beq_eq_true hb]
    ·exact a9I h i k hm
   ·cases h
  ·cases h
def e7r (tb:Tab) (f:Func) (ws:a2O) (args:List Arg) (ps:List (Nat×Nat)) (K:Res→List Cell→Prop):Ex→St→Prop
 | .exit _,_=>False
 | .nrm,st=>b7Y tb f.results.toList ws args st K
 | .ret,st=>b7Y tb f.results.toList ws args st K
 | .pan n,st=>match b1Y st ps with
  | true=>K (.pan n) []
  | false=>False
def e6V (tb:Tab) (X:Pce) (f:Func) (ws:a2O) (ps:List (Nat×Nat)) (ts:List o9) (args:List Arg) (K:Res→List Cell→Prop):Prop:=
 X ⟨ts,a47 args 0⟩ (e7r tb f ws args ps K)
theorem Inv.re {w0:World} {F:Nat→Prop} {Fn:Nat→Option Nat} {I0 W:Nat→Prop} {Zc:Nat→Option Obj} {G:j4} {I:Nat→Prop} {st:St} {tm:Array Value} {w:World}
  (h:Inv w0 F Fn I0 W Zc G I st tm w) {ts:List o9} {tm':Array Value} (hs:tm'.size=ts.length) (hre:∀ i,C0 ts i=.no∨∃ j,C0 ts i=C0 st.tmps j∧tm'.getD i undef=tm.getD j undef) :
  Inv w0 F Fn I0 W Zc G I ⟨ts,st.boxes⟩ tm' w:=
 {h with
  size:=hs
  slot:=fun i=>by
   rcases hre i with e | ⟨j,e1,e2⟩
   ·dsimp only; rw [e]; exact trivial
   ·dsimp only; rw [e1,e2]; exact h.slot j
  box:=h.box }
theorem d4w {P:Program} {tb:Tab} {fn:Func} {c:Code} {X:Pce} (hT:q9 P tb) (hX:j5 P c X) {ws:a2O} {ps:List (Nat×Nat)} {ts:List o9} {args:List Arg} {K:Res→List Cell→Prop}
  (h:e6V tb X fn ws ps ts args K) {I:Nat→Prop} {w:World} {vs:List Value} {bs:List Nat} (hI:∀ b,I b→b<w.heap.size) (hg:D1.ok I w) (ha:o6 I w args vs bs)
  {tm:Array Value} (hs:tm.size=ts.length) (hre:∀ i,C0 ts i=.no∨∃ j,C0 ts i=C0 (Y4 args 0) j∧tm.getD i undef=vs.toArray.getD j undef) {ds:List Deferred} {Q:Exit→Act→World→Prop}
  (hQ:∀ e tm' w',e=.normal∨e=.ret→∀ v,(results fn tm').run P w'=.ok v w'→N2 I w bs (p5 args bs) K v w'→Q e ⟨tm',ds⟩ w')
  (hP:∀ n tm' w',K (.pan n) []→L5 w w' (fun b=>b∈bs)→(∀ i k b,(i,k)∈ps→(p6 args bs 0 k).map (·.1)=some b→tm'.getD i undef=.pointer (some ⟨b,0,none⟩))→
   Q (.panic [{ v:=D1.pan n,recovered:=false }]) ⟨tm',ds⟩ w'):c.wp P Q ⟨tm,ds⟩ w:=by
 have h0:=a9z hI hg ha args.length
 have h1:=Inv.re (ts:=ts) (tm':=tm) h0 hs (fun i=>by
  rcases hre i with e | ⟨j,e1,e2⟩
  ·exact .inl e
  ·refine .inr ⟨j,?_,?_⟩
   ·rw [Nat.sub_self,List.replicate_zero,List.append_nil]; exact e1
   ·rw [show args.length - vs.toArray.size=0 by rw [List.size_toArray,ha.length]; omega]; simpa using e2)
 refine hX Q _ (fun _=>trivial) h1 h ?_ ?_
 ·intro e st' tm' w' G' I' hk hI'
  cases e with
  | nrm=>obtain ⟨v,g1,g2⟩:=b7Z hT ha hI' ws hk; exact hQ _ _ _ (.inl rfl) v g1 g2
  | ret=>obtain ⟨v,g1,g2⟩:=b7Z hT ha hI' ws hk; exact hQ _ _ _ (.inr rfl) v g1 g2
  | exit i=>cases hk
  | pan n=>
   replace hk:(match b1Y st' ps with | true=>K (.pan n) [] | false=>False):=hk
   split at hk
   ·rename_i hp
    exact hP n tm' w' hk hI'.since fun i k b hm hf=>hI'.pins i k b (a9I hp i k hm) hf
   ·cases hk
 ·intro n st' tm' w' hk hpin hsn
  replace hk:(match b1Y st' ps with | true=>K (.pan n) [] | false=>False):=hk
  split at hk
  ·rename_i hp
   exact hP n tm' w' hk hsn fun i k b hm hf=>hpin i k b (a9I hp i k hm) hf
  ·cases hk
end Go.VE
