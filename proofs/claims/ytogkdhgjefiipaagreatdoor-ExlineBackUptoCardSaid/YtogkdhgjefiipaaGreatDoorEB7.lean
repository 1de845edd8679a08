import Derived.Test.YtogkdhgjefiipaaGreatDoorEB6
import Derived.Lib.BytesEntry
set_option linter.unusedVariables false
set_option linter.unusedSectionVars false
set_option linter.unusedSimpArgs false
namespace Go.VE
variable [Glob]
open Go Go.RowKit Go.Lib

theorem read_bytes {P:Program} {I:Nat→Prop} {w:World} {xs:List Int} {v:Value} (h:RepV I w (.sl (.int .u8)) xs v):(Extern.Bytes.bytesOf v).run P w=.ok ⟨(Lib.bytesOf xs).toArray⟩ w:=by
  obtain ⟨A,cap,rfl,hl,hm2,hr⟩:=RepV.sl_eq h
  cases A with
  | none=>
    have hx:xs=[]:=by
      cases xs with
      | nil=>rfl
      | cons n ns=>obtain ⟨b,o,hA,_⟩:=hr 0 (by simp); cases hA
    subst hx
    rfl
  | some a=>
    have hload:=run_loadBytesX (P:=P) w xs a .empty (fun j x hj=>by
      have hjl:j<xs.length:=(List.getElem?_eq_some_iff.1 hj).1
      obtain ⟨b,o,hA,_,cs,hc,_,hq⟩:=hr j hjl
      injection hA with hA; subst hA
      have hx:xs[j]=x:=by have:=(List.getElem?_eq_some_iff.1 hj).2; exact this
      obtain ⟨_,rfl⟩:=hc
      have:=hq 0 _ rfl
      rw [add_addr]
      rw [hx] at this
      simpa [Ty.cells] using this)
    have he:(⟨ByteArray.empty.data++(Lib.bytesOf xs).toArray⟩:ByteArray)=⟨(Lib.bytesOf xs).toArray⟩:=by
      apply ByteArray.ext
      show (#[]:Array UInt8)++(Lib.bytesOf xs).toArray=(Lib.bytesOf xs).toArray
      simp
    rw [he] at hload
    exact hload

def idxB (xs:List Int) (c:Int):Int:=if c∈xs then (xs.idxOf c:Int) else -1

theorem byte_eq {a b:Int} (ha:0≤a∧a≤255) (hb:0≤b∧b≤255):(UInt8.ofNat a.toNat=b.toNat.toUInt8)↔a=b:=by
  constructor
  · intro h
    have h2:=congrArg UInt8.toNat h
    simp only [Nat.toUInt8,UInt8.toNat_ofNat'] at h2
    try omega
  · intro h; rw [h]

theorem indexByte_idxB {c:Int} (hc:0≤c∧c≤255):∀ {xs:List Int},(∀ x∈xs,0≤x∧x≤255)→indexByte (Lib.bytesOf xs) c.toNat.toUInt8=idxB xs c
  | [],_=>by simp [Lib.bytesOf,indexByte,idxB]
  | x::xs,h=>by
    have hx:=h x List.mem_cons_self
    have ih:=indexByte_idxB hc (fun y hy=>h y (List.mem_cons_of_mem _ hy))
    have e:Lib.bytesOf (x::xs)=UInt8.ofNat x.toNat::Lib.bytesOf xs:=rfl
    rw [e]
    simp only [indexByte,ih]
    by_cases hxc:x=c
    · subst hxc
      have hb:(UInt8.ofNat x.toNat == x.toNat.toUInt8)=true:=by rw [(byte_eq hx hx).2 rfl]; exact beq_self_eq_true _
      rw [if_pos hb]
      unfold idxB
      rw [if_pos List.mem_cons_self]
      simp
    · have:¬ UInt8.ofNat x.toNat=c.toNat.toUInt8:=fun h=>hxc ((byte_eq hx hc).1 h)
      have hcx:¬ c=x:=fun h=>hxc h.symm
      unfold idxB
      by_cases hm:c∈xs
      · have h0:¬ ((xs.idxOf c:Int) = -1):=by omega
        have hb:(x == c)=false:=by simpa using hxc
        simp [this,hm,h0,hcx,List.idxOf_cons,hb]
      · simp [this,hm,hcx]

theorem countByte_count {c:Int} (hc:0≤c∧c≤255):∀ {xs:List Int},(∀ x∈xs,0≤x∧x≤255)→countByte (Lib.bytesOf xs) c.toNat.toUInt8=xs.count c
  | [],_=>rfl
  | x::xs,h=>by
    have hx:=h x List.mem_cons_self
    have ih:=countByte_count hc (fun y hy=>h y (List.mem_cons_of_mem _ hy))
    have e:Lib.bytesOf (x::xs)=UInt8.ofNat x.toNat::Lib.bytesOf xs:=rfl
    rw [e]
    unfold countByte at ih ⊢
    rw [List.count_cons,List.count_cons,ih]
    by_cases hxc:x=c
    · have:=(byte_eq hx hc).2 hxc
      simp [hxc]
    · have:¬ UInt8.ofNat x.toNat=c.toNat.toUInt8:=fun h=>hxc ((byte_eq hx hc).1 h)
      simp [this,hxc]

abbrev BS:Ty:=.sl (.int .u8)

def sliceByte_A:List AS:=[.v (.sl (.int .u8)),.v (.int .u8)]

theorem ext_bytes {P : Program} {f : FuncId} {fn : Func} {e : Array Value → Sem Value} (hf : P.funcs[f]? = some fn) (hname : (fn.name == "runtime.NumGoroutine") = false)
    (hb:fn.body.isNone=true) (hn:Extern.findNext fn=none) (he:Extern.find fn=some e) (F:List Int→Int→Int)
    (hF:∀ (I:Nat→Prop) (w:World) (xs:List Int) (c:Int) (v:Value),RepV I w (.sl (.int .u8)) xs v→inR .u8 c→(e #[v,.int .u8 c]).run P w=.ok (.int .i64 (F xs c)) w∧inR .i64 (F xs c)) :
    AppOk P f (specW sliceByte_A fun v K=>∀ r:Int,r=F v.1 v.2.1→K (.one (.v (.int .i64) r)) []):=by
  refine AppOk.specW fun ags K hs=>?_
  obtain ⟨v,rfl,hk⟩:=rdA_of _ ags _ hs
  refine .inr fun I w vs bs hI _ ha=>?_
  obtain ⟨xs,c,⟨⟩⟩:=v
  match vs,bs,ha with
  | [x,y],[],ha=>
    obtain ⟨hx,hy,_⟩:=ha
    obtain ⟨hc,rfl⟩:=RepV.int_eq hy
    obtain ⟨h1,h2⟩:=hF I w xs c x hx hc
    refine ⟨.int .i64 (F xs c),w,?_,?_⟩
    · rw [run_callFunc_extern hf hname hb hn he,h1]; rfl
    · exact ⟨.one (.v (.int .i64) (F xs c)),[],fun _=>False,[none],hk _ rfl,Since.refl _ _,fun b h=>h.elim,fun i b h=>by
        cases i with
        | zero=>simp at h
        | succ i=>simp at h,⟨none,rfl,rfl,RepV.int_mk h2⟩,trivial⟩

theorem ext_indexByte {P : Program} {f : FuncId} {fn : Func} (hf : P.funcs[f]? = some fn) (hname : (fn.name == "runtime.NumGoroutine") = false)
    (hb:fn.body.isNone=true) (hn:Extern.findNext fn=none) (he:Extern.find fn=some Extern.BytealgIndexByte.indexByte) :
    AppOk P f (specW sliceByte_A fun v K=>∀ r:Int,r=idxB v.1 v.2.1→K (.one (.v (.int .i64) r)) []):=by
  refine ext_bytes hf hname hb hn he idxB fun I w xs c v hv hc=>?_
  have hw:=RepV.wf hv
  have hl:=read_bytes (P:=P) hv
  have hs:=run_indexByteString (P:=P) ⟨(Lib.bytesOf xs).toArray⟩ c w
  constructor
  · rw [← indexByte_idxB hc hw.2]
    change Sem.run P (do
      let b ← Extern.Bytes.bytesOf v
      let c ← Extern.Bytes.asByte (.int .u8 c)
      match (List.range b.size).find? fun i=>b[i]! == c with
      | some i=>pure (goInt i)
      | none=>pure (goInt (-1))) w=_
    change Sem.run P (do
      let b ← Extern.Bytes.bytesOf (.string ⟨(Lib.bytesOf xs).toArray⟩)
      let c ← Extern.Bytes.asByte (.int .u8 c)
      match (List.range b.size).find? fun i=>b[i]! == c with
      | some i=>pure (goInt i)
      | none=>pure (goInt (-1))) w=_ at hs
    rw [Sem.run_bind,hl]
    rw [Sem.run_bind] at hs
    simpa [Extern.Bytes.bytesOf] using hs
  · unfold idxB
    have:=hw.1
    have h2:=List.idxOf_le_length (a:=c) (l:=xs)
    split <;> constructor <;> simp only [kmin,kmax] <;> omega

theorem ext_count {P : Program} {f : FuncId} {fn : Func} (hf : P.funcs[f]? = some fn) (hname : (fn.name == "runtime.NumGoroutine") = false)
    (hb:fn.body.isNone=true) (hn:Extern.findNext fn=none) (he:Extern.find fn=some Extern.BytealgCount.count) :
    AppOk P f (specW sliceByte_A fun v K=>∀ r:Int,r=(List.count v.2.1 (v.1:List Int):Int)→K (.one (.v (.int .i64) r)) []):=by
  refine ext_bytes hf hname hb hn he (fun xs c=>(xs.count c:Int)) fun I w xs c v hv hc=>?_
  have hw:=RepV.wf hv
  have hl:=read_bytes (P:=P) hv
  have hs:=run_countString (P:=P) ⟨(Lib.bytesOf xs).toArray⟩ c w
  constructor
  · rw [← countByte_count hc hw.2]
    change Sem.run P (do
      let b ← Extern.Bytes.bytesOf v
      let c' ← Extern.Bytes.asByte (.int .u8 c)
      pure (goInt (b.foldl (fun n x=>if x == c' then n+1 else n) (0:Nat)))) w=_
    change Sem.run P (do
      let b ← Extern.Bytes.bytesOf (.string ⟨(Lib.bytesOf xs).toArray⟩)
      let c' ← Extern.Bytes.asByte (.int .u8 c)
      pure (goInt (b.foldl (fun n x=>if x == c' then n+1 else n) (0:Nat)))) w=_ at hs
    rw [Sem.run_bind,hl]
    rw [Sem.run_bind] at hs
    simpa [Extern.Bytes.bytesOf] using hs
  · have:=hw.1
    have h2:=List.count_le_length (a:=c) (l:=xs)
    constructor <;> simp only [kmin,kmax] <;> omega
end Go.VE
namespace Go.VE
open Go
variable [Glob]

def pinsB (st:St):List (Nat×Nat)→Bool
  | []=>true
  | (i,k)::ps=>match getL st.tmps i with
    | .box k' []=>match Nat.beq k k' with
      | true=>pinsB st ps
      | false=>false
    | _=>false
theorem pinsB_of {st:St}:∀ {ps:List (Nat×Nat)},pinsB st ps=true→∀ i k,(i,k)∈ps→getL st.tmps i=.box k []
  | [],_,i,k,hm=>by cases hm
  | (i',k')::ps,h,i,k,hm=>by
    unfold pinsB at h
    split at h
    · rename_i k2 hg
      split at h
      · rename_i hb
        rcases List.mem_cons.1 hm with e | hm
        · injection e with e1 e2; subst e1; subst e2
          rw [hg,Nat.eq_of_beq_eq_true hb]
        · exact pinsB_of h i k hm
      · cases h
    · cases h

def endR (tb:Tab) (f:Func) (ws:Wants) (args:List Arg) (ps:List (Nat×Nat)) (K:Res→List Cell→Prop):Ex→St→Prop
  | .exit _,_=>False
  | .nrm,st=>finK tb f.results.toList ws args st K
  | .ret,st=>finK tb f.results.toList ws args st K
  | .pan n,st=>match pinsB st ps with
    | true=>K (.pan n) []
    | false=>False

def runR (tb:Tab) (X:Pce) (f:Func) (ws:Wants) (ps:List (Nat×Nat)) (ts:List Slot) (args:List Arg) (K:Res→List Cell→Prop):Prop:=
  X ⟨ts,initB args 0⟩ (endR tb f ws args ps K)

theorem Inv.re {w0:World} {F:Nat→Prop} {Fn:Nat→Option Nat} {I0 W:Nat→Prop} {Zc:Nat→Option Obj} {G:Names} {I:Nat→Prop} {st:St} {tm:Array Value} {w:World}
    (h:Inv w0 F Fn I0 W Zc G I st tm w) {ts:List Slot} {tm':Array Value} (hs:tm'.size=ts.length) (hre:∀ i,getL ts i=.no∨∃ j,getL ts i=getL st.tmps j∧tm'.getD i undef=tm.getD j undef) :
    Inv w0 F Fn I0 W Zc G I ⟨ts,st.boxes⟩ tm' w:=
  { h with
    size:=hs
    slot:=fun i=>by
      rcases hre i with e | ⟨j,e1,e2⟩
      · dsimp only; rw [e]; exact trivial
      · dsimp only; rw [e1,e2]; exact h.slot j
    box:=h.box }

theorem runR_ok {P:Program} {tb:Tab} {fn:Func} {c:Code} {X:Pce} (hT:TabOk P tb) (hX:SemOk P c X) {ws:Wants} {ps:List (Nat×Nat)} {ts:List Slot} {args:List Arg} {K:Res→List Cell→Prop}
    (h:runR tb X fn ws ps ts args K) {I:Nat→Prop} {w:World} {vs:List Value} {bs:List Nat} (hI:∀ b,I b→b<w.heap.size) (hg:Glob.ok I w) (ha:ArgsRel I w args vs bs)
    {tm:Array Value} (hs:tm.size=ts.length) (hre:∀ i,getL ts i=.no∨∃ j,getL ts i=getL (initT args 0) j∧tm.getD i undef=vs.toArray.getD j undef) {ds:List Deferred} {Q:Exit→Act→World→Prop}
    (hQ:∀ e tm' w',e=.normal∨e=.ret→∀ v,(results fn tm').run P w'=.ok v w'→Behind I w bs (refsOf args bs) K v w'→Q e ⟨tm',ds⟩ w')
    (hP:∀ n tm' w',K (.pan n) []→Since w w' (fun b=>b∈bs)→(∀ i k b,(i,k)∈ps→(foreign args bs 0 k).map (·.1)=some b→tm'.getD i undef=.pointer (some ⟨b,0,none⟩))→
      Q (.panic [{ v:=Glob.pan n,recovered:=false }]) ⟨tm',ds⟩ w'):c.wp P Q ⟨tm,ds⟩ w:=by
  have h0:=init_inv hI hg ha args.length
  have h1:=Inv.re (ts:=ts) (tm':=tm) h0 hs (fun i=>by
    rcases hre i with e | ⟨j,e1,e2⟩
    · exact .inl e
    · refine .inr ⟨j,?_,?_⟩
      · rw [Nat.sub_self,List.replicate_zero,List.append_nil]; exact e1
      · rw [show args.length - vs.toArray.size=0 by rw [List.size_toArray,ha.length]; omega]; simpa using e2)
  refine hX Q _ (fun _=>trivial) h1 h ?_ ?_
  · intro e st' tm' w' G' I' hk hI'
    cases e with
    | nrm=>obtain ⟨v,g1,g2⟩:=fin_ok hT ha hI' ws hk; exact hQ _ _ _ (.inl rfl) v g1 g2
    | ret=>obtain ⟨v,g1,g2⟩:=fin_ok hT ha hI' ws hk; exact hQ _ _ _ (.inr rfl) v g1 g2
    | exit i=>cases hk
    | pan n=>
      replace hk:(match pinsB st' ps with | true=>K (.pan n) [] | false=>False):=hk
      split at hk
      · rename_i hp
        exact hP n tm' w' hk hI'.since fun i k b hm hf=>hI'.pins i k b (pinsB_of hp i k hm) hf
      · cases hk
  · intro n st' tm' w' hk hpin hsn
    replace hk:(match pinsB st' ps with | true=>K (.pan n) [] | false=>False):=hk
    split at hk
    · rename_i hp
      exact hP n tm' w' hk hsn fun i k b hm hf=>hpin i k b (pinsB_of hp i k hm) hf
    · cases hk
end Go.VE
