import Derived.Test.YtogkdhgjefiipaaGreatDoorEQ13
import Derived.Shelf.Strconv.Itoa1
import Derived.Shelf.Strconv.Itoa2
import Derived.Lib.Walk
import Derived.Lib.ItoaWalk
import Derived.Lib.ItoaMem
import Derived.Lib.AppendIntMem
import Derived.Lib.BufferKept
import Derived.Lib.OwnKind
import Derived.Lib.Slices
import Derived.Lib.Hide
import Derived.OwnWalk
import Derived.WalkKit
import Derived.BigCall
import Derived.BigGuard
import Derived.CellFam
set_option linter.unusedVariables false
set_option linter.unusedSectionVars false
set_option linter.unusedSimpArgs false
namespace Go.VE
open Go Go.Proofs
end Go.VE
namespace Go.VE
open Go

theorem step_append {P:Program} {ops:Array Oper} {rest:List Oper} {o:Oper} {a:Act} {w w':World} {v':Value} {Q:Exit→Act→World→Prop} (hgd:o.guard=none) (s x:Operand) (t t':TypeId)
    (ho:o.op=.call { callee:=.builtin .append,args:=#[s,x],argTypes:=#[t,t'] }) (hrun:(Builtin.append_ #[t,t'] o.type #[a.eval s,a.eval x]).run P w=.ok v' w') (h:wpList P ops Q rest (a.put o.dst v') w') :
    wpList P ops Q (o::rest) a w:=by
  refine wpList_plain hgd fun K hK=>?_
  unfold Oper.wp
  have e:(execOp a.eval o).run P w=.ok (.value v') w':=by
    unfold execOp
    rw [ho]
    simp [invoke,resolve,builtin,hrun]
  rw [e]
  exact hK _ _ h

def decI (u:Nat):LI:=(Lib.decDigits u).map fun b=>(b.toNat:Int)

def au_A:List AS:=[.o 5 yU,.v (.int .u64),.v yI]
end Go.VE
namespace Go.Proofs
open Go.Shelf Go.RowKit Go.Sort
def lays284_ren:Go.Shelf.Ren:=⟨fun | 284=>227 | 129=>259 | 317=>258 | 318=>260 | n=>n,fun | 53=>175 | 3=>3 | 212=>278 | 0=>0 | 4=>4 | 46=>136 | 5=>5 | 9=>9 | n=>n,fun | 17=>1 | n=>n⟩
theorem lays284:LaysM.n284 Tryz.prog lays284_ren where
  mixed:=by kernel_rfl
  f129:=Tryz.func259.trans (congrArg some (by kernel_rfl))
  f284:=Tryz.func227.trans (congrArg some (by kernel_rfl))
  f317:=Tryz.func258.trans (congrArg some (by kernel_rfl))
  f318:=Tryz.func260.trans (congrArg some (by kernel_rfl))
  t0:=Tryz.underlying0
  a0:=Tryz.isAgg0
  z0:=Tryz.sizeOf0
  v0:=Tryz.zeroValue0
  t3:=Tryz.underlying3
  a3:=Tryz.isAgg3
  z3:=Tryz.sizeOf3
  v3:=Tryz.zeroValue3
  t4:=Tryz.underlying4
  a4:=Tryz.isAgg4
  z4:=Tryz.sizeOf4
  v4:=Tryz.zeroValue4
  t5:=Tryz.underlying5
  a5:=Tryz.isAgg5
  z5:=Tryz.sizeOf5
  v5:=Tryz.zeroValue5
  t9:=Tryz.underlying9
  a9:=Tryz.isAgg9
  z9:=Tryz.sizeOf9
  v9:=Tryz.zeroValue9
  t46:=Tryz.underlying136
  a46:=Tryz.isAgg136
  z46:=Tryz.sizeOf136
  v46:=Tryz.zeroValue136
  t53:=Tryz.underlying175
  a53:=Tryz.isAgg175
  z53:=Tryz.sizeOf175
  v53:=Tryz.zeroValue175
  t212:=Tryz.underlying278
  a212:=Tryz.isAgg278
  z212:=Tryz.sizeOf278
  v212:=Tryz.zeroValue278
  g17:=by kernel_rfl
  i0:=by kernel_rfl
  i3:=by kernel_rfl
  i4:=by kernel_rfl
  i5:=by kernel_rfl
  i9:=by kernel_rfl
  i46:=by kernel_rfl
  i53:=by kernel_rfl
  i212:=by kernel_rfl
  m17:=by kernel_rfl
def lays285_ren:Go.Shelf.Ren:=⟨fun | 285=>228 | n=>n,fun | 37=>22 | 53=>175 | 3=>3 | 4=>4 | 51=>172 | 9=>9 | 5=>5 | 0=>0 | n=>n,fun | n=>n⟩
theorem lays285:Lays.n285 Tryz.prog lays285_ren where
  mixed:=by kernel_rfl
  f285:=Tryz.func228.trans (congrArg some (by kernel_rfl))
  t0:=Tryz.underlying0
  a0:=Tryz.isAgg0
  z0:=Tryz.sizeOf0
  v0:=Tryz.zeroValue0
  t3:=Tryz.underlying3
  a3:=Tryz.isAgg3
  z3:=Tryz.sizeOf3
  v3:=Tryz.zeroValue3
  t4:=Tryz.underlying4
  a4:=Tryz.isAgg4
  z4:=Tryz.sizeOf4
  v4:=Tryz.zeroValue4
  t5:=Tryz.underlying5
  a5:=Tryz.isAgg5
  z5:=Tryz.sizeOf5
  v5:=Tryz.zeroValue5
  t9:=Tryz.underlying9
  a9:=Tryz.isAgg9
  z9:=Tryz.sizeOf9
  v9:=Tryz.zeroValue9
  t37:=Tryz.underlying22
  a37:=Tryz.isAgg22
  z37:=Tryz.sizeOf22
  v37:=Tryz.zeroValue22
  t51:=Tryz.underlying172
  a51:=Tryz.isAgg172
  z51:=Tryz.sizeOf172
  v51:=Tryz.zeroValue172
  t53:=Tryz.underlying175
  a53:=Tryz.isAgg175
  z53:=Tryz.sizeOf175
  v53:=Tryz.zeroValue175


set_option maxHeartbeats 3200000 in
set_option maxRecDepth 100000 in
theorem au_big (Post:Value→World→Prop) (u:Nat) (hu:100≤u) (hu64:u<18446744073709551616) (sv:Value) (w:World)
    (htab : Lib.TabIs Tryz.prog w "internal/strconv.uint64pow10" .u64 Lib.pow10Tab)
    (happ:∀ W2:World,W2.os=w.os→W2.tape=w.tape→W2.output=w.output→w.heap.size≤W2.heap.size→(∀ k,k<w.heap.size→W2.heap[k]?=w.heap[k]?)→
      (∀ j (h:j<(Lib.decDigits u).length),W2.cell? ⟨w.heap.size,j,none⟩=some (Value.int .u8 ((Lib.decDigits u)[j].toNat:Int)))→
      ∃ v' w',(Builtin.append_ #[22,22] 22 #[sv,.slice (some ⟨w.heap.size,0,none⟩) (Lib.nDigits u) 24]).run Tryz.prog W2=.ok v' w'∧Post v' w') :
    Calls Tryz.prog 195 #[sv,.int .u64 u,.int .i64 10] w fun e w'=>∃ v,e=.returned v∧Post v w':=by
  have e58:∀ args w,(callFunc 227 args).run Tryz.prog w=.ok (.enter 227 args) w:=VE.enters_of Tryz.func227 (by kernel_rfl)
  have e59:∀ args w,(callFunc 228 args).run Tryz.prog w=.ok (.enter 228 args) w:=VE.enters_of Tryz.func228 (by kernel_rfl)
  have hu1:1≤u:=by omega
  have hnd20:Lib.nDigits u≤20:=by have:=Lib.numDigits_eq u hu1 hu64; split at this <;> omega
  have iu:(100:Int)≤(u:Int):=by omega
  have hal:Tryz.prog.arrayLen 254=24:=by kernel_rfl
  have hsl:∀ W,(Instr.sliceAt 254 (.pointer (some ⟨w.heap.size,0,none⟩)) none (some (.int .i64 (Lib.nDigits u:Int))) none).run Tryz.prog W=.ok (.slice (some ⟨w.heap.size,0,none⟩) (Lib.nDigits u) 24) W:=fun W=>by
    rw [run_sliceAt_array_h W 254 ⟨w.heap.size,0,none⟩ (by kernel_rfl) .i64 (Lib.nDigits u:Int) (by omega) (by rw [hal]; omega)]
    go_simp
  have hH0:=Lib.holds_zero0 w 254 (Lib.nDigits u) (by omega)
  have hfmt:=Any.internal_strconv_formatBase10 lays285 w.heap.size 0 24 u (Array.replicate (Lib.nDigits u) 0) (w.alloc (.cells Lib.zeros24 254)) hH0 (by rw [Array.size_replicate]; exact Lib.lt_pow_nDigits u) hu64 (by rw [Array.size_replicate]; omega)
  rw [Array.size_replicate] at hfmt
  have HH0:=Lib.hid hH0
  clear hH0
  go_enter Tryz.func195,Tryz.ntmps195
  go_wp2_with (first
    | (go_at_fn 227; refine (Any.internal_strconv_numDigits lays284 u hu1 hu64 _ (Lib.tabIs_alloc htab _)).mono ?_; rintro e w' ⟨rfl,rfl⟩))
  go_at_fn 228
  refine hfmt.mono ?_
  rintro e w' ⟨rfl,k,v',dk,rfl,hF⟩
  obtain ⟨os,eo⟩:=Lib.fin_at w (.cells Lib.zeros24 254) dk k 0
  obtain ⟨v2,w2,hrun,hpost⟩:=happ ((putRow (fun (b:UInt8)=>Value.int .u8 (b.toNat:Int)) (w.alloc (.cells Lib.zeros24 254)) w.heap.size 0 dk).drewN k) (by rw [eo]; rfl) (by rw [eo]; rfl) (by rw [eo]; rfl) (by rw [eo]; exact Lib.size_grow w k os)
    (fun g hg=>by rw [eo]; exact Lib.heap_grow_old w k os g hg) (fun j hj=>by
      have:=cell?_putRow (fun (b:UInt8)=>Value.int .u8 (b.toNat:Int)) (w.alloc (.cells Lib.zeros24 254)) w.heap.size 0 (Array.replicate (Lib.nDigits u) 0) dk HH0.out (by rw [hF.size,Array.size_replicate]) j (by rw [hF.size]; rw [Lib.decDigits_length] at hj; exact hj)
      rw [Lib.row_is_numeral hF j hj,World.cell?_drewN]
      simpa using this)
  generalize (putRow (fun (b:UInt8)=>Value.int .u8 (b.toNat:Int)) (w.alloc (.cells Lib.zeros24 254)) w.heap.size 0 dk).drewN k=W2 at hrun ⊢
  clear eo HH0 hfmt happ
  go_wp2_with (at_builtin; refine VE.step_append rfl _ _ 22 22 rfl hrun ?_)
  go_wp2
  go_ret
  exact ⟨_,rfl,hpost⟩
end Go.Proofs
namespace Go.VE
open Go

theorem decI_byte (u:Nat):∀ x∈decI u,0≤x∧x≤255:=fun x hx=>by
  unfold decI at hx
  obtain ⟨b,_,rfl⟩:=List.mem_map.1 hx
  have:=b.toNat_lt
  omega

theorem decI_len (u:Nat):(decI u).length=Lib.nDigits u:=by unfold decI; rw [List.length_map,Lib.decDigits_length]

theorem digits20 {u:Nat} (h1:1≤u) (h:u<18446744073709551616):Lib.nDigits u≤20:=by
  have:=Lib.numDigits_eq u h1 h
  split at this <;> omega

theorem au_spec (xs:LI) (u:Int) (hu:100≤u) (hl:xs.length+20≤lim) {Ok:Res→List Cell→Prop} (hK:wfR (.one (.fr 5 yU (xs++decI u.toNat)))→Ok (.one (.fr 5 yU (xs++decI u.toNat))) []) :
    CallSpec Go.Proofs.Tryz.prog 195 (mkA au_A (xs,u,10,())) (fun r o=>wfR r→Ok r o):=by
  intro I w vs bs hI hg ha
  have hlen:=ha.length
  obtain ⟨sv,uv,bv,rfl⟩:∃ a b c,vs=[a,b,c]:=by
    match vs,hlen with
    | [a,b,c],_=>exact ⟨a,b,c,rfl⟩
  obtain ⟨b,rfl⟩:∃ b,bs=[b]:=by
    cases bs with
    | nil=>exact ha.elim
    | cons b bs=>
      cases bs with
      | nil=>exact ⟨b,rfl⟩
      | cons c bs=>exact ha.2.2.2.elim
  · have ha':=ha
    obtain ⟨hs,hu2,hb2,_⟩:=ha'
    obtain ⟨hur,rfl⟩:=RepV.int_eq hu2
    obtain ⟨_,rfl⟩:=RepV.int_eq hb2
    obtain ⟨n,rfl⟩:∃ n:Nat,u=n:=⟨u.toNat,by omega⟩
    have hn64:n<18446744073709551616:=by
      have:=hur.2
      simp only [kmax] at this
      omega
    obtain ⟨g,ob,_,_,h2,h3⟩:=glob_pow10 hg
    have htab:=h3 w h2
    have hd20:=digits20 (u:=n) (by omega) hn64
    refine Calls.mono (R':=fun e w'=>Ends I w [b] (refsOf (mkA au_A (xs,(n:Int),10,())) [b]) (fun r o=>wfR r→Ok r o) e w') (Go.Proofs.au_big (fun v w'=>Behind I w [b] (refsOf (mkA au_A (xs,(n:Int),10,())) [b]) (fun r o=>wfR r→Ok r o) v w') n (by omega) hn64 sv w htab ?_) (fun e w' ⟨v,h1,h2⟩=>.inl ⟨v,h1,h2⟩)
    intro W2 ho ht hp hz hold hcell
    have hinv:=init_inv hI hg ha 3
    have hgr:=hinv.grow hz hold ho ht hp
    have hslot:=hgr.slot 0
    have hown:OwnV (names0 (mkA au_A (xs,(n:Int),10,())) [sv,.int .u64 n,.int .i64 10] [b] 0) I W2 0 5 yU xs sv:=hslot
    obtain ⟨news,hsrc⟩:=src_slice (P:=Go.Proofs.Tryz.prog) (I:=I) (w:=W2) (t':=22) (el:=5) (e:=.int .u8) (ys:=decI n) (A:=some ⟨w.heap.size,0,none⟩) (cap:=24) (by kernel_rfl) (fun i hi=>by
      refine ⟨w.heap.size,0,rfl,[.int .u8 (decI n)[i]],⟨decI_byte n _ (List.getElem_mem hi),rfl⟩,fun j v hv=>?_⟩
      cases j with
      | succ j=>simp at hv
      | zero=>
        simp at hv; subst hv
        have hi':i<(Lib.decDigits n).length:=by simpa [decI] using hi
        have:=hcell i hi'
        simpa [decI,Ty.cells] using this)
    rw [decI_len] at hsrc
    obtain ⟨v',w',G',hrun,hI',hown'⟩:=append_own (ty:=22) tb_ok (t:=22) (t':=22) (ti:=⟨.sl yU,5,[],24⟩) rfl rfl rfl rfl hgr (by decide) hown hsrc (by rw [decI_len]; omega)
    refine ⟨v',w',hrun,.one (.fr 5 yU (xs++decI n)),[],fun _=>False,?_⟩
    obtain ⟨bo,hG,hv⟩:=hown'
    refine ⟨[bo],hK,hI'.since,fun b h=>h.elim,fun i b' hi=>?_,⟨bo,rfl,?_⟩,trivial⟩
    · cases i with
      | succ i=>simp at hi
      | zero=>
        simp at hi; subst hi
        refine ⟨?_,(hI'.own _ _ b' hG rfl).2.1,fun h=>h,fun j hj=>?_⟩
        · rcases hI'.tok_new hG with h | h
          · exact .inl h
          · exact .inr ⟨h.1,by show b'∉([]:List Nat); simp⟩
        · cases j with
          | zero=>rfl
          | succ j=>simp at hj
    · rcases hv with ⟨rfl,rfl,hx⟩ | ⟨b',rfl,hr⟩
      · exact ⟨rfl,hx⟩
      · exact RVRel.keep (x:=.fr 5 yU (xs++decI n)) (b:=some b') (fun _ h=>.inl h) hr
end Go.VE

namespace Go.VE
open Go Go.Proofs
def q2_P (xs:LI) (_ base:Int):Prop:=xs.length+20≤lim∧base=10
def q2_F (xs:LI) (u _:Int):LI:=xs++decI u.toNat
def q2_C (v:valsA au_A) (K:Res→List Cell→Prop):Prop:=q2_P v.1 v.2.1 v.2.2.1∧∀ r:LI,r=q2_F v.1 v.2.1 v.2.2.1→K (.one (.fr 5 yU r)) []
def q2_S:App:=specW au_A q2_C
theorem small_dec:∀ n:Fin 100,q11_F (n.val:Int)=decI n.val:=by decide +kernel
set_option maxRecDepth 20000 in
theorem small_P {n:Nat} (h:n<100):q11_P (n:Int):=by
  unfold q11_P
  rw [wrap_i64 (n:=(n:Int)+1) (by omega) (by omega),wrap_i64 (n:=(n:Int) * 2) (by omega) (by omega),wrap_i64 (n:=(n:Int) * 2+2) (by omega) (by omega)]
  by_cases h10:(n:Int)<10
  · have e:decide ((n:Int)<10)=true:=by simpa using h10
    rw [e]
    simp only [cond_true,List.length_cons,List.length_nil]
    omega
  · have e:decide ((n:Int)<10)=false:=by simpa using h10
    rw [e]
    simp only [cond_false,List.length_cons,List.length_nil]
    omega
theorem q2_ok:AppOk Tryz.prog 195 q2_S:=by
  intro ags K hs
  obtain ⟨v,rfl,hP,hK⟩:=rdA_of _ ags _ hs
  obtain ⟨xs,u,b,⟨⟩⟩:=v
  obtain ⟨hl,hb⟩:=hP
  change xs.length+20≤lim at hl
  change b=10 at hb
  subst hb
  refine Meets.when (p:=wfA au_A (xs,u,10,())) (fun I w vs bs ha=>ArgsRel.wf au_A _ ha) fun hw=>?_
  have h0:0≤u:=hw.2.1.1
  by_cases h100:u<100
  · obtain ⟨n,rfl⟩:∃ n:Nat,u=(n:Int):=⟨Int.toNat u,(Int.toNat_of_nonneg h0).symm⟩
    have hn:n<100:=by
      have h100':(n:Int)<100:=h100
      omega
    have sd:q11_F (n:Int)=decI n:=small_dec ⟨n,hn⟩
    refine q0_ok (mkA q0_A (xs,(n:Int),(10:Int),())) K (rdA_mk q0_A (xs,(n:Int),(10:Int),()) (fun v=>q0_C v fun r o=>wfR r→K r o) ⟨?_,fun r hr=>?_⟩)
    · show q0_P xs (n:Int) 10
      unfold q0_P
      have e:decide ((n:Int)<100)=true:=by simpa using h100
      rw [e,wrap_i64 (by omega) (by omega)]
      show q11_P (n:Int)∧_
      refine ⟨small_P hn,?_⟩
      show xs.length+(q11_F (n:Int)).length≤lim
      rw [sd,decI_len]
      have:Lib.nDigits n≤2:=by
        have:∀ n:Fin 100,Lib.nDigits n.val≤2:=by decide +kernel
        exact this ⟨n,hn⟩
      omega
    · refine hK r ?_
      rw [hr]
      show q0_F xs (n:Int) 10=xs++decI (Int.toNat (n:Int))
      unfold q0_F
      have e:decide ((n:Int)<100)=true:=by simpa using h100
      rw [e,wrap_i64 (by omega) (by omega),Int.toNat_natCast]
      show xs++q11_F (n:Int)=_
      rw [sd]
  · refine Meets.mono (Ok:=fun r o=>wfR r→K r o) (.inl ⟨enters_of Tryz.func195 (by kernel_rfl),au_spec xs u (Int.not_lt.1 h100) hl (fun hwf=>hK _ rfl hwf)⟩) (fun r o I w v fb hr hk=>hk (ResRel.wf hr)) fun n hk=>hk trivial

end Go.VE
namespace Go.VE
set_option maxRecDepth 20000
open Go Go.Proofs
def q5_G:List (Nat×App):=[(195,q2_S)]
theorem q5_Gok:GOk Tryz.prog (getG q5_G):=GOk.cons q2_ok (GOk.nil)
def q5_raw (dst0:LI) (i1:Int) (base2:Int) (K:Res→List Cell→Prop):Prop:=
 bif (decide (i1<(0:Int))) then
 bif decide (List.length dst0+List.length ([(45:Int)]:LI)≤lim) then
 q2_P (dst0++([(45:Int)]:LI)) (IntKind.wrap .u64 (0 - (IntKind.wrap .u64 i1))) base2∧(
 ∀ (r1:LI),r1=q2_F (dst0++([(45:Int)]:LI)) (IntKind.wrap .u64 (0 - (IntKind.wrap .u64 i1))) base2→(
 wfR (.one (.fr 5 yU r1))→(
 K (.one (.fr 5 yU r1)) [])))
 else False
 else
 q2_P dst0 (IntKind.wrap .u64 i1) base2∧(
 ∀ (r2:LI),r2=q2_F dst0 (IntKind.wrap .u64 i1) base2→(
 wfR (.one (.fr 5 yU r2))→(
 K (.one (.fr 5 yU r2)) [])))
def q5_A:List AS:=[.o 5 yU,.v yI,.v yI]

def q5_P (dst0:LI) (i1:Int) (base2:Int):Prop:=
 bif (decide (i1<(0:Int))) then
 (List.length dst0+List.length ([(45:Int)]:LI)≤lim)∧(
 q2_P (dst0++([(45:Int)]:LI)) (IntKind.wrap .u64 (0 - (IntKind.wrap .u64 i1))) base2)
 else
 q2_P dst0 (IntKind.wrap .u64 i1) base2
def q5_F (dst0:LI) (i1:Int) (base2:Int):LI:=
 bif (decide (i1<(0:Int))) then
 let r1:LI:=q2_F (dst0++([(45:Int)]:LI)) (IntKind.wrap .u64 (0 - (IntKind.wrap .u64 i1))) base2
 r1
 else
 let r2:LI:=q2_F dst0 (IntKind.wrap .u64 i1) base2
 r2
theorem q5_sp (dst0:LI) (i1:Int) (base2:Int) (K:Res→List Cell→Prop) (_:wfA q5_A (dst0,i1,base2,())) (hp:q5_P dst0 i1 base2) (h:∀ r:LI,r=q5_F dst0 i1 base2→K (.one (.fr 5 yU r)) []):q5_raw dst0 i1 base2 K:=
 br1 hp h (fun _ hp h=>as1 hp fun hp=>⟨hp,al (h _ rfl)⟩)
 fun _ hp h=>⟨hp,al (h _ rfl)⟩
def q5_C (v:valsA q5_A) (K:Res→List Cell→Prop):Prop:=q5_P v.1 v.2.1 v.2.2.1∧∀ r:LI,r=q5_F v.1 v.2.1 v.2.2.1→K (.one (.fr 5 yU r)) []
def q5_S:App:=specW q5_A q5_C
theorem q5_wv (K:Res→List Cell→Prop):∀ v:valsA q5_A,runF tb (getG q5_G) [] Tryz.f140 [true] (mkA q5_A v) K=q5_raw v.1 v.2.1 v.2.2.1 K
  | (dst0,i1,base2,())=>by kernel_rfl
theorem q5_ok:AppOk Tryz.prog 140 q5_S:=
  AppOk.specW (spec_ok ((runF_ok tb_M tb_ok q5_Gok (LabsOk.nil) (f:=140) (fn:=Tryz.f140) (by kernel_rfl) (by kernel_rfl) (by kernel_rfl) [true])) fun v K hw h=>(q5_wv K v).mpr (q5_sp v.1 v.2.1 v.2.2.1 K hw h.1 h.2))

def q39_G:List (Nat×App):=[(140,q5_S)]
theorem q39_Gok:GOk Tryz.prog (getG q39_G):=GOk.cons q5_ok (GOk.nil)
def q39_raw (dst0:LI) (i1:Int) (base2:Int) (K:Res→List Cell→Prop):Prop:=
 q5_P dst0 i1 base2∧(
 ∀ (r1:LI),r1=q5_F dst0 i1 base2→(
 wfR (.one (.fr 5 yU r1))→(
 K (.one (.fr 5 yU r1)) [])))
def q39_A:List AS:=[.o 5 yU,.v yI,.v yI]

def q39_P (dst0:LI) (i1:Int) (base2:Int):Prop:=
 q5_P dst0 i1 base2
def q39_F (dst0:LI) (i1:Int) (base2:Int):LI:=
 let r1:LI:=q5_F dst0 i1 base2
 r1
theorem q39_sp (dst0:LI) (i1:Int) (base2:Int) (K:Res→List Cell→Prop) (_:wfA q39_A (dst0,i1,base2,())) (hp:q39_P dst0 i1 base2) (h:∀ r:LI,r=q39_F dst0 i1 base2→K (.one (.fr 5 yU r)) []):q39_raw dst0 i1 base2 K:=
 ⟨hp,al (h _ rfl)⟩
def q39_C (v:valsA q39_A) (K:Res→List Cell→Prop):Prop:=q39_P v.1 v.2.1 v.2.2.1∧∀ r:LI,r=q39_F v.1 v.2.1 v.2.2.1→K (.one (.fr 5 yU r)) []
def q39_S:App:=specW q39_A q39_C
theorem q39_wv (K:Res→List Cell→Prop):∀ v:valsA q39_A,runF tb (getG q39_G) [] Tryz.f91 [true] (mkA q39_A v) K=q39_raw v.1 v.2.1 v.2.2.1 K
  | (dst0,i1,base2,())=>by kernel_rfl
theorem q39_ok:AppOk Tryz.prog 91 q39_S:=
  AppOk.specW (spec_ok ((runF_ok tb_M tb_ok q39_Gok (LabsOk.nil) (f:=91) (fn:=Tryz.f91) (by kernel_rfl) (by kernel_rfl) (by kernel_rfl) [true])) fun v K hw h=>(q39_wv K v).mpr (q39_sp v.1 v.2.1 v.2.2.1 K hw h.1 h.2))

def q71_G:List (Nat×App):=[(90,q70_S),(91,q39_S)]
theorem q71_Gok:GOk Tryz.prog (getG q71_G):=GOk.cons q70_ok (GOk.cons q39_ok (GOk.nil))
theorem q71_st:storesC (bodyOf Tryz.f48)=true:=by kernel_rfl
def q71_d0:List LS:=[.b 1 8 [],.o 3 29 5 yU,.c 8 tyA]
def q71_d0r:List LS:=[.o 2 21 5 yU]
def q71_dx0:DX:=⟨none,some q71_d0r,[]⟩
def q71_y0r (k:Ex→St→Prop) (x2:LI):Prop:=wfD q71_d0r (x2,())→k .ret (mkD 69 q71_d0r (x2,()))
def q71_J0 (kr:LI→Prop) (out3:LI) (a1b:tAd):Prop:=
 bif (decide (a1b.2.2.2.2.1=(0:Int))) then
 bif (!decide (a1b.1=(0:Int))) then
 kr out3
 else
 bif (decide (a1b.2.2.2.2.1<(0:Int))) then
 q39_P out3 a1b.2.2.2.2.1 (10:Int)∧(
 ∀ (r3:LI),r3=q39_F out3 a1b.2.2.2.2.1 (10:Int)→(
 wfR (.one (.fr 5 yU r3))→(
 kr r3)))
 else
 bif decide (List.length out3+List.length ([(43:Int)]:LI)≤lim) then
 q39_P (out3++([(43:Int)]:LI)) a1b.2.2.2.2.1 (10:Int)∧(
 ∀ (r4:LI),r4=q39_F (out3++([(43:Int)]:LI)) a1b.2.2.2.2.1 (10:Int)→(
 wfR (.one (.fr 5 yU r4))→(
 kr r4)))
 else False
 else
 bif (decide (a1b.2.2.2.2.1<(0:Int))) then
 q39_P out3 a1b.2.2.2.2.1 (10:Int)∧(
 ∀ (r5:LI),r5=q39_F out3 a1b.2.2.2.2.1 (10:Int)→(
 wfR (.one (.fr 5 yU r5))→(
 kr r5)))
 else
 bif decide (List.length out3+List.length ([(43:Int)]:LI)≤lim) then
 q39_P (out3++([(43:Int)]:LI)) a1b.2.2.2.2.1 (10:Int)∧(
 ∀ (r6:LI),r6=q39_F (out3++([(43:Int)]:LI)) a1b.2.2.2.2.1 (10:Int)→(
 wfR (.one (.fr 5 yU r6))→(
 kr r6)))
 else False
def q71_g0 (k:Ex→St→Prop) (v:vals q71_d0):Prop:=q71_J0 (q71_y0r k) v.1 v.2.1
theorem q71_v0 (k:Ex→St→Prop):∀ v:vals q71_d0,ex tb (getG q71_G) [] (at' (bodyOf Tryz.f48) [1,1,1,1]) [1,1,1,1] (mkD 69 q71_d0 v) (wk 69 q71_dx0 k)=q71_g0 k v
  | (out3,a1b,())=>by kernel_rfl
def q71_X0:Pce:=fun st k=>ckD 69 q71_d0 st fun v=>wfD q71_d0 v→q71_g0 k v
theorem q71_x0:SemOk Tryz.prog (at' (bodyOf Tryz.f48) [1,1,1,1]) q71_X0:=
  (SemOk.wk (N:=69) (ds:=q71_d0) (dx:=q71_dx0) (ex_sound tb_M tb_ok q71_Gok (LabsOk.nil) (at' (bodyOf Tryz.f48) [1,1,1,1]) [1,1,1,1] rfl (storesC_at q71_st [1,1,1,1]))).mono fun st k h=>ckD_mono h fun v hv hw=>Eq.mpr (q71_v0 k v) (hv hw)
def q71_B0:Labs:=([1,1,1,1],q71_X0)::[]
theorem q71_b0:LabsOk Tryz.prog (bodyOf Tryz.f48) q71_B0:=LabsOk.cons q71_x0 (LabsOk.nil)
def q71_d1:List LS:=[.b 1 8 [],.o 3 29 5 yU,.v 8 yU,.v 24 .bool,.c 8 tyA]
def q71_d1n:List LS:=[.b 1 8 [],.o 3 29 5 yU,.c 8 tyA]
def q71_dx1:DX:=⟨some q71_d1n,none,[]⟩
def q71_y1n (k:Ex→St→Prop) (out3:LI) (a1b:tAd):Prop:=wfD q71_d1n (out3,a1b,())→k .nrm (mkD 69 q71_d1n (out3,a1b,()))
def q71_J1 (kn:LI→tAd→Prop) (out3:LI) (x8:Int) (x24:Bool) (a1b:tAd):Prop:=
 bif x24 then
 (
 (
 bif decide (List.length out3+List.length ([a1b.1]:LI)≤lim) then
 (
 bif decide (List.length (out3++([a1b.1]:LI))+List.length a1b.2.2.2.1≤lim) then
 bif decide (List.length ((out3++([a1b.1]:LI))++a1b.2.2.2.1)+List.length ([a1b.1]:LI)≤lim) then
 kn (((out3++([a1b.1]:LI))++a1b.2.2.2.1)++([a1b.1]:LI)) a1b
 else False
 else False)∧(
 bif decide (List.length (out3++([a1b.1]:LI))+List.length a1b.2.2.2.1≤lim) then
 bif decide (List.length ((out3++([a1b.1]:LI))++a1b.2.2.2.1)+List.length ([a1b.1]:LI)≤lim) then
 kn (((out3++([a1b.1]:LI))++a1b.2.2.2.1)++([a1b.1]:LI)) a1b
 else False
 else False)∧True
 else False)∧(
 bif decide (List.length out3+List.length ([a1b.1]:LI)≤lim) then
 bif decide (List.length (out3++([a1b.1]:LI))+List.length a1b.2.2.2.1≤lim) then
 bif decide (List.length ((out3++([a1b.1]:LI))++a1b.2.2.2.1)+List.length ([a1b.1]:LI)≤lim) then
 kn (((out3++([a1b.1]:LI))++a1b.2.2.2.1)++([a1b.1]:LI)) a1b
 else False
 else False
 else False)∧True)∧(
 bif decide (List.length out3+List.length ([a1b.1]:LI)≤lim) then
 bif decide (List.length (out3++([a1b.1]:LI))+List.length a1b.2.2.2.1≤lim) then
 bif decide (List.length ((out3++([a1b.1]:LI))++a1b.2.2.2.1)+List.length ([a1b.1]:LI)≤lim) then
 kn (((out3++([a1b.1]:LI))++a1b.2.2.2.1)++([a1b.1]:LI)) a1b
 else False
 else False
 else False)∧True
 else
 bif (decide (x8=(46:Int))) then
 bif (decide (x8=(46:Int))) then
 bif decide (List.length out3+List.length ([a1b.1]:LI)≤lim) then
 kn (out3++([a1b.1]:LI)) a1b
 else False
 else
 kn out3 a1b
 else
 bif (decide (x8=(36:Int))) then
 bif decide (List.length out3+List.length ([a1b.1]:LI)≤lim) then
 kn (out3++([a1b.1]:LI)) a1b
 else False
 else
 kn out3 a1b
def q71_g1 (k:Ex→St→Prop) (v:vals q71_d1):Prop:=q71_J1 (q71_y1n k) v.1 v.2.1 v.2.2.1 v.2.2.2.1
theorem q71_v1 (k:Ex→St→Prop):∀ v:vals q71_d1,ex tb (getG q71_G) q71_B0 (at' (bodyOf Tryz.f48) [1,1,1,1,1,0,1,0,1,1,1]) [1,1,1,1,1,0,1,0,1,1,1] (mkD 69 q71_d1 v) (wk 69 q71_dx1 k)=q71_g1 k v
  | (out3,x8,x24,a1b,())=>by kernel_rfl
def q71_X1:Pce:=fun st k=>ckD 69 q71_d1 st fun v=>wfD q71_d1 v→q71_g1 k v
theorem q71_x1:SemOk Tryz.prog (at' (bodyOf Tryz.f48) [1,1,1,1,1,0,1,0,1,1,1]) q71_X1:=
  (SemOk.wk (N:=69) (ds:=q71_d1) (dx:=q71_dx1) (ex_sound tb_M tb_ok q71_Gok (q71_b0) (at' (bodyOf Tryz.f48) [1,1,1,1,1,0,1,0,1,1,1]) [1,1,1,1,1,0,1,0,1,1,1] rfl (storesC_at q71_st [1,1,1,1,1,0,1,0,1,1,1]))).mono fun st k h=>ckD_mono h fun v hv hw=>Eq.mpr (q71_v1 k v) (hv hw)
def q71_B1:Labs:=([1,1,1,1,1,0,1,0,1,1,1],q71_X1)::q71_B0
theorem q71_b1:LabsOk Tryz.prog (bodyOf Tryz.f48) q71_B1:=LabsOk.cons q71_x1 (q71_b0)
def q71_raw (a0:tAd) (K:Res→List Cell→Prop):Prop:=
 q70_P a0∧(
 ∀ (r1:Bool),r1=q70_F a0→(
 wB r1→(
 bif (!r1) then
 K (.one (.fr 5 yU ([]:LI))) []
 else
 bif (decide (a0.1=(110:Int))) then
 q39_P ([]:LI) a0.2.1 (10:Int)∧(
 ∀ (r2:LI),r2=q39_F ([]:LI) a0.2.1 (10:Int)→(
 wfR (.one (.fr 5 yU r2))→(
 (wfD q71_d0 (r2,a0,())→q71_J0 (fun (x2:LI)=>wfD q71_d0r (x2,())→(
 K (.one (.fr 5 yU x2)) [])) r2 a0))))
 else
 bif (decide (a0.1=(39:Int))) then
 bif decide (List.length ([]:LI)+List.length ([a0.1,a0.2.2.1]:LI)≤lim) then
 (wfD q71_d0 ((([]:LI)++([a0.1,a0.2.2.1]:LI)),a0,())→q71_J0 (fun (x2:LI)=>wfD q71_d0r (x2,())→(
 K (.one (.fr 5 yU x2)) [])) (([]:LI)++([a0.1,a0.2.2.1]:LI)) a0)
 else False
 else
 bif (decide (a0.1=(47:Int))) then
 (wfD q71_d1 (([]:LI),a0.1,(decide (a0.1=(47:Int))),a0,())→q71_J1 (fun (out3:LI) (a1b:tAd)=>wfD q71_d1n (out3,a1b,())→(
 (wfD q71_d0 (out3,a1b,())→q71_J0 (fun (x2:LI)=>wfD q71_d0r (x2,())→(
 K (.one (.fr 5 yU x2)) [])) out3 a1b))) ([]:LI) a0.1 (decide (a0.1=(47:Int))) a0)
 else
 (wfD q71_d1 (([]:LI),a0.1,(decide (a0.1=(63:Int))),a0,())→q71_J1 (fun (out3:LI) (a1b:tAd)=>wfD q71_d1n (out3,a1b,())→(
 (wfD q71_d0 (out3,a1b,())→q71_J0 (fun (x2:LI)=>wfD q71_d0r (x2,())→(
 K (.one (.fr 5 yU x2)) [])) out3 a1b))) ([]:LI) a0.1 (decide (a0.1=(63:Int))) a0))))
def q71_A:List AS:=[.v tyA]

def q71_J0_P (out3:LI) (a1b:tAd):Prop:=
 bif (decide (a1b.2.2.2.2.1=(0:Int))) then
 bif (!decide (a1b.1=(0:Int))) then
 True
 else
 bif (decide (a1b.2.2.2.2.1<(0:Int))) then
 q39_P out3 a1b.2.2.2.2.1 (10:Int)
 else
 (List.length out3+List.length ([(43:Int)]:LI)≤lim)∧(
 q39_P (out3++([(43:Int)]:LI)) a1b.2.2.2.2.1 (10:Int))
 else
 bif (decide (a1b.2.2.2.2.1<(0:Int))) then
 q39_P out3 a1b.2.2.2.2.1 (10:Int)
 else
 (List.length out3+List.length ([(43:Int)]:LI)≤lim)∧(
 q39_P (out3++([(43:Int)]:LI)) a1b.2.2.2.2.1 (10:Int))
def q71_J0_F (out3:LI) (a1b:tAd):LI:=
 bif (decide (a1b.2.2.2.2.1=(0:Int))) then
 bif (!decide (a1b.1=(0:Int))) then
 (out3)
 else
 bif (decide (a1b.2.2.2.2.1<(0:Int))) then
 let r3:LI:=q39_F out3 a1b.2.2.2.2.1 (10:Int)
 (r3)
 else
 let r4:LI:=q39_F (out3++([(43:Int)]:LI)) a1b.2.2.2.2.1 (10:Int)
 (r4)
 else
 bif (decide (a1b.2.2.2.2.1<(0:Int))) then
 let r5:LI:=q39_F out3 a1b.2.2.2.2.1 (10:Int)
 (r5)
 else
 let r6:LI:=q39_F (out3++([(43:Int)]:LI)) a1b.2.2.2.2.1 (10:Int)
 (r6)
theorem q71_J0_sp (kr:LI→Prop) (out3:LI) (a1b:tAd) (hp:q71_J0_P out3 a1b) (hr:∀ q:LI,q=q71_J0_F out3 a1b→kr q):q71_J0 kr out3 a1b:=
 have h:=hr; br1 hp h (fun _ hp h=>br1 hp h (fun _ hp h=>h _ rfl)
 fun _ hp h=>br1 hp h (fun _ hp h=>⟨hp,al (h _ rfl)⟩)
 fun _ hp h=>as1 hp fun hp=>⟨hp,al (h _ rfl)⟩)
 fun _ hp h=>br1 hp h (fun _ hp h=>⟨hp,al (h _ rfl)⟩)
 fun _ hp h=>as1 hp fun hp=>⟨hp,al (h _ rfl)⟩
def q71_J1_P (out3:LI) (x8:Int) (x24:Bool) (a1b:tAd):Prop:=
 bif x24 then
 (List.length out3+List.length ([a1b.1]:LI)≤lim)∧(
 (List.length (out3++([a1b.1]:LI))+List.length a1b.2.2.2.1≤lim)∧(
 (List.length ((out3++([a1b.1]:LI))++a1b.2.2.2.1)+List.length ([a1b.1]:LI)≤lim)))
 else
 bif (decide (x8=(46:Int))) then
 (List.length out3+List.length ([a1b.1]:LI)≤lim)
 else
 bif (decide (x8=(36:Int))) then
 (List.length out3+List.length ([a1b.1]:LI)≤lim)
 else
 True
def q71_J1_F (out3:LI) (x8:Int) (x24:Bool) (a1b:tAd):LI×tAd:=
 bif x24 then
 ((((out3++([a1b.1]:LI))++a1b.2.2.2.1)++([a1b.1]:LI)),a1b)
 else
 bif (decide (x8=(46:Int))) then
 ((out3++([a1b.1]:LI)),a1b)
 else
 bif (decide (x8=(36:Int))) then
 ((out3++([a1b.1]:LI)),a1b)
 else
 (out3,a1b)
theorem q71_J1_sp (kn:LI→tAd→Prop) (out3:LI) (x8:Int) (x24:Bool) (a1b:tAd) (hp:q71_J1_P out3 x8 x24 a1b) (hn:∀ q:LI×tAd,q=q71_J1_F out3 x8 x24 a1b→kn q.1 q.2):q71_J1 kn out3 x8 x24 a1b:=
 have h:=hn; br1 hp h (fun _ hp h=>⟨⟨as1 hp fun hp=>⟨as1 hp fun hp=>as0 hp (h _ rfl),
 as1 hp fun hp=>as0 hp (h _ rfl),trivial⟩,
 as1 hp fun hp=>as1 hp fun hp=>as0 hp (h _ rfl),trivial⟩,
 as1 hp fun hp=>as1 hp fun hp=>as0 hp (h _ rfl),trivial⟩)
 fun _ hp h=>br1 hp h (fun c6 hp h=>bkn (fun c7=>as0 hp (h _ rfl)) fun c7=>absurd c6 (by simp only [decide_eq_true_eq,decide_eq_false_iff_not,Bool.not_eq_eq_eq_not,Bool.not_true,Bool.not_false,Bool.not_eq_true,Bool.not_eq_false] at c7 ⊢; first | exact c7 | omega))
 fun c6 hp h=>br1 hp h (fun _ hp h=>as0 hp (h _ rfl))
 fun _ hp h=>h _ rfl
def q71_P (a0:tAd):Prop:=
 q70_P a0∧(
 let r1:Bool:=q70_F a0
 bif (!r1) then
 True
 else
 bif (decide (a0.1=(110:Int))) then
 q39_P ([]:LI) a0.2.1 (10:Int)∧(
 let r2:LI:=q39_F ([]:LI) a0.2.1 (10:Int)
 q71_J0_P r2 a0)
 else
 bif (decide (a0.1=(39:Int))) then
 (List.length ([]:LI)+List.length ([a0.1,a0.2.2.1]:LI)≤lim)∧(
 q71_J0_P (([]:LI)++([a0.1,a0.2.2.1]:LI)) a0)
 else
 bif (decide (a0.1=(47:Int))) then
 q71_J1_P ([]:LI) a0.1 (decide (a0.1=(47:Int))) a0∧(
 let q1n:LI×tAd:=q71_J1_F ([]:LI) a0.1 (decide (a0.1=(47:Int))) a0
 let out3:LI:=q1n.1
 let a1b:tAd:=q1n.2
 q71_J0_P out3 a1b)
 else
 q71_J1_P ([]:LI) a0.1 (decide (a0.1=(63:Int))) a0∧(
 let q1n:LI×tAd:=q71_J1_F ([]:LI) a0.1 (decide (a0.1=(63:Int))) a0
 let out3:LI:=q1n.1
 let a1b:tAd:=q1n.2
 q71_J0_P out3 a1b))
def q71_F (a0:tAd):LI:=
 let r1:Bool:=q70_F a0
 bif (!r1) then
 ([]:LI)
 else
 bif (decide (a0.1=(110:Int))) then
 let r2:LI:=q39_F ([]:LI) a0.2.1 (10:Int)
 let q0r:LI:=q71_J0_F r2 a0
 let x2:LI:=q0r
 x2
 else
 bif (decide (a0.1=(39:Int))) then
 let q0r:LI:=q71_J0_F (([]:LI)++([a0.1,a0.2.2.1]:LI)) a0
 let x2:LI:=q0r
 x2
 else
 bif (decide (a0.1=(47:Int))) then
 let q1n:LI×tAd:=q71_J1_F ([]:LI) a0.1 (decide (a0.1=(47:Int))) a0
 let out3:LI:=q1n.1
 let a1b:tAd:=q1n.2
 let q0r:LI:=q71_J0_F out3 a1b
 let x2:LI:=q0r
 x2
 else
 let q1n:LI×tAd:=q71_J1_F ([]:LI) a0.1 (decide (a0.1=(63:Int))) a0
 let out3:LI:=q1n.1
 let a1b:tAd:=q1n.2
 let q0r:LI:=q71_J0_F out3 a1b
 let x2:LI:=q0r
 x2
theorem q71_sp (a0:tAd) (K:Res→List Cell→Prop) (_:wfA q71_A (a0,())) (hp:q71_P a0) (h:∀ r:LI,r=q71_F a0→K (.one (.fr 5 yU r)) []):q71_raw a0 K:=
 an1 hp fun hp=>al (br1 hp h (fun _ hp h=>h _ rfl)
 fun _ hp h=>br1 hp h (fun _ hp h=>an1 hp fun hp=>al (fun _=>q71_J0_sp _ _ _ hp (al (h _ rfl))))
 fun _ hp h=>br1 hp h (fun _ hp h=>as1 hp fun hp=>fun _=>q71_J0_sp _ _ _ hp (al (h _ rfl)))
 fun _ hp h=>br1 hp h (fun _ hp h=>fun _=>q71_J1_sp _ _ _ _ _ hp.1 (have hp:=hp.2; al (fun _=>q71_J0_sp _ _ _ hp (al (h _ rfl)))))
 fun _ hp h=>fun _=>q71_J1_sp _ _ _ _ _ hp.1 (have hp:=hp.2; al (fun _=>q71_J0_sp _ _ _ hp (al (h _ rfl)))))
def q71_C (v:valsA q71_A) (K:Res→List Cell→Prop):Prop:=q71_P v.1∧∀ r:LI,r=q71_F v.1→K (.one (.fr 5 yU r)) []
def q71_S:App:=specW q71_A q71_C
theorem q71_wv (K:Res→List Cell→Prop):∀ v:valsA q71_A,runF tb (getG q71_G) q71_B1 Tryz.f48 [true] (mkA q71_A v) K=q71_raw v.1 K
  | (a0,())=>by kernel_rfl
theorem q71_ok:AppOk Tryz.prog 48 q71_S:=
  AppOk.specW (spec_ok ((runF_ok tb_M tb_ok q71_Gok (q71_b1) (f:=48) (fn:=Tryz.f48) (by kernel_rfl) (by kernel_rfl) q71_st [true])) fun v K hw h=>(q71_wv K v).mpr (q71_sp v.1 K hw h.1 h.2))

end Go.VE
namespace Go.VE
open Go
theorem decI_dec:∀ (k n:Nat),n<10 ^ k→0<k→n<10000000000→decI n=dec n
  | 0,n,h,h0,_=>absurd h0 (Nat.lt_irrefl 0)
  | k+1,n,h,_,hn=>by
    unfold decI
    by_cases h1:n<10
    · rw [Lib.decDigits_one h1,dec_small h1]
      have:∀ i:Fin 10,((UInt8.ofNat (48+i.val)).toNat:Int)=48+(i.val:Int):=by decide
      simpa using this ⟨n,h1⟩
    · rw [Lib.decDigits,dif_neg h1,List.map_append,dec_great (by omega) hn]
      have hk:0<k:=by
        cases k with
        | zero=>simp at h; omega
        | succ k=>omega
      have:=decI_dec k (n / 10) (by rw [Nat.pow_succ] at h; omega) hk (by omega)
      unfold decI at this
      rw [this]
      have h2:∀ i:Fin 10,((UInt8.ofNat (48+i.val)).toNat:Int)=48+(i.val:Int):=by decide
      have:=h2 ⟨n % 10,by omega⟩
      simp only [List.map_cons,List.map_nil]
      rw [this]
def nI (n:Int):LI:=if n<0 then 45::dec (-n).toNat else dec n.toNat
theorem dec_len (n:Nat):(dec n).length≤10:=decL_len 10 n
theorem nI_len (n:Int):(nI n).length≤11:=by
  unfold nI
  have:=dec_len (-n).toNat
  have:=dec_len n.toNat
  split
  · simp only [List.length_cons]; omega
  · omega
theorem wrap_neg {n:Int} (h1:-10000000000<n) (h2:n<0):IntKind.wrap .u64 (0 - IntKind.wrap .u64 n) = -n:=by
  have e:IntKind.wrap .u64 n=n+18446744073709551616:=by
    show n % (2 ^ 64:Int)=_
    omega
  rw [e]
  show (0 - (n+18446744073709551616)) % (2 ^ 64:Int)=_
  omega
theorem append_eq (xs:LI) (n:Int) (h1:-10000000000<n) (h2:n<10000000000) (hx:xs.length+21≤lim):q39_P xs n 10∧q39_F xs n 10=xs++nI n:=by
  unfold q39_P q39_F q5_P q5_F nI
  by_cases h:n<0
  · rw [decide_eq_true h,if_pos h,wrap_neg h1 h]
    refine ⟨⟨by simp only [List.length_cons,List.length_nil]; omega,by simp only [List.length_append,List.length_cons,List.length_nil]; omega,rfl⟩,?_⟩
    show (xs++[45])++decI (-n).toNat=_
    rw [decI_dec 10 _ (by omega) (by omega) (by omega),List.append_assoc]; rfl
  · rw [decide_eq_false h,if_neg h,wrap_u64 (n:=n) (by omega) (by omega)]
    refine ⟨⟨by omega,rfl⟩,?_⟩
    show xs++decI n.toNat=_
    rw [decI_dec 10 _ (by omega) (by omega) (by omega)]
def sndM (a:Adr):Bool:=a.2.2.2.2.2 && decide (-999999999≤a.2.2.2.2.1) && decide (a.2.2.2.2.1≤999999999) &&
  (if a.1=0∨a.1=46∨a.1=36∨a.1=39 then true else if a.1=110 then decide (0≤a.2.1) && decide (a.2.1≤999999999) else if a.1=47∨a.1=63 then decide (clo (a.2.2.2.1++[a.1]) a.1=a.2.2.2.1.length) else false)
def bsS (a:Adr):LI:=if a.1=110 then nI a.2.1 else if a.1=39 then [39,a.2.2.1] else if a.1=47∨a.1=63 then a.1::(a.2.2.2.1++[a.1]) else if a.1=46∨a.1=36 then [a.1] else []
def adT (a:Adr):LI:=if a.2.2.2.2.1=0∧a.1≠0 then [] else if a.2.2.2.2.1<0 then nI a.2.2.2.2.1 else 43::nI a.2.2.2.2.1
def adS (a:Adr):LI:=if sndM a=true then bsS a++adT a else []
theorem sound_s (a:Adr) (ha:a.2.2.2.1.length+1≤lim):q70_P a∧q70_F a=sndM a:=by
  obtain ⟨b,num,nam,tx,ad,g⟩:=a
  have hc:q83_P tx:=by unfold q83_P; dsimp only at ha; omega
  have hq:q55_P (tx++[b]) b:=⟨rfl,by simp only [List.length_append,List.length_cons,List.length_nil]; exact ha⟩
  have hl:tx.length+([b]:LI).length≤lim:=ha
  unfold q70_P q70_F sndM
  dsimp only
  cases g
  · exact ⟨trivial,rfl⟩
  by_cases h1:ad < -999999999
  · rw [decide_eq_true h1,decide_eq_false (show ¬ -999999999≤ad by omega)]
    exact ⟨trivial,rfl⟩
  rw [decide_eq_false h1,decide_eq_true (show -999999999≤ad by omega)]
  by_cases h2:999999999<ad
  · rw [decide_eq_true h2,decide_eq_false (show ¬ ad≤999999999 by omega)]
    exact ⟨trivial,rfl⟩
  rw [decide_eq_false h2,decide_eq_true (show ad≤999999999 by omega)]
  unfold q70_J1_P q70_J1_F q70_J0_P q70_J0_F
  simp only [closing_eq,q83_F]
  have hd:decide ((clo (tx++[b]) b:Int)=(tx.length:Int))=decide (clo (tx++[b]) b=tx.length):=decide_eq_decide.2 (by omega)
  rw [hd]
  by_cases c0:b=0
  · subst c0; exact ⟨trivial,rfl⟩
  by_cases c1:b=46
  · subst c1; exact ⟨trivial,rfl⟩
  by_cases c2:b=36
  · subst c2; exact ⟨trivial,rfl⟩
  by_cases c3:b=39
  · subst c3; exact ⟨trivial,rfl⟩
  rw [decide_eq_false c0,decide_eq_false c1,decide_eq_false c2,decide_eq_false c3,if_neg (show ¬ (b=0∨b=46∨b=36∨b=39) by simp [c0,c1,c2,c3])]
  by_cases c4:b=110
  · rw [decide_eq_true c4,if_pos c4]
    refine ⟨trivial,?_⟩
    by_cases h5:0≤num
    · rw [decide_eq_true h5]
      simp
    · rw [decide_eq_false h5]
      simp
  rw [decide_eq_false c4,if_neg c4]
  by_cases c5:b=47
  · rw [decide_eq_true c5,if_pos (show b=47∨b=63 from .inl c5)]
    refine ⟨⟨hc,hl,hq⟩,?_⟩
    simp
  rw [decide_eq_false c5]
  by_cases c6:b=63
  · rw [decide_eq_true c6,if_pos (show b=47∨b=63 from .inr c6)]
    refine ⟨⟨hc,hl,hq⟩,?_⟩
    simp
  rw [decide_eq_false c6,if_neg (show ¬ (b=47∨b=63) by simp [c5,c6])]
  exact ⟨trivial,rfl⟩
theorem j0S (out:LI) (a:Adr) (h1:-999999999≤a.2.2.2.2.1) (h2:a.2.2.2.2.1≤999999999) (hx:out.length+22≤lim):q71_J0_P out a∧q71_J0_F out a=out++adT a:=by
  obtain ⟨p1,f1⟩:=append_eq out a.2.2.2.2.1 (by omega) (by omega) (by omega)
  obtain ⟨p2,f2⟩:=append_eq (out++[43]) a.2.2.2.2.1 (by omega) (by omega) (by simp only [List.length_append,List.length_cons,List.length_nil]; omega)
  have hl:out.length+([43]:LI).length≤lim:=by simp only [List.length_cons,List.length_nil]; omega
  have f2':q39_F (out++[43]) a.2.2.2.2.1 10=out++43::nI a.2.2.2.2.1:=by rw [f2,List.append_assoc]; rfl
  unfold q71_J0_P q71_J0_F adT
  simp only [f1,f2']
  by_cases h3:a.2.2.2.2.1=0
  · rw [decide_eq_true h3,decide_eq_false (show ¬ a.2.2.2.2.1<0 by omega)]
    by_cases h4:a.1=0
    · rw [decide_eq_true h4,if_neg (by simp [h4]),if_neg (by omega)]
      exact ⟨⟨hl,p2⟩,rfl⟩
    · rw [decide_eq_false h4,if_pos ⟨h3,h4⟩,List.append_nil]
      exact ⟨trivial,rfl⟩
  · rw [decide_eq_false h3,if_neg (fun h=>h3 h.1)]
    by_cases h5:a.2.2.2.2.1<0
    · rw [decide_eq_true h5,if_pos h5]
      exact ⟨p1,rfl⟩
    · rw [decide_eq_false h5,if_neg h5]
      exact ⟨⟨hl,p2⟩,rfl⟩
end Go.VE
namespace Go.VE
theorem snd_rng {a:Adr} (h:sndM a=true):-999999999≤a.2.2.2.2.1∧a.2.2.2.2.1≤999999999:=by
  unfold sndM at h
  simp only [Bool.and_eq_true,decide_eq_true_eq] at h
  exact ⟨h.1.1.2,h.1.2⟩
theorem bsS_len (a:Adr):(bsS a).length≤a.2.2.2.1.length+11:=by
  unfold bsS
  have:=nI_len a.2.1
  repeat' split
  all_goals ((try simp only [List.length_cons,List.length_nil,List.length_append]); omega)
theorem adT_len (a:Adr):(adT a).length≤12:=by
  unfold adT
  have:=nI_len a.2.2.2.2.1
  repeat' split
  all_goals ((try simp only [List.length_cons,List.length_nil]); omega)
theorem adS_len (a:Adr):(adS a).length≤a.2.2.2.1.length+23:=by
  unfold adS
  have:=bsS_len a
  have:=adT_len a
  split
  · rw [List.length_append]; omega
  · simp only [List.length_nil]; omega
theorem addr_s (a:Adr) (ha:a.2.2.2.1.length+100≤lim):q71_P a∧q71_F a=adS a:=by
  obtain ⟨sp,sf⟩:=sound_s a (by omega)
  unfold q71_P q71_F adS
  simp only [sf]
  cases hs:sndM a
  · exact ⟨⟨sp,trivial⟩,rfl⟩
  obtain ⟨h1,h2⟩:=snd_rng hs
  have hbl:=bsS_len a
  have jj:=j0S (bsS a) a h1 h2 (by omega)
  rw [if_pos rfl]
  by_cases c1:a.1=110
  · have hnum:0≤a.2.1∧a.2.1≤999999999:=by
      unfold sndM at hs
      rw [if_neg (by omega),if_pos c1] at hs
      simp only [Bool.and_eq_true,decide_eq_true_eq] at hs
      exact hs.2
    obtain ⟨p,f⟩:=append_eq [] a.2.1 (by omega) (by omega) (by simp only [List.length_nil]; omega)
    have e:bsS a=nI a.2.1:=by unfold bsS; rw [if_pos c1]
    rw [List.nil_append] at f
    rw [e] at jj
    rw [decide_eq_true c1]
    simp only [f,e]
    exact ⟨⟨sp,p,jj.1⟩,jj.2⟩
  rw [decide_eq_false c1]
  by_cases c2:a.1=39
  · have e:bsS a=[a.1,a.2.2.1]:=by unfold bsS; rw [if_neg c1,if_pos c2,c2]
    rw [e] at jj
    rw [decide_eq_true c2,e]
    exact ⟨⟨sp,by simp only [List.length_cons,List.length_nil]; omega,jj.1⟩,jj.2⟩
  rw [decide_eq_false c2]
  -- the others
  have j1:q71_J1_P [] a.1 (decide (a.1=47) || decide (a.1=63)) a∧q71_J1_F [] a.1 (decide (a.1=47) || decide (a.1=63)) a=(bsS a,a):=by
    unfold q71_J1_P q71_J1_F bsS
    rw [if_neg c1,if_neg c2]
    by_cases c3:a.1=47∨a.1=63
    · rw [if_pos c3,show (decide (a.1=47) || decide (a.1=63))=true by rcases c3 with h | h <;> simp [h]]
      refine ⟨⟨by simp only [List.length_cons,List.length_nil]; omega,by simp only [List.length_cons,List.length_nil,List.length_append]; omega,by simp only [List.length_cons,List.length_nil,List.length_append]; omega⟩,?_⟩
      simp
    · have d1:¬ a.1=47:=fun h=>c3 (.inl h)
      have d2:¬ a.1=63:=fun h=>c3 (.inr h)
      rw [if_neg c3,show (decide (a.1=47) || decide (a.1=63))=false by simp [d1,d2]]
      have hl:([]:LI).length+[a.1].length≤lim:=by simp only [List.length_cons,List.length_nil]; omega
      by_cases c4:a.1=46
      · rw [decide_eq_true c4,if_pos (.inl c4)]; exact ⟨hl,rfl⟩
      · rw [decide_eq_false c4]
        by_cases c5:a.1=36
        · rw [decide_eq_true c5,if_pos (.inr c5)]; exact ⟨hl,rfl⟩
        · rw [decide_eq_false c5,if_neg (show ¬ (a.1=46∨a.1=36) by simp [c4,c5])]; exact ⟨trivial,rfl⟩
  by_cases c3:a.1=47
  · rw [decide_eq_true c3,Bool.true_or] at j1
    rw [decide_eq_true c3]
    simp only [j1.2]
    exact ⟨⟨sp,j1.1,jj.1⟩,jj.2⟩
  · rw [decide_eq_false c3,Bool.false_or] at j1
    rw [decide_eq_false c3]
    simp only [j1.2]
    exact ⟨⟨sp,j1.1,jj.1⟩,jj.2⟩
end Go.VE
namespace Go.VE
set_option maxRecDepth 20000
open Go Go.Proofs
def q86_G:List (Nat×App):=[]
theorem q86_Gok:GOk Tryz.prog (getG q86_G):=GOk.nil
def q86_raw (a0:LI) (b1:LI) (K:Res→List Cell→Prop):Prop:=
 K (.one (.v .bool (decide (a0=b1)))) []
def q86_A:List AS:=[.v yB,.v yB]

def q86_F (a0:LI) (b1:LI):Bool:=
 (decide (a0=b1))
theorem q86_sp (a0:LI) (b1:LI) (K:Res→List Cell→Prop) (_:wfA q86_A (a0,b1,())) (h:∀ r:Bool,r=q86_F a0 b1→K (.one (.v .bool r)) []):q86_raw a0 b1 K:=
 h _ rfl
def q86_C (v:valsA q86_A) (K:Res→List Cell→Prop):Prop:=∀ r:Bool,r=q86_F v.1 v.2.1→K (.one (.v .bool r)) []
def q86_S:App:=specW q86_A q86_C
theorem q86_wv (K:Res→List Cell→Prop):∀ v:valsA q86_A,runF tb (getG q86_G) [] Tryz.f95 [true] (mkA q86_A v) K=q86_raw v.1 v.2.1 K
  | (a0,b1,())=>by kernel_rfl
theorem q86_ok:AppOk Tryz.prog 95 q86_S:=
  AppOk.specW (spec_ok ((runF_ok tb_M tb_ok q86_Gok (LabsOk.nil) (f:=95) (fn:=Tryz.f95) (by kernel_rfl) (by kernel_rfl) (by kernel_rfl) [true])) fun v K hw h=>(q86_wv K v).mpr (q86_sp v.1 v.2.1 K hw h))

def q31_G:List (Nat×App):=[(95,q86_S)]
theorem q31_Gok:GOk Tryz.prog (getG q31_G):=GOk.cons q86_ok (GOk.nil)
def q31_raw (a0:tAd) (b1:tAd) (K:Res→List Cell→Prop):Prop:=
 bif (decide (a0.1=b1.1)) then
 bif (decide (a0.2.1=b1.2.1)) then
 bif (decide (a0.2.2.1=b1.2.2.1)) then
 ∀ (r1:Bool),r1=q86_F a0.2.2.2.1 b1.2.2.2.1→(
 wB r1→(
 bif r1 then
 bif (decide (a0.2.2.2.2.1=b1.2.2.2.2.1)) then
 K (.one (.v .bool (a0.2.2.2.2.2 == b1.2.2.2.2.2))) []
 else
 K (.one (.v .bool false)) []
 else
 K (.one (.v .bool false)) []))
 else
 K (.one (.v .bool false)) []
 else
 K (.one (.v .bool false)) []
 else
 K (.one (.v .bool false)) []
def q31_A:List AS:=[.v tyA,.v tyA]

def q31_F (a0:tAd) (b1:tAd):Bool:=
 bif (decide (a0.1=b1.1)) then
 bif (decide (a0.2.1=b1.2.1)) then
 bif (decide (a0.2.2.1=b1.2.2.1)) then
 let r1:Bool:=q86_F a0.2.2.2.1 b1.2.2.2.1
 bif r1 then
 bif (decide (a0.2.2.2.2.1=b1.2.2.2.2.1)) then
 (a0.2.2.2.2.2 == b1.2.2.2.2.2)
 else
 false
 else
 false
 else
 false
 else
 false
 else
 false
theorem q31_sp (a0:tAd) (b1:tAd) (K:Res→List Cell→Prop) (_:wfA q31_A (a0,b1,())) (h:∀ r:Bool,r=q31_F a0 b1→K (.one (.v .bool r)) []):q31_raw a0 b1 K:=
 br0 h (fun _ h=>br0 h (fun _ h=>br0 h (fun _ h=>al (br0 h (fun _ h=>br0 h (fun _ h=>h _ rfl)
 fun _ h=>h _ rfl)
 fun _ h=>h _ rfl))
 fun _ h=>h _ rfl)
 fun _ h=>h _ rfl)
 fun _ h=>h _ rfl
def q31_C (v:valsA q31_A) (K:Res→List Cell→Prop):Prop:=∀ r:Bool,r=q31_F v.1 v.2.1→K (.one (.v .bool r)) []
def q31_S:App:=specW q31_A q31_C
theorem q31_wv (K:Res→List Cell→Prop):∀ v:valsA q31_A,runF tb (getG q31_G) [] Tryz.f94 [true] (mkA q31_A v) K=q31_raw v.1 v.2.1 K
  | (a0,b1,())=>by kernel_rfl
theorem q31_ok:AppOk Tryz.prog 94 q31_S:=
  AppOk.specW (spec_ok ((runF_ok tb_M tb_ok q31_Gok (LabsOk.nil) (f:=94) (fn:=Tryz.f94) (by kernel_rfl) (by kernel_rfl) (by kernel_rfl) [true])) fun v K hw h=>(q31_wv K v).mpr (q31_sp v.1 v.2.1 K hw h))

def q87_G:List (Nat×App):=[(94,q31_S),(95,q86_S)]
theorem q87_Gok:GOk Tryz.prog (getG q87_G):=GOk.cons q31_ok (GOk.cons q86_ok (GOk.nil))
def q87_raw (x0:tEx) (y1:tEx) (K:Res→List Cell→Prop):Prop:=
 ∀ (r1:Bool),r1=q31_F x0.1 y1.1→(
 wB r1→(
 bif r1 then
 ∀ (r2:Bool),r2=q31_F x0.2.1 y1.2.1→(
 wB r2→(
 bif r2 then
 bif (x0.2.2.1 == y1.2.2.1) then
 bif (decide (x0.2.2.2.1=y1.2.2.2.1)) then
 ∀ (r3:Bool),r3=q31_F x0.2.2.2.2.1 y1.2.2.2.2.1→(
 wB r3→(
 bif r3 then
 bif (decide (x0.2.2.2.2.2.1=y1.2.2.2.2.2.1)) then
 bif (decide (x0.2.2.2.2.2.2.1=y1.2.2.2.2.2.2.1)) then
 ∀ (r4:Bool),r4=q86_F x0.2.2.2.2.2.2.2.1 y1.2.2.2.2.2.2.2.1→(
 wB r4→(
 bif r4 then
 ∀ (r5:Bool),r5=q86_F x0.2.2.2.2.2.2.2.2.1 y1.2.2.2.2.2.2.2.2.1→(
 wB r5→(
 bif r5 then
 K (.one (.v .bool (x0.2.2.2.2.2.2.2.2.2 == y1.2.2.2.2.2.2.2.2.2))) []
 else
 K (.one (.v .bool false)) []))
 else
 K (.one (.v .bool false)) []))
 else
 K (.one (.v .bool false)) []
 else
 K (.one (.v .bool false)) []
 else
 K (.one (.v .bool false)) []))
 else
 K (.one (.v .bool false)) []
 else
 K (.one (.v .bool false)) []
 else
 K (.one (.v .bool false)) []))
 else
 K (.one (.v .bool false)) []))
def q87_A:List AS:=[.v tyX,.v tyX]

def q87_F (x0:tEx) (y1:tEx):Bool:=
 let r1:Bool:=q31_F x0.1 y1.1
 bif r1 then
 let r2:Bool:=q31_F x0.2.1 y1.2.1
 bif r2 then
 bif (x0.2.2.1 == y1.2.2.1) then
 bif (decide (x0.2.2.2.1=y1.2.2.2.1)) then
 let r3:Bool:=q31_F x0.2.2.2.2.1 y1.2.2.2.2.1
 bif r3 then
 bif (decide (x0.2.2.2.2.2.1=y1.2.2.2.2.2.1)) then
 bif (decide (x0.2.2.2.2.2.2.1=y1.2.2.2.2.2.2.1)) then
 let r4:Bool:=q86_F x0.2.2.2.2.2.2.2.1 y1.2.2.2.2.2.2.2.1
 bif r4 then
 let r5:Bool:=q86_F x0.2.2.2.2.2.2.2.2.1 y1.2.2.2.2.2.2.2.2.1
 bif r5 then
 (x0.2.2.2.2.2.2.2.2.2 == y1.2.2.2.2.2.2.2.2.2)
 else
 false
 else
 false
 else
 false
 else
 false
 else
 false
 else
 false
 else
 false
 else
 false
 else
 false
theorem q87_sp (x0:tEx) (y1:tEx) (K:Res→List Cell→Prop) (_:wfA q87_A (x0,y1,())) (h:∀ r:Bool,r=q87_F x0 y1→K (.one (.v .bool r)) []):q87_raw x0 y1 K:=
 al (br0 h (fun _ h=>al (br0 h (fun _ h=>br0 h (fun _ h=>br0 h (fun _ h=>al (br0 h (fun _ h=>br0 h (fun _ h=>br0 h (fun _ h=>al (br0 h (fun _ h=>al (br0 h (fun _ h=>h _ rfl)
 fun _ h=>h _ rfl))
 fun _ h=>h _ rfl))
 fun _ h=>h _ rfl)
 fun _ h=>h _ rfl)
 fun _ h=>h _ rfl))
 fun _ h=>h _ rfl)
 fun _ h=>h _ rfl)
 fun _ h=>h _ rfl))
 fun _ h=>h _ rfl)
def q87_C (v:valsA q87_A) (K:Res→List Cell→Prop):Prop:=∀ r:Bool,r=q87_F v.1 v.2.1→K (.one (.v .bool r)) []
def q87_S:App:=specW q87_A q87_C
theorem q87_wv (K:Res→List Cell→Prop):∀ v:valsA q87_A,runF tb (getG q87_G) [] Tryz.f51 [true] (mkA q87_A v) K=q87_raw v.1 v.2.1 K
  | (x0,y1,())=>by kernel_rfl
theorem q87_ok:AppOk Tryz.prog 51 q87_S:=
  AppOk.specW (spec_ok ((runF_ok tb_M tb_ok q87_Gok (LabsOk.nil) (f:=51) (fn:=Tryz.f51) (by kernel_rfl) (by kernel_rfl) (by kernel_rfl) [true])) fun v K hw h=>(q87_wv K v).mpr (q87_sp v.1 v.2.1 K hw h))

def q12_G:List (Nat×App):=[]
theorem q12_Gok:GOk Tryz.prog (getG q12_G):=GOk.nil
def q12_raw (a0:tAd) (b1:tAd) (K:Res→List Cell→Prop):Prop:=
 bif (decide (a0.1=b1.1)) then
 bif (decide (a0.2.1=b1.2.1)) then
 bif (decide (a0.2.2.1=b1.2.2.1)) then
 bif (decide (a0.2.2.2.1=b1.2.2.2.1)) then
 bif (decide (a0.2.2.2.2.1=b1.2.2.2.2.1)) then
 K (.one (.v .bool (a0.2.2.2.2.2 == b1.2.2.2.2.2))) []
 else
 K (.one (.v .bool false)) []
 else
 K (.one (.v .bool false)) []
 else
 K (.one (.v .bool false)) []
 else
 K (.one (.v .bool false)) []
 else
 K (.one (.v .bool false)) []
def q12_A:List AS:=[.v tyA,.v tyA]

def q12_F (a0:tAd) (b1:tAd):Bool:=
 bif (decide (a0.1=b1.1)) then
 bif (decide (a0.2.1=b1.2.1)) then
 bif (decide (a0.2.2.1=b1.2.2.1)) then
 bif (decide (a0.2.2.2.1=b1.2.2.2.1)) then
 bif (decide (a0.2.2.2.2.1=b1.2.2.2.2.1)) then
 (a0.2.2.2.2.2 == b1.2.2.2.2.2)
 else
 false
 else
 false
 else
 false
 else
 false
 else
 false
theorem q12_sp (a0:tAd) (b1:tAd) (K:Res→List Cell→Prop) (_:wfA q12_A (a0,b1,())) (h:∀ r:Bool,r=q12_F a0 b1→K (.one (.v .bool r)) []):q12_raw a0 b1 K:=
 br0 h (fun _ h=>br0 h (fun _ h=>br0 h (fun _ h=>br0 h (fun _ h=>br0 h (fun _ h=>h _ rfl)
 fun _ h=>h _ rfl)
 fun _ h=>h _ rfl)
 fun _ h=>h _ rfl)
 fun _ h=>h _ rfl)
 fun _ h=>h _ rfl
def q12_C (v:valsA q12_A) (K:Res→List Cell→Prop):Prop:=∀ r:Bool,r=q12_F v.1 v.2.1→K (.one (.v .bool r)) []
def q12_S:App:=specW q12_A q12_C
theorem q12_wv (K:Res→List Cell→Prop):∀ v:valsA q12_A,runF tb (getG q12_G) [] Tryz.f45 [true] (mkA q12_A v) K=q12_raw v.1 v.2.1 K
  | (a0,b1,())=>by kernel_rfl
theorem q12_ok:AppOk Tryz.prog 45 q12_S:=
  AppOk.specW (spec_ok ((runF_ok tb_M tb_ok q12_Gok (LabsOk.nil) (f:=45) (fn:=Tryz.f45) (by kernel_rfl) (by kernel_rfl) (by kernel_rfl) [true])) fun v K hw h=>(q12_wv K v).mpr (q12_sp v.1 v.2.1 K hw h))

def q57_G:List (Nat×App):=[(45,q12_S)]
theorem q57_Gok:GOk Tryz.prog (getG q57_G):=GOk.cons q12_ok (GOk.nil)
def q57_raw (a0:tEx) (b1:tEx) (K:Res→List Cell→Prop):Prop:=
 ∀ (r1:Bool),r1=q12_F a0.1 b1.1→(
 wB r1→(
 bif r1 then
 ∀ (r2:Bool),r2=q12_F a0.2.1 b1.2.1→(
 wB r2→(
 bif r2 then
 bif (a0.2.2.1 == b1.2.2.1) then
 bif (decide (a0.2.2.2.1=b1.2.2.2.1)) then
 ∀ (r3:Bool),r3=q12_F a0.2.2.2.2.1 b1.2.2.2.2.1→(
 wB r3→(
 bif r3 then
 bif (decide (a0.2.2.2.2.2.1=b1.2.2.2.2.2.1)) then
 bif (decide (a0.2.2.2.2.2.2.1=b1.2.2.2.2.2.2.1)) then
 bif (decide (a0.2.2.2.2.2.2.2.1=b1.2.2.2.2.2.2.2.1)) then
 bif (decide (a0.2.2.2.2.2.2.2.2.1=b1.2.2.2.2.2.2.2.2.1)) then
 K (.one (.v .bool (a0.2.2.2.2.2.2.2.2.2 == b1.2.2.2.2.2.2.2.2.2))) []
 else
 K (.one (.v .bool false)) []
 else
 K (.one (.v .bool false)) []
 else
 K (.one (.v .bool false)) []
 else
 K (.one (.v .bool false)) []
 else
 K (.one (.v .bool false)) []))
 else
 K (.one (.v .bool false)) []
 else
 K (.one (.v .bool false)) []
 else
 K (.one (.v .bool false)) []))
 else
 K (.one (.v .bool false)) []))
def q57_A:List AS:=[.v tyX,.v tyX]

def q57_F (a0:tEx) (b1:tEx):Bool:=
 let r1:Bool:=q12_F a0.1 b1.1
 bif r1 then
 let r2:Bool:=q12_F a0.2.1 b1.2.1
 bif r2 then
 bif (a0.2.2.1 == b1.2.2.1) then
 bif (decide (a0.2.2.2.1=b1.2.2.2.1)) then
 let r3:Bool:=q12_F a0.2.2.2.2.1 b1.2.2.2.2.1
 bif r3 then
 bif (decide (a0.2.2.2.2.2.1=b1.2.2.2.2.2.1)) then
 bif (decide (a0.2.2.2.2.2.2.1=b1.2.2.2.2.2.2.1)) then
 bif (decide (a0.2.2.2.2.2.2.2.1=b1.2.2.2.2.2.2.2.1)) then
 bif (decide (a0.2.2.2.2.2.2.2.2.1=b1.2.2.2.2.2.2.2.2.1)) then
 (a0.2.2.2.2.2.2.2.2.2 == b1.2.2.2.2.2.2.2.2.2)
 else
 false
 else
 false
 else
 false
 else
 false
 else
 false
 else
 false
 else
 false
 else
 false
 else
 false
theorem q57_sp (a0:tEx) (b1:tEx) (K:Res→List Cell→Prop) (_:wfA q57_A (a0,b1,())) (h:∀ r:Bool,r=q57_F a0 b1→K (.one (.v .bool r)) []):q57_raw a0 b1 K:=
 al (br0 h (fun _ h=>al (br0 h (fun _ h=>br0 h (fun _ h=>br0 h (fun _ h=>al (br0 h (fun _ h=>br0 h (fun _ h=>br0 h (fun _ h=>br0 h (fun _ h=>br0 h (fun _ h=>h _ rfl)
 fun _ h=>h _ rfl)
 fun _ h=>h _ rfl)
 fun _ h=>h _ rfl)
 fun _ h=>h _ rfl)
 fun _ h=>h _ rfl))
 fun _ h=>h _ rfl)
 fun _ h=>h _ rfl)
 fun _ h=>h _ rfl))
 fun _ h=>h _ rfl)
def q57_C (v:valsA q57_A) (K:Res→List Cell→Prop):Prop:=∀ r:Bool,r=q57_F v.1 v.2.1→K (.one (.v .bool r)) []
def q57_S:App:=specW q57_A q57_C
theorem q57_wv (K:Res→List Cell→Prop):∀ v:valsA q57_A,runF tb (getG q57_G) [] Tryz.f14 [true] (mkA q57_A v) K=q57_raw v.1 v.2.1 K
  | (a0,b1,())=>by kernel_rfl
theorem q57_ok:AppOk Tryz.prog 14 q57_S:=
  AppOk.specW (spec_ok ((runF_ok tb_M tb_ok q57_Gok (LabsOk.nil) (f:=14) (fn:=Tryz.f14) (by kernel_rfl) (by kernel_rfl) (by kernel_rfl) [true])) fun v K hw h=>(q57_wv K v).mpr (q57_sp v.1 v.2.1 K hw h))

end Go.VE
namespace Go.VE
theorem sameA_x (a b:Adr):q31_F a b=true↔a=b:=by
  obtain ⟨a1,a2,a3,a4,a5,a6⟩:=a
  obtain ⟨b1,b2,b3,b4,b5,b6⟩:=b
  simp [q31_F,q86_F,Prod.mk.injEq]
theorem same_x (x y:ExD):q87_F x y=true↔x=y:=by
  obtain ⟨a1,a2,a3,a4,a5,a6,a7,a8,a9,a10⟩:=x
  obtain ⟨b1,b2,b3,b4,b5,b6,b7,b8,b9,b10⟩:=y
  simp [q87_F,sameA_x,q86_F,Prod.mk.injEq]
theorem sameA_r (a b:Adr):q12_F a b=true↔a=b:=by
  obtain ⟨a1,a2,a3,a4,a5,a6⟩:=a
  obtain ⟨b1,b2,b3,b4,b5,b6⟩:=b
  simp [q12_F,Prod.mk.injEq]
theorem same_r (x y:ExD):q57_F x y=true↔x=y:=by
  obtain ⟨a1,a2,a3,a4,a5,a6,a7,a8,a9,a10⟩:=x
  obtain ⟨b1,b2,b3,b4,b5,b6,b7,b8,b9,b10⟩:=y
  simp [q57_F,sameA_r,Prod.mk.injEq]
end Go.VE
namespace Go.VE
set_option maxRecDepth 20000
open Go Go.Proofs
def q98_G:List (Nat×App):=[]
theorem q98_Gok:GOk Tryz.prog (getG q98_G):=GOk.nil
def q98_raw (t0:LI) (at1:Int) (K:Res→List Cell→Prop):Prop:=
 bif (decide ((0:Int)≤at1)) then
 K (.one (.v .bool (decide (at1≤(List.length t0:Int))))) []
 else
 K (.one (.v .bool false)) []
def q98_A:List AS:=[.v yB,.v yI]

def q98_F (t0:LI) (at1:Int):Bool:=
 bif (decide ((0:Int)≤at1)) then
 (decide (at1≤(List.length t0:Int)))
 else
 false
theorem q98_sp (t0:LI) (at1:Int) (K:Res→List Cell→Prop) (_:wfA q98_A (t0,at1,())) (h:∀ r:Bool,r=q98_F t0 at1→K (.one (.v .bool r)) []):q98_raw t0 at1 K:=
 br0 h (fun _ h=>h _ rfl)
 fun _ h=>h _ rfl
def q98_C (v:valsA q98_A) (K:Res→List Cell→Prop):Prop:=∀ r:Bool,r=q98_F v.1 v.2.1→K (.one (.v .bool r)) []
def q98_S:App:=specW q98_A q98_C
theorem q98_wv (K:Res→List Cell→Prop):∀ v:valsA q98_A,runF tb (getG q98_G) [] Tryz.f68 [true] (mkA q98_A v) K=q98_raw v.1 v.2.1 K
  | (t0,at1,())=>by kernel_rfl
theorem q98_ok:AppOk Tryz.prog 68 q98_S:=
  AppOk.specW (spec_ok ((runF_ok tb_M tb_ok q98_Gok (LabsOk.nil) (f:=68) (fn:=Tryz.f68) (by kernel_rfl) (by kernel_rfl) (by kernel_rfl) [true])) fun v K hw h=>(q98_wv K v).mpr (q98_sp v.1 v.2.1 K hw h))

end Go.VE
namespace Go.VE
open Go Go.Proofs
def q13_A:List AS:=[]
def q13_S:App:=specW q13_A fun _ _=>False
theorem q13_ok:AppOk Tryz.prog 129 q13_S:=AppOk.never
def q14_F (xs:LI) (c:Int):Int:=(List.count c xs:Int)
def q14_S:App:=specW sliceByte_A fun v K=>∀ r:Int,r=q14_F v.1 v.2.1→K (.one (.v yI r)) []
theorem q14_ok:AppOk Tryz.prog 130 q14_S:=
  ext_count (fn:=Tryz.f130) (by kernel_rfl) (by kernel_rfl) (by kernel_rfl) (by kernel_rfl) (by kernel_rfl)

def q88_A:List AS:=[]
def q88_S:App:=specW q88_A fun _ _=>False
theorem q88_ok:AppOk Tryz.prog 131 q88_S:=AppOk.never
end Go.VE
namespace Go.VE
set_option maxRecDepth 20000
open Go Go.Proofs
def q89_G:List (Nat×App):=[(129,q13_S),(130,q14_S),(131,q88_S)]
theorem q89_Gok:GOk Tryz.prog (getG q89_G):=GOk.cons q13_ok (GOk.cons q14_ok (GOk.cons q88_ok (GOk.nil)))
theorem q89_st:storesC (bodyOf Tryz.f69)=true:=by kernel_rfl
def q89_d0:List LS:=[.v 0 yB,.v 1 yB,.v 5 yI]
def q89_dx0:DX:=⟨none,none,[]⟩
def q89_T0 (Y:LI→LI→Int→Prop)  (s0:LI) (sep1:LI) (n5:Int):Prop:=
 False
def q89_L0:Nat→LI→LI→Int→Prop
  | 0,_,_,_=>False
  | n+1,s0,sep1,n5=>wfD q89_d0 (s0,sep1,n5,())→q89_T0 (q89_L0  n)  s0 sep1 n5
def q89_c0:Pce:=ex tb (getG q89_G) [] (at' (bodyOf Tryz.f69) [0,0,1,1,1,1]) [0,0,1,1,1,1]
def q89_g0 (k:Ex→St→Prop) (n:Nat) (v:vals q89_d0):Prop:=q89_L0  n v.1 v.2.1 v.2.2.1
theorem q89_s0 (k:Ex→St→Prop) (Y:vals q89_d0→Prop):∀ v:vals q89_d0,q89_c0 (mkD 35 q89_d0 v) (lpK 35 q89_d0 q89_dx0 k Y)=q89_T0 (fun s0 sep1 n5=>Y (s0,sep1,n5,()))  v.1 v.2.1 v.2.2.1
  | (s0,sep1,n5,())=>by kernel_rfl
theorem q89_v0 (k:Ex→St→Prop):∀ (n:Nat) (v:vals q89_d0),lpD 35 q89_d0 q89_dx0 q89_c0 k n v=q89_g0 k n v
  | 0,(s0,sep1,n5,())=>rfl
  | n+1,(s0,sep1,n5,())=>congrArg (fun Z:Prop=>wfD q89_d0 (s0,sep1,n5,())→Z) ((q89_s0 k _ (s0,sep1,n5,())).trans (congrArg (fun Y=>q89_T0 Y  s0 sep1 n5) (funext fun s0=>funext fun sep1=>funext fun n5=>q89_v0 k n (s0,sep1,n5,()))))
def q89_X0:Pce:=fun st k=>ckD 35 q89_d0 st fun v=>wfD q89_d0 v→∃ n,q89_g0 k n v
theorem q89_x0:SemOk Tryz.prog (at' (bodyOf Tryz.f69) [0,1,1,1,1]) q89_X0:=
  (SemOk.loop (ex_sound tb_M tb_ok q89_Gok (LabsOk.nil) (at' (bodyOf Tryz.f69) [0,0,1,1,1,1]) [0,0,1,1,1,1] rfl (storesC_at q89_st [0,0,1,1,1,1])) 35 q89_d0 q89_dx0).mono fun st k h=>ckD_mono h fun v hv hw=>(hv hw).elim fun n hn=>⟨n,Eq.mpr (q89_v0 k n v) hn⟩
def q89_B0:Labs:=([0,1,1,1,1],q89_X0)::[]
theorem q89_b0:LabsOk Tryz.prog (bodyOf Tryz.f69) q89_B0:=LabsOk.cons q89_x0 (LabsOk.nil)
def q89_raw (s0:LI) (sep1:LI) (K:Res→List Cell→Prop):Prop:=
 bif (decide ((List.length sep1:Int)=(0:Int))) then
 False
 else
 bif (decide ((List.length sep1:Int)=(1:Int))) then
 bif decide (0≤(0:Int)∧(0:Int)<(List.length sep1:Int)) then
 ∀ (r1:Int),r1=q14_F s0 (rd (0:Int) sep1 (0:Int))→(
 wI r1→(
 K (.one (.v yI r1)) []))
 else False
 else
 (wfD q89_d0 (s0,sep1,(0:Int),())→∃ n,q89_L0  n s0 sep1 (0:Int))
def q89_A:List AS:=[.v yB,.v yB]
def q89_P (_ sep:LI):Prop:=sep.length=1
def q89_F (s sep:LI):Int:=(List.count (rd (0:Int) sep 0) s:Int)
theorem q89_sp (s sep:LI) (K:Res→List Cell→Prop) (_:wfA q89_A (s,sep,())) (hp:q89_P s sep) (h:∀ r:Int,r=q89_F s sep→K (.one (.v yI r)) []):q89_raw s sep K:=by
  unfold q89_P at hp
  unfold q89_raw
  exact brn (fun h0=>by omega) (fun _=>brn (fun _=>asrt (by omega) fun r hr _=>h r hr) (fun h1=>absurd (by omega) h1))

def q89_C (v:valsA q89_A) (K:Res→List Cell→Prop):Prop:=q89_P v.1 v.2.1∧∀ r:Int,r=q89_F v.1 v.2.1→K (.one (.v yI r)) []
def q89_S:App:=specW q89_A q89_C
theorem q89_wv (K:Res→List Cell→Prop):∀ v:valsA q89_A,runF tb (getG q89_G) q89_B0 Tryz.f69 [true] (mkA q89_A v) K=q89_raw v.1 v.2.1 K
  | (s0,sep1,())=>by kernel_rfl
theorem q89_ok:AppOk Tryz.prog 69 q89_S:=
  AppOk.specW (spec_ok ((runF_ok tb_M tb_ok q89_Gok (q89_b0) (f:=69) (fn:=Tryz.f69) (by kernel_rfl) (by kernel_rfl) q89_st [true])) fun v K hw h=>(q89_wv K v).mpr (q89_sp v.1 v.2.1 K hw h.1 h.2))

def q101_G:List (Nat×App):=[(68,q98_S),(69,q89_S)]
theorem q101_Gok:GOk Tryz.prog (getG q101_G):=GOk.cons q98_ok (GOk.cons q89_ok (GOk.nil))
def q101_raw (t0:LI) (at1:Int) (K:Res→List Cell→Prop):Prop:=
 ∀ (r1:Bool),r1=q98_F t0 at1→(
 wB r1→(
 bif (!r1) then
 K (.tup [.v yI (0:Int),.v yI (2:Int)]) []
 else
 bif decide (0≤at1∧at1≤(List.length t0:Int)) then
 q89_P (List.take (Int.toNat at1) t0) ([(10:Int)]:LI)∧(
 ∀ (r2:Int),r2=q89_F (List.take (Int.toNat at1) t0) ([(10:Int)]:LI)→(
 wI r2→(
 K (.tup [.v yI r2,.v yI (0:Int)]) [])))
 else False))
def q101_A:List AS:=[.v yB,.v yI]

def q101_P (t0:LI) (at1:Int):Prop:=
 let r1:Bool:=q98_F t0 at1
 bif (!r1) then
 True
 else
 (0≤at1∧at1≤(List.length t0:Int))∧(
 q89_P (List.take (Int.toNat at1) t0) ([(10:Int)]:LI))
def q101_F (t0:LI) (at1:Int):Int×Int:=
 let r1:Bool:=q98_F t0 at1
 bif (!r1) then
 ((0:Int),(2:Int))
 else
 let r2:Int:=q89_F (List.take (Int.toNat at1) t0) ([(10:Int)]:LI)
 (r2,(0:Int))
theorem q101_sp (t0:LI) (at1:Int) (K:Res→List Cell→Prop) (_:wfA q101_A (t0,at1,())) (hp:q101_P t0 at1) (h:∀ r:Int×Int,r=q101_F t0 at1→K (.tup [.v yI r.1,.v yI r.2]) []):q101_raw t0 at1 K:=
 al (br1 hp h (fun _ hp h=>h _ rfl)
 fun _ hp h=>as1 hp fun hp=>⟨hp,al (h _ rfl)⟩)
def q101_C (v:valsA q101_A) (K:Res→List Cell→Prop):Prop:=q101_P v.1 v.2.1∧∀ r:Int×Int,r=q101_F v.1 v.2.1→K (.tup [.v yI r.1,.v yI r.2]) []
def q101_S:App:=specW q101_A q101_C
theorem q101_wv (K:Res→List Cell→Prop):∀ v:valsA q101_A,runF tb (getG q101_G) [] Tryz.f24 [true,true] (mkA q101_A v) K=q101_raw v.1 v.2.1 K
  | (t0,at1,())=>by kernel_rfl
theorem q101_ok:AppOk Tryz.prog 24 q101_S:=
  AppOk.specW (spec_ok ((runF_ok tb_M tb_ok q101_Gok (LabsOk.nil) (f:=24) (fn:=Tryz.f24) (by kernel_rfl) (by kernel_rfl) (by kernel_rfl) [true,true])) fun v K hw h=>(q101_wv K v).mpr (q101_sp v.1 v.2.1 K hw h.1 h.2))
theorem q101_any (t:LI) (p:Int):q101_P t p:=by
  unfold q101_P q98_F q89_P
  dsimp only
  by_cases h1:0≤p <;> by_cases h2:p≤t.length <;> simp [h1,h2]

def q58_G:List (Nat×App):=[]
theorem q58_Gok:GOk Tryz.prog (getG q58_G):=GOk.nil
def q58_raw (x0:Int) (y1:Int) (K:Res→List Cell→Prop):Prop:=
 K (.tup [.v (.int .u64) (IntKind.wrap .u64 ((IntKind.wrap .u64 ((IntKind.wrap .u64 ((Int.fdiv x0 (2 ^ (min (Int.toNat (32:Int)) (IntKind.bits .u64)))) * (Int.fdiv y1 (2 ^ (min (Int.toNat (32:Int)) (IntKind.bits .u64))))))+(Int.fdiv (IntKind.wrap .u64 ((IntKind.wrap .u64 ((Int.fdiv x0 (2 ^ (min (Int.toNat (32:Int)) (IntKind.bits .u64)))) * (ibits .and .u64 y1 (4294967295:Int))))+(Int.fdiv (IntKind.wrap .u64 ((ibits .and .u64 x0 (4294967295:Int)) * (ibits .and .u64 y1 (4294967295:Int)))) (2 ^ (min (Int.toNat (32:Int)) (IntKind.bits .u64)))))) (2 ^ (min (Int.toNat (32:Int)) (IntKind.bits .u64))))))+(Int.fdiv (IntKind.wrap .u64 ((ibits .and .u64 (IntKind.wrap .u64 ((IntKind.wrap .u64 ((Int.fdiv x0 (2 ^ (min (Int.toNat (32:Int)) (IntKind.bits .u64)))) * (ibits .and .u64 y1 (4294967295:Int))))+(Int.fdiv (IntKind.wrap .u64 ((ibits .and .u64 x0 (4294967295:Int)) * (ibits .and .u64 y1 (4294967295:Int)))) (2 ^ (min (Int.toNat (32:Int)) (IntKind.bits .u64)))))) (4294967295:Int))+(IntKind.wrap .u64 ((ibits .and .u64 x0 (4294967295:Int)) * (Int.fdiv y1 (2 ^ (min (Int.toNat (32:Int)) (IntKind.bits .u64)))))))) (2 ^ (min (Int.toNat (32:Int)) (IntKind.bits .u64)))))),.v (.int .u64) (IntKind.wrap .u64 (x0 * y1))]) []
def q58_A:List AS:=[.v (.int .u64),.v (.int .u64)]

def q58_F (x0:Int) (y1:Int):Int×Int:=
 ((IntKind.wrap .u64 ((IntKind.wrap .u64 ((IntKind.wrap .u64 ((Int.fdiv x0 (2 ^ (min (Int.toNat (32:Int)) (IntKind.bits .u64)))) * (Int.fdiv y1 (2 ^ (min (Int.toNat (32:Int)) (IntKind.bits .u64))))))+(Int.fdiv (IntKind.wrap .u64 ((IntKind.wrap .u64 ((Int.fdiv x0 (2 ^ (min (Int.toNat (32:Int)) (IntKind.bits .u64)))) * (ibits .and .u64 y1 (4294967295:Int))))+(Int.fdiv (IntKind.wrap .u64 ((ibits .and .u64 x0 (4294967295:Int)) * (ibits .and .u64 y1 (4294967295:Int)))) (2 ^ (min (Int.toNat (32:Int)) (IntKind.bits .u64)))))) (2 ^ (min (Int.toNat (32:Int)) (IntKind.bits .u64))))))+(Int.fdiv (IntKind.wrap .u64 ((ibits .and .u64 (IntKind.wrap .u64 ((IntKind.wrap .u64 ((Int.fdiv x0 (2 ^ (min (Int.toNat (32:Int)) (IntKind.bits .u64)))) * (ibits .and .u64 y1 (4294967295:Int))))+(Int.fdiv (IntKind.wrap .u64 ((ibits .and .u64 x0 (4294967295:Int)) * (ibits .and .u64 y1 (4294967295:Int)))) (2 ^ (min (Int.toNat (32:Int)) (IntKind.bits .u64)))))) (4294967295:Int))+(IntKind.wrap .u64 ((ibits .and .u64 x0 (4294967295:Int)) * (Int.fdiv y1 (2 ^ (min (Int.toNat (32:Int)) (IntKind.bits .u64)))))))) (2 ^ (min (Int.toNat (32:Int)) (IntKind.bits .u64)))))),(IntKind.wrap .u64 (x0 * y1)))
theorem q58_sp (x0:Int) (y1:Int) (K:Res→List Cell→Prop) (_:wfA q58_A (x0,y1,())) (h:∀ r:Int×Int,r=q58_F x0 y1→K (.tup [.v (.int .u64) r.1,.v (.int .u64) r.2]) []):q58_raw x0 y1 K:=
 h _ rfl
def q58_C (v:valsA q58_A) (K:Res→List Cell→Prop):Prop:=∀ r:Int×Int,r=q58_F v.1 v.2.1→K (.tup [.v (.int .u64) r.1,.v (.int .u64) r.2]) []
def q58_S:App:=specW q58_A q58_C
theorem q58_wv (K:Res→List Cell→Prop):∀ v:valsA q58_A,runF tb (getG q58_G) [] Tryz.f142 [true,true] (mkA q58_A v) K=q58_raw v.1 v.2.1 K
  | (x0,y1,())=>by kernel_rfl
theorem q58_ok:AppOk Tryz.prog 142 q58_S:=
  AppOk.specW (spec_ok ((runF_ok tb_M tb_ok q58_Gok (LabsOk.nil) (f:=142) (fn:=Tryz.f142) (by kernel_rfl) (by kernel_rfl) (by kernel_rfl) [true,true])) fun v K hw h=>(q58_wv K v).mpr (q58_sp v.1 v.2.1 K hw h))
theorem and_mask {a:Int} (h0:0≤a) (h1:a<18446744073709551616):ibits .and .u64 a (4294967295:Int)=a % 4294967296:=by
  obtain ⟨n,rfl⟩:=Int.eq_ofNat_of_zero_le h0
  have hn:n<18446744073709551616:=by omega
  have e:(BitVec.ofInt 64 (n:Int) &&& BitVec.ofInt 64 4294967295).toNat=n % 4294967296:=by
    rw [BitVec.toNat_and]
    have e1:(BitVec.ofInt 64 (n:Int)).toNat=n:=by rw [BitVec.ofInt_natCast,BitVec.toNat_ofNat]; exact Nat.mod_eq_of_lt hn
    have e2:(BitVec.ofInt 64 4294967295).toNat=2 ^ 32 - 1:=by decide
    rw [e1,e2,Nat.and_two_pow_sub_one_eq_mod]
  show IntKind.wrap .u64 ((BitVec.ofInt 64 (n:Int) &&& BitVec.ofInt 64 4294967295).toNat:Int)=_
  rw [e,wrap_u64 (by omega) (by omega)]
  omega
theorem shr32 (a:Int):Int.fdiv a (2 ^ (min (Int.toNat (32:Int)) (IntKind.bits .u64)))=a / 4294967296:=by
  have e:(2 ^ (min (Int.toNat (32:Int)) (IntKind.bits .u64)):Int)=4294967296:=by decide
  rw [e,Int.fdiv_eq_ediv_of_nonneg _ (by omega)]
theorem mul_small {a b:Int} (ha:0≤a) (ha':a<4294967296) (hb:0≤b) (hb':b<4294967296):q58_F a b=(0,a * b):=by
  have hab:0≤a * b:=Int.mul_nonneg ha hb
  have hab':a * b≤4294967295 * 4294967295:=Int.le_trans (Int.mul_le_mul_of_nonneg_right (by omega) hb) (Int.mul_le_mul_of_nonneg_left (by omega) (by omega))
  unfold q58_F
  simp only [shr32]
  have e1:a / 4294967296=0:=by omega
  have e2:b / 4294967296=0:=by omega
  have e3:ibits .and .u64 a (4294967295:Int)=a:=by rw [and_mask ha (by omega)]; omega
  have e4:ibits .and .u64 b (4294967295:Int)=b:=by rw [and_mask hb (by omega)]; omega
  rw [e1,e2,e3,e4,wrap_u64 (n:=a * b) hab (by omega)]
  have e5:IntKind.wrap .u64 (0 * b)=0:=by rw [Int.zero_mul]; exact wrap_u64 (by omega) (by omega)
  have e6:IntKind.wrap .u64 (a * 0)=0:=by rw [Int.mul_zero]; exact wrap_u64 (by omega) (by omega)
  have e7:IntKind.wrap .u64 (0 * 0)=0:=by rw [Int.mul_zero]; exact wrap_u64 (by omega) (by omega)
  rw [e5,e6,e7]
  simp only [Int.zero_add,Int.add_zero]
  rw [wrap_u64 (n:=a * b / 4294967296) (by omega) (by omega),and_mask (by omega) (by omega)]
  have e8:a * b / 4294967296 / 4294967296=0:=by omega
  have e9:a * b / 4294967296 % 4294967296 / 4294967296=0:=by omega
  rw [e8,wrap_u64 (n:=a * b / 4294967296 % 4294967296) (by omega) (by omega),wrap_u64 (n:=(0:Int)) (by omega) (by omega),e9,wrap_u64 (by omega) (by omega)]
  rfl

def q72_G:List (Nat×App):=[(142,q58_S)]
theorem q72_Gok:GOk Tryz.prog (getG q72_G):=GOk.cons q58_ok (GOk.nil)
def q72_raw (x0:Int) (y1:Int) (K:Res→List Cell→Prop):Prop:=
 ∀ (r1:Int×Int),r1=q58_F x0 y1→(
 wfR (.tup [.v (.int .u64) r1.1,.v (.int .u64) r1.2])→(
 K (.tup [.v (.int .u64) r1.1,.v (.int .u64) r1.2]) []))
def q72_A:List AS:=[.v (.int .u64),.v (.int .u64)]

def q72_F (x0:Int) (y1:Int):Int×Int:=
 let r1:Int×Int:=q58_F x0 y1
 (r1.1,r1.2)
theorem q72_sp (x0:Int) (y1:Int) (K:Res→List Cell→Prop) (_:wfA q72_A (x0,y1,())) (h:∀ r:Int×Int,r=q72_F x0 y1→K (.tup [.v (.int .u64) r.1,.v (.int .u64) r.2]) []):q72_raw x0 y1 K:=
 al (h _ rfl)
def q72_C (v:valsA q72_A) (K:Res→List Cell→Prop):Prop:=∀ r:Int×Int,r=q72_F v.1 v.2.1→K (.tup [.v (.int .u64) r.1,.v (.int .u64) r.2]) []
def q72_S:App:=specW q72_A q72_C
theorem q72_wv (K:Res→List Cell→Prop):∀ v:valsA q72_A,runF tb (getG q72_G) [] Tryz.f92 [true,true] (mkA q72_A v) K=q72_raw v.1 v.2.1 K
  | (x0,y1,())=>by kernel_rfl
theorem q72_ok:AppOk Tryz.prog 92 q72_S:=
  AppOk.specW (spec_ok ((runF_ok tb_M tb_ok q72_Gok (LabsOk.nil) (f:=92) (fn:=Tryz.f92) (by kernel_rfl) (by kernel_rfl) (by kernel_rfl) [true,true])) fun v K hw h=>(q72_wv K v).mpr (q72_sp v.1 v.2.1 K hw h))

end Go.VE
namespace Go.VE
open Go Go.Proofs
def q3_P (n:Int):Prop:=room_P n
def q3_R (n:Int) (r:LI):Prop:=room_R n r
def q3_S:App:=specW [.v yI] fun v K=>q3_P v.1∧∀ r:LI,q3_R v.1 r→K (.one (.fr 5 yU r)) []
theorem q3_ok:AppOk Tryz.prog 93 q3_S:=
  ext_room tb_ok (t:=22) (ps:=#[3]) (fn:=Tryz.f93) rfl rfl (by kernel_rfl) (by kernel_rfl) (by kernel_rfl) (by kernel_rfl) (by kernel_rfl) rfl

end Go.VE
namespace Go.VE
set_option maxRecDepth 20000
open Go Go.Proofs
def q76_G:List (Nat×App):=[(92,q72_S),(93,q3_S)]
theorem q76_Gok:GOk Tryz.prog (getG q76_G):=GOk.cons q72_ok (GOk.cons q3_ok (GOk.nil))
theorem q76_st:storesC (bodyOf Tryz.f49)=true:=by kernel_rfl
def q76_d0:List LS:=[.v 7 yI,.v 8 yI,.o 9 77 5 yU,.v 10 yI]
def q76_d0x0:List LS:=[.o 9 77 5 yU]
def q76_dx0:DX:=⟨none,none,[(0,q76_d0x0)]⟩
def q76_y0x0 (k:Ex→St→Prop) (nb9:LI):Prop:=wfD q76_d0x0 (nb9,())→k (.exit 0) (mkD 77 q76_d0x0 (nb9,()))
def q76_T0 (Y:Int→Int→LI→Int→Prop) (kx0:LI→Prop) (n7:Int) (chunkMax8:Int) (nb9:LI) (bp10:Int):Prop:=
 bif (decide (bp10<n7)) then
 (
 bif decide (0≤bp10∧bp10≤(List.length nb9:Int)) then
 bif decide (0≤(mn bp10 chunkMax8)∧(mn bp10 chunkMax8)≤(List.length nb9:Int)) then
 Y n7 chunkMax8 (ovr (Int.toNat bp10) (List.take (List.length (List.drop (Int.toNat bp10) nb9)) (List.take (Int.toNat (mn bp10 chunkMax8)) nb9)) nb9) (IntKind.wrap .i64 (bp10+(mn (List.length (List.take (Int.toNat (mn bp10 chunkMax8)) nb9):Int) (List.length (List.drop (Int.toNat bp10) nb9):Int))))
 else False
 else False)∧(
 bif decide (0≤(mn bp10 chunkMax8)∧(mn bp10 chunkMax8)≤(List.length nb9:Int)) then
 bif decide (0≤bp10∧bp10≤(List.length nb9:Int)) then
 Y n7 chunkMax8 (ovr (Int.toNat bp10) (List.take (List.length (List.drop (Int.toNat bp10) nb9)) (List.take (Int.toNat (mn bp10 chunkMax8)) nb9)) nb9) (IntKind.wrap .i64 (bp10+(mn (List.length (List.take (Int.toNat (mn bp10 chunkMax8)) nb9):Int) (List.length (List.drop (Int.toNat bp10) nb9):Int))))
 else False
 else False)∧True
 else
 kx0 nb9
def q76_L0 (kx0:LI→Prop):Nat→Int→Int→LI→Int→Prop
  | 0,_,_,_,_=>False
  | n+1,n7,chunkMax8,nb9,bp10=>wfD q76_d0 (n7,chunkMax8,nb9,bp10,())→q76_T0 (q76_L0 kx0 n) kx0 n7 chunkMax8 nb9 bp10
def q76_c0:Pce:=ex tb (getG q76_G) [] (at' (bodyOf Tryz.f49) [0,0,0,1,1,1,1,1,1,1,1,1,1,1]) [0,0,0,1,1,1,1,1,1,1,1,1,1,1]
def q76_g0 (k:Ex→St→Prop) (n:Nat) (v:vals q76_d0):Prop:=q76_L0 (q76_y0x0 k) n v.1 v.2.1 v.2.2.1 v.2.2.2.1
theorem q76_s0 (k:Ex→St→Prop) (Y:vals q76_d0→Prop):∀ v:vals q76_d0,q76_c0 (mkD 77 q76_d0 v) (lpK 77 q76_d0 q76_dx0 k Y)=q76_T0 (fun n7 chunkMax8 nb9 bp10=>Y (n7,chunkMax8,nb9,bp10,())) (q76_y0x0 k) v.1 v.2.1 v.2.2.1 v.2.2.2.1
  | (n7,chunkMax8,nb9,bp10,())=>by kernel_rfl
theorem q76_v0 (k:Ex→St→Prop):∀ (n:Nat) (v:vals q76_d0),lpD 77 q76_d0 q76_dx0 q76_c0 k n v=q76_g0 k n v
  | 0,(n7,chunkMax8,nb9,bp10,())=>rfl
  | n+1,(n7,chunkMax8,nb9,bp10,())=>congrArg (fun Z:Prop=>wfD q76_d0 (n7,chunkMax8,nb9,bp10,())→Z) ((q76_s0 k _ (n7,chunkMax8,nb9,bp10,())).trans (congrArg (fun Y=>q76_T0 Y (q76_y0x0 k) n7 chunkMax8 nb9 bp10) (funext fun n7=>funext fun chunkMax8=>funext fun nb9=>funext fun bp10=>q76_v0 k n (n7,chunkMax8,nb9,bp10,()))))
def q76_X0:Pce:=fun st k=>ckD 77 q76_d0 st fun v=>wfD q76_d0 v→∃ n,q76_g0 k n v
theorem q76_x0:SemOk Tryz.prog (at' (bodyOf Tryz.f49) [0,0,1,1,1,1,1,1,1,1,1,1,1]) q76_X0:=
  (SemOk.loop (ex_sound tb_M tb_ok q76_Gok (LabsOk.nil) (at' (bodyOf Tryz.f49) [0,0,0,1,1,1,1,1,1,1,1,1,1,1]) [0,0,0,1,1,1,1,1,1,1,1,1,1,1] rfl (storesC_at q76_st [0,0,0,1,1,1,1,1,1,1,1,1,1,1])) 77 q76_d0 q76_dx0).mono fun st k h=>ckD_mono h fun v hv hw=>(hv hw).elim fun n hn=>⟨n,Eq.mpr (q76_v0 k n v) hn⟩
def q76_B0:Labs:=([0,0,1,1,1,1,1,1,1,1,1,1,1],q76_X0)::[]
theorem q76_b0:LabsOk Tryz.prog (bodyOf Tryz.f49) q76_B0:=LabsOk.cons q76_x0 (LabsOk.nil)
def q76_d1:List LS:=[.v 0 yB,.v 7 yI,.v 8 yI]
def q76_d1r:List LS:=[.o 4 37 5 yU]
def q76_dx1:DX:=⟨none,some q76_d1r,[]⟩
def q76_y1r (k:Ex→St→Prop) (x4:LI):Prop:=wfD q76_d1r (x4,())→k .ret (mkD 77 q76_d1r (x4,()))
def q76_J1 (kr:LI→Prop) (b0:LI) (n7:Int) (chunkMax8:Int):Prop:=
 q3_P n7∧(
 ∀ (r2:LI),q3_R n7 r2→(
 wfR (.one (.fr 5 yU r2))→(
 bif decide (0≤n7∧n7≤n7∧n7≤(List.length r2:Int)) then
 (wfD q76_d0 (n7,chunkMax8,(ovr 0 (List.take (List.length (List.take (Int.toNat n7) r2)) b0) (List.take (Int.toNat n7) r2)),(mn (List.length b0:Int) (List.length (List.take (Int.toNat n7) r2):Int)),())→∃ n,q76_L0 (fun (nb9:LI)=>wfD q76_d0x0 (nb9,())→(
 kr nb9)) n n7 chunkMax8 (ovr 0 (List.take (List.length (List.take (Int.toNat n7) r2)) b0) (List.take (Int.toNat n7) r2)) (mn (List.length b0:Int) (List.length (List.take (Int.toNat n7) r2):Int)))
 else False)))
def q76_g1 (k:Ex→St→Prop) (v:vals q76_d1):Prop:=q76_J1 (q76_y1r k) v.1 v.2.1 v.2.2.1
theorem q76_v1 (k:Ex→St→Prop):∀ v:vals q76_d1,ex tb (getG q76_G) q76_B0 (at' (bodyOf Tryz.f49) [1,1,1,1,1,1,1,1,1]) [1,1,1,1,1,1,1,1,1] (mkD 77 q76_d1 v) (wk 77 q76_dx1 k)=q76_g1 k v
  | (b0,n7,chunkMax8,())=>by kernel_rfl
def q76_X1:Pce:=fun st k=>ckD 77 q76_d1 st fun v=>wfD q76_d1 v→q76_g1 k v
theorem q76_x1:SemOk Tryz.prog (at' (bodyOf Tryz.f49) [1,1,1,1,1,1,1,1,1]) q76_X1:=
  (SemOk.wk (N:=77) (ds:=q76_d1) (dx:=q76_dx1) (ex_sound tb_M tb_ok q76_Gok (q76_b0) (at' (bodyOf Tryz.f49) [1,1,1,1,1,1,1,1,1]) [1,1,1,1,1,1,1,1,1] rfl (storesC_at q76_st [1,1,1,1,1,1,1,1,1]))).mono fun st k h=>ckD_mono h fun v hv hw=>Eq.mpr (q76_v1 k v) (hv hw)
def q76_B1:Labs:=([1,1,1,1,1,1,1,1,1],q76_X1)::q76_B0
theorem q76_b1:LabsOk Tryz.prog (bodyOf Tryz.f49) q76_B1:=LabsOk.cons q76_x1 (q76_b0)
def q76_d2:List LS:=[.v 0 yB,.v 6 (.int .u64)]
def q76_d2r:List LS:=[.o 4 37 5 yU]
def q76_dx2:DX:=⟨none,some q76_d2r,[]⟩
def q76_y2r (k:Ex→St→Prop) (x4:LI):Prop:=wfD q76_d2r (x4,())→k .ret (mkD 77 q76_d2r (x4,()))
def q76_J2 (kr:LI→Prop) (b0:LI) (lo6:Int):Prop:=
 bif (decide ((List.length b0:Int)=(0:Int))) then
 kr ([]:LI)
 else
 bif (decide ((8192:Int)<(IntKind.wrap .i64 lo6))) then
 bif decide ((List.length b0:Int)≠0) then
 bif (decide ((IntKind.wrap .i64 ((IntKind.wrap .i64 (Int.tdiv (8192:Int) (List.length b0:Int))) * (List.length b0:Int)))=(0:Int))) then
 (wfD q76_d1 (b0,(IntKind.wrap .i64 lo6),(List.length b0:Int),())→q76_J1 (fun (x4:LI)=>wfD q76_d1r (x4,())→(
 kr x4)) b0 (IntKind.wrap .i64 lo6) (List.length b0:Int))
 else
 (wfD q76_d1 (b0,(IntKind.wrap .i64 lo6),(IntKind.wrap .i64 ((IntKind.wrap .i64 (Int.tdiv (8192:Int) (List.length b0:Int))) * (List.length b0:Int))),())→q76_J1 (fun (x4:LI)=>wfD q76_d1r (x4,())→(
 kr x4)) b0 (IntKind.wrap .i64 lo6) (IntKind.wrap .i64 ((IntKind.wrap .i64 (Int.tdiv (8192:Int) (List.length b0:Int))) * (List.length b0:Int))))
 else False
 else
 (wfD q76_d1 (b0,(IntKind.wrap .i64 lo6),(IntKind.wrap .i64 lo6),())→q76_J1 (fun (x4:LI)=>wfD q76_d1r (x4,())→(
 kr x4)) b0 (IntKind.wrap .i64 lo6) (IntKind.wrap .i64 lo6))
def q76_g2 (k:Ex→St→Prop) (v:vals q76_d2):Prop:=q76_J2 (q76_y2r k) v.1 v.2.1
theorem q76_v2 (k:Ex→St→Prop):∀ v:vals q76_d2,ex tb (getG q76_G) q76_B1 (at' (bodyOf Tryz.f49) [1,1,1,1,1]) [1,1,1,1,1] (mkD 77 q76_d2 v) (wk 77 q76_dx2 k)=q76_g2 k v
  | (b0,lo6,())=>by kernel_rfl
def q76_X2:Pce:=fun st k=>ckD 77 q76_d2 st fun v=>wfD q76_d2 v→q76_g2 k v
theorem q76_x2:SemOk Tryz.prog (at' (bodyOf Tryz.f49) [1,1,1,1,1]) q76_X2:=
  (SemOk.wk (N:=77) (ds:=q76_d2) (dx:=q76_dx2) (ex_sound tb_M tb_ok q76_Gok (q76_b1) (at' (bodyOf Tryz.f49) [1,1,1,1,1]) [1,1,1,1,1] rfl (storesC_at q76_st [1,1,1,1,1]))).mono fun st k h=>ckD_mono h fun v hv hw=>Eq.mpr (q76_v2 k v) (hv hw)
def q76_B2:Labs:=([1,1,1,1,1],q76_X2)::q76_B1
theorem q76_b2:LabsOk Tryz.prog (bodyOf Tryz.f49) q76_B2:=LabsOk.cons q76_x2 (q76_b1)
def q76_d3:List LS:=[.v 0 yB,.v 1 yI]
def q76_d3r:List LS:=[.o 4 37 5 yU]
def q76_dx3:DX:=⟨none,some q76_d3r,[]⟩
def q76_y3r (k:Ex→St→Prop) (x4:LI):Prop:=wfD q76_d3r (x4,())→k .ret (mkD 77 q76_d3r (x4,()))
def q76_J3 (kr:LI→Prop) (b0:LI) (count1:Int):Prop:=
 ∀ (r1:Int×Int),r1=q72_F (IntKind.wrap .u64 (List.length b0:Int)) (IntKind.wrap .u64 count1)→(
 wfR (.tup [.v (.int .u64) r1.1,.v (.int .u64) r1.2])→(
 bif (decide ((0:Int)<r1.1)) then
 False
 else
 bif (decide ((9223372036854775807:Int)<r1.2)) then
 False
 else
 (wfD q76_d2 (b0,r1.2,())→q76_J2 (fun (x4:LI)=>wfD q76_d2r (x4,())→(
 kr x4)) b0 r1.2)))
def q76_g3 (k:Ex→St→Prop) (v:vals q76_d3):Prop:=q76_J3 (q76_y3r k) v.1 v.2.1
theorem q76_v3 (k:Ex→St→Prop):∀ v:vals q76_d3,ex tb (getG q76_G) q76_B2 (at' (bodyOf Tryz.f49) [1,1,1]) [1,1,1] (mkD 77 q76_d3 v) (wk 77 q76_dx3 k)=q76_g3 k v
  | (b0,count1,())=>by kernel_rfl
def q76_X3:Pce:=fun st k=>ckD 77 q76_d3 st fun v=>wfD q76_d3 v→q76_g3 k v
theorem q76_x3:SemOk Tryz.prog (at' (bodyOf Tryz.f49) [1,1,1]) q76_X3:=
  (SemOk.wk (N:=77) (ds:=q76_d3) (dx:=q76_dx3) (ex_sound tb_M tb_ok q76_Gok (q76_b2) (at' (bodyOf Tryz.f49) [1,1,1]) [1,1,1] rfl (storesC_at q76_st [1,1,1]))).mono fun st k h=>ckD_mono h fun v hv hw=>Eq.mpr (q76_v3 k v) (hv hw)
def q76_B3:Labs:=([1,1,1],q76_X3)::q76_B2
theorem q76_b3:LabsOk Tryz.prog (bodyOf Tryz.f49) q76_B3:=LabsOk.cons q76_x3 (q76_b2)
def q76_raw (b0:LI) (count1:Int) (K:Res→List Cell→Prop):Prop:=
 bif (decide (count1=(0:Int))) then
 K (.one (.fr 5 yU ([]:LI))) []
 else
 bif (decide (count1<(0:Int))) then
 False
 else
 (wfD q76_d3 (b0,count1,())→q76_J3 (fun (x4:LI)=>wfD q76_d3r (x4,())→(
 K (.one (.fr 5 yU x4)) [])) b0 count1)
def q76_A:List AS:=[.v yB,.v yI]
def repB (b:LI):Nat→LI
  | 0=>[]
  | n+1=>b++repB b n
theorem repB_length (b:LI):∀ n,(repB b n).length=n * b.length
  | 0=>by simp [repB]
  | n+1=>by rw [repB,List.length_append,repB_length b n,Nat.succ_mul]; omega
theorem repB_get (b:LI):∀ (n i:Nat),i<n * b.length→(repB b n)[i]?=b[i % b.length]?
  | 0,i,h=>by simp at h
  | n+1,i,h=>by
    rw [repB]
    by_cases hi:i<b.length
    · rw [List.getElem?_append_left hi,Nat.mod_eq_of_lt hi]
    · rw [List.getElem?_append_right (by omega),repB_get b n _ (by rw [Nat.succ_mul] at h; omega)]
      congr 1
      exact (Nat.mod_eq_sub_mod (by omega)).symm
def q76_P (b:LI) (count:Int):Prop:=0≤count∧count<4294967296∧b.length<4294967296∧(b.length:Int) * count≤(lim:Int)
def q76_F (b:LI) (count:Int):LI:=repB b count.toNat
def RInv (b nb:LI) (n bp:Nat):Prop:=nb.length=n∧∀ i,i<bp→nb[i]?=b[i % b.length]?
theorem rinv_step {b nb:LI} {n bp c:Nat} (hb:0<b.length) (hi:RInv b nb n bp) (hd:b.length ∣ bp) (hc:c≤bp) (hn:bp+c≤n):RInv b (ovr bp (nb.take c) nb) n (bp+c):=by
  have hl:(nb.take c).length=c:=by rw [List.length_take,hi.1]; omega
  refine ⟨by rw [ovr_length]; exact hi.1,fun i hlt=>?_⟩
  rw [ovr_get _ _ _ _ (by rw [hi.1]; omega),hl]
  by_cases h:bp≤i
  · rw [if_pos ⟨h,hlt⟩,List.getElem?_take,if_pos (by omega),hi.2 _ (by omega)]
    congr 1
    obtain ⟨q,rfl⟩:=hd
    have e:i=(i - b.length * q)+b.length * q:=by omega
    conv=>rhs; rw [e,Nat.add_mul_mod_self_left]
  · rw [if_neg (by omega)]; exact hi.2 i (by omega)
theorem q76_l0 (kx0:LI→Prop) (b:LI) (hb:0<b.length) (n cm:Nat) (hn:n≤lim) (hnd:b.length ∣ n) (hcm:0<cm) (hcd:b.length ∣ cm) (hk:∀ nb,RInv b nb n n→kx0 nb) :
    ∀ (m bp:Nat) (nb:LI),n<m+bp→0<bp→b.length ∣ bp→bp≤n→RInv b nb n bp→q76_L0 kx0 m (n:Int) (cm:Int) nb (bp:Int)
  | 0,bp,nb,h,h2,h3,h4,h5=>by omega
  | m+1,bp,nb,h,h2,h3,h4,h5=>by
    intro _
    unfold q76_T0
    refine brn (fun hlt=>?_) (fun hge=>?_)
    · have hlt:bp<n:=by omega
      have hmn:mn (bp:Int) (cm:Int)=((min bp cm:Nat):Int):=by
        unfold mn
        by_cases hc:(cm:Int)<bp
        · simp only [hc,decide_true,cond_true]; omega
        · simp only [hc,decide_false,cond_false]; omega
      have hmd:b.length ∣ min bp cm:=by
        rcases Nat.le_total bp cm with h | h
        · rw [Nat.min_eq_left h]; exact h3
        · rw [Nat.min_eq_right h]; exact hcd
      -- so much is copied
      have hcl:(List.take (Int.toNat (mn (bp:Int) (cm:Int))) nb).length=min bp cm:=by rw [hmn,Int.toNat_natCast,List.length_take,h5.1]; omega
      have hdl:(List.drop (Int.toNat (bp:Int)) nb).length=n - bp:=by rw [Int.toNat_natCast,List.length_drop,h5.1]
      have hc2:mn (List.length (List.take (Int.toNat (mn (bp:Int) (cm:Int))) nb):Int) (List.length (List.drop (Int.toNat (bp:Int)) nb):Int)=((min (min bp cm) (n - bp):Nat):Int):=by
        rw [hcl,hdl]
        unfold mn
        by_cases hc:((n - bp:Nat):Int)<((min bp cm:Nat):Int)
        · simp only [hc,decide_true,cond_true]; omega
        · simp only [hc,decide_false,cond_false]; omega
      have key:q76_L0 kx0 m (n:Int) (cm:Int) (ovr (Int.toNat (bp:Int)) (List.take (List.length (List.drop (Int.toNat (bp:Int)) nb)) (List.take (Int.toNat (mn (bp:Int) (cm:Int))) nb)) nb) (IntKind.wrap .i64 ((bp:Int)+(mn (List.length (List.take (Int.toNat (mn (bp:Int) (cm:Int))) nb):Int) (List.length (List.drop (Int.toNat (bp:Int)) nb):Int)))):=by
        have hlim:n≤1099511627776:=hn
        rw [hc2,hdl,hmn,Int.toNat_natCast,Int.toNat_natCast,List.take_take,wrap_i64 (by omega) (by omega),show min (n - bp) (min bp cm)=min (min bp cm) (n - bp) from Nat.min_comm _ _]
        have hdvd:b.length ∣ min (min bp cm) (n - bp):=by
          rcases Nat.le_total (min bp cm) (n - bp) with h | h
          · rw [Nat.min_eq_left h]; exact hmd
          · rw [Nat.min_eq_right h]; exact Nat.dvd_sub hnd h3
        have hpos:0<min (min bp cm) (n - bp):=by omega
        have:=q76_l0 kx0 b hb n cm hn hnd hcm hcd hk m (bp+min (min bp cm) (n - bp)) _ (by omega) (by omega) (Nat.dvd_add h3 hdvd) (by omega) (rinv_step hb h5 h3 (by omega) (by omega))
        simpa using this
      have a1:0≤(bp:Int)∧(bp:Int)≤(List.length nb:Int):=by rw [h5.1]; omega
      have a2:0≤mn (bp:Int) (cm:Int)∧mn (bp:Int) (cm:Int)≤(List.length nb:Int):=by rw [h5.1,hmn]; omega
      exact ⟨asrt a1 (asrt a2 key),asrt a2 (asrt a1 key),trivial⟩
    · obtain rfl:bp=n:=by omega
      exact hk nb h5
theorem q76_sp (b:LI) (count:Int) (K:Res→List Cell→Prop) (hw:wfA q76_A (b,count,())) (hp:q76_P b count) (h:∀ r:LI,r=q76_F b count→K (.one (.fr 5 yU r)) []):q76_raw b count K:=by
  obtain ⟨h0,h1,h2,h3⟩:=hp
  obtain ⟨c,rfl⟩:=Int.eq_ofNat_of_zero_le h0
  unfold q76_F at h
  rw [Int.toNat_natCast] at h
  unfold q76_raw
  refine brn (fun hz=>h _ ?_) (fun hz=>brn (fun hn=>absurd hn (by omega)) (fun _ _=>?_))
  · obtain rfl:c=0:=by omega
    rfl
  unfold q76_J3
  intro r1 hr1 _
  have hmul:r1=(0,(b.length:Int) * (c:Int)):=by
    rw [hr1,wrap_u64 (by omega) (by omega),wrap_u64 (by omega) (by omega)]
    exact mul_small (by omega) (by omega) (by omega) (by omega)
  have hlc:(b.length:Int) * (c:Int)=((c * b.length:Nat):Int):=by rw [Int.mul_comm]; simp
  have hlim:((c * b.length:Nat):Int)≤1099511627776:=by rw [← hlc]; exact h3
  rw [hmul,hlc]
  refine brn (fun hn=>absurd hn (by simp)) (fun _=>brn (fun hn=>absurd hn (by show ¬ (9223372036854775807:Int)<((c * b.length:Nat):Int); omega)) (fun _ _=>?_))
  show q76_J2 _ b ((c * b.length:Nat):Int)
  unfold q76_J2
  refine brn (fun hz=>?_) (fun hz=>?_)
  · intro _ _
    refine h _ ?_
    have hb:b=[]:=List.eq_nil_of_length_eq_zero (by omega)
    subst hb
    clear h hlc hlim hmul hr1 hw h3
    have:∀ n,repB [] n=[]:=fun n=>List.eq_nil_of_length_eq_zero (by rw [repB_length]; simp)
    exact (this c).symm
  have hb:0<b.length:=by omega
  have hge:b.length≤c * b.length:=Nat.le_mul_of_pos_left _ (by omega)
  rw [wrap_i64 (n:=((c * b.length:Nat):Int)) (by omega) (by omega)]
  have main:∀ (cm:Nat),0<cm→b.length ∣ cm→q76_J1 (fun (x4:LI)=>wfD q76_d1r (x4,())→wfD q76_d2r (x4,())→wfD q76_d3r (x4,())→K (.one (.fr 5 yU x4)) []) b ((c * b.length:Nat):Int) (cm:Int):=by
    intro cm hcm hcd
    unfold q76_J1
    refine ⟨⟨by omega,hlim⟩,fun r2 hr2 _=>asrt ?_ fun _=>?_⟩
    · have:r2.length=c * b.length:=hr2
      rw [this]; omega
    have hr2:r2.length=c * b.length:=hr2
    have htk:List.take (Int.toNat ((c * b.length:Nat):Int)) r2=r2:=by rw [Int.toNat_natCast,← hr2,List.take_length]
    have hmn:mn (List.length b:Int) (List.length r2:Int)=(b.length:Int):=by
      unfold mn
      have:¬ ((r2.length:Int)<b.length):=by rw [hr2]; omega
      simp only [this,decide_false,cond_false]
    rw [htk,hmn]
    refine ⟨c * b.length+1,q76_l0 _ b hb (c * b.length) cm (by show _≤1099511627776; omega) ⟨c,Nat.mul_comm _ _⟩ hcm hcd (fun nb hnb _ h1 h2 h3=>h nb ?_) _ _ _ (by omega) hb (Nat.dvd_refl _) hge ⟨?_,fun i hi=>?_⟩⟩
    · refine List.ext_getElem? fun i=>?_
      by_cases hi:i<c * b.length
      · rw [hnb.2 i hi,repB_get b c i hi]
      · rw [List.getElem?_eq_none (by rw [hnb.1]; omega),List.getElem?_eq_none (by rw [repB_length]; omega)]
    · rw [ovr_length,hr2]
    · rw [ovr_get _ _ _ _ (by rw [hr2]; omega),List.take_of_length_le (by rw [hr2]; exact hge),if_pos (by omega),Nat.sub_zero,Nat.mod_eq_of_lt hi]
  refine brn (fun hbig=>asrt (by omega) ?_) (fun hsm _=>main (c * b.length) (by omega) ⟨c,Nat.mul_comm _ _⟩)
  have hq:Int.tdiv (8192:Int) (List.length b:Int)=((8192 / b.length:Nat):Int):=by
    rw [Int.tdiv_eq_ediv_of_nonneg (by omega)]; rfl
  have hq2:8192 / b.length≤8192:=Nat.div_le_self _ _
  have hq3:8192 / b.length * b.length≤8192:=Nat.div_mul_le_self _ _
  rw [hq]
  generalize 8192 / b.length=q at hq2 hq3 ⊢
  have hq4:(q:Int) * (b.length:Int)=((q * b.length:Nat):Int):=by simp
  rw [wrap_i64 (n:=(q:Int)) (by omega) (by omega),hq4]
  generalize hql:q * b.length=ql at hq3 ⊢
  rw [wrap_i64 (n:=(ql:Int)) (by omega) (by omega)]
  refine brn (fun hz _=>main b.length hb (Nat.dvd_refl _)) (fun hz _=>main ql (by omega) ⟨q,by rw [← hql]; exact Nat.mul_comm _ _⟩)

def q76_C (v:valsA q76_A) (K:Res→List Cell→Prop):Prop:=q76_P v.1 v.2.1∧∀ r:LI,r=q76_F v.1 v.2.1→K (.one (.fr 5 yU r)) []
def q76_S:App:=specW q76_A q76_C
theorem q76_wv (K:Res→List Cell→Prop):∀ v:valsA q76_A,runF tb (getG q76_G) q76_B3 Tryz.f49 [true] (mkA q76_A v) K=q76_raw v.1 v.2.1 K
  | (b0,count1,())=>by kernel_rfl
theorem q76_ok:AppOk Tryz.prog 49 q76_S:=
  AppOk.specW (spec_ok ((runF_ok tb_M tb_ok q76_Gok (q76_b3) (f:=49) (fn:=Tryz.f49) (by kernel_rfl) (by kernel_rfl) q76_st [true])) fun v K hw h=>(q76_wv K v).mpr (q76_sp v.1 v.2.1 K hw h.1 h.2))

end Go.VE
namespace Go.VE
open Go Go.Proofs
def q63_A:List AS:=[.v yI]
def q63_Pk (k:Nat) (n:Int):Prop:=0≤n∧n<10000000000∧n.toNat<10 ^ k∧0<k
def q63_F (n:Int):LI:=dec n.toNat
theorem q63_0 (n:Int):¬ q63_Pk 0 n:=fun h=>absurd h.2.2.2 (Nat.lt_irrefl 0)

def q63_Ck (k:Nat) (v:valsA q63_A) (K:Res→List Cell→Prop):Prop:=q63_Pk k v.1∧∀ r:LI,r=q63_F v.1→K (.one (.fr 5 yU r)) []
def q63_Sk (k:Nat):App:=specW q63_A (q63_Ck k)
def q63_G (k:Nat):List (Nat×App):=[(50,q63_Sk k)]
theorem q63_Gok (k:Nat) (h:AppOk Tryz.prog 50 (q63_Sk k)):GOk Tryz.prog (getG (q63_G k)):=GOk.cons h (GOk.nil)
def q63_raw (k:Nat) (n0:Int) (K:Res→List Cell→Prop):Prop:=
 bif (decide (n0<(10:Int))) then
 K (.one (.fr 5 yU ([(IntKind.wrap .u8 (IntKind.wrap .i64 ((48:Int)+n0)))]:LI))) []
 else
 q63_Pk k (IntKind.wrap .i64 (Int.tdiv n0 (10:Int)))∧(
 ∀ (r1:LI),r1=q63_F (IntKind.wrap .i64 (Int.tdiv n0 (10:Int)))→(
 wfR (.one (.fr 5 yU r1))→(
 bif decide (List.length r1+List.length ([(IntKind.wrap .u8 (IntKind.wrap .i64 ((48:Int)+(Int.tmod n0 (10:Int)))))]:LI)≤lim) then
 K (.one (.fr 5 yU (r1++([(IntKind.wrap .u8 (IntKind.wrap .i64 ((48:Int)+(Int.tmod n0 (10:Int)))))]:LI)))) []
 else False)))
theorem q63_walk (k:Nat) (n0:Int) (K:Res→List Cell→Prop):runF tb (getG (q63_G k)) [] Tryz.f50 [true] (mkA q63_A (n0,())) K=q63_raw k n0 K:=by kernel_rfl
theorem q63_wv (k:Nat) (K:Res→List Cell→Prop):∀ v:valsA q63_A,runF tb (getG (q63_G k)) [] Tryz.f50 [true] (mkA q63_A v) K=q63_raw k v.1 K
  | (n0,())=>q63_walk k n0 K

theorem q63_sp (k:Nat) (n0:Int) (K:Res→List Cell→Prop) (hw:wfA q63_A (n0,())) (hp:q63_Pk (k+1) n0) (h:∀ r:LI,r=q63_F n0→K (.one (.fr 5 yU r)) []):q63_raw k n0 K:=by
  obtain ⟨h0,h1,h2,_⟩:=hp
  unfold q63_raw
  obtain ⟨m,rfl⟩:=Int.eq_ofNat_of_zero_le h0
  have h1:m<10000000000:=by omega
  have h3:m<10 ^ (k+1):=h2
  refine brn (fun hlt=>?_) (fun hge=>?_)
  · rw [wrap_u8 (by rw [wrap_i64 (by omega) (by omega)]; omega) (by rw [wrap_i64 (by omega) (by omega)]; omega),wrap_i64 (by omega) (by omega)]
    exact h _ (by unfold q63_F; rw [Int.toNat_natCast,dec_small (by omega)])
  · have q1:Int.tdiv (m:Int) 10=((m / 10:Nat):Int):=rfl
    have q2:Int.tmod (m:Int) 10=((m % 10:Nat):Int):=rfl
    have hk:0<k:=by
      cases k with
      | zero=>simp at h3; omega
      | succ k=>omega
    rw [q1,q2,wrap_i64 (by omega) (by omega)]
    refine ⟨⟨by omega,by omega,by rw [Int.toNat_natCast]; rw [Nat.pow_succ] at h3; omega,hk⟩,fun r hr _=>?_⟩
    subst r
    have hl:=decL_len 10 (m / 10)
    unfold q63_F dec
    rw [Int.toNat_natCast,wrap_i64 (n:=48+((m % 10:Nat):Int)) (by omega) (by omega),wrap_u8 (by omega) (by omega)]
    refine asrt (by simp only [List.length_cons,List.length_nil]; unfold lim; omega) (h _ ?_)
    unfold q63_F
    rw [Int.toNat_natCast,dec_great (by omega) h1]
    rfl

theorem q63_okk:∀ k,AppOk Tryz.prog 50 (q63_Sk k)
  | 0=>AppOk.none fun v K h=>q63_0 v.1 h.1
  | k+1=>AppOk.specW (spec_ok (runF_ok tb_M tb_ok (q63_Gok k (q63_okk k)) LabsOk.nil (f:=50) (fn:=Tryz.f50) (by kernel_rfl) (by kernel_rfl) (by kernel_rfl) [true]) fun v K hw h=>(q63_wv k K v).mpr (q63_sp k v.1 K hw h.1 h.2))
def q63_P (n0:Int):Prop:=∃ k,q63_Pk k n0
def q63_C (v:valsA q63_A) (K:Res→List Cell→Prop):Prop:=q63_P v.1∧∀ r:LI,r=q63_F v.1→K (.one (.fr 5 yU r)) []
def q63_S:App:=specW q63_A q63_C
theorem q63_ok:AppOk Tryz.prog 50 q63_S:=fun ags K hs=>(AppOk.any (b:=q63_Ck) q63_okk) ags K (by
  obtain ⟨v,rfl,hb⟩:=rdA_of _ ags _ hs
  exact rdA_mk q63_A v (fun v=>∃ k,q63_Ck k v fun r o=>wfR r→K r o) (hb.1.elim fun k hk=>⟨k,hk,hb.2⟩))
end Go.VE
namespace Go.VE
set_option maxRecDepth 20000
open Go Go.Proofs
def q77_G:List (Nat×App):=[(49,q76_S),(50,q63_S),(48,q71_S),(13,q75_S),(51,q87_S)]
theorem q77_Gok:GOk Tryz.prog (getG q77_G):=GOk.cons q76_ok (GOk.cons q63_ok (GOk.cons q71_ok (GOk.cons q75_ok (GOk.cons q87_ok (GOk.nil)))))
theorem q77_st:storesC (bodyOf Tryz.f16)=true:=by kernel_rfl
def q77_d0:List LS:=[.b 1 8 [],.o 3 29 5 yU,.v 41 .bool,.c 8 tyX]
def q77_d0n:List LS:=[.b 1 8 [],.o 3 29 5 yU,.c 8 tyX]
def q77_dx0:DX:=⟨some q77_d0n,none,[]⟩
def q77_y0n (k:Ex→St→Prop) (out3:LI) (x1b:tEx):Prop:=wfD q77_d0n (out3,x1b,())→k .nrm (mkD 123 q77_d0n (out3,x1b,()))
def q77_J0 (kn:LI→tEx→Prop) (out3:LI) (x41:Bool) (x1b:tEx):Prop:=
 bif x41 then
 q76_P x1b.2.2.2.1 x1b.2.2.2.2.2.2.1∧(
 ∀ (r1:LI),r1=q76_F x1b.2.2.2.1 x1b.2.2.2.2.2.2.1→(
 wfR (.one (.fr 5 yU r1))→(
 bif decide (List.length out3+List.length r1≤lim) then
 kn (out3++r1) x1b
 else False)))
 else
 bif decide (List.length out3+List.length x1b.2.2.2.1≤lim) then
 kn (out3++x1b.2.2.2.1) x1b
 else False
def q77_g0 (k:Ex→St→Prop) (v:vals q77_d0):Prop:=q77_J0 (q77_y0n k) v.1 v.2.1 v.2.2.1
theorem q77_v0 (k:Ex→St→Prop):∀ v:vals q77_d0,ex tb (getG q77_G) [] (at' (bodyOf Tryz.f16) [1,0,1,0,1,1,1,1]) [1,0,1,0,1,1,1,1] (mkD 123 q77_d0 v) (wk 123 q77_dx0 k)=q77_g0 k v
  | (out3,x41,x1b,())=>by kernel_rfl
def q77_X0:Pce:=fun st k=>ckD 123 q77_d0 st fun v=>wfD q77_d0 v→q77_g0 k v
theorem q77_x0:SemOk Tryz.prog (at' (bodyOf Tryz.f16) [1,0,1,0,1,1,1,1]) q77_X0:=
  (SemOk.wk (N:=123) (ds:=q77_d0) (dx:=q77_dx0) (ex_sound tb_M tb_ok q77_Gok (LabsOk.nil) (at' (bodyOf Tryz.f16) [1,0,1,0,1,1,1,1]) [1,0,1,0,1,1,1,1] rfl (storesC_at q77_st [1,0,1,0,1,1,1,1]))).mono fun st k h=>ckD_mono h fun v hv hw=>Eq.mpr (q77_v0 k v) (hv hw)
def q77_B0:Labs:=([1,0,1,0,1,1,1,1],q77_X0)::[]
theorem q77_b0:LabsOk Tryz.prog (bodyOf Tryz.f16) q77_B0:=LabsOk.cons q77_x0 (LabsOk.nil)
def q77_d1:List LS:=[.b 1 8 [],.o 3 29 5 yU,.v 61 .str,.v 78 .bool,.c 8 tyX]
def q77_d1n:List LS:=[.b 1 8 [],.o 3 29 5 yU,.c 8 tyX]
def q77_dx1:DX:=⟨some q77_d1n,none,[]⟩
def q77_y1n (k:Ex→St→Prop) (out3:LI) (x1b:tEx):Prop:=wfD q77_d1n (out3,x1b,())→k .nrm (mkD 123 q77_d1n (out3,x1b,()))
def q77_J1 (kn:LI→tEx→Prop) (out3:LI) (x61:LI) (x78:Bool) (x1b:tEx):Prop:=
 bif x78 then
 bif decide (List.length out3+List.length ([(32:Int)]:LI)≤lim) then
 q71_P x1b.2.2.2.2.1∧(
 ∀ (r3:LI),r3=q71_F x1b.2.2.2.2.1→(
 wfR (.one (.fr 5 yU r3))→(
 bif decide (List.length (out3++([(32:Int)]:LI))+List.length r3≤lim) then
 kn ((out3++([(32:Int)]:LI))++r3) x1b
 else False)))
 else False
 else
 bif (decide (x61=([115]:LI))) then
 bif decide (List.length out3+List.length ([(47:Int)]:LI)≤lim) then
 bif decide (List.length (out3++([(47:Int)]:LI))+List.length x1b.2.2.2.2.2.2.2.1≤lim) then
 bif decide (List.length ((out3++([(47:Int)]:LI))++x1b.2.2.2.2.2.2.2.1)+List.length ([(47:Int)]:LI)≤lim) then
 bif decide (List.length (((out3++([(47:Int)]:LI))++x1b.2.2.2.2.2.2.2.1)++([(47:Int)]:LI))+List.length x1b.2.2.2.2.2.2.2.2.1≤lim) then
 bif x1b.2.2.2.2.2.2.2.2.2 then
 bif decide (List.length ((((out3++([(47:Int)]:LI))++x1b.2.2.2.2.2.2.2.1)++([(47:Int)]:LI))++x1b.2.2.2.2.2.2.2.2.1)+List.length ([47,103]:LI)≤lim) then
 kn (((((out3++([(47:Int)]:LI))++x1b.2.2.2.2.2.2.2.1)++([(47:Int)]:LI))++x1b.2.2.2.2.2.2.2.2.1)++([47,103]:LI)) x1b
 else False
 else
 kn ((((out3++([(47:Int)]:LI))++x1b.2.2.2.2.2.2.2.1)++([(47:Int)]:LI))++x1b.2.2.2.2.2.2.2.2.1) x1b
 else False
 else False
 else False
 else False
 else
 kn out3 x1b
def q77_g1 (k:Ex→St→Prop) (v:vals q77_d1):Prop:=q77_J1 (q77_y1n k) v.1 v.2.1 v.2.2.1 v.2.2.2.1
theorem q77_v1 (k:Ex→St→Prop):∀ v:vals q77_d1,ex tb (getG q77_G) q77_B0 (at' (bodyOf Tryz.f16) [1,1,1,0,1,0,1,1,1,1,1,1]) [1,1,1,0,1,0,1,1,1,1,1,1] (mkD 123 q77_d1 v) (wk 123 q77_dx1 k)=q77_g1 k v
  | (out3,x61,x78,x1b,())=>by kernel_rfl
def q77_X1:Pce:=fun st k=>ckD 123 q77_d1 st fun v=>wfD q77_d1 v→q77_g1 k v
theorem q77_x1:SemOk Tryz.prog (at' (bodyOf Tryz.f16) [1,1,1,0,1,0,1,1,1,1,1,1]) q77_X1:=
  (SemOk.wk (N:=123) (ds:=q77_d1) (dx:=q77_dx1) (ex_sound tb_M tb_ok q77_Gok (q77_b0) (at' (bodyOf Tryz.f16) [1,1,1,0,1,0,1,1,1,1,1,1]) [1,1,1,0,1,0,1,1,1,1,1,1] rfl (storesC_at q77_st [1,1,1,0,1,0,1,1,1,1,1,1]))).mono fun st k h=>ckD_mono h fun v hv hw=>Eq.mpr (q77_v1 k v) (hv hw)
def q77_B1:Labs:=([1,1,1,0,1,0,1,1,1,1,1,1],q77_X1)::q77_B0
theorem q77_b1:LabsOk Tryz.prog (bodyOf Tryz.f16) q77_B1:=LabsOk.cons q77_x1 (q77_b0)
def q77_d2:List LS:=[.b 1 8 [],.o 3 29 5 yU,.v 61 .str,.v 62 .bool,.c 8 tyX]
def q77_d2n:List LS:=[.b 1 8 [],.o 3 29 5 yU,.c 8 tyX]
def q77_dx2:DX:=⟨some q77_d2n,none,[]⟩
def q77_y2n (k:Ex→St→Prop) (out3:LI) (x1b:tEx):Prop:=wfD q77_d2n (out3,x1b,())→k .nrm (mkD 123 q77_d2n (out3,x1b,()))
def q77_J2 (kn:LI→tEx→Prop) (out3:LI) (x61:LI) (x62:Bool) (x1b:tEx):Prop:=
 bif x62 then
 bif (decide ((0:Int)<x1b.2.2.2.2.2.2.1)) then
 bif decide (List.length out3+List.length ([(32:Int)]:LI)≤lim) then
 q63_P x1b.2.2.2.2.2.2.1∧(
 ∀ (r2:LI),r2=q63_F x1b.2.2.2.2.2.2.1→(
 wfR (.one (.fr 5 yU r2))→(
 bif decide (List.length (out3++([(32:Int)]:LI))+List.length r2≤lim) then
 kn ((out3++([(32:Int)]:LI))++r2) x1b
 else False)))
 else False
 else
 kn out3 x1b
 else
 bif (decide (x61=([116]:LI))) then
 (wfD q77_d1 (out3,x61,(decide (x61=([116]:LI))),x1b,())→q77_J1 (fun (out3:LI) (x1b:tEx)=>wfD q77_d1n (out3,x1b,())→(
 kn out3 x1b)) out3 x61 (decide (x61=([116]:LI))) x1b)
 else
 (wfD q77_d1 (out3,x61,(decide (x61=([109]:LI))),x1b,())→q77_J1 (fun (out3:LI) (x1b:tEx)=>wfD q77_d1n (out3,x1b,())→(
 kn out3 x1b)) out3 x61 (decide (x61=([109]:LI))) x1b)
def q77_g2 (k:Ex→St→Prop) (v:vals q77_d2):Prop:=q77_J2 (q77_y2n k) v.1 v.2.1 v.2.2.1 v.2.2.2.1
theorem q77_v2 (k:Ex→St→Prop):∀ v:vals q77_d2,ex tb (getG q77_G) q77_B1 (at' (bodyOf Tryz.f16) [1,0,1,0,1,1,1,1,1,1]) [1,0,1,0,1,1,1,1,1,1] (mkD 123 q77_d2 v) (wk 123 q77_dx2 k)=q77_g2 k v
  | (out3,x61,x62,x1b,())=>by kernel_rfl
def q77_X2:Pce:=fun st k=>ckD 123 q77_d2 st fun v=>wfD q77_d2 v→q77_g2 k v
theorem q77_x2:SemOk Tryz.prog (at' (bodyOf Tryz.f16) [1,0,1,0,1,1,1,1,1,1]) q77_X2:=
  (SemOk.wk (N:=123) (ds:=q77_d2) (dx:=q77_dx2) (ex_sound tb_M tb_ok q77_Gok (q77_b1) (at' (bodyOf Tryz.f16) [1,0,1,0,1,1,1,1,1,1]) [1,0,1,0,1,1,1,1,1,1] rfl (storesC_at q77_st [1,0,1,0,1,1,1,1,1,1]))).mono fun st k h=>ckD_mono h fun v hv hw=>Eq.mpr (q77_v2 k v) (hv hw)
def q77_B2:Labs:=([1,0,1,0,1,1,1,1,1,1],q77_X2)::q77_B1
theorem q77_b2:LabsOk Tryz.prog (bodyOf Tryz.f16) q77_B2:=LabsOk.cons q77_x2 (q77_b1)
def q77_d3:List LS:=[.b 1 8 [],.o 3 29 5 yU,.c 8 tyX]
def q77_d3r:List LS:=[.v 2 yB]
def q77_dx3:DX:=⟨none,some q77_d3r,[]⟩
def q77_y3r (k:Ex→St→Prop) (x2:LI):Prop:=wfD q77_d3r (x2,())→k .ret (mkD 123 q77_d3r (x2,()))
def q77_J3 (kr:LI→Prop) (out3:LI) (x1b:tEx):Prop:=
 q75_P out3∧(
 ∀ (r4:tEx×Int),r4=q75_F out3→(
 wfR (.tup [.v tyX r4.1,.v yI r4.2])→(
 bif (!decide (r4.2=(0:Int))) then
 kr ([]:LI)
 else
 ∀ (r5:Bool),r5=q87_F x1b r4.1→(
 wB r5→(
 bif (!r5) then
 kr ([]:LI)
 else
 kr out3)))))
def q77_g3 (k:Ex→St→Prop) (v:vals q77_d3):Prop:=q77_J3 (q77_y3r k) v.1 v.2.1
theorem q77_v3 (k:Ex→St→Prop):∀ v:vals q77_d3,ex tb (getG q77_G) q77_B2 (at' (bodyOf Tryz.f16) [1,1,1,1,1,1,1]) [1,1,1,1,1,1,1] (mkD 123 q77_d3 v) (wk 123 q77_dx3 k)=q77_g3 k v
  | (out3,x1b,())=>by kernel_rfl
def q77_X3:Pce:=fun st k=>ckD 123 q77_d3 st fun v=>wfD q77_d3 v→q77_g3 k v
theorem q77_x3:SemOk Tryz.prog (at' (bodyOf Tryz.f16) [1,1,1,1,1,1,1]) q77_X3:=
  (SemOk.wk (N:=123) (ds:=q77_d3) (dx:=q77_dx3) (ex_sound tb_M tb_ok q77_Gok (q77_b2) (at' (bodyOf Tryz.f16) [1,1,1,1,1,1,1]) [1,1,1,1,1,1,1] rfl (storesC_at q77_st [1,1,1,1,1,1,1]))).mono fun st k h=>ckD_mono h fun v hv hw=>Eq.mpr (q77_v3 k v) (hv hw)
def q77_B3:Labs:=([1,1,1,1,1,1,1],q77_X3)::q77_B2
theorem q77_b3:LabsOk Tryz.prog (bodyOf Tryz.f16) q77_B3:=LabsOk.cons q77_x3 (q77_b2)
def q77_d4:List LS:=[.b 1 8 [],.o 3 29 5 yU,.c 8 tyX]
def q77_d4r:List LS:=[.v 2 yB]
def q77_dx4:DX:=⟨none,some q77_d4r,[]⟩
def q77_y4r (k:Ex→St→Prop) (x2:LI):Prop:=wfD q77_d4r (x2,())→k .ret (mkD 123 q77_d4r (x2,()))
def q77_J4 (kr:LI→Prop) (out3:LI) (x1b:tEx):Prop:=
 bif (decide (x1b.2.2.2.1=([100]:LI))) then
 (wfD q77_d2 (out3,x1b.2.2.2.1,(decide (x1b.2.2.2.1=([100]:LI))),x1b,())→q77_J2 (fun (out3:LI) (x1b:tEx)=>wfD q77_d2n (out3,x1b,())→(
 (wfD q77_d3 (out3,x1b,())→q77_J3 (fun (x2:LI)=>wfD q77_d3r (x2,())→(
 kr x2)) out3 x1b))) out3 x1b.2.2.2.1 (decide (x1b.2.2.2.1=([100]:LI))) x1b)
 else
 bif (decide (x1b.2.2.2.1=([121]:LI))) then
 (wfD q77_d2 (out3,x1b.2.2.2.1,(decide (x1b.2.2.2.1=([121]:LI))),x1b,())→q77_J2 (fun (out3:LI) (x1b:tEx)=>wfD q77_d2n (out3,x1b,())→(
 (wfD q77_d3 (out3,x1b,())→q77_J3 (fun (x2:LI)=>wfD q77_d3r (x2,())→(
 kr x2)) out3 x1b))) out3 x1b.2.2.2.1 (decide (x1b.2.2.2.1=([121]:LI))) x1b)
 else
 bif (decide (x1b.2.2.2.1=([106]:LI))) then
 (wfD q77_d2 (out3,x1b.2.2.2.1,(decide (x1b.2.2.2.1=([106]:LI))),x1b,())→q77_J2 (fun (out3:LI) (x1b:tEx)=>wfD q77_d2n (out3,x1b,())→(
 (wfD q77_d3 (out3,x1b,())→q77_J3 (fun (x2:LI)=>wfD q77_d3r (x2,())→(
 kr x2)) out3 x1b))) out3 x1b.2.2.2.1 (decide (x1b.2.2.2.1=([106]:LI))) x1b)
 else
 (wfD q77_d2 (out3,x1b.2.2.2.1,(decide (x1b.2.2.2.1=([106,33]:LI))),x1b,())→q77_J2 (fun (out3:LI) (x1b:tEx)=>wfD q77_d2n (out3,x1b,())→(
 (wfD q77_d3 (out3,x1b,())→q77_J3 (fun (x2:LI)=>wfD q77_d3r (x2,())→(
 kr x2)) out3 x1b))) out3 x1b.2.2.2.1 (decide (x1b.2.2.2.1=([106,33]:LI))) x1b)
def q77_g4 (k:Ex→St→Prop) (v:vals q77_d4):Prop:=q77_J4 (q77_y4r k) v.1 v.2.1
theorem q77_v4 (k:Ex→St→Prop):∀ v:vals q77_d4,ex tb (getG q77_G) q77_B3 (at' (bodyOf Tryz.f16) [1,1,1,1,1,1]) [1,1,1,1,1,1] (mkD 123 q77_d4 v) (wk 123 q77_dx4 k)=q77_g4 k v
  | (out3,x1b,())=>by kernel_rfl
def q77_X4:Pce:=fun st k=>ckD 123 q77_d4 st fun v=>wfD q77_d4 v→q77_g4 k v
theorem q77_x4:SemOk Tryz.prog (at' (bodyOf Tryz.f16) [1,1,1,1,1,1]) q77_X4:=
  (SemOk.wk (N:=123) (ds:=q77_d4) (dx:=q77_dx4) (ex_sound tb_M tb_ok q77_Gok (q77_b3) (at' (bodyOf Tryz.f16) [1,1,1,1,1,1]) [1,1,1,1,1,1] rfl (storesC_at q77_st [1,1,1,1,1,1]))).mono fun st k h=>ckD_mono h fun v hv hw=>Eq.mpr (q77_v4 k v) (hv hw)
def q77_B4:Labs:=([1,1,1,1,1,1],q77_X4)::q77_B3
theorem q77_b4:LabsOk Tryz.prog (bodyOf Tryz.f16) q77_B4:=LabsOk.cons q77_x4 (q77_b3)
def q77_d5:List LS:=[.b 1 8 [],.o 3 29 5 yU,.c 8 tyX]
def q77_d5r:List LS:=[.v 2 yB]
def q77_dx5:DX:=⟨none,some q77_d5r,[]⟩
def q77_y5r (k:Ex→St→Prop) (x2:LI):Prop:=wfD q77_d5r (x2,())→k .ret (mkD 123 q77_d5r (x2,()))
def q77_J5 (kr:LI→Prop) (out3:LI) (x1b:tEx):Prop:=
 bif (!decide (x1b.2.2.2.2.2.1=(0:Int))) then
 bif decide (List.length out3+List.length ([(32:Int),x1b.2.2.2.2.2.1]:LI)≤lim) then
 (wfD q77_d4 ((out3++([(32:Int),x1b.2.2.2.2.2.1]:LI)),x1b,())→q77_J4 (fun (x2:LI)=>wfD q77_d4r (x2,())→(
 kr x2)) (out3++([(32:Int),x1b.2.2.2.2.2.1]:LI)) x1b)
 else False
 else
 (wfD q77_d4 (out3,x1b,())→q77_J4 (fun (x2:LI)=>wfD q77_d4r (x2,())→(
 kr x2)) out3 x1b)
def q77_g5 (k:Ex→St→Prop) (v:vals q77_d5):Prop:=q77_J5 (q77_y5r k) v.1 v.2.1
theorem q77_v5 (k:Ex→St→Prop):∀ v:vals q77_d5,ex tb (getG q77_G) q77_B4 (at' (bodyOf Tryz.f16) [1,1,1,1,1]) [1,1,1,1,1] (mkD 123 q77_d5 v) (wk 123 q77_dx5 k)=q77_g5 k v
  | (out3,x1b,())=>by kernel_rfl
def q77_X5:Pce:=fun st k=>ckD 123 q77_d5 st fun v=>wfD q77_d5 v→q77_g5 k v
theorem q77_x5:SemOk Tryz.prog (at' (bodyOf Tryz.f16) [1,1,1,1,1]) q77_X5:=
  (SemOk.wk (N:=123) (ds:=q77_d5) (dx:=q77_dx5) (ex_sound tb_M tb_ok q77_Gok (q77_b4) (at' (bodyOf Tryz.f16) [1,1,1,1,1]) [1,1,1,1,1] rfl (storesC_at q77_st [1,1,1,1,1]))).mono fun st k h=>ckD_mono h fun v hv hw=>Eq.mpr (q77_v5 k v) (hv hw)
def q77_B5:Labs:=([1,1,1,1,1],q77_X5)::q77_B4
theorem q77_b5:LabsOk Tryz.prog (bodyOf Tryz.f16) q77_B5:=LabsOk.cons q77_x5 (q77_b4)
def q77_d6:List LS:=[.b 1 8 [],.o 3 29 5 yU,.c 8 tyX]
def q77_d6r:List LS:=[.v 2 yB]
def q77_dx6:DX:=⟨none,some q77_d6r,[]⟩
def q77_y6r (k:Ex→St→Prop) (x2:LI):Prop:=wfD q77_d6r (x2,())→k .ret (mkD 123 q77_d6r (x2,()))
def q77_J6 (kr:LI→Prop) (out3:LI) (x1b:tEx):Prop:=
 bif (decide (x1b.2.2.2.1=([62]:LI))) then
 (wfD q77_d0 (out3,(decide (x1b.2.2.2.1=([62]:LI))),x1b,())→q77_J0 (fun (out3:LI) (x1b:tEx)=>wfD q77_d0n (out3,x1b,())→(
 (wfD q77_d5 (out3,x1b,())→q77_J5 (fun (x2:LI)=>wfD q77_d5r (x2,())→(
 kr x2)) out3 x1b))) out3 (decide (x1b.2.2.2.1=([62]:LI))) x1b)
 else
 (wfD q77_d0 (out3,(decide (x1b.2.2.2.1=([60]:LI))),x1b,())→q77_J0 (fun (out3:LI) (x1b:tEx)=>wfD q77_d0n (out3,x1b,())→(
 (wfD q77_d5 (out3,x1b,())→q77_J5 (fun (x2:LI)=>wfD q77_d5r (x2,())→(
 kr x2)) out3 x1b))) out3 (decide (x1b.2.2.2.1=([60]:LI))) x1b)
def q77_g6 (k:Ex→St→Prop) (v:vals q77_d6):Prop:=q77_J6 (q77_y6r k) v.1 v.2.1
theorem q77_v6 (k:Ex→St→Prop):∀ v:vals q77_d6,ex tb (getG q77_G) q77_B5 (at' (bodyOf Tryz.f16) [1,1,1,1]) [1,1,1,1] (mkD 123 q77_d6 v) (wk 123 q77_dx6 k)=q77_g6 k v
  | (out3,x1b,())=>by kernel_rfl
def q77_X6:Pce:=fun st k=>ckD 123 q77_d6 st fun v=>wfD q77_d6 v→q77_g6 k v
theorem q77_x6:SemOk Tryz.prog (at' (bodyOf Tryz.f16) [1,1,1,1]) q77_X6:=
  (SemOk.wk (N:=123) (ds:=q77_d6) (dx:=q77_dx6) (ex_sound tb_M tb_ok q77_Gok (q77_b5) (at' (bodyOf Tryz.f16) [1,1,1,1]) [1,1,1,1] rfl (storesC_at q77_st [1,1,1,1]))).mono fun st k h=>ckD_mono h fun v hv hw=>Eq.mpr (q77_v6 k v) (hv hw)
def q77_B6:Labs:=([1,1,1,1],q77_X6)::q77_B5
theorem q77_b6:LabsOk Tryz.prog (bodyOf Tryz.f16) q77_B6:=LabsOk.cons q77_x6 (q77_b5)
def q77_raw (x0:tEx) (K:Res→List Cell→Prop):Prop:=
 bif (decide (x0.2.2.2.2.2.2.1<(0:Int))) then
 K (.one (.v yB ([]:LI))) []
 else
 bif (decide ((9999:Int)<x0.2.2.2.2.2.2.1)) then
 K (.one (.v yB ([]:LI))) []
 else
 bif x0.2.2.1 then
 bif decide (List.length ([]:LI)+List.length ([(37:Int)]:LI)≤lim) then
 (wfD q77_d6 ((([]:LI)++([(37:Int)]:LI)),x0,())→q77_J6 (fun (x2:LI)=>wfD q77_d6r (x2,())→(
 K (.one (.v yB x2)) [])) (([]:LI)++([(37:Int)]:LI)) x0)
 else False
 else
 q71_P x0.1∧(
 ∀ (r6:LI),r6=q71_F x0.1→(
 wfR (.one (.fr 5 yU r6))→(
 bif decide (List.length ([]:LI)+List.length r6≤lim) then
 bif x0.2.1.2.2.2.2.2 then
 bif decide (List.length (([]:LI)++r6)+List.length ([(44:Int)]:LI)≤lim) then
 q71_P x0.2.1∧(
 ∀ (r7:LI),r7=q71_F x0.2.1→(
 wfR (.one (.fr 5 yU r7))→(
 bif decide (List.length ((([]:LI)++r6)++([(44:Int)]:LI))+List.length r7≤lim) then
 (wfD q77_d6 ((((([]:LI)++r6)++([(44:Int)]:LI))++r7),x0,())→q77_J6 (fun (x2:LI)=>wfD q77_d6r (x2,())→(
 K (.one (.v yB x2)) [])) (((([]:LI)++r6)++([(44:Int)]:LI))++r7) x0)
 else False)))
 else False
 else
 (wfD q77_d6 ((([]:LI)++r6),x0,())→q77_J6 (fun (x2:LI)=>wfD q77_d6r (x2,())→(
 K (.one (.v yB x2)) [])) (([]:LI)++r6) x0)
 else False)))
def q77_A:List AS:=[.v tyX]

def q77_J0_P (out3:LI) (x41:Bool) (x1b:tEx):Prop:=
 bif x41 then
 q76_P x1b.2.2.2.1 x1b.2.2.2.2.2.2.1∧(
 let r1:LI:=q76_F x1b.2.2.2.1 x1b.2.2.2.2.2.2.1
 (List.length out3+List.length r1≤lim))
 else
 (List.length out3+List.length x1b.2.2.2.1≤lim)
def q77_J0_F (out3:LI) (x41:Bool) (x1b:tEx):LI×tEx:=
 bif x41 then
 let r1:LI:=q76_F x1b.2.2.2.1 x1b.2.2.2.2.2.2.1
 ((out3++r1),x1b)
 else
 ((out3++x1b.2.2.2.1),x1b)
theorem q77_J0_sp (kn:LI→tEx→Prop) (out3:LI) (x41:Bool) (x1b:tEx) (hp:q77_J0_P out3 x41 x1b) (hn:∀ q:LI×tEx,q=q77_J0_F out3 x41 x1b→kn q.1 q.2):q77_J0 kn out3 x41 x1b:=
 have h:=hn; br1 hp h (fun _ hp h=>an1 hp fun hp=>al (as0 hp (h _ rfl)))
 fun _ hp h=>as0 hp (h _ rfl)
def q77_J1_P (out3:LI) (x61:LI) (x78:Bool) (x1b:tEx):Prop:=
 bif x78 then
 (List.length out3+List.length ([(32:Int)]:LI)≤lim)∧(
 q71_P x1b.2.2.2.2.1∧(
 let r3:LI:=q71_F x1b.2.2.2.2.1
 (List.length (out3++([(32:Int)]:LI))+List.length r3≤lim)))
 else
 bif (decide (x61=([115]:LI))) then
 (List.length out3+List.length ([(47:Int)]:LI)≤lim)∧(
 (List.length (out3++([(47:Int)]:LI))+List.length x1b.2.2.2.2.2.2.2.1≤lim)∧(
 (List.length ((out3++([(47:Int)]:LI))++x1b.2.2.2.2.2.2.2.1)+List.length ([(47:Int)]:LI)≤lim)∧(
 (List.length (((out3++([(47:Int)]:LI))++x1b.2.2.2.2.2.2.2.1)++([(47:Int)]:LI))+List.length x1b.2.2.2.2.2.2.2.2.1≤lim)∧(
 bif x1b.2.2.2.2.2.2.2.2.2 then
 (List.length ((((out3++([(47:Int)]:LI))++x1b.2.2.2.2.2.2.2.1)++([(47:Int)]:LI))++x1b.2.2.2.2.2.2.2.2.1)+List.length ([47,103]:LI)≤lim)
 else
 True))))
 else
 True
def q77_J1_F (out3:LI) (x61:LI) (x78:Bool) (x1b:tEx):LI×tEx:=
 bif x78 then
 let r3:LI:=q71_F x1b.2.2.2.2.1
 (((out3++([(32:Int)]:LI))++r3),x1b)
 else
 bif (decide (x61=([115]:LI))) then
 bif x1b.2.2.2.2.2.2.2.2.2 then
 ((((((out3++([(47:Int)]:LI))++x1b.2.2.2.2.2.2.2.1)++([(47:Int)]:LI))++x1b.2.2.2.2.2.2.2.2.1)++([47,103]:LI)),x1b)
 else
 (((((out3++([(47:Int)]:LI))++x1b.2.2.2.2.2.2.2.1)++([(47:Int)]:LI))++x1b.2.2.2.2.2.2.2.2.1),x1b)
 else
 (out3,x1b)
theorem q77_J1_sp (kn:LI→tEx→Prop) (out3:LI) (x61:LI) (x78:Bool) (x1b:tEx) (hp:q77_J1_P out3 x61 x78 x1b) (hn:∀ q:LI×tEx,q=q77_J1_F out3 x61 x78 x1b→kn q.1 q.2):q77_J1 kn out3 x61 x78 x1b:=
 have h:=hn; br1 hp h (fun _ hp h=>as1 hp fun hp=>an1 hp fun hp=>al (as0 hp (h _ rfl)))
 fun _ hp h=>br1 hp h (fun _ hp h=>as1 hp fun hp=>as1 hp fun hp=>as1 hp fun hp=>as1 hp fun hp=>br1 hp h (fun _ hp h=>as0 hp (h _ rfl))
 fun _ hp h=>h _ rfl)
 fun _ hp h=>h _ rfl
def q77_J2_P (out3:LI) (x61:LI) (x62:Bool) (x1b:tEx):Prop:=
 bif x62 then
 bif (decide ((0:Int)<x1b.2.2.2.2.2.2.1)) then
 (List.length out3+List.length ([(32:Int)]:LI)≤lim)∧(
 q63_P x1b.2.2.2.2.2.2.1∧(
 let r2:LI:=q63_F x1b.2.2.2.2.2.2.1
 (List.length (out3++([(32:Int)]:LI))+List.length r2≤lim)))
 else
 True
 else
 bif (decide (x61=([116]:LI))) then
 q77_J1_P out3 x61 (decide (x61=([116]:LI))) x1b
 else
 q77_J1_P out3 x61 (decide (x61=([109]:LI))) x1b
def q77_J2_F (out3:LI) (x61:LI) (x62:Bool) (x1b:tEx):LI×tEx:=
 bif x62 then
 bif (decide ((0:Int)<x1b.2.2.2.2.2.2.1)) then
 let r2:LI:=q63_F x1b.2.2.2.2.2.2.1
 (((out3++([(32:Int)]:LI))++r2),x1b)
 else
 (out3,x1b)
 else
 bif (decide (x61=([116]:LI))) then
 let q1n:LI×tEx:=q77_J1_F out3 x61 (decide (x61=([116]:LI))) x1b
 let out3:LI:=q1n.1
 let x1b:tEx:=q1n.2
 (out3,x1b)
 else
 let q1n:LI×tEx:=q77_J1_F out3 x61 (decide (x61=([109]:LI))) x1b
 let out3:LI:=q1n.1
 let x1b:tEx:=q1n.2
 (out3,x1b)
theorem q77_J2_sp (kn:LI→tEx→Prop) (out3:LI) (x61:LI) (x62:Bool) (x1b:tEx) (hp:q77_J2_P out3 x61 x62 x1b) (hn:∀ q:LI×tEx,q=q77_J2_F out3 x61 x62 x1b→kn q.1 q.2):q77_J2 kn out3 x61 x62 x1b:=
 have h:=hn; br1 hp h (fun _ hp h=>br1 hp h (fun _ hp h=>as1 hp fun hp=>an1 hp fun hp=>al (as0 hp (h _ rfl)))
 fun _ hp h=>h _ rfl)
 fun _ hp h=>br1 hp h (fun _ hp h=>fun _=>q77_J1_sp _ _ _ _ _ hp (al (h _ rfl)))
 fun _ hp h=>fun _=>q77_J1_sp _ _ _ _ _ hp (al (h _ rfl))
def q77_J3_P (out3:LI) (x1b:tEx):Prop:=
 q75_P out3
def q77_J3_F (out3:LI) (x1b:tEx):LI:=
 let r4:tEx×Int:=q75_F out3
 bif (!decide (r4.2=(0:Int))) then
 (([]:LI))
 else
 let r5:Bool:=q87_F x1b r4.1
 bif (!r5) then
 (([]:LI))
 else
 (out3)
theorem q77_J3_sp (kr:LI→Prop) (out3:LI) (x1b:tEx) (hp:q77_J3_P out3 x1b) (hr:∀ q:LI,q=q77_J3_F out3 x1b→kr q):q77_J3 kr out3 x1b:=
 have h:=hr; ⟨hp,al (br0 h (fun _ h=>h _ rfl)
 fun _ h=>al (br0 h (fun _ h=>h _ rfl)
 fun _ h=>h _ rfl))⟩
def q77_J4_P (out3:LI) (x1b:tEx):Prop:=
 bif (decide (x1b.2.2.2.1=([100]:LI))) then
 q77_J2_P out3 x1b.2.2.2.1 (decide (x1b.2.2.2.1=([100]:LI))) x1b∧(
 let q2n:LI×tEx:=q77_J2_F out3 x1b.2.2.2.1 (decide (x1b.2.2.2.1=([100]:LI))) x1b
 let out3:LI:=q2n.1
 let x1b:tEx:=q2n.2
 q77_J3_P out3 x1b)
 else
 bif (decide (x1b.2.2.2.1=([121]:LI))) then
 q77_J2_P out3 x1b.2.2.2.1 (decide (x1b.2.2.2.1=([121]:LI))) x1b∧(
 let q2n:LI×tEx:=q77_J2_F out3 x1b.2.2.2.1 (decide (x1b.2.2.2.1=([121]:LI))) x1b
 let out3:LI:=q2n.1
 let x1b:tEx:=q2n.2
 q77_J3_P out3 x1b)
 else
 bif (decide (x1b.2.2.2.1=([106]:LI))) then
 q77_J2_P out3 x1b.2.2.2.1 (decide (x1b.2.2.2.1=([106]:LI))) x1b∧(
 let q2n:LI×tEx:=q77_J2_F out3 x1b.2.2.2.1 (decide (x1b.2.2.2.1=([106]:LI))) x1b
 let out3:LI:=q2n.1
 let x1b:tEx:=q2n.2
 q77_J3_P out3 x1b)
 else
 q77_J2_P out3 x1b.2.2.2.1 (decide (x1b.2.2.2.1=([106,33]:LI))) x1b∧(
 let q2n:LI×tEx:=q77_J2_F out3 x1b.2.2.2.1 (decide (x1b.2.2.2.1=([106,33]:LI))) x1b
 let out3:LI:=q2n.1
 let x1b:tEx:=q2n.2
 q77_J3_P out3 x1b)
def q77_J4_F (out3:LI) (x1b:tEx):LI:=
 bif (decide (x1b.2.2.2.1=([100]:LI))) then
 let q2n:LI×tEx:=q77_J2_F out3 x1b.2.2.2.1 (decide (x1b.2.2.2.1=([100]:LI))) x1b
 let out3:LI:=q2n.1
 let x1b:tEx:=q2n.2
 let q3r:LI:=q77_J3_F out3 x1b
 let x2:LI:=q3r
 (x2)
 else
 bif (decide (x1b.2.2.2.1=([121]:LI))) then
 let q2n:LI×tEx:=q77_J2_F out3 x1b.2.2.2.1 (decide (x1b.2.2.2.1=([121]:LI))) x1b
 let out3:LI:=q2n.1
 let x1b:tEx:=q2n.2
 let q3r:LI:=q77_J3_F out3 x1b
 let x2:LI:=q3r
 (x2)
 else
 bif (decide (x1b.2.2.2.1=([106]:LI))) then
 let q2n:LI×tEx:=q77_J2_F out3 x1b.2.2.2.1 (decide (x1b.2.2.2.1=([106]:LI))) x1b
 let out3:LI:=q2n.1
 let x1b:tEx:=q2n.2
 let q3r:LI:=q77_J3_F out3 x1b
 let x2:LI:=q3r
 (x2)
 else
 let q2n:LI×tEx:=q77_J2_F out3 x1b.2.2.2.1 (decide (x1b.2.2.2.1=([106,33]:LI))) x1b
 let out3:LI:=q2n.1
 let x1b:tEx:=q2n.2
 let q3r:LI:=q77_J3_F out3 x1b
 let x2:LI:=q3r
 (x2)
theorem q77_J4_sp (kr:LI→Prop) (out3:LI) (x1b:tEx) (hp:q77_J4_P out3 x1b) (hr:∀ q:LI,q=q77_J4_F out3 x1b→kr q):q77_J4 kr out3 x1b:=
 have h:=hr; br1 hp h (fun _ hp h=>fun _=>q77_J2_sp _ _ _ _ _ hp.1 (have hp:=hp.2; al (fun _=>q77_J3_sp _ _ _ hp (al (h _ rfl)))))
 fun _ hp h=>br1 hp h (fun _ hp h=>fun _=>q77_J2_sp _ _ _ _ _ hp.1 (have hp:=hp.2; al (fun _=>q77_J3_sp _ _ _ hp (al (h _ rfl)))))
 fun _ hp h=>br1 hp h (fun _ hp h=>fun _=>q77_J2_sp _ _ _ _ _ hp.1 (have hp:=hp.2; al (fun _=>q77_J3_sp _ _ _ hp (al (h _ rfl)))))
 fun _ hp h=>fun _=>q77_J2_sp _ _ _ _ _ hp.1 (have hp:=hp.2; al (fun _=>q77_J3_sp _ _ _ hp (al (h _ rfl))))
def q77_J5_P (out3:LI) (x1b:tEx):Prop:=
 bif (!decide (x1b.2.2.2.2.2.1=(0:Int))) then
 (List.length out3+List.length ([(32:Int),x1b.2.2.2.2.2.1]:LI)≤lim)∧(
 q77_J4_P (out3++([(32:Int),x1b.2.2.2.2.2.1]:LI)) x1b)
 else
 q77_J4_P out3 x1b
def q77_J5_F (out3:LI) (x1b:tEx):LI:=
 bif (!decide (x1b.2.2.2.2.2.1=(0:Int))) then
 let q4r:LI:=q77_J4_F (out3++([(32:Int),x1b.2.2.2.2.2.1]:LI)) x1b
 let x2:LI:=q4r
 (x2)
 else
 let q4r:LI:=q77_J4_F out3 x1b
 let x2:LI:=q4r
 (x2)
theorem q77_J5_sp (kr:LI→Prop) (out3:LI) (x1b:tEx) (hp:q77_J5_P out3 x1b) (hr:∀ q:LI,q=q77_J5_F out3 x1b→kr q):q77_J5 kr out3 x1b:=
 have h:=hr; br1 hp h (fun _ hp h=>as1 hp fun hp=>fun _=>q77_J4_sp _ _ _ hp (al (h _ rfl)))
 fun _ hp h=>fun _=>q77_J4_sp _ _ _ hp (al (h _ rfl))
def q77_J6_P (out3:LI) (x1b:tEx):Prop:=
 bif (decide (x1b.2.2.2.1=([62]:LI))) then
 q77_J0_P out3 (decide (x1b.2.2.2.1=([62]:LI))) x1b∧(
 let q0n:LI×tEx:=q77_J0_F out3 (decide (x1b.2.2.2.1=([62]:LI))) x1b
 let out3:LI:=q0n.1
 let x1b:tEx:=q0n.2
 q77_J5_P out3 x1b)
 else
 q77_J0_P out3 (decide (x1b.2.2.2.1=([60]:LI))) x1b∧(
 let q0n:LI×tEx:=q77_J0_F out3 (decide (x1b.2.2.2.1=([60]:LI))) x1b
 let out3:LI:=q0n.1
 let x1b:tEx:=q0n.2
 q77_J5_P out3 x1b)
def q77_J6_F (out3:LI) (x1b:tEx):LI:=
 bif (decide (x1b.2.2.2.1=([62]:LI))) then
 let q0n:LI×tEx:=q77_J0_F out3 (decide (x1b.2.2.2.1=([62]:LI))) x1b
 let out3:LI:=q0n.1
 let x1b:tEx:=q0n.2
 let q5r:LI:=q77_J5_F out3 x1b
 let x2:LI:=q5r
 (x2)
 else
 let q0n:LI×tEx:=q77_J0_F out3 (decide (x1b.2.2.2.1=([60]:LI))) x1b
 let out3:LI:=q0n.1
 let x1b:tEx:=q0n.2
 let q5r:LI:=q77_J5_F out3 x1b
 let x2:LI:=q5r
 (x2)
theorem q77_J6_sp (kr:LI→Prop) (out3:LI) (x1b:tEx) (hp:q77_J6_P out3 x1b) (hr:∀ q:LI,q=q77_J6_F out3 x1b→kr q):q77_J6 kr out3 x1b:=
 have h:=hr; br1 hp h (fun _ hp h=>fun _=>q77_J0_sp _ _ _ _ hp.1 (have hp:=hp.2; al (fun _=>q77_J5_sp _ _ _ hp (al (h _ rfl)))))
 fun _ hp h=>fun _=>q77_J0_sp _ _ _ _ hp.1 (have hp:=hp.2; al (fun _=>q77_J5_sp _ _ _ hp (al (h _ rfl))))
def q77_P (x0:tEx):Prop:=
 bif (decide (x0.2.2.2.2.2.2.1<(0:Int))) then
 True
 else
 bif (decide ((9999:Int)<x0.2.2.2.2.2.2.1)) then
 True
 else
 bif x0.2.2.1 then
 (List.length ([]:LI)+List.length ([(37:Int)]:LI)≤lim)∧(
 q77_J6_P (([]:LI)++([(37:Int)]:LI)) x0)
 else
 q71_P x0.1∧(
 let r6:LI:=q71_F x0.1
 (List.length ([]:LI)+List.length r6≤lim)∧(
 bif x0.2.1.2.2.2.2.2 then
 (List.length (([]:LI)++r6)+List.length ([(44:Int)]:LI)≤lim)∧(
 q71_P x0.2.1∧(
 let r7:LI:=q71_F x0.2.1
 (List.length ((([]:LI)++r6)++([(44:Int)]:LI))+List.length r7≤lim)∧(
 q77_J6_P (((([]:LI)++r6)++([(44:Int)]:LI))++r7) x0)))
 else
 q77_J6_P (([]:LI)++r6) x0))
def q77_F (x0:tEx):LI:=
 bif (decide (x0.2.2.2.2.2.2.1<(0:Int))) then
 ([]:LI)
 else
 bif (decide ((9999:Int)<x0.2.2.2.2.2.2.1)) then
 ([]:LI)
 else
 bif x0.2.2.1 then
 let q6r:LI:=q77_J6_F (([]:LI)++([(37:Int)]:LI)) x0
 let x2:LI:=q6r
 x2
 else
 let r6:LI:=q71_F x0.1
 bif x0.2.1.2.2.2.2.2 then
 let r7:LI:=q71_F x0.2.1
 let q6r:LI:=q77_J6_F (((([]:LI)++r6)++([(44:Int)]:LI))++r7) x0
 let x2:LI:=q6r
 x2
 else
 let q6r:LI:=q77_J6_F (([]:LI)++r6) x0
 let x2:LI:=q6r
 x2
theorem q77_sp (x0:tEx) (K:Res→List Cell→Prop) (_:wfA q77_A (x0,())) (hp:q77_P x0) (h:∀ r:LI,r=q77_F x0→K (.one (.v yB r)) []):q77_raw x0 K:=
 br1 hp h (fun _ hp h=>h _ rfl)
 fun _ hp h=>br1 hp h (fun _ hp h=>h _ rfl)
 fun _ hp h=>br1 hp h (fun _ hp h=>as1 hp fun hp=>fun _=>q77_J6_sp _ _ _ hp (al (h _ rfl)))
 fun _ hp h=>an1 hp fun hp=>al (as1 hp fun hp=>br1 hp h (fun _ hp h=>as1 hp fun hp=>an1 hp fun hp=>al (as1 hp fun hp=>fun _=>q77_J6_sp _ _ _ hp (al (h _ rfl))))
 fun _ hp h=>fun _=>q77_J6_sp _ _ _ hp (al (h _ rfl)))
def q77_C (v:valsA q77_A) (K:Res→List Cell→Prop):Prop:=q77_P v.1∧∀ r:LI,r=q77_F v.1→K (.one (.v yB r)) []
def q77_S:App:=specW q77_A q77_C
theorem q77_wv (K:Res→List Cell→Prop):∀ v:valsA q77_A,runF tb (getG q77_G) q77_B6 Tryz.f16 [false] (mkA q77_A v) K=q77_raw v.1 K
  | (x0,())=>by kernel_rfl
theorem q77_ok:AppOk Tryz.prog 16 q77_S:=
  AppOk.specW (spec_ok ((runF_ok tb_M tb_ok q77_Gok (q77_b6) (f:=16) (fn:=Tryz.f16) (by kernel_rfl) (by kernel_rfl) q77_st [false])) fun v K hw h=>(q77_wv K v).mpr (q77_sp v.1 K hw h.1 h.2))

def q90_G:List (Nat×App):=[(69,q89_S)]
theorem q90_Gok:GOk Tryz.prog (getG q90_G):=GOk.cons q89_ok (GOk.nil)
def q90_raw (t0:LI) (K:Res→List Cell→Prop):Prop:=
 q89_P t0 ([(10:Int)]:LI)∧(
 ∀ (r1:Int),r1=q89_F t0 ([(10:Int)]:LI)→(
 wI r1→(
 K (.one (.v yI (IntKind.wrap .i64 (r1+(1:Int))))) [])))
def q90_A:List AS:=[.v yB]

def q90_P (t0:LI):Prop:=
 q89_P t0 ([(10:Int)]:LI)
def q90_F (t0:LI):Int:=
 let r1:Int:=q89_F t0 ([(10:Int)]:LI)
 (IntKind.wrap .i64 (r1+(1:Int)))
theorem q90_sp (t0:LI) (K:Res→List Cell→Prop) (_:wfA q90_A (t0,())) (hp:q90_P t0) (h:∀ r:Int,r=q90_F t0→K (.one (.v yI r)) []):q90_raw t0 K:=
 ⟨hp,al (h _ rfl)⟩
def q90_C (v:valsA q90_A) (K:Res→List Cell→Prop):Prop:=q90_P v.1∧∀ r:Int,r=q90_F v.1→K (.one (.v yI r)) []
def q90_S:App:=specW q90_A q90_C
theorem q90_wv (K:Res→List Cell→Prop):∀ v:valsA q90_A,runF tb (getG q90_G) [] Tryz.f28 [true] (mkA q90_A v) K=q90_raw v.1 K
  | (t0,())=>by kernel_rfl
theorem q90_ok:AppOk Tryz.prog 28 q90_S:=
  AppOk.specW (spec_ok ((runF_ok tb_M tb_ok q90_Gok (LabsOk.nil) (f:=28) (fn:=Tryz.f28) (by kernel_rfl) (by kernel_rfl) (by kernel_rfl) [true])) fun v K hw h=>(q90_wv K v).mpr (q90_sp v.1 K hw h.1 h.2))

end Go.VE
namespace Go.VE
open Go Go.Proofs
def q6_F (xs:LI) (c:Int):Int:=idxB xs c
def q6_S:App:=specW sliceByte_A fun v K=>∀ r:Int,r=q6_F v.1 v.2.1→K (.one (.v yI r)) []
theorem q6_ok:AppOk Tryz.prog 222 q6_S:=
  ext_indexByte (fn:=Tryz.f222) (by kernel_rfl) (by kernel_rfl) (by kernel_rfl) (by kernel_rfl) (by kernel_rfl)

end Go.VE
namespace Go.VE
set_option maxRecDepth 20000
open Go Go.Proofs
def q59_G:List (Nat×App):=[(222,q6_S)]
theorem q59_Gok:GOk Tryz.prog (getG q59_G):=GOk.cons q6_ok (GOk.nil)
def q59_raw (b0:LI) (c1:Int) (K:Res→List Cell→Prop):Prop:=
 ∀ (r1:Int),r1=q6_F b0 c1→(
 wI r1→(
 K (.one (.v yI r1)) []))
def q59_A:List AS:=[.v yB,.v yU]

def q59_F (b0:LI) (c1:Int):Int:=
 let r1:Int:=q6_F b0 c1
 r1
theorem q59_sp (b0:LI) (c1:Int) (K:Res→List Cell→Prop) (_:wfA q59_A (b0,c1,())) (h:∀ r:Int,r=q59_F b0 c1→K (.one (.v yI r)) []):q59_raw b0 c1 K:=
 al (h _ rfl)
def q59_C (v:valsA q59_A) (K:Res→List Cell→Prop):Prop:=∀ r:Int,r=q59_F v.1 v.2.1→K (.one (.v yI r)) []
def q59_S:App:=specW q59_A q59_C
theorem q59_wv (K:Res→List Cell→Prop):∀ v:valsA q59_A,runF tb (getG q59_G) [] Tryz.f189 [true] (mkA q59_A v) K=q59_raw v.1 v.2.1 K
  | (b0,c1,())=>by kernel_rfl
theorem q59_ok:AppOk Tryz.prog 189 q59_S:=
  AppOk.specW (spec_ok ((runF_ok tb_M tb_ok q59_Gok (LabsOk.nil) (f:=189) (fn:=Tryz.f189) (by kernel_rfl) (by kernel_rfl) (by kernel_rfl) [true])) fun v K hw h=>(q59_wv K v).mpr (q59_sp v.1 v.2.1 K hw h))

end Go.VE
namespace Go.VE
open Go Go.Proofs
def q102_A:List AS:=[]
def q102_S:App:=specW q102_A fun _ _=>False
theorem q102_ok:AppOk Tryz.prog 206 q102_S:=AppOk.never
def q64_A:List AS:=[]
def q64_S:App:=specW q64_A fun _ _=>False
theorem q64_ok:AppOk Tryz.prog 207 q64_S:=AppOk.never
end Go.VE
namespace Go.VE
set_option maxRecDepth 20000
open Go Go.Proofs
def q78_G:List (Nat×App):=[(28,q90_S),(189,q59_S),(206,q102_S),(207,q64_S)]
theorem q78_Gok:GOk Tryz.prog (getG q78_G):=GOk.cons q90_ok (GOk.cons q59_ok (GOk.cons q102_ok (GOk.cons q64_ok (GOk.nil))))
theorem q78_st:storesC (bodyOf Tryz.f167)=true:=by kernel_rfl
def q78_d0:List LS:=[.b 9 72 [],.v 12 yI,.v 13 yI,.c 72 tyA]
def q78_d0r:List LS:=[.v 10 yI,.v 11 yI]
def q78_dx0:DX:=⟨none,some q78_d0r,[]⟩
def q78_y0r (k:Ex→St→Prop) (x10:Int) (x11:Int):Prop:=wfD q78_d0r (x10,x11,())→k .ret (mkD 127 q78_d0r (x10,x11,()))
def q78_J0 (kr:Int→Int→Prop) (last12:Int) (l13:Int) (a9b:tAd):Prop:=
 bif (decide (l13<(0:Int))) then
 bif (decide (a9b.2.2.2.2.1≤(0:Int))) then
 kr (0:Int) (231:Int)
 else
 bif (decide (last12<l13)) then
 bif (decide ((0:Int)≤a9b.2.2.2.2.1)) then
 kr (0:Int) (231:Int)
 else
 bif (decide (last12<a9b.2.2.2.2.1)) then
 bif (decide ((0:Int)≤l13)) then
 kr (0:Int) (231:Int)
 else
 bif (decide ((IntKind.wrap .i64 (l13+a9b.2.2.2.2.1))<(0:Int))) then
 kr (0:Int) (231:Int)
 else
 bif (decide (last12<(IntKind.wrap .i64 (l13+a9b.2.2.2.2.1)))) then
 kr (0:Int) (231:Int)
 else
 kr (IntKind.wrap .i64 (l13+a9b.2.2.2.2.1)) (0:Int)
 else
 bif (decide ((IntKind.wrap .i64 (l13+a9b.2.2.2.2.1))<(0:Int))) then
 kr (0:Int) (231:Int)
 else
 bif (decide (last12<(IntKind.wrap .i64 (l13+a9b.2.2.2.2.1)))) then
 kr (0:Int) (231:Int)
 else
 kr (IntKind.wrap .i64 (l13+a9b.2.2.2.2.1)) (0:Int)
 else
 bif (decide (last12<a9b.2.2.2.2.1)) then
 bif (decide ((0:Int)≤l13)) then
 kr (0:Int) (231:Int)
 else
 bif (decide ((IntKind.wrap .i64 (l13+a9b.2.2.2.2.1))<(0:Int))) then
 kr (0:Int) (231:Int)
 else
 bif (decide (last12<(IntKind.wrap .i64 (l13+a9b.2.2.2.2.1)))) then
 kr (0:Int) (231:Int)
 else
 kr (IntKind.wrap .i64 (l13+a9b.2.2.2.2.1)) (0:Int)
 else
 bif (decide ((IntKind.wrap .i64 (l13+a9b.2.2.2.2.1))<(0:Int))) then
 kr (0:Int) (231:Int)
 else
 bif (decide (last12<(IntKind.wrap .i64 (l13+a9b.2.2.2.2.1)))) then
 kr (0:Int) (231:Int)
 else
 kr (IntKind.wrap .i64 (l13+a9b.2.2.2.2.1)) (0:Int)
 else
 bif (decide (last12<l13)) then
 bif (decide ((0:Int)≤a9b.2.2.2.2.1)) then
 kr (0:Int) (231:Int)
 else
 bif (decide (last12<a9b.2.2.2.2.1)) then
 bif (decide ((0:Int)≤l13)) then
 kr (0:Int) (231:Int)
 else
 bif (decide ((IntKind.wrap .i64 (l13+a9b.2.2.2.2.1))<(0:Int))) then
 kr (0:Int) (231:Int)
 else
 bif (decide (last12<(IntKind.wrap .i64 (l13+a9b.2.2.2.2.1)))) then
 kr (0:Int) (231:Int)
 else
 kr (IntKind.wrap .i64 (l13+a9b.2.2.2.2.1)) (0:Int)
 else
 bif (decide ((IntKind.wrap .i64 (l13+a9b.2.2.2.2.1))<(0:Int))) then
 kr (0:Int) (231:Int)
 else
 bif (decide (last12<(IntKind.wrap .i64 (l13+a9b.2.2.2.2.1)))) then
 kr (0:Int) (231:Int)
 else
 kr (IntKind.wrap .i64 (l13+a9b.2.2.2.2.1)) (0:Int)
 else
 bif (decide (last12<a9b.2.2.2.2.1)) then
 bif (decide ((0:Int)≤l13)) then
 kr (0:Int) (231:Int)
 else
 bif (decide ((IntKind.wrap .i64 (l13+a9b.2.2.2.2.1))<(0:Int))) then
 kr (0:Int) (231:Int)
 else
 bif (decide (last12<(IntKind.wrap .i64 (l13+a9b.2.2.2.2.1)))) then
 kr (0:Int) (231:Int)
 else
 kr (IntKind.wrap .i64 (l13+a9b.2.2.2.2.1)) (0:Int)
 else
 bif (decide ((IntKind.wrap .i64 (l13+a9b.2.2.2.2.1))<(0:Int))) then
 kr (0:Int) (231:Int)
 else
 bif (decide (last12<(IntKind.wrap .i64 (l13+a9b.2.2.2.2.1)))) then
 kr (0:Int) (231:Int)
 else
 kr (IntKind.wrap .i64 (l13+a9b.2.2.2.2.1)) (0:Int)
def q78_g0 (k:Ex→St→Prop) (v:vals q78_d0):Prop:=q78_J0 (q78_y0r k) v.1 v.2.1 v.2.2.1
theorem q78_v0 (k:Ex→St→Prop):∀ v:vals q78_d0,ex tb (getG q78_G) [] (at' (bodyOf Tryz.f167) [1,1,1,1,1,1]) [1,1,1,1,1,1] (mkD 127 q78_d0 v) (wk 127 q78_dx0 k)=q78_g0 k v
  | (last12,l13,a9b,())=>by kernel_rfl
def q78_X0:Pce:=fun st k=>ckD 127 q78_d0 st fun v=>wfD q78_d0 v→q78_g0 k v
theorem q78_x0:SemOk Tryz.prog (at' (bodyOf Tryz.f167) [1,1,1,1,1,1]) q78_X0:=
  (SemOk.wk (N:=127) (ds:=q78_d0) (dx:=q78_dx0) (ex_sound tb_M tb_ok q78_Gok (LabsOk.nil) (at' (bodyOf Tryz.f167) [1,1,1,1,1,1]) [1,1,1,1,1,1] rfl (storesC_at q78_st [1,1,1,1,1,1]))).mono fun st k h=>ckD_mono h fun v hv hw=>Eq.mpr (q78_v0 k v) (hv hw)
def q78_B0:Labs:=([1,1,1,1,1,1],q78_X0)::[]
theorem q78_b0:LabsOk Tryz.prog (bodyOf Tryz.f167) q78_B0:=LabsOk.cons q78_x0 (LabsOk.nil)
def q78_d1:List LS:=[.v 0 yB,.v 1 yI,.v 3 yB,.b 9 72 [],.v 12 yI,.v 13 yI,.v 74 .bool,.c 72 tyA]
def q78_d1n:List LS:=[.b 9 72 [],.v 12 yI,.v 13 yI,.c 72 tyA]
def q78_dx1:DX:=⟨some q78_d1n,none,[]⟩
def q78_y1n (k:Ex→St→Prop) (last12:Int) (l13:Int) (a9b:tAd):Prop:=wfD q78_d1n (last12,l13,a9b,())→k .nrm (mkD 127 q78_d1n (last12,l13,a9b,()))
def q78_J1 (kn:Int→Int→tAd→Prop) (t0:LI) (now1:Int) (hunt3:LI) (last12:Int) (l13:Int) (x74:Bool) (a9b:tAd):Prop:=
 bif x74 then
 False
 else
 kn last12 l13 a9b
def q78_g1 (k:Ex→St→Prop) (v:vals q78_d1):Prop:=q78_J1 (q78_y1n k) v.1 v.2.1 v.2.2.1 v.2.2.2.1 v.2.2.2.2.1 v.2.2.2.2.2.1 v.2.2.2.2.2.2.1
theorem q78_v1 (k:Ex→St→Prop):∀ v:vals q78_d1,ex tb (getG q78_G) q78_B0 (at' (bodyOf Tryz.f167) [1,1,1,1,1,1,1,0,1,0,1,1,1,1,1]) [1,1,1,1,1,1,1,0,1,0,1,1,1,1,1] (mkD 127 q78_d1 v) (wk 127 q78_dx1 k)=q78_g1 k v
  | (t0,now1,hunt3,last12,l13,x74,a9b,())=>by kernel_rfl
def q78_X1:Pce:=fun st k=>ckD 127 q78_d1 st fun v=>wfD q78_d1 v→q78_g1 k v
theorem q78_x1:SemOk Tryz.prog (at' (bodyOf Tryz.f167) [1,1,1,1,1,1,1,0,1,0,1,1,1,1,1]) q78_X1:=
  (SemOk.wk (N:=127) (ds:=q78_d1) (dx:=q78_dx1) (ex_sound tb_M tb_ok q78_Gok (q78_b0) (at' (bodyOf Tryz.f167) [1,1,1,1,1,1,1,0,1,0,1,1,1,1,1]) [1,1,1,1,1,1,1,0,1,0,1,1,1,1,1] rfl (storesC_at q78_st [1,1,1,1,1,1,1,0,1,0,1,1,1,1,1]))).mono fun st k h=>ckD_mono h fun v hv hw=>Eq.mpr (q78_v1 k v) (hv hw)
def q78_B1:Labs:=([1,1,1,1,1,1,1,0,1,0,1,1,1,1,1],q78_X1)::q78_B0
theorem q78_b1:LabsOk Tryz.prog (bodyOf Tryz.f167) q78_B1:=LabsOk.cons q78_x1 (q78_b0)
def q78_raw (t0:LI) (now1:Int) (m2:(Unit×Int)) (hunt3:LI) (a4:tAd) (K:Res→List Cell→Prop):Prop:=
 q90_P t0∧(
 ∀ (r1:Int),r1=q90_F t0→(
 wI r1→(
 bif (decide (now1<(1:Int))) then
 K (.tup [.v yI (0:Int),.v yI (2:Int)]) []
 else
 bif (decide (r1<now1)) then
 K (.tup [.v yI (0:Int),.v yI (2:Int)]) []
 else
 bif a4.2.2.2.2.2 then
 ∀ (r2:Int),r2=q59_F ([(110:Int),(46:Int),(36:Int),(39:Int),(47:Int),(63:Int),(0:Int)]:LI) a4.1→(
 wI r2→(
 bif (decide (r2<(0:Int))) then
 K (.tup [.v yI (0:Int),.v yI (2:Int)]) []
 else
 bif (!a4.2.2.2.2.2) then
 K (.tup [.v yI now1,.v yI (0:Int)]) []
 else
 bif (decide (a4.1=(110:Int))) then
 (wfD q78_d0 (r1,a4.2.1,a4,())→q78_J0 (fun (x10:Int) (x11:Int)=>wfD q78_d0r (x10,x11,())→(
 K (.tup [.v yI x10,.v yI x11]) [])) r1 a4.2.1 a4)
 else
 bif (decide (a4.1=(36:Int))) then
 (wfD q78_d0 (r1,r1,a4,())→q78_J0 (fun (x10:Int) (x11:Int)=>wfD q78_d0r (x10,x11,())→(
 K (.tup [.v yI x10,.v yI x11]) [])) r1 r1 a4)
 else
 bif (decide (a4.1=(39:Int))) then
 False
 else
 bif (decide (a4.1=(47:Int))) then
 (wfD q78_d1 (t0,now1,hunt3,r1,now1,(decide (a4.1=(47:Int))),a4,())→q78_J1 (fun (last12:Int) (l13:Int) (a9b:tAd)=>wfD q78_d1n (last12,l13,a9b,())→(
 (wfD q78_d0 (last12,l13,a9b,())→q78_J0 (fun (x10:Int) (x11:Int)=>wfD q78_d0r (x10,x11,())→(
 K (.tup [.v yI x10,.v yI x11]) [])) last12 l13 a9b))) t0 now1 hunt3 r1 now1 (decide (a4.1=(47:Int))) a4)
 else
 (wfD q78_d1 (t0,now1,hunt3,r1,now1,(decide (a4.1=(63:Int))),a4,())→q78_J1 (fun (last12:Int) (l13:Int) (a9b:tAd)=>wfD q78_d1n (last12,l13,a9b,())→(
 (wfD q78_d0 (last12,l13,a9b,())→q78_J0 (fun (x10:Int) (x11:Int)=>wfD q78_d0r (x10,x11,())→(
 K (.tup [.v yI x10,.v yI x11]) [])) last12 l13 a9b))) t0 now1 hunt3 r1 now1 (decide (a4.1=(63:Int))) a4)))
 else
 bif (!a4.2.2.2.2.2) then
 K (.tup [.v yI now1,.v yI (0:Int)]) []
 else
 bif (decide (a4.1=(110:Int))) then
 (wfD q78_d0 (r1,a4.2.1,a4,())→q78_J0 (fun (x10:Int) (x11:Int)=>wfD q78_d0r (x10,x11,())→(
 K (.tup [.v yI x10,.v yI x11]) [])) r1 a4.2.1 a4)
 else
 bif (decide (a4.1=(36:Int))) then
 (wfD q78_d0 (r1,r1,a4,())→q78_J0 (fun (x10:Int) (x11:Int)=>wfD q78_d0r (x10,x11,())→(
 K (.tup [.v yI x10,.v yI x11]) [])) r1 r1 a4)
 else
 bif (decide (a4.1=(39:Int))) then
 False
 else
 bif (decide (a4.1=(47:Int))) then
 (wfD q78_d1 (t0,now1,hunt3,r1,now1,(decide (a4.1=(47:Int))),a4,())→q78_J1 (fun (last12:Int) (l13:Int) (a9b:tAd)=>wfD q78_d1n (last12,l13,a9b,())→(
 (wfD q78_d0 (last12,l13,a9b,())→q78_J0 (fun (x10:Int) (x11:Int)=>wfD q78_d0r (x10,x11,())→(
 K (.tup [.v yI x10,.v yI x11]) [])) last12 l13 a9b))) t0 now1 hunt3 r1 now1 (decide (a4.1=(47:Int))) a4)
 else
 (wfD q78_d1 (t0,now1,hunt3,r1,now1,(decide (a4.1=(63:Int))),a4,())→q78_J1 (fun (last12:Int) (l13:Int) (a9b:tAd)=>wfD q78_d1n (last12,l13,a9b,())→(
 (wfD q78_d0 (last12,l13,a9b,())→q78_J0 (fun (x10:Int) (x11:Int)=>wfD q78_d0r (x10,x11,())→(
 K (.tup [.v yI x10,.v yI x11]) [])) last12 l13 a9b))) t0 now1 hunt3 r1 now1 (decide (a4.1=(63:Int))) a4))))
def q78_A:List AS:=[.v yB,.v yI,.v (.st (.pair (.arr 26 yI) yI)),.v yB,.v tyA]

def q78_J0_F (last12:Int) (l13:Int) (a9b:tAd):Int×Int:=
 bif (decide (l13<(0:Int))) then
 bif (decide (a9b.2.2.2.2.1≤(0:Int))) then
 ((0:Int),(231:Int))
 else
 bif (decide (last12<l13)) then
 bif (decide ((0:Int)≤a9b.2.2.2.2.1)) then
 ((0:Int),(231:Int))
 else
 bif (decide (last12<a9b.2.2.2.2.1)) then
 bif (decide ((0:Int)≤l13)) then
 ((0:Int),(231:Int))
 else
 bif (decide ((IntKind.wrap .i64 (l13+a9b.2.2.2.2.1))<(0:Int))) then
 ((0:Int),(231:Int))
 else
 bif (decide (last12<(IntKind.wrap .i64 (l13+a9b.2.2.2.2.1)))) then
 ((0:Int),(231:Int))
 else
 ((IntKind.wrap .i64 (l13+a9b.2.2.2.2.1)),(0:Int))
 else
 bif (decide ((IntKind.wrap .i64 (l13+a9b.2.2.2.2.1))<(0:Int))) then
 ((0:Int),(231:Int))
 else
 bif (decide (last12<(IntKind.wrap .i64 (l13+a9b.2.2.2.2.1)))) then
 ((0:Int),(231:Int))
 else
 ((IntKind.wrap .i64 (l13+a9b.2.2.2.2.1)),(0:Int))
 else
 bif (decide (last12<a9b.2.2.2.2.1)) then
 bif (decide ((0:Int)≤l13)) then
 ((0:Int),(231:Int))
 else
 bif (decide ((IntKind.wrap .i64 (l13+a9b.2.2.2.2.1))<(0:Int))) then
 ((0:Int),(231:Int))
 else
 bif (decide (last12<(IntKind.wrap .i64 (l13+a9b.2.2.2.2.1)))) then
 ((0:Int),(231:Int))
 else
 ((IntKind.wrap .i64 (l13+a9b.2.2.2.2.1)),(0:Int))
 else
 bif (decide ((IntKind.wrap .i64 (l13+a9b.2.2.2.2.1))<(0:Int))) then
 ((0:Int),(231:Int))
 else
 bif (decide (last12<(IntKind.wrap .i64 (l13+a9b.2.2.2.2.1)))) then
 ((0:Int),(231:Int))
 else
 ((IntKind.wrap .i64 (l13+a9b.2.2.2.2.1)),(0:Int))
 else
 bif (decide (last12<l13)) then
 bif (decide ((0:Int)≤a9b.2.2.2.2.1)) then
 ((0:Int),(231:Int))
 else
 bif (decide (last12<a9b.2.2.2.2.1)) then
 bif (decide ((0:Int)≤l13)) then
 ((0:Int),(231:Int))
 else
 bif (decide ((IntKind.wrap .i64 (l13+a9b.2.2.2.2.1))<(0:Int))) then
 ((0:Int),(231:Int))
 else
 bif (decide (last12<(IntKind.wrap .i64 (l13+a9b.2.2.2.2.1)))) then
 ((0:Int),(231:Int))
 else
 ((IntKind.wrap .i64 (l13+a9b.2.2.2.2.1)),(0:Int))
 else
 bif (decide ((IntKind.wrap .i64 (l13+a9b.2.2.2.2.1))<(0:Int))) then
 ((0:Int),(231:Int))
 else
 bif (decide (last12<(IntKind.wrap .i64 (l13+a9b.2.2.2.2.1)))) then
 ((0:Int),(231:Int))
 else
 ((IntKind.wrap .i64 (l13+a9b.2.2.2.2.1)),(0:Int))
 else
 bif (decide (last12<a9b.2.2.2.2.1)) then
 bif (decide ((0:Int)≤l13)) then
 ((0:Int),(231:Int))
 else
 bif (decide ((IntKind.wrap .i64 (l13+a9b.2.2.2.2.1))<(0:Int))) then
 ((0:Int),(231:Int))
 else
 bif (decide (last12<(IntKind.wrap .i64 (l13+a9b.2.2.2.2.1)))) then
 ((0:Int),(231:Int))
 else
 ((IntKind.wrap .i64 (l13+a9b.2.2.2.2.1)),(0:Int))
 else
 bif (decide ((IntKind.wrap .i64 (l13+a9b.2.2.2.2.1))<(0:Int))) then
 ((0:Int),(231:Int))
 else
 bif (decide (last12<(IntKind.wrap .i64 (l13+a9b.2.2.2.2.1)))) then
 ((0:Int),(231:Int))
 else
 ((IntKind.wrap .i64 (l13+a9b.2.2.2.2.1)),(0:Int))
theorem q78_J0_sp (kr:Int→Int→Prop) (last12:Int) (l13:Int) (a9b:tAd) (hr:∀ q:Int×Int,q=q78_J0_F last12 l13 a9b→kr q.1 q.2):q78_J0 kr last12 l13 a9b:=
 have h:=hr; br0 h (fun _ h=>br0 h (fun _ h=>h _ rfl)
 fun _ h=>br0 h (fun _ h=>br0 h (fun _ h=>h _ rfl)
 fun _ h=>br0 h (fun _ h=>br0 h (fun _ h=>h _ rfl)
 fun _ h=>br0 h (fun _ h=>h _ rfl)
 fun _ h=>br0 h (fun _ h=>h _ rfl)
 fun _ h=>h _ rfl)
 fun _ h=>br0 h (fun _ h=>h _ rfl)
 fun _ h=>br0 h (fun _ h=>h _ rfl)
 fun _ h=>h _ rfl)
 fun _ h=>br0 h (fun _ h=>br0 h (fun _ h=>h _ rfl)
 fun _ h=>br0 h (fun _ h=>h _ rfl)
 fun _ h=>br0 h (fun _ h=>h _ rfl)
 fun _ h=>h _ rfl)
 fun _ h=>br0 h (fun _ h=>h _ rfl)
 fun _ h=>br0 h (fun _ h=>h _ rfl)
 fun _ h=>h _ rfl)
 fun _ h=>br0 h (fun _ h=>br0 h (fun _ h=>h _ rfl)
 fun _ h=>br0 h (fun _ h=>br0 h (fun _ h=>h _ rfl)
 fun _ h=>br0 h (fun _ h=>h _ rfl)
 fun _ h=>br0 h (fun _ h=>h _ rfl)
 fun _ h=>h _ rfl)
 fun _ h=>br0 h (fun _ h=>h _ rfl)
 fun _ h=>br0 h (fun _ h=>h _ rfl)
 fun _ h=>h _ rfl)
 fun _ h=>br0 h (fun _ h=>br0 h (fun _ h=>h _ rfl)
 fun _ h=>br0 h (fun _ h=>h _ rfl)
 fun _ h=>br0 h (fun _ h=>h _ rfl)
 fun _ h=>h _ rfl)
 fun _ h=>br0 h (fun _ h=>h _ rfl)
 fun _ h=>br0 h (fun _ h=>h _ rfl)
 fun _ h=>h _ rfl
def q78_J1_P (t0:LI) (now1:Int) (hunt3:LI) (last12:Int) (l13:Int) (x74:Bool) (a9b:tAd):Prop:=
 bif x74 then
 False
 else
 True
def q78_J1_F (t0:LI) (now1:Int) (hunt3:LI) (last12:Int) (l13:Int) (x74:Bool) (a9b:tAd):Int×Int×tAd:=
 bif x74 then
 default
 else
 (last12,l13,a9b)
theorem q78_J1_sp (kn:Int→Int→tAd→Prop) (t0:LI) (now1:Int) (hunt3:LI) (last12:Int) (l13:Int) (x74:Bool) (a9b:tAd) (hp:q78_J1_P t0 now1 hunt3 last12 l13 x74 a9b) (hn:∀ q:Int×Int×tAd,q=q78_J1_F t0 now1 hunt3 last12 l13 x74 a9b→kn q.1 q.2.1 q.2.2):q78_J1 kn t0 now1 hunt3 last12 l13 x74 a9b:=
 have h:=hn; br1 hp h (fun _ hp h=>hp.elim)
 fun _ hp h=>h _ rfl
def q78_P (t0:LI) (now1:Int) (m2:(Unit×Int)) (hunt3:LI) (a4:tAd):Prop:=
 q90_P t0∧(
 let r1:Int:=q90_F t0
 bif (decide (now1<(1:Int))) then
 True
 else
 bif (decide (r1<now1)) then
 True
 else
 bif a4.2.2.2.2.2 then
 let r2:Int:=q59_F ([(110:Int),(46:Int),(36:Int),(39:Int),(47:Int),(63:Int),(0:Int)]:LI) a4.1
 bif (decide (r2<(0:Int))) then
 True
 else
 bif (!a4.2.2.2.2.2) then
 True
 else
 bif (decide (a4.1=(110:Int))) then
 True
 else
 bif (decide (a4.1=(36:Int))) then
 True
 else
 bif (decide (a4.1=(39:Int))) then
 False
 else
 bif (decide (a4.1=(47:Int))) then
 q78_J1_P t0 now1 hunt3 r1 now1 (decide (a4.1=(47:Int))) a4
 else
 q78_J1_P t0 now1 hunt3 r1 now1 (decide (a4.1=(63:Int))) a4
 else
 bif (!a4.2.2.2.2.2) then
 True
 else
 bif (decide (a4.1=(110:Int))) then
 True
 else
 bif (decide (a4.1=(36:Int))) then
 True
 else
 bif (decide (a4.1=(39:Int))) then
 False
 else
 bif (decide (a4.1=(47:Int))) then
 q78_J1_P t0 now1 hunt3 r1 now1 (decide (a4.1=(47:Int))) a4
 else
 q78_J1_P t0 now1 hunt3 r1 now1 (decide (a4.1=(63:Int))) a4)
def q78_F (t0:LI) (now1:Int) (m2:(Unit×Int)) (hunt3:LI) (a4:tAd):Int×Int:=
 let r1:Int:=q90_F t0
 bif (decide (now1<(1:Int))) then
 ((0:Int),(2:Int))
 else
 bif (decide (r1<now1)) then
 ((0:Int),(2:Int))
 else
 bif a4.2.2.2.2.2 then
 let r2:Int:=q59_F ([(110:Int),(46:Int),(36:Int),(39:Int),(47:Int),(63:Int),(0:Int)]:LI) a4.1
 bif (decide (r2<(0:Int))) then
 ((0:Int),(2:Int))
 else
 bif (!a4.2.2.2.2.2) then
 (now1,(0:Int))
 else
 bif (decide (a4.1=(110:Int))) then
 let q0r:Int×Int:=q78_J0_F r1 a4.2.1 a4
 let x10:Int:=q0r.1
 let x11:Int:=q0r.2
 (x10,x11)
 else
 bif (decide (a4.1=(36:Int))) then
 let q0r:Int×Int:=q78_J0_F r1 r1 a4
 let x10:Int:=q0r.1
 let x11:Int:=q0r.2
 (x10,x11)
 else
 bif (decide (a4.1=(39:Int))) then
 default
 else
 bif (decide (a4.1=(47:Int))) then
 let q1n:Int×Int×tAd:=q78_J1_F t0 now1 hunt3 r1 now1 (decide (a4.1=(47:Int))) a4
 let last12:Int:=q1n.1
 let l13:Int:=q1n.2.1
 let a9b:tAd:=q1n.2.2
 let q0r:Int×Int:=q78_J0_F last12 l13 a9b
 let x10:Int:=q0r.1
 let x11:Int:=q0r.2
 (x10,x11)
 else
 let q1n:Int×Int×tAd:=q78_J1_F t0 now1 hunt3 r1 now1 (decide (a4.1=(63:Int))) a4
 let last12:Int:=q1n.1
 let l13:Int:=q1n.2.1
 let a9b:tAd:=q1n.2.2
 let q0r:Int×Int:=q78_J0_F last12 l13 a9b
 let x10:Int:=q0r.1
 let x11:Int:=q0r.2
 (x10,x11)
 else
 bif (!a4.2.2.2.2.2) then
 (now1,(0:Int))
 else
 bif (decide (a4.1=(110:Int))) then
 let q0r:Int×Int:=q78_J0_F r1 a4.2.1 a4
 let x10:Int:=q0r.1
 let x11:Int:=q0r.2
 (x10,x11)
 else
 bif (decide (a4.1=(36:Int))) then
 let q0r:Int×Int:=q78_J0_F r1 r1 a4
 let x10:Int:=q0r.1
 let x11:Int:=q0r.2
 (x10,x11)
 else
 bif (decide (a4.1=(39:Int))) then
 default
 else
 bif (decide (a4.1=(47:Int))) then
 let q1n:Int×Int×tAd:=q78_J1_F t0 now1 hunt3 r1 now1 (decide (a4.1=(47:Int))) a4
 let last12:Int:=q1n.1
 let l13:Int:=q1n.2.1
 let a9b:tAd:=q1n.2.2
 let q0r:Int×Int:=q78_J0_F last12 l13 a9b
 let x10:Int:=q0r.1
 let x11:Int:=q0r.2
 (x10,x11)
 else
 let q1n:Int×Int×tAd:=q78_J1_F t0 now1 hunt3 r1 now1 (decide (a4.1=(63:Int))) a4
 let last12:Int:=q1n.1
 let l13:Int:=q1n.2.1
 let a9b:tAd:=q1n.2.2
 let q0r:Int×Int:=q78_J0_F last12 l13 a9b
 let x10:Int:=q0r.1
 let x11:Int:=q0r.2
 (x10,x11)
theorem q78_sp (t0:LI) (now1:Int) (m2:(Unit×Int)) (hunt3:LI) (a4:tAd) (K:Res→List Cell→Prop) (_:wfA q78_A (t0,now1,m2,hunt3,a4,())) (hp:q78_P t0 now1 m2 hunt3 a4) (h:∀ r:Int×Int,r=q78_F t0 now1 m2 hunt3 a4→K (.tup [.v yI r.1,.v yI r.2]) []):q78_raw t0 now1 m2 hunt3 a4 K:=
 an1 hp fun hp=>al (br1 hp h (fun _ hp h=>h _ rfl)
 fun _ hp h=>br1 hp h (fun _ hp h=>h _ rfl)
 fun _ hp h=>br1 hp h (fun _ hp h=>al (br1 hp h (fun _ hp h=>h _ rfl)
 fun _ hp h=>br1 hp h (fun _ hp h=>h _ rfl)
 fun _ hp h=>br1 hp h (fun _ hp h=>fun _=>q78_J0_sp _ _ _ _ (al (h _ rfl)))
 fun _ hp h=>br1 hp h (fun _ hp h=>fun _=>q78_J0_sp _ _ _ _ (al (h _ rfl)))
 fun _ hp h=>br1 hp h (fun _ hp h=>hp.elim)
 fun _ hp h=>br1 hp h (fun _ hp h=>fun _=>q78_J1_sp _ _ _ _ _ _ _ _ hp (al (fun _=>q78_J0_sp _ _ _ _ (al (h _ rfl)))))
 fun _ hp h=>fun _=>q78_J1_sp _ _ _ _ _ _ _ _ hp (al (fun _=>q78_J0_sp _ _ _ _ (al (h _ rfl))))))
 fun _ hp h=>br1 hp h (fun _ hp h=>h _ rfl)
 fun _ hp h=>br1 hp h (fun _ hp h=>fun _=>q78_J0_sp _ _ _ _ (al (h _ rfl)))
 fun _ hp h=>br1 hp h (fun _ hp h=>fun _=>q78_J0_sp _ _ _ _ (al (h _ rfl)))
 fun _ hp h=>br1 hp h (fun _ hp h=>hp.elim)
 fun _ hp h=>br1 hp h (fun _ hp h=>fun _=>q78_J1_sp _ _ _ _ _ _ _ _ hp (al (fun _=>q78_J0_sp _ _ _ _ (al (h _ rfl)))))
 fun _ hp h=>fun _=>q78_J1_sp _ _ _ _ _ _ _ _ hp (al (fun _=>q78_J0_sp _ _ _ _ (al (h _ rfl)))))
def q78_C (v:valsA q78_A) (K:Res→List Cell→Prop):Prop:=q78_P v.1 v.2.1 v.2.2.1 v.2.2.2.1 v.2.2.2.2.1∧∀ r:Int×Int,r=q78_F v.1 v.2.1 v.2.2.1 v.2.2.2.1 v.2.2.2.2.1→K (.tup [.v yI r.1,.v yI r.2]) []
def q78_S:App:=specW q78_A q78_C
theorem q78_wv (K:Res→List Cell→Prop):∀ v:valsA q78_A,runF tb (getG q78_G) q78_B1 Tryz.f167 [true,true] (mkA q78_A v) K=q78_raw v.1 v.2.1 v.2.2.1 v.2.2.2.1 v.2.2.2.2.1 K
  | (t0,now1,m2,hunt3,a4,())=>by kernel_rfl
theorem q78_ok:AppOk Tryz.prog 167 q78_S:=
  AppOk.specW (spec_ok ((runF_ok tb_M tb_ok q78_Gok (q78_b1) (f:=167) (fn:=Tryz.f167) (by kernel_rfl) (by kernel_rfl) q78_st [true,true])) fun v K hw h=>(q78_wv K v).mpr (q78_sp v.1 v.2.1 v.2.2.1 v.2.2.2.1 v.2.2.2.2.1 K hw h.1 h.2))

def q48_G:List (Nat×App):=[(167,q78_S)]
theorem q48_Gok:GOk Tryz.prog (getG q48_G):=GOk.cons q78_ok (GOk.nil)
def q48_raw (w0:tWk) (a1:tAd) (K:Res→List Cell→Prop):Prop:=
 q78_P w0.1 w0.2.2.1 w0.2.2.2.2.1 w0.2.2.2.2.2.2.1 a1∧(
 ∀ (r1:Int×Int),r1=q78_F w0.1 w0.2.2.1 w0.2.2.2.2.1 w0.2.2.2.2.2.2.1 a1→(
 wfR (.tup [.v yI r1.1,.v yI r1.2])→(
 K (.tup [.v yI r1.1,.v yI r1.2]) [⟨.st (.pair yB (.pair yI (.pair yI (.pair yI (.pair (.st (.pair (.arr 26 yI) yI)) (.pair tyB (.pair yB (.pair tyX (.pair yI yI))))))))),w0⟩])))
def q48_A:List AS:=[.r none tyW,.v tyA]

def q48_P (w0:tWk) (a1:tAd):Prop:=
 q78_P w0.1 w0.2.2.1 w0.2.2.2.2.1 w0.2.2.2.2.2.2.1 a1
def q48_F (w0:tWk) (a1:tAd):Int×Int:=
 let r1:Int×Int:=q78_F w0.1 w0.2.2.1 w0.2.2.2.2.1 w0.2.2.2.2.2.2.1 a1
 (r1.1,r1.2)
theorem q48_sp (w0:tWk) (a1:tAd) (K:Res→List Cell→Prop) (_:wfA q48_A (w0,a1,())) (hp:q48_P w0 a1) (h:∀ r:Int×Int,r=q48_F w0 a1→K (.tup [.v yI r.1,.v yI r.2]) [⟨.st (.pair yB (.pair yI (.pair yI (.pair yI (.pair (.st (.pair (.arr 26 yI) yI)) (.pair tyB (.pair yB (.pair tyX (.pair yI yI))))))))),w0⟩]):q48_raw w0 a1 K:=
 ⟨hp,al (h _ rfl)⟩
def q48_C (v:valsA q48_A) (K:Res→List Cell→Prop):Prop:=q48_P v.1 v.2.1∧∀ r:Int×Int,r=q48_F v.1 v.2.1→K (.tup [.v yI r.1,.v yI r.2]) [⟨.st (.pair yB (.pair yI (.pair yI (.pair yI (.pair (.st (.pair (.arr 26 yI) yI)) (.pair tyB (.pair yB (.pair tyX (.pair yI yI))))))))),v.1⟩]
def q48_S:App:=specW q48_A q48_C
theorem q48_wv (K:Res→List Cell→Prop):∀ v:valsA q48_A,runF tb (getG q48_G) [] Tryz.f115 [true,true] (mkA q48_A v) K=q48_raw v.1 v.2.1 K
  | (w0,a1,())=>by kernel_rfl
theorem q48_ok:AppOk Tryz.prog 115 q48_S:=
  AppOk.specW (spec_ok ((runF_ok tb_M tb_ok q48_Gok (LabsOk.nil) (f:=115) (fn:=Tryz.f115) (by kernel_rfl) (by kernel_rfl) (by kernel_rfl) [true,true])) fun v K hw h=>(q48_wv K v).mpr (q48_sp v.1 v.2.1 K hw h.1 h.2))

def q32_G:List (Nat×App):=[(115,q48_S)]
theorem q32_Gok:GOk Tryz.prog (getG q32_G):=GOk.cons q48_ok (GOk.nil)
theorem q32_st:storesC (bodyOf Tryz.f62)=true:=by kernel_rfl
def q32_d0:List LS:=[.b 0 7 [],.v 92 .bool,.c 7 tyW]
def q32_d0n:List LS:=[.c 7 tyW]
def q32_dx0:DX:=⟨some q32_d0n,none,[]⟩
def q32_y0n (k:Ex→St→Prop) (w0b:tWk):Prop:=wfD q32_d0n (w0b,())→k .nrm (mkD 129 q32_d0n (w0b,()))
def q32_J0 (kn:tWk→Prop) (x92:Bool) (w0b:tWk):Prop:=
 bif x92 then
 bif (decide ((0:Int)<w0b.2.2.2.2.2.2.2.1.2.2.2.2.2.2.1)) then
 (
 (
 kn (w0b.1,w0b.2.1,w0b.2.2.1,w0b.2.2.2.1,w0b.2.2.2.2.1,w0b.2.2.2.2.2.1,w0b.2.2.2.2.2.2.1,w0b.2.2.2.2.2.2.2.1,w0b.2.2.2.2.2.2.2.2.2,(mn (IntKind.wrap .i64 ((IntKind.wrap .i64 (w0b.2.2.2.2.2.2.2.2.2+w0b.2.2.2.2.2.2.2.1.2.2.2.2.2.2.1)) - (1:Int))) w0b.2.2.2.1)))∧(
 kn (w0b.1,w0b.2.1,w0b.2.2.1,w0b.2.2.2.1,w0b.2.2.2.2.1,w0b.2.2.2.2.2.1,w0b.2.2.2.2.2.2.1,w0b.2.2.2.2.2.2.2.1,w0b.2.2.2.2.2.2.2.2.2,(mn (IntKind.wrap .i64 ((IntKind.wrap .i64 (w0b.2.2.2.2.2.2.2.2.2+w0b.2.2.2.2.2.2.2.1.2.2.2.2.2.2.1)) - (1:Int))) w0b.2.2.2.1)))∧True)∧(
 (
 kn (w0b.1,w0b.2.1,w0b.2.2.1,w0b.2.2.2.1,w0b.2.2.2.2.1,w0b.2.2.2.2.2.1,w0b.2.2.2.2.2.2.1,w0b.2.2.2.2.2.2.2.1,w0b.2.2.2.2.2.2.2.2.2,(mn (IntKind.wrap .i64 ((IntKind.wrap .i64 (w0b.2.2.2.2.2.2.2.2.2+w0b.2.2.2.2.2.2.2.1.2.2.2.2.2.2.1)) - (1:Int))) w0b.2.2.2.1)))∧(
 kn (w0b.1,w0b.2.1,w0b.2.2.1,w0b.2.2.2.1,w0b.2.2.2.2.1,w0b.2.2.2.2.2.1,w0b.2.2.2.2.2.2.1,w0b.2.2.2.2.2.2.2.1,w0b.2.2.2.2.2.2.2.2.2,(mn (IntKind.wrap .i64 ((IntKind.wrap .i64 (w0b.2.2.2.2.2.2.2.2.2+w0b.2.2.2.2.2.2.2.1.2.2.2.2.2.2.1)) - (1:Int))) w0b.2.2.2.1)))∧True)∧(
 (
 kn (w0b.1,w0b.2.1,w0b.2.2.1,w0b.2.2.2.1,w0b.2.2.2.2.1,w0b.2.2.2.2.2.1,w0b.2.2.2.2.2.2.1,w0b.2.2.2.2.2.2.2.1,w0b.2.2.2.2.2.2.2.2.2,(mn (IntKind.wrap .i64 ((IntKind.wrap .i64 (w0b.2.2.2.2.2.2.2.2.2+w0b.2.2.2.2.2.2.2.1.2.2.2.2.2.2.1)) - (1:Int))) w0b.2.2.2.1)))∧(
 kn (w0b.1,w0b.2.1,w0b.2.2.1,w0b.2.2.2.1,w0b.2.2.2.2.1,w0b.2.2.2.2.2.1,w0b.2.2.2.2.2.2.1,w0b.2.2.2.2.2.2.2.1,w0b.2.2.2.2.2.2.2.2.2,(mn (IntKind.wrap .i64 ((IntKind.wrap .i64 (w0b.2.2.2.2.2.2.2.2.2+w0b.2.2.2.2.2.2.2.1.2.2.2.2.2.2.1)) - (1:Int))) w0b.2.2.2.1)))∧True)∧True
 else
 kn w0b
 else
 kn w0b
def q32_g0 (k:Ex→St→Prop) (v:vals q32_d0):Prop:=q32_J0 (q32_y0n k) v.1 v.2.1
theorem q32_v0 (k:Ex→St→Prop):∀ v:vals q32_d0,ex tb (getG q32_G) [] (at' (bodyOf Tryz.f62) [1,0,1,0,1,1,1]) [1,0,1,0,1,1,1] (mkD 129 q32_d0 v) (wk 129 q32_dx0 k)=q32_g0 k v
  | (x92,w0b,())=>by kernel_rfl
def q32_X0:Pce:=fun st k=>ckD 129 q32_d0 st fun v=>wfD q32_d0 v→q32_g0 k v
theorem q32_x0:SemOk Tryz.prog (at' (bodyOf Tryz.f62) [1,0,1,0,1,1,1]) q32_X0:=
  (SemOk.wk (N:=129) (ds:=q32_d0) (dx:=q32_dx0) (ex_sound tb_M tb_ok q32_Gok (LabsOk.nil) (at' (bodyOf Tryz.f62) [1,0,1,0,1,1,1]) [1,0,1,0,1,1,1] rfl (storesC_at q32_st [1,0,1,0,1,1,1]))).mono fun st k h=>ckD_mono h fun v hv hw=>Eq.mpr (q32_v0 k v) (hv hw)
def q32_B0:Labs:=([1,0,1,0,1,1,1],q32_X0)::[]
theorem q32_b0:LabsOk Tryz.prog (bodyOf Tryz.f62) q32_B0:=LabsOk.cons q32_x0 (LabsOk.nil)
def q32_d1:List LS:=[.c 7 tyW]
def q32_d1r:List LS:=[.v 2 yI,.c 7 tyW]
def q32_dx1:DX:=⟨none,some q32_d1r,[]⟩
def q32_y1r (k:Ex→St→Prop) (x2:Int) (w0b:tWk):Prop:=wfD q32_d1r (x2,w0b,())→k .ret (mkD 129 q32_d1r (x2,w0b,()))
def q32_J1 (kr:Int→tWk→Prop) (w0b:tWk):Prop:=
 kr (0:Int) w0b
def q32_g1 (k:Ex→St→Prop) (v:vals q32_d1):Prop:=q32_J1 (q32_y1r k) v.1
theorem q32_v1 (k:Ex→St→Prop):∀ v:vals q32_d1,ex tb (getG q32_G) q32_B0 (at' (bodyOf Tryz.f62) [1,1,1,1]) [1,1,1,1] (mkD 129 q32_d1 v) (wk 129 q32_dx1 k)=q32_g1 k v
  | (w0b,())=>by kernel_rfl
def q32_X1:Pce:=fun st k=>ckD 129 q32_d1 st fun v=>wfD q32_d1 v→q32_g1 k v
theorem q32_x1:SemOk Tryz.prog (at' (bodyOf Tryz.f62) [1,1,1,1]) q32_X1:=
  (SemOk.wk (N:=129) (ds:=q32_d1) (dx:=q32_dx1) (ex_sound tb_M tb_ok q32_Gok (q32_b0) (at' (bodyOf Tryz.f62) [1,1,1,1]) [1,1,1,1] rfl (storesC_at q32_st [1,1,1,1]))).mono fun st k h=>ckD_mono h fun v hv hw=>Eq.mpr (q32_v1 k v) (hv hw)
def q32_B1:Labs:=([1,1,1,1],q32_X1)::q32_B0
theorem q32_b1:LabsOk Tryz.prog (bodyOf Tryz.f62) q32_B1:=LabsOk.cons q32_x1 (q32_b0)
def q32_d2:List LS:=[.b 0 7 [],.c 7 tyW]
def q32_d2r:List LS:=[.v 2 yI,.c 7 tyW]
def q32_dx2:DX:=⟨none,some q32_d2r,[]⟩
def q32_y2r (k:Ex→St→Prop) (x2:Int) (w0b:tWk):Prop:=wfD q32_d2r (x2,w0b,())→k .ret (mkD 129 q32_d2r (x2,w0b,()))
def q32_J2 (kr:Int→tWk→Prop) (w0b:tWk):Prop:=
 bif (decide (w0b.2.2.2.2.2.2.2.2.2<w0b.2.2.2.2.2.2.2.2.1)) then
 kr (231:Int) w0b
 else
 bif (decide (w0b.2.2.2.2.2.2.2.2.1=(0:Int))) then
 bif (!decide (w0b.2.2.2.2.2.2.2.1.2.2.2.1=([112,117]:LI))) then
 kr (231:Int) w0b
 else
 bif (decide (w0b.2.2.2.2.2.2.2.1.2.2.2.1=([100]:LI))) then
 (wfD q32_d0 ((decide (w0b.2.2.2.2.2.2.2.1.2.2.2.1=([100]:LI))),w0b,())→q32_J0 (fun (w0b:tWk)=>wfD q32_d0n (w0b,())→(
 (wfD q32_d1 (w0b,())→q32_J1 (fun (x2:Int) (w0b:tWk)=>wfD q32_d1r (x2,w0b,())→(
 kr x2 w0b)) w0b))) (decide (w0b.2.2.2.2.2.2.2.1.2.2.2.1=([100]:LI))) w0b)
 else
 bif (decide (w0b.2.2.2.2.2.2.2.1.2.2.2.1=([121]:LI))) then
 (wfD q32_d0 ((decide (w0b.2.2.2.2.2.2.2.1.2.2.2.1=([121]:LI))),w0b,())→q32_J0 (fun (w0b:tWk)=>wfD q32_d0n (w0b,())→(
 (wfD q32_d1 (w0b,())→q32_J1 (fun (x2:Int) (w0b:tWk)=>wfD q32_d1r (x2,w0b,())→(
 kr x2 w0b)) w0b))) (decide (w0b.2.2.2.2.2.2.2.1.2.2.2.1=([121]:LI))) w0b)
 else
 bif (decide (w0b.2.2.2.2.2.2.2.1.2.2.2.1=([106]:LI))) then
 (wfD q32_d0 ((decide (w0b.2.2.2.2.2.2.2.1.2.2.2.1=([106]:LI))),w0b,())→q32_J0 (fun (w0b:tWk)=>wfD q32_d0n (w0b,())→(
 (wfD q32_d1 (w0b,())→q32_J1 (fun (x2:Int) (w0b:tWk)=>wfD q32_d1r (x2,w0b,())→(
 kr x2 w0b)) w0b))) (decide (w0b.2.2.2.2.2.2.2.1.2.2.2.1=([106]:LI))) w0b)
 else
 (wfD q32_d0 ((decide (w0b.2.2.2.2.2.2.2.1.2.2.2.1=([106,33]:LI))),w0b,())→q32_J0 (fun (w0b:tWk)=>wfD q32_d0n (w0b,())→(
 (wfD q32_d1 (w0b,())→q32_J1 (fun (x2:Int) (w0b:tWk)=>wfD q32_d1r (x2,w0b,())→(
 kr x2 w0b)) w0b))) (decide (w0b.2.2.2.2.2.2.2.1.2.2.2.1=([106,33]:LI))) w0b)
 else
 bif (decide (w0b.2.2.2.2.2.2.2.1.2.2.2.1=([100]:LI))) then
 (wfD q32_d0 ((decide (w0b.2.2.2.2.2.2.2.1.2.2.2.1=([100]:LI))),w0b,())→q32_J0 (fun (w0b:tWk)=>wfD q32_d0n (w0b,())→(
 (wfD q32_d1 (w0b,())→q32_J1 (fun (x2:Int) (w0b:tWk)=>wfD q32_d1r (x2,w0b,())→(
 kr x2 w0b)) w0b))) (decide (w0b.2.2.2.2.2.2.2.1.2.2.2.1=([100]:LI))) w0b)
 else
 bif (decide (w0b.2.2.2.2.2.2.2.1.2.2.2.1=([121]:LI))) then
 (wfD q32_d0 ((decide (w0b.2.2.2.2.2.2.2.1.2.2.2.1=([121]:LI))),w0b,())→q32_J0 (fun (w0b:tWk)=>wfD q32_d0n (w0b,())→(
 (wfD q32_d1 (w0b,())→q32_J1 (fun (x2:Int) (w0b:tWk)=>wfD q32_d1r (x2,w0b,())→(
 kr x2 w0b)) w0b))) (decide (w0b.2.2.2.2.2.2.2.1.2.2.2.1=([121]:LI))) w0b)
 else
 bif (decide (w0b.2.2.2.2.2.2.2.1.2.2.2.1=([106]:LI))) then
 (wfD q32_d0 ((decide (w0b.2.2.2.2.2.2.2.1.2.2.2.1=([106]:LI))),w0b,())→q32_J0 (fun (w0b:tWk)=>wfD q32_d0n (w0b,())→(
 (wfD q32_d1 (w0b,())→q32_J1 (fun (x2:Int) (w0b:tWk)=>wfD q32_d1r (x2,w0b,())→(
 kr x2 w0b)) w0b))) (decide (w0b.2.2.2.2.2.2.2.1.2.2.2.1=([106]:LI))) w0b)
 else
 (wfD q32_d0 ((decide (w0b.2.2.2.2.2.2.2.1.2.2.2.1=([106,33]:LI))),w0b,())→q32_J0 (fun (w0b:tWk)=>wfD q32_d0n (w0b,())→(
 (wfD q32_d1 (w0b,())→q32_J1 (fun (x2:Int) (w0b:tWk)=>wfD q32_d1r (x2,w0b,())→(
 kr x2 w0b)) w0b))) (decide (w0b.2.2.2.2.2.2.2.1.2.2.2.1=([106,33]:LI))) w0b)
def q32_g2 (k:Ex→St→Prop) (v:vals q32_d2):Prop:=q32_J2 (q32_y2r k) v.1
theorem q32_v2 (k:Ex→St→Prop):∀ v:vals q32_d2,ex tb (getG q32_G) q32_B1 (at' (bodyOf Tryz.f62) [1,1]) [1,1] (mkD 129 q32_d2 v) (wk 129 q32_dx2 k)=q32_g2 k v
  | (w0b,())=>by kernel_rfl
def q32_X2:Pce:=fun st k=>ckD 129 q32_d2 st fun v=>wfD q32_d2 v→q32_g2 k v
theorem q32_x2:SemOk Tryz.prog (at' (bodyOf Tryz.f62) [1,1]) q32_X2:=
  (SemOk.wk (N:=129) (ds:=q32_d2) (dx:=q32_dx2) (ex_sound tb_M tb_ok q32_Gok (q32_b1) (at' (bodyOf Tryz.f62) [1,1]) [1,1] rfl (storesC_at q32_st [1,1]))).mono fun st k h=>ckD_mono h fun v hv hw=>Eq.mpr (q32_v2 k v) (hv hw)
def q32_B2:Labs:=([1,1],q32_X2)::q32_B1
theorem q32_b2:LabsOk Tryz.prog (bodyOf Tryz.f62) q32_B2:=LabsOk.cons q32_x2 (q32_b1)
def q32_raw (w0:tWk) (K:Res→List Cell→Prop):Prop:=
 bif w0.2.2.2.2.2.2.2.1.2.2.1 then
 (wfD q32_d2 ((w0.1,w0.2.1,w0.2.2.1,w0.2.2.2.1,w0.2.2.2.2.1,w0.2.2.2.2.2.1,w0.2.2.2.2.2.2.1,w0.2.2.2.2.2.2.2.1,(1:Int),w0.2.2.2.1),())→q32_J2 (fun (x2:Int) (w0b:tWk)=>wfD q32_d2r (x2,w0b,())→(
 K (.one (.v yI x2)) [⟨.st (.pair yB (.pair yI (.pair yI (.pair yI (.pair (.st (.pair (.arr 26 yI) yI)) (.pair tyB (.pair yB (.pair tyX (.pair yI yI))))))))),w0b⟩])) (w0.1,w0.2.1,w0.2.2.1,w0.2.2.2.1,w0.2.2.2.2.1,w0.2.2.2.2.2.1,w0.2.2.2.2.2.2.1,w0.2.2.2.2.2.2.2.1,(1:Int),w0.2.2.2.1))
 else
 q48_P w0 w0.2.2.2.2.2.2.2.1.1∧(
 ∀ (r1:Int×Int),r1=q48_F w0 w0.2.2.2.2.2.2.2.1.1→(
 wfR (.tup [.v yI r1.1,.v yI r1.2])→(
 bif (!decide (r1.2=(0:Int))) then
 K (.one (.v yI r1.2)) [⟨.st (.pair yB (.pair yI (.pair yI (.pair yI (.pair (.st (.pair (.arr 26 yI) yI)) (.pair tyB (.pair yB (.pair tyX (.pair yI yI))))))))),w0⟩]
 else
 bif w0.2.2.2.2.2.2.2.1.2.1.2.2.2.2.2 then
 q48_P (w0.1,w0.2.1,w0.2.2.1,w0.2.2.2.1,w0.2.2.2.2.1,w0.2.2.2.2.2.1,w0.2.2.2.2.2.2.1,w0.2.2.2.2.2.2.2.1,r1.1,r1.1) w0.2.2.2.2.2.2.2.1.2.1∧(
 ∀ (r2:Int×Int),r2=q48_F (w0.1,w0.2.1,w0.2.2.1,w0.2.2.2.1,w0.2.2.2.2.1,w0.2.2.2.2.2.1,w0.2.2.2.2.2.2.1,w0.2.2.2.2.2.2.2.1,r1.1,r1.1) w0.2.2.2.2.2.2.2.1.2.1→(
 wfR (.tup [.v yI r2.1,.v yI r2.2])→(
 bif (!decide (r2.2=(0:Int))) then
 K (.one (.v yI r2.2)) [⟨.st (.pair yB (.pair yI (.pair yI (.pair yI (.pair (.st (.pair (.arr 26 yI) yI)) (.pair tyB (.pair yB (.pair tyX (.pair yI yI))))))))),(w0.1,w0.2.1,w0.2.2.1,w0.2.2.2.1,w0.2.2.2.2.1,w0.2.2.2.2.2.1,w0.2.2.2.2.2.2.1,w0.2.2.2.2.2.2.2.1,r1.1,r2.1)⟩]
 else
 (wfD q32_d2 ((w0.1,w0.2.1,w0.2.2.1,w0.2.2.2.1,w0.2.2.2.2.1,w0.2.2.2.2.2.1,w0.2.2.2.2.2.2.1,w0.2.2.2.2.2.2.2.1,r1.1,r2.1),())→q32_J2 (fun (x2:Int) (w0b:tWk)=>wfD q32_d2r (x2,w0b,())→(
 K (.one (.v yI x2)) [⟨.st (.pair yB (.pair yI (.pair yI (.pair yI (.pair (.st (.pair (.arr 26 yI) yI)) (.pair tyB (.pair yB (.pair tyX (.pair yI yI))))))))),w0b⟩])) (w0.1,w0.2.1,w0.2.2.1,w0.2.2.2.1,w0.2.2.2.2.1,w0.2.2.2.2.2.1,w0.2.2.2.2.2.2.1,w0.2.2.2.2.2.2.2.1,r1.1,r2.1)))))
 else
 (wfD q32_d2 ((w0.1,w0.2.1,w0.2.2.1,w0.2.2.2.1,w0.2.2.2.2.1,w0.2.2.2.2.2.1,w0.2.2.2.2.2.2.1,w0.2.2.2.2.2.2.2.1,r1.1,r1.1),())→q32_J2 (fun (x2:Int) (w0b:tWk)=>wfD q32_d2r (x2,w0b,())→(
 K (.one (.v yI x2)) [⟨.st (.pair yB (.pair yI (.pair yI (.pair yI (.pair (.st (.pair (.arr 26 yI) yI)) (.pair tyB (.pair yB (.pair tyX (.pair yI yI))))))))),w0b⟩])) (w0.1,w0.2.1,w0.2.2.1,w0.2.2.2.1,w0.2.2.2.2.1,w0.2.2.2.2.2.1,w0.2.2.2.2.2.2.1,w0.2.2.2.2.2.2.2.1,r1.1,r1.1)))))
def q32_A:List AS:=[.r none tyW]

def q32_J0_F (x92:Bool) (w0b:tWk):tWk:=
 bif x92 then
 bif (decide ((0:Int)<w0b.2.2.2.2.2.2.2.1.2.2.2.2.2.2.1)) then
 ((w0b.1,w0b.2.1,w0b.2.2.1,w0b.2.2.2.1,w0b.2.2.2.2.1,w0b.2.2.2.2.2.1,w0b.2.2.2.2.2.2.1,w0b.2.2.2.2.2.2.2.1,w0b.2.2.2.2.2.2.2.2.2,(mn (IntKind.wrap .i64 ((IntKind.wrap .i64 (w0b.2.2.2.2.2.2.2.2.2+w0b.2.2.2.2.2.2.2.1.2.2.2.2.2.2.1)) - (1:Int))) w0b.2.2.2.1)))
 else
 (w0b)
 else
 (w0b)
theorem q32_J0_sp (kn:tWk→Prop) (x92:Bool) (w0b:tWk) (hn:∀ q:tWk,q=q32_J0_F x92 w0b→kn q):q32_J0 kn x92 w0b:=
 have h:=hn; br0 h (fun _ h=>br0 h (fun _ h=>⟨⟨h _ rfl,
 h _ rfl,trivial⟩,
 ⟨h _ rfl,
 h _ rfl,trivial⟩,
 ⟨h _ rfl,
 h _ rfl,trivial⟩,trivial⟩)
 fun _ h=>h _ rfl)
 fun _ h=>h _ rfl
def q32_J1_F (w0b:tWk):Int×tWk:=
 ((0:Int),w0b)
theorem q32_J1_sp (kr:Int→tWk→Prop) (w0b:tWk) (hr:∀ q:Int×tWk,q=q32_J1_F w0b→kr q.1 q.2):q32_J1 kr w0b:=
 have h:=hr; h _ rfl
def q32_J2_F (w0b:tWk):Int×tWk:=
 bif (decide (w0b.2.2.2.2.2.2.2.2.2<w0b.2.2.2.2.2.2.2.2.1)) then
 ((231:Int),w0b)
 else
 bif (decide (w0b.2.2.2.2.2.2.2.2.1=(0:Int))) then
 bif (!decide (w0b.2.2.2.2.2.2.2.1.2.2.2.1=([112,117]:LI))) then
 ((231:Int),w0b)
 else
 bif (decide (w0b.2.2.2.2.2.2.2.1.2.2.2.1=([100]:LI))) then
 let q0n:tWk:=q32_J0_F (decide (w0b.2.2.2.2.2.2.2.1.2.2.2.1=([100]:LI))) w0b
 let w0b:tWk:=q0n
 let q1r:Int×tWk:=q32_J1_F w0b
 let x2:Int:=q1r.1
 let w0b:tWk:=q1r.2
 (x2,w0b)
 else
 bif (decide (w0b.2.2.2.2.2.2.2.1.2.2.2.1=([121]:LI))) then
 let q0n:tWk:=q32_J0_F (decide (w0b.2.2.2.2.2.2.2.1.2.2.2.1=([121]:LI))) w0b
 let w0b:tWk:=q0n
 let q1r:Int×tWk:=q32_J1_F w0b
 let x2:Int:=q1r.1
 let w0b:tWk:=q1r.2
 (x2,w0b)
 else
 bif (decide (w0b.2.2.2.2.2.2.2.1.2.2.2.1=([106]:LI))) then
 let q0n:tWk:=q32_J0_F (decide (w0b.2.2.2.2.2.2.2.1.2.2.2.1=([106]:LI))) w0b
 let w0b:tWk:=q0n
 let q1r:Int×tWk:=q32_J1_F w0b
 let x2:Int:=q1r.1
 let w0b:tWk:=q1r.2
 (x2,w0b)
 else
 let q0n:tWk:=q32_J0_F (decide (w0b.2.2.2.2.2.2.2.1.2.2.2.1=([106,33]:LI))) w0b
 let w0b:tWk:=q0n
 let q1r:Int×tWk:=q32_J1_F w0b
 let x2:Int:=q1r.1
 let w0b:tWk:=q1r.2
 (x2,w0b)
 else
 bif (decide (w0b.2.2.2.2.2.2.2.1.2.2.2.1=([100]:LI))) then
 let q0n:tWk:=q32_J0_F (decide (w0b.2.2.2.2.2.2.2.1.2.2.2.1=([100]:LI))) w0b
 let w0b:tWk:=q0n
 let q1r:Int×tWk:=q32_J1_F w0b
 let x2:Int:=q1r.1
 let w0b:tWk:=q1r.2
 (x2,w0b)
 else
 bif (decide (w0b.2.2.2.2.2.2.2.1.2.2.2.1=([121]:LI))) then
 let q0n:tWk:=q32_J0_F (decide (w0b.2.2.2.2.2.2.2.1.2.2.2.1=([121]:LI))) w0b
 let w0b:tWk:=q0n
 let q1r:Int×tWk:=q32_J1_F w0b
 let x2:Int:=q1r.1
 let w0b:tWk:=q1r.2
 (x2,w0b)
 else
 bif (decide (w0b.2.2.2.2.2.2.2.1.2.2.2.1=([106]:LI))) then
 let q0n:tWk:=q32_J0_F (decide (w0b.2.2.2.2.2.2.2.1.2.2.2.1=([106]:LI))) w0b
 let w0b:tWk:=q0n
 let q1r:Int×tWk:=q32_J1_F w0b
 let x2:Int:=q1r.1
 let w0b:tWk:=q1r.2
 (x2,w0b)
 else
 let q0n:tWk:=q32_J0_F (decide (w0b.2.2.2.2.2.2.2.1.2.2.2.1=([106,33]:LI))) w0b
 let w0b:tWk:=q0n
 let q1r:Int×tWk:=q32_J1_F w0b
 let x2:Int:=q1r.1
 let w0b:tWk:=q1r.2
 (x2,w0b)
theorem q32_J2_sp (kr:Int→tWk→Prop) (w0b:tWk) (hr:∀ q:Int×tWk,q=q32_J2_F w0b→kr q.1 q.2):q32_J2 kr w0b:=
 have h:=hr; br0 h (fun _ h=>h _ rfl)
 fun _ h=>br0 h (fun _ h=>br0 h (fun _ h=>h _ rfl)
 fun _ h=>br0 h (fun _ h=>fun _=>q32_J0_sp _ _ _ (al (fun _=>q32_J1_sp _ _ (al (h _ rfl)))))
 fun _ h=>br0 h (fun _ h=>fun _=>q32_J0_sp _ _ _ (al (fun _=>q32_J1_sp _ _ (al (h _ rfl)))))
 fun _ h=>br0 h (fun _ h=>fun _=>q32_J0_sp _ _ _ (al (fun _=>q32_J1_sp _ _ (al (h _ rfl)))))
 fun _ h=>fun _=>q32_J0_sp _ _ _ (al (fun _=>q32_J1_sp _ _ (al (h _ rfl)))))
 fun _ h=>br0 h (fun _ h=>fun _=>q32_J0_sp _ _ _ (al (fun _=>q32_J1_sp _ _ (al (h _ rfl)))))
 fun _ h=>br0 h (fun _ h=>fun _=>q32_J0_sp _ _ _ (al (fun _=>q32_J1_sp _ _ (al (h _ rfl)))))
 fun _ h=>br0 h (fun _ h=>fun _=>q32_J0_sp _ _ _ (al (fun _=>q32_J1_sp _ _ (al (h _ rfl)))))
 fun _ h=>fun _=>q32_J0_sp _ _ _ (al (fun _=>q32_J1_sp _ _ (al (h _ rfl))))
def q32_P (w0:tWk):Prop:=
 bif w0.2.2.2.2.2.2.2.1.2.2.1 then
 True
 else
 q48_P w0 w0.2.2.2.2.2.2.2.1.1∧(
 let r1:Int×Int:=q48_F w0 w0.2.2.2.2.2.2.2.1.1
 bif (!decide (r1.2=(0:Int))) then
 True
 else
 bif w0.2.2.2.2.2.2.2.1.2.1.2.2.2.2.2 then
 q48_P (w0.1,w0.2.1,w0.2.2.1,w0.2.2.2.1,w0.2.2.2.2.1,w0.2.2.2.2.2.1,w0.2.2.2.2.2.2.1,w0.2.2.2.2.2.2.2.1,r1.1,r1.1) w0.2.2.2.2.2.2.2.1.2.1
 else
 True)
def q32_F (w0:tWk):Int×tWk:=
 bif w0.2.2.2.2.2.2.2.1.2.2.1 then
 let q2r:Int×tWk:=q32_J2_F (w0.1,w0.2.1,w0.2.2.1,w0.2.2.2.1,w0.2.2.2.2.1,w0.2.2.2.2.2.1,w0.2.2.2.2.2.2.1,w0.2.2.2.2.2.2.2.1,(1:Int),w0.2.2.2.1)
 let x2:Int:=q2r.1
 let w0b:tWk:=q2r.2
 (x2,w0b)
 else
 let r1:Int×Int:=q48_F w0 w0.2.2.2.2.2.2.2.1.1
 bif (!decide (r1.2=(0:Int))) then
 (r1.2,w0)
 else
 bif w0.2.2.2.2.2.2.2.1.2.1.2.2.2.2.2 then
 let r2:Int×Int:=q48_F (w0.1,w0.2.1,w0.2.2.1,w0.2.2.2.1,w0.2.2.2.2.1,w0.2.2.2.2.2.1,w0.2.2.2.2.2.2.1,w0.2.2.2.2.2.2.2.1,r1.1,r1.1) w0.2.2.2.2.2.2.2.1.2.1
 bif (!decide (r2.2=(0:Int))) then
 (r2.2,(w0.1,w0.2.1,w0.2.2.1,w0.2.2.2.1,w0.2.2.2.2.1,w0.2.2.2.2.2.1,w0.2.2.2.2.2.2.1,w0.2.2.2.2.2.2.2.1,r1.1,r2.1))
 else
 let q2r:Int×tWk:=q32_J2_F (w0.1,w0.2.1,w0.2.2.1,w0.2.2.2.1,w0.2.2.2.2.1,w0.2.2.2.2.2.1,w0.2.2.2.2.2.2.1,w0.2.2.2.2.2.2.2.1,r1.1,r2.1)
 let x2:Int:=q2r.1
 let w0b:tWk:=q2r.2
 (x2,w0b)
 else
 let q2r:Int×tWk:=q32_J2_F (w0.1,w0.2.1,w0.2.2.1,w0.2.2.2.1,w0.2.2.2.2.1,w0.2.2.2.2.2.1,w0.2.2.2.2.2.2.1,w0.2.2.2.2.2.2.2.1,r1.1,r1.1)
 let x2:Int:=q2r.1
 let w0b:tWk:=q2r.2
 (x2,w0b)
theorem q32_sp (w0:tWk) (K:Res→List Cell→Prop) (_:wfA q32_A (w0,())) (hp:q32_P w0) (h:∀ r:Int×tWk,r=q32_F w0→K (.one (.v yI r.1)) [⟨.st (.pair yB (.pair yI (.pair yI (.pair yI (.pair (.st (.pair (.arr 26 yI) yI)) (.pair tyB (.pair yB (.pair tyX (.pair yI yI))))))))),r.2⟩]):q32_raw w0 K:=
 br1 hp h (fun _ hp h=>fun _=>q32_J2_sp _ _ (al (h _ rfl)))
 fun _ hp h=>an1 hp fun hp=>al (br1 hp h (fun _ hp h=>h _ rfl)
 fun _ hp h=>br1 hp h (fun _ hp h=>⟨hp,al (br0 h (fun _ h=>h _ rfl)
 fun _ h=>fun _=>q32_J2_sp _ _ (al (h _ rfl)))⟩)
 fun _ hp h=>fun _=>q32_J2_sp _ _ (al (h _ rfl)))
def q32_C (v:valsA q32_A) (K:Res→List Cell→Prop):Prop:=q32_P v.1∧∀ r:Int×tWk,r=q32_F v.1→K (.one (.v yI r.1)) [⟨.st (.pair yB (.pair yI (.pair yI (.pair yI (.pair (.st (.pair (.arr 26 yI) yI)) (.pair tyB (.pair yB (.pair tyX (.pair yI yI))))))))),r.2⟩]
def q32_S:App:=specW q32_A q32_C
theorem q32_wv (K:Res→List Cell→Prop):∀ v:valsA q32_A,runF tb (getG q32_G) q32_B2 Tryz.f62 [true] (mkA q32_A v) K=q32_raw v.1 K
  | (w0,())=>by kernel_rfl
theorem q32_ok:AppOk Tryz.prog 62 q32_S:=
  AppOk.specW (spec_ok ((runF_ok tb_M tb_ok q32_Gok (q32_b2) (f:=62) (fn:=Tryz.f62) (by kernel_rfl) (by kernel_rfl) q32_st [true])) fun v K hw h=>(q32_wv K v).mpr (q32_sp v.1 K hw h.1 h.2))

def q91_G:List (Nat×App):=[(189,q59_S)]
theorem q91_Gok:GOk Tryz.prog (getG q91_G):=GOk.cons q59_ok (GOk.nil)
theorem q91_st:storesC (bodyOf Tryz.f168)=true:=by kernel_rfl
def q91_d0:List LS:=[.v 0 yB,.v 1 yI,.v 6 yI]
def q91_d0r:List LS:=[.v 4 yI,.v 5 yI]
def q91_d0x0:List LS:=[.v 6 yI]
def q91_dx0:DX:=⟨none,some q91_d0r,[(0,q91_d0x0)]⟩
def q91_y0r (k:Ex→St→Prop) (x4:Int) (x5:Int):Prop:=wfD q91_d0r (x4,x5,())→k .ret (mkD 25 q91_d0r (x4,x5,()))
def q91_y0x0 (k:Ex→St→Prop) (at6:Int):Prop:=wfD q91_d0x0 (at6,())→k (.exit 0) (mkD 25 q91_d0x0 (at6,()))
def q91_T0 (Y:LI→Int→Int→Prop) (kr:Int→Int→Prop) (kx0:Int→Prop) (t0:LI) (line1:Int) (at6:Int):Prop:=
 bif (decide ((0:Int)<line1)) then
 bif decide (0≤at6∧at6≤(List.length t0:Int)) then
 ∀ (r1:Int),r1=q59_F (List.drop (Int.toNat at6) t0) (10:Int)→(
 wI r1→(
 bif (decide (r1<(0:Int))) then
 kr (0:Int) (2:Int)
 else
 Y t0 (IntKind.wrap .i64 (line1 - (1:Int))) (IntKind.wrap .i64 (at6+(IntKind.wrap .i64 (r1+(1:Int)))))))
 else False
 else
 kx0 at6
def q91_L0 (kr:Int→Int→Prop) (kx0:Int→Prop):Nat→LI→Int→Int→Prop
  | 0,_,_,_=>False
  | n+1,t0,line1,at6=>wfD q91_d0 (t0,line1,at6,())→q91_T0 (q91_L0 kr kx0 n) kr kx0 t0 line1 at6
def q91_c0:Pce:=ex tb (getG q91_G) [] (at' (bodyOf Tryz.f168) [0,0,0,1,1,1]) [0,0,0,1,1,1]
def q91_g0 (k:Ex→St→Prop) (n:Nat) (v:vals q91_d0):Prop:=q91_L0 (q91_y0r k) (q91_y0x0 k) n v.1 v.2.1 v.2.2.1
theorem q91_s0 (k:Ex→St→Prop) (Y:vals q91_d0→Prop):∀ v:vals q91_d0,q91_c0 (mkD 25 q91_d0 v) (lpK 25 q91_d0 q91_dx0 k Y)=q91_T0 (fun t0 line1 at6=>Y (t0,line1,at6,())) (q91_y0r k) (q91_y0x0 k) v.1 v.2.1 v.2.2.1
  | (t0,line1,at6,())=>by kernel_rfl
theorem q91_v0 (k:Ex→St→Prop):∀ (n:Nat) (v:vals q91_d0),lpD 25 q91_d0 q91_dx0 q91_c0 k n v=q91_g0 k n v
  | 0,(t0,line1,at6,())=>rfl
  | n+1,(t0,line1,at6,())=>congrArg (fun Z:Prop=>wfD q91_d0 (t0,line1,at6,())→Z) ((q91_s0 k _ (t0,line1,at6,())).trans (congrArg (fun Y=>q91_T0 Y (q91_y0r k) (q91_y0x0 k) t0 line1 at6) (funext fun t0=>funext fun line1=>funext fun at6=>q91_v0 k n (t0,line1,at6,()))))
def q91_X0:Pce:=fun st k=>ckD 25 q91_d0 st fun v=>wfD q91_d0 v→∃ n,q91_g0 k n v
theorem q91_x0:SemOk Tryz.prog (at' (bodyOf Tryz.f168) [0,0,1,1,1]) q91_X0:=
  (SemOk.loop (ex_sound tb_M tb_ok q91_Gok (LabsOk.nil) (at' (bodyOf Tryz.f168) [0,0,0,1,1,1]) [0,0,0,1,1,1] rfl (storesC_at q91_st [0,0,0,1,1,1])) 25 q91_d0 q91_dx0).mono fun st k h=>ckD_mono h fun v hv hw=>(hv hw).elim fun n hn=>⟨n,Eq.mpr (q91_v0 k n v) hn⟩
def q91_B0:Labs:=([0,0,1,1,1],q91_X0)::[]
theorem q91_b0:LabsOk Tryz.prog (bodyOf Tryz.f168) q91_B0:=LabsOk.cons q91_x0 (LabsOk.nil)
def q91_raw (t0:LI) (line1:Int) (K:Res→List Cell→Prop):Prop:=
 bif (decide (line1<(0:Int))) then
 K (.tup [.v yI (0:Int),.v yI (2:Int)]) []
 else
 (wfD q91_d0 (t0,line1,(0:Int),())→∃ n,q91_L0 (fun (x4:Int) (x5:Int)=>wfD q91_d0r (x4,x5,())→(
 K (.tup [.v yI x4,.v yI x5]) [])) (fun (at6:Int)=>wfD q91_d0x0 (at6,())→(
 K (.tup [.v yI at6,.v yI (0:Int)]) [])) n t0 line1 (0:Int))
def q91_A:List AS:=[.v yB,.v yI]
def goLine (t:LI):Nat→Nat→Option Nat
  | 0,p=>some p
  | n+1,p=>if idxB (t.drop p) 10<0 then none else goLine t n (p+(idxB (t.drop p) 10).toNat+1)
def q91_F (t:LI) (line:Int):Int×Int:=
 if line<0 then (0,2) else match goLine t line.toNat 0 with
 | some p=>((p:Int),0)
 | none=>(0,2)
theorem idxB_lt (xs:LI) (c:Int):-1≤idxB xs c∧idxB xs c<xs.length∨xs=[]∧idxB xs c = -1:=by
  unfold idxB
  split
  · rename_i h; have:=List.idxOf_lt_length_of_mem h; omega
  · cases xs with
    | nil=>exact .inr ⟨rfl,rfl⟩
    | cons a l=>left; simp only [List.length_cons]; omega
theorem q91_l0 (kr:Int→Int→Prop) (kx0:Int→Prop) (t:LI) (ht:t.length≤9223372036854775807):∀ (n m p:Nat),n≤9223372036854775807→p≤t.length→n<m→
    (goLine t n p=none→kr 0 2)→(∀ q,goLine t n p=some q→kx0 (q:Int))→q91_L0 kr kx0 m t (n:Int) (p:Int)
  | _,0,_,_,_,h,_,_=>absurd h (Nat.not_lt_zero _)
  | 0,m+1,p,_,_,_,_,h2=>by
    intro _
    unfold q91_T0
    exact brn (fun h=>absurd h (by omega)) (fun _=>h2 p rfl)
  | n+1,m+1,p,hn,hp,hm,h1,h2=>by
    intro _
    unfold q91_T0
    refine brn (fun _=>asrt (by omega) fun r hr _=>?_) (fun h=>absurd (by omega) h)
    have hr:r=idxB (t.drop p) 10:=by rw [hr]; simp [q59_F,q6_F]
    have hb:=idxB_lt (t.drop p) 10
    rw [List.length_drop] at hb
    rw [← hr] at hb
    refine brn (fun h=>h1 ?_) (fun h=>?_)
    · unfold goLine; rw [← hr,if_pos h]
    · have hd:r<(t.length:Int) - p:=by
        rcases hb with hb | ⟨_,hb⟩ <;> omega
      rw [wrap_i64 (n:=r+1) (by omega) (by omega),wrap_i64 (by omega) (by omega),wrap_i64 (by omega) (by omega)]
      have e1:((n+1:Nat):Int) - 1=(n:Int):=by omega
      have e2:(p:Int)+(r+1)=((p+r.toNat+1:Nat):Int):=by omega
      rw [e1,e2]
      have e3:goLine t (n+1) p=goLine t n (p+r.toNat+1):=by conv=>lhs; unfold goLine; rw [← hr,if_neg h]
      exact q91_l0 kr kx0 t ht n m (p+r.toNat+1) (by omega) (by omega) (by omega) (fun hh=>h1 (by rw [e3]; exact hh)) (fun q hh=>h2 q (by rw [e3]; exact hh))
theorem q91_sp (t:LI) (line:Int) (K:Res→List Cell→Prop) (hw:wfA q91_A (t,line,())) (h:∀ r:Int×Int,r=q91_F t line→K (.tup [.v yI r.1,.v yI r.2]) []):q91_raw t line K:=by
  have ht:t.length≤9223372036854775807:=hw.1.1
  have hl:line≤9223372036854775807:=hw.2.1.2
  unfold q91_raw
  refine brn (fun hn=>h (0,2) (by unfold q91_F; rw [if_pos hn])) (fun hn _=>?_)
  refine ⟨line.toNat+1,?_⟩
  have e:line=(line.toNat:Int):=by omega
  have key:=fun kr kx0 h1 h2=>q91_l0 kr kx0 t ht line.toNat (line.toNat+1) 0 (by omega) (Nat.zero_le _) (Nat.lt_succ_self _) h1 h2
  rw [← e] at key
  refine key _ _ (fun hg _=>h (0,2) ?_) (fun q hg _=>h ((q:Int),0) ?_)
  · unfold q91_F; rw [if_neg hn,hg]
  · unfold q91_F; rw [if_neg hn,hg]

def q91_C (v:valsA q91_A) (K:Res→List Cell→Prop):Prop:=∀ r:Int×Int,r=q91_F v.1 v.2.1→K (.tup [.v yI r.1,.v yI r.2]) []
def q91_S:App:=specW q91_A q91_C
theorem q91_wv (K:Res→List Cell→Prop):∀ v:valsA q91_A,runF tb (getG q91_G) q91_B0 Tryz.f168 [true,true] (mkA q91_A v) K=q91_raw v.1 v.2.1 K
  | (t0,line1,())=>by kernel_rfl
theorem q91_ok:AppOk Tryz.prog 168 q91_S:=
  AppOk.specW (spec_ok ((runF_ok tb_M tb_ok q91_Gok (q91_b0) (f:=168) (fn:=Tryz.f168) (by kernel_rfl) (by kernel_rfl) q91_st [true,true])) fun v K hw h=>(q91_wv K v).mpr (q91_sp v.1 v.2.1 K hw h))
theorem goLine_le (t:LI):∀ (n p q:Nat),p≤t.length→goLine t n p=some q→q≤t.length
  | 0,p,q,hp,h=>by simp only [goLine,Option.some.injEq] at h; omega
  | n+1,p,q,hp,h=>by
    unfold goLine at h
    have hb:=idxB_lt (t.drop p) 10
    rw [List.length_drop] at hb
    split at h
    · cases h
    · exact goLine_le t n _ q (by rcases hb with hb | ⟨_,hb⟩ <;> omega) h
theorem q91_F_le (t:LI) (n:Int):0≤(q91_F t n).1∧(q91_F t n).1≤t.length:=by
  unfold q91_F
  split
  · simp
  · split
    · rename_i q hq; have:=goLine_le t _ 0 q (Nat.zero_le _) hq; simp only; omega
    · simp

def q96_G:List (Nat×App):=[(189,q59_S)]
theorem q96_Gok:GOk Tryz.prog (getG q96_G):=GOk.cons q59_ok (GOk.nil)
def q96_raw (t0:LI) (at1:Int) (K:Res→List Cell→Prop):Prop:=
 bif decide (0≤at1∧at1≤(List.length t0:Int)) then
 ∀ (r1:Int),r1=q59_F (List.drop (Int.toNat at1) t0) (10:Int)→(
 wI r1→(
 bif (decide ((0:Int)≤r1)) then
 K (.one (.v yI (IntKind.wrap .i64 (at1+r1)))) []
 else
 K (.one (.v yI (List.length t0:Int))) []))
 else False
def q96_A:List AS:=[.v yB,.v yI]

def q96_P (t0:LI) (at1:Int):Prop:=
 (0≤at1∧at1≤(List.length t0:Int))
def q96_F (t0:LI) (at1:Int):Int:=
 let r1:Int:=q59_F (List.drop (Int.toNat at1) t0) (10:Int)
 bif (decide ((0:Int)≤r1)) then
 (IntKind.wrap .i64 (at1+r1))
 else
 (List.length t0:Int)
theorem q96_sp (t0:LI) (at1:Int) (K:Res→List Cell→Prop) (_:wfA q96_A (t0,at1,())) (hp:q96_P t0 at1) (h:∀ r:Int,r=q96_F t0 at1→K (.one (.v yI r)) []):q96_raw t0 at1 K:=
 as0 hp (al (br0 h (fun _ h=>h _ rfl)
 fun _ h=>h _ rfl))
def q96_C (v:valsA q96_A) (K:Res→List Cell→Prop):Prop:=q96_P v.1 v.2.1∧∀ r:Int,r=q96_F v.1 v.2.1→K (.one (.v yI r)) []
def q96_S:App:=specW q96_A q96_C
theorem q96_wv (K:Res→List Cell→Prop):∀ v:valsA q96_A,runF tb (getG q96_G) [] Tryz.f169 [true] (mkA q96_A v) K=q96_raw v.1 v.2.1 K
  | (t0,at1,())=>by kernel_rfl
theorem q96_ok:AppOk Tryz.prog 169 q96_S:=
  AppOk.specW (spec_ok ((runF_ok tb_M tb_ok q96_Gok (LabsOk.nil) (f:=169) (fn:=Tryz.f169) (by kernel_rfl) (by kernel_rfl) (by kernel_rfl) [true])) fun v K hw h=>(q96_wv K v).mpr (q96_sp v.1 v.2.1 K hw h.1 h.2))

def q92_G:List (Nat×App):=[(168,q91_S),(169,q96_S)]
theorem q92_Gok:GOk Tryz.prog (getG q92_G):=GOk.cons q91_ok (GOk.cons q96_ok (GOk.nil))
theorem q92_st:storesC (bodyOf Tryz.f116)=true:=by kernel_rfl
def q92_d0:List LS:=[.v 0 yB,.v 6 yI,.v 8 yI,.v 9 yI]
def q92_d0r:List LS:=[.v 4 yI,.v 5 yI]
def q92_d0x0:List LS:=[.v 6 yI,.v 8 yI]
def q92_dx0:DX:=⟨none,some q92_d0r,[(0,q92_d0x0)]⟩
def q92_y0r (k:Ex→St→Prop) (x4:Int) (x5:Int):Prop:=wfD q92_d0r (x4,x5,())→k .ret (mkD 45 q92_d0r (x4,x5,()))
def q92_y0x0 (k:Ex→St→Prop) (from6:Int) (to8:Int):Prop:=wfD q92_d0x0 (from6,to8,())→k (.exit 0) (mkD 45 q92_d0x0 (from6,to8,()))
def q92_T0 (Y:LI→Int→Int→Int→Prop) (kr:Int→Int→Prop) (kx0:Int→Int→Prop) (t0:LI) (from6:Int) (to8:Int) (i9:Int):Prop:=
 bif (decide (i9<to8)) then
 bif decide (0≤i9∧i9<(List.length t0:Int)) then
 bif (!decide ((rd (0:Int) t0 i9)=(32:Int))) then
 bif decide (0≤i9∧i9<(List.length t0:Int)) then
 bif (!decide ((rd (0:Int) t0 i9)=(9:Int))) then
 kr i9 (0:Int)
 else
 Y t0 from6 to8 (IntKind.wrap .i64 (i9+(1:Int)))
 else False
 else
 Y t0 from6 to8 (IntKind.wrap .i64 (i9+(1:Int)))
 else False
 else
 kx0 from6 to8
def q92_L0 (kr:Int→Int→Prop) (kx0:Int→Int→Prop):Nat→LI→Int→Int→Int→Prop
  | 0,_,_,_,_=>False
  | n+1,t0,from6,to8,i9=>wfD q92_d0 (t0,from6,to8,i9,())→q92_T0 (q92_L0 kr kx0 n) kr kx0 t0 from6 to8 i9
def q92_c0:Pce:=ex tb (getG q92_G) [] (at' (bodyOf Tryz.f116) [0,0,1,0,1,1,1,1]) [0,0,1,0,1,1,1,1]
def q92_g0 (k:Ex→St→Prop) (n:Nat) (v:vals q92_d0):Prop:=q92_L0 (q92_y0r k) (q92_y0x0 k) n v.1 v.2.1 v.2.2.1 v.2.2.2.1
theorem q92_s0 (k:Ex→St→Prop) (Y:vals q92_d0→Prop):∀ v:vals q92_d0,q92_c0 (mkD 45 q92_d0 v) (lpK 45 q92_d0 q92_dx0 k Y)=q92_T0 (fun t0 from6 to8 i9=>Y (t0,from6,to8,i9,())) (q92_y0r k) (q92_y0x0 k) v.1 v.2.1 v.2.2.1 v.2.2.2.1
  | (t0,from6,to8,i9,())=>by kernel_rfl
theorem q92_v0 (k:Ex→St→Prop):∀ (n:Nat) (v:vals q92_d0),lpD 45 q92_d0 q92_dx0 q92_c0 k n v=q92_g0 k n v
  | 0,(t0,from6,to8,i9,())=>rfl
  | n+1,(t0,from6,to8,i9,())=>congrArg (fun Z:Prop=>wfD q92_d0 (t0,from6,to8,i9,())→Z) ((q92_s0 k _ (t0,from6,to8,i9,())).trans (congrArg (fun Y=>q92_T0 Y (q92_y0r k) (q92_y0x0 k) t0 from6 to8 i9) (funext fun t0=>funext fun from6=>funext fun to8=>funext fun i9=>q92_v0 k n (t0,from6,to8,i9,()))))
def q92_X0:Pce:=fun st k=>ckD 45 q92_d0 st fun v=>wfD q92_d0 v→∃ n,q92_g0 k n v
theorem q92_x0:SemOk Tryz.prog (at' (bodyOf Tryz.f116) [0,1,0,1,1,1,1]) q92_X0:=
  (SemOk.loop (ex_sound tb_M tb_ok q92_Gok (LabsOk.nil) (at' (bodyOf Tryz.f116) [0,0,1,0,1,1,1,1]) [0,0,1,0,1,1,1,1] rfl (storesC_at q92_st [0,0,1,0,1,1,1,1])) 45 q92_d0 q92_dx0).mono fun st k h=>ckD_mono h fun v hv hw=>(hv hw).elim fun n hn=>⟨n,Eq.mpr (q92_v0 k n v) hn⟩
def q92_B0:Labs:=([0,1,0,1,1,1,1],q92_X0)::[]
theorem q92_b0:LabsOk Tryz.prog (bodyOf Tryz.f116) q92_B0:=LabsOk.cons q92_x0 (LabsOk.nil)
def q92_raw (t0:LI) (line1:Int) (K:Res→List Cell→Prop):Prop:=
 ∀ (r1:Int×Int),r1=q91_F t0 line1→(
 wfR (.tup [.v yI r1.1,.v yI r1.2])→(
 bif (!decide (r1.2=(0:Int))) then
 K (.tup [.v yI (0:Int),.v yI r1.2]) []
 else
 q96_P t0 r1.1∧(
 ∀ (r2:Int),r2=q96_F t0 r1.1→(
 wI r2→(
 (wfD q92_d0 (t0,r1.1,r2,r1.1,())→∃ n,q92_L0 (fun (x4:Int) (x5:Int)=>wfD q92_d0r (x4,x5,())→(
 K (.tup [.v yI x4,.v yI x5]) [])) (fun (from6:Int) (to8:Int)=>wfD q92_d0x0 (from6,to8,())→(
 K (.tup [.v yI (mx from6 (IntKind.wrap .i64 (to8 - (1:Int)))),.v yI (0:Int)]) [])) n t0 r1.1 r2 r1.1))))))
def q92_A:List AS:=[.v yB,.v yI]
def scanB (t:LI):Nat→Nat→Option Nat
  | 0,_=>none
  | m+1,i=>if rd (0:Int) t (i:Int)=32∨rd (0:Int) t (i:Int)=9 then scanB t m (i+1) else some i
theorem tail_range (t:LI) (ht:t.length≤9223372036854775807) (p:Int) (h0:0≤p) (h1:p≤t.length):p≤q96_F t p∧q96_F t p≤t.length:=by
  unfold q96_F
  have hb:=idxB_lt (t.drop p.toNat) 10
  rw [List.length_drop] at hb
  have e:q59_F (List.drop p.toNat t) 10=idxB (t.drop p.toNat) 10:=rfl
  dsimp only
  rw [e]
  generalize idxB (t.drop p.toNat) 10=q at hb
  by_cases hc:0≤q
  · rw [decide_eq_true hc,cond_true]
    rw [wrap_i64 (by rcases hb with hb | hb <;> omega) (by rcases hb with hb | hb <;> omega)]
    rcases hb with hb | hb <;> omega
  · rw [decide_eq_false hc,cond_false]; omega
def q92_F (t:LI) (line:Int):Int×Int:=
 if (q91_F t line).2=0 then
 match scanB t (q96_F t (q91_F t line).1 - (q91_F t line).1).toNat (q91_F t line).1.toNat with
 | some i=>((i:Int),0)
 | none=>(mx (q91_F t line).1 (IntKind.wrap .i64 (q96_F t (q91_F t line).1 - 1)),0)
 else (0,(q91_F t line).2)
theorem q92_l0 (kr:Int→Int→Prop) (kx0:Int→Int→Prop) (t:LI) (p e:Int) (hl:t.length≤9223372036854775807) (he:e≤t.length):∀ (n m i:Nat),m<n→(e - i).toNat=m→0≤e→
    (∀ j,scanB t m i=some j→kr (j:Int) 0)→(scanB t m i=none→kx0 p e)→q92_L0 kr kx0 n t p e (i:Int)
  | 0,m,i,h,_,_,_,_=>absurd h (Nat.not_lt_zero _)
  | n+1,0,i,h,hm,h0,h1,h2=>by
    intro _
    unfold q92_T0
    exact brn (fun hlt=>absurd hm (by omega)) (fun _=>h2 rfl)
  | n+1,m+1,i,h,hm,h0,h1,h2=>by
    intro _
    unfold q92_T0
    have next:(rd (0:Int) t (i:Int)=32∨rd (0:Int) t (i:Int)=9)→q92_L0 kr kx0 n t p e (IntKind.wrap .i64 ((i:Int)+1)):=fun hc=>by
      rw [wrap_i64 (by omega) (by omega),show (i:Int)+1=((i+1:Nat):Int) by omega]
      have e1:scanB t (m+1) i=scanB t m (i+1):=by rw [scanB,if_pos hc]
      exact q92_l0 kr kx0 t p e hl he n m (i+1) (by omega) (by omega) h0 (fun j hj=>h1 j (by rw [e1]; exact hj)) (fun hj=>h2 (by rw [e1]; exact hj))
    refine brn (fun hlt=>asrt ⟨by omega,by omega⟩ ?_) (fun hge=>absurd hm (by omega))
    refine brx (fun c1=>asrt ⟨by omega,by omega⟩ (brx (fun c2=>?_) (fun c2=>next (.inr (by omega))))) (fun c1=>next (.inl (by omega)))
    exact h1 i (by rw [scanB,if_neg (by omega)])
theorem q92_sp (t:LI) (line:Int) (K:Res→List Cell→Prop) (hw:wfA q92_A (t,line,())) (h:∀ r:Int×Int,r=q92_F t line→K (.tup [.v yI r.1,.v yI r.2]) []):q92_raw t line K:=by
  have ht:t.length≤9223372036854775807:=hw.1.1
  unfold q92_raw
  intro r1 h1 _
  subst h1
  have hs:=q91_F_le t line
  refine brx (fun hn=>h (_,_) (by unfold q92_F; rw [if_neg hn])) (fun hn=>?_)
  refine ⟨hs,fun r2 h2 _=>?_⟩
  have hn:(q91_F t line).2=0:=by omega
  have hr:=tail_range t ht _ hs.1 hs.2
  rw [← h2] at hr
  intro _
  have key:=fun kr kx0 h1 h2=>q92_l0 kr kx0 t (q91_F t line).1 r2 ht hr.2 ((r2 - (q91_F t line).1).toNat+1) (r2 - (q91_F t line).1).toNat (q91_F t line).1.toNat (Nat.lt_succ_self _) (by omega) (by omega) h1 h2
  rw [Int.toNat_of_nonneg hs.1] at key
  refine ⟨_,key _ _ (fun j hj _=>h ((j:Int),0) ?_) (fun hj _=>h (_,0) ?_)⟩
  · unfold q92_F; rw [if_pos hn,← h2,hj]
  · unfold q92_F; rw [if_pos hn,← h2,hj]; rfl

def q92_C (v:valsA q92_A) (K:Res→List Cell→Prop):Prop:=∀ r:Int×Int,r=q92_F v.1 v.2.1→K (.tup [.v yI r.1,.v yI r.2]) []
def q92_S:App:=specW q92_A q92_C
theorem q92_wv (K:Res→List Cell→Prop):∀ v:valsA q92_A,runF tb (getG q92_G) q92_B0 Tryz.f116 [true,true] (mkA q92_A v) K=q92_raw v.1 v.2.1 K
  | (t0,line1,())=>by kernel_rfl
theorem q92_ok:AppOk Tryz.prog 116 q92_S:=
  AppOk.specW (spec_ok ((runF_ok tb_M tb_ok q92_Gok (q92_b0) (f:=116) (fn:=Tryz.f116) (by kernel_rfl) (by kernel_rfl) q92_st [true,true])) fun v K hw h=>(q92_wv K v).mpr (q92_sp v.1 v.2.1 K hw h))

def q79_G:List (Nat×App):=[(168,q91_S)]
theorem q79_Gok:GOk Tryz.prog (getG q79_G):=GOk.cons q91_ok (GOk.nil)
def q79_raw (t0:LI) (from1:Int) (to2:Int) (K:Res→List Cell→Prop):Prop:=
 ∀ (r1:Int×Int),r1=q91_F t0 from1→(
 wfR (.tup [.v yI r1.1,.v yI r1.2])→(
 ∀ (r2:Int×Int),r2=q91_F t0 to2→(
 wfR (.tup [.v yI r2.1,.v yI r2.2])→(
 bif (!decide (r1.2=(0:Int))) then
 K (.tup [.v (.st (.pair yI (.pair yI (.pair .bool .bool)))) ((0:Int),(0:Int),false,false),.v yI (2:Int)]) []
 else
 bif (!decide (r2.2=(0:Int))) then
 K (.tup [.v (.st (.pair yI (.pair yI (.pair .bool .bool)))) ((0:Int),(0:Int),false,false),.v yI (2:Int)]) []
 else
 bif (decide (to2<from1)) then
 K (.tup [.v (.st (.pair yI (.pair yI (.pair .bool .bool)))) ((0:Int),(0:Int),false,false),.v yI (2:Int)]) []
 else
 ∀ (r3:Int×Int),r3=q91_F t0 (IntKind.wrap .i64 (to2+(1:Int)))→(
 wfR (.tup [.v yI r3.1,.v yI r3.2])→(
 bif (decide (r3.2=(0:Int))) then
 K (.tup [.v (.st (.pair yI (.pair yI (.pair .bool .bool)))) (r1.1,r3.1,true,false),.v yI (0:Int)]) []
 else
 bif (decide ((0:Int)<from1)) then
 K (.tup [.v (.st (.pair yI (.pair yI (.pair .bool .bool)))) ((IntKind.wrap .i64 (r1.1 - (1:Int))),(List.length t0:Int),true,true),.v yI (0:Int)]) []
 else
 K (.tup [.v (.st (.pair yI (.pair yI (.pair .bool .bool)))) ((0:Int),(List.length t0:Int),true,false),.v yI (0:Int)]) []))))))
def q79_A:List AS:=[.v yB,.v yI,.v yI]

def q79_F (t0:LI) (from1:Int) (to2:Int):(Int×Int×Bool×Bool)×Int:=
 let r1:Int×Int:=q91_F t0 from1
 let r2:Int×Int:=q91_F t0 to2
 bif (!decide (r1.2=(0:Int))) then
 (((0:Int),(0:Int),false,false),(2:Int))
 else
 bif (!decide (r2.2=(0:Int))) then
 (((0:Int),(0:Int),false,false),(2:Int))
 else
 bif (decide (to2<from1)) then
 (((0:Int),(0:Int),false,false),(2:Int))
 else
 let r3:Int×Int:=q91_F t0 (IntKind.wrap .i64 (to2+(1:Int)))
 bif (decide (r3.2=(0:Int))) then
 ((r1.1,r3.1,true,false),(0:Int))
 else
 bif (decide ((0:Int)<from1)) then
 (((IntKind.wrap .i64 (r1.1 - (1:Int))),(List.length t0:Int),true,true),(0:Int))
 else
 (((0:Int),(List.length t0:Int),true,false),(0:Int))
theorem q79_sp (t0:LI) (from1:Int) (to2:Int) (K:Res→List Cell→Prop) (_:wfA q79_A (t0,from1,to2,())) (h:∀ r:(Int×Int×Bool×Bool)×Int,r=q79_F t0 from1 to2→K (.tup [.v (.st (.pair yI (.pair yI (.pair .bool .bool)))) r.1,.v yI r.2]) []):q79_raw t0 from1 to2 K:=
 al (al (br0 h (fun _ h=>h _ rfl)
 fun _ h=>br0 h (fun _ h=>h _ rfl)
 fun _ h=>br0 h (fun _ h=>h _ rfl)
 fun _ h=>al (br0 h (fun _ h=>h _ rfl)
 fun _ h=>br0 h (fun _ h=>h _ rfl)
 fun _ h=>h _ rfl)))
def q79_C (v:valsA q79_A) (K:Res→List Cell→Prop):Prop:=∀ r:(Int×Int×Bool×Bool)×Int,r=q79_F v.1 v.2.1 v.2.2.1→K (.tup [.v (.st (.pair yI (.pair yI (.pair .bool .bool)))) r.1,.v yI r.2]) []
def q79_S:App:=specW q79_A q79_C
theorem q79_wv (K:Res→List Cell→Prop):∀ v:valsA q79_A,runF tb (getG q79_G) [] Tryz.f170 [true,true] (mkA q79_A v) K=q79_raw v.1 v.2.1 v.2.2.1 K
  | (t0,from1,to2,())=>by kernel_rfl
theorem q79_ok:AppOk Tryz.prog 170 q79_S:=
  AppOk.specW (spec_ok ((runF_ok tb_M tb_ok q79_Gok (LabsOk.nil) (f:=170) (fn:=Tryz.f170) (by kernel_rfl) (by kernel_rfl) (by kernel_rfl) [true,true])) fun v K hw h=>(q79_wv K v).mpr (q79_sp v.1 v.2.1 v.2.2.1 K hw h))

def q80_G:List (Nat×App):=[]
theorem q80_Gok:GOk Tryz.prog (getG q80_G):=GOk.nil
def q80_raw (t0:LI) (at1:Int) (count2:Int) (low3:Int) (K:Res→List Cell→Prop):Prop:=
 bif (decide (at1<(0:Int))) then
 K (.one (.v .bool true)) []
 else
 bif (decide ((List.length t0:Int)<at1)) then
 K (.one (.v .bool true)) []
 else
 bif (decide (count2<low3)) then
 K (.one (.v .bool true)) []
 else
 K (.one (.v .bool (decide ((9999:Int)<count2)))) []
def q80_A:List AS:=[.v yB,.v yI,.v yI,.v yI]

def q80_F (t0:LI) (at1:Int) (count2:Int) (low3:Int):Bool:=
 bif (decide (at1<(0:Int))) then
 true
 else
 bif (decide ((List.length t0:Int)<at1)) then
 true
 else
 bif (decide (count2<low3)) then
 true
 else
 (decide ((9999:Int)<count2))
theorem q80_sp (t0:LI) (at1:Int) (count2:Int) (low3:Int) (K:Res→List Cell→Prop) (_:wfA q80_A (t0,at1,count2,low3,())) (h:∀ r:Bool,r=q80_F t0 at1 count2 low3→K (.one (.v .bool r)) []):q80_raw t0 at1 count2 low3 K:=
 br0 h (fun _ h=>h _ rfl)
 fun _ h=>br0 h (fun _ h=>h _ rfl)
 fun _ h=>br0 h (fun _ h=>h _ rfl)
 fun _ h=>h _ rfl
def q80_C (v:valsA q80_A) (K:Res→List Cell→Prop):Prop:=∀ r:Bool,r=q80_F v.1 v.2.1 v.2.2.1 v.2.2.2.1→K (.one (.v .bool r)) []
def q80_S:App:=specW q80_A q80_C
theorem q80_wv (K:Res→List Cell→Prop):∀ v:valsA q80_A,runF tb (getG q80_G) [] Tryz.f209 [true] (mkA q80_A v) K=q80_raw v.1 v.2.1 v.2.2.1 v.2.2.2.1 K
  | (t0,at1,count2,low3,())=>by kernel_rfl
theorem q80_ok:AppOk Tryz.prog 209 q80_S:=
  AppOk.specW (spec_ok ((runF_ok tb_M tb_ok q80_Gok (LabsOk.nil) (f:=209) (fn:=Tryz.f209) (by kernel_rfl) (by kernel_rfl) (by kernel_rfl) [true])) fun v K hw h=>(q80_wv K v).mpr (q80_sp v.1 v.2.1 v.2.2.1 v.2.2.2.1 K hw h))

def q81_G:List (Nat×App):=[(24,q101_S),(28,q90_S),(170,q79_S)]
theorem q81_Gok:GOk Tryz.prog (getG q81_G):=GOk.cons q101_ok (GOk.cons q90_ok (GOk.cons q79_ok (GOk.nil)))
theorem q81_st:storesC (bodyOf Tryz.f210)=true:=by kernel_rfl
def q81_d0:List LS:=[.v 0 yB,.b 5 40 [],.v 9 yI,.v 15 yI,.v 18 yI,.o 85 685 3 yI,.v 86 yI,.v 87 yI,.c 40 (.st (.pair yI (.pair yI (.pair .bool .bool))))]
def q81_d0x0:List LS:=[.v 9 yI,.v 18 yI]
def q81_dx0:DX:=⟨none,none,[(0,q81_d0x0)]⟩
def q81_y0x0 (k:Ex→St→Prop) (a9:Int) (found18:Int):Prop:=wfD q81_d0x0 (a9,found18,())→k (.exit 0) (mkD 120 q81_d0x0 (a9,found18,()))
def q81_T0 (Y:LI→Int→Int→Int→LI→Int→Int→(Int×Int×Bool×Bool)→Prop) (kx0:Int→Int→Prop) (t0:LI) (a9:Int) (here15:Int) (found18:Int) (x85:LI) (x86:Int) (x87:Int) (rv5b:(Int×Int×Bool×Bool)):Prop:=
 bif (decide (x87<x86)) then
 bif decide (0≤x87∧x87<(List.length x85:Int)) then
 ∀ (r6:(Int×Int×Bool×Bool)×Int),r6=q79_F t0 a9 (rd (0:Int) x85 x87)→(
 wfR (.tup [.v (.st (.pair yI (.pair yI (.pair .bool .bool)))) r6.1,.v yI r6.2])→(
 bif (!decide (r6.2=(0:Int))) then
 Y t0 a9 here15 found18 x85 x86 (IntKind.wrap .i64 (x87+(1:Int))) rv5b
 else
 bif (!eqT (.pair yI (.pair yI (.pair .bool .bool))) r6.1 rv5b) then
 Y t0 a9 here15 found18 x85 x86 (IntKind.wrap .i64 (x87+(1:Int))) rv5b
 else
 bif (decide ((0:Int)≤found18)) then
 bif (decide (here15≤found18)) then
 Y t0 a9 here15 found18 x85 x86 (IntKind.wrap .i64 (x87+(1:Int))) rv5b
 else
 Y t0 a9 here15 (rd (0:Int) x85 x87) x85 x86 (IntKind.wrap .i64 (x87+(1:Int))) rv5b
 else
 Y t0 a9 here15 (rd (0:Int) x85 x87) x85 x86 (IntKind.wrap .i64 (x87+(1:Int))) rv5b))
 else False
 else
 kx0 a9 found18
def q81_L0 (kx0:Int→Int→Prop):Nat→LI→Int→Int→Int→LI→Int→Int→(Int×Int×Bool×Bool)→Prop
  | 0,_,_,_,_,_,_,_,_=>False
  | n+1,t0,a9,here15,found18,x85,x86,x87,rv5b=>wfD q81_d0 (t0,a9,here15,found18,x85,x86,x87,rv5b,())→q81_T0 (q81_L0 kx0 n) kx0 t0 a9 here15 found18 x85 x86 x87 rv5b
def q81_c0:Pce:=ex tb (getG q81_G) [] (at' (bodyOf Tryz.f210) [0,0,1,0,1,1,1,1,1,1,1,1,1]) [0,0,1,0,1,1,1,1,1,1,1,1,1]
def q81_g0 (k:Ex→St→Prop) (n:Nat) (v:vals q81_d0):Prop:=q81_L0 (q81_y0x0 k) n v.1 v.2.1 v.2.2.1 v.2.2.2.1 v.2.2.2.2.1 v.2.2.2.2.2.1 v.2.2.2.2.2.2.1 v.2.2.2.2.2.2.2.1
theorem q81_s0 (k:Ex→St→Prop) (Y:vals q81_d0→Prop):∀ v:vals q81_d0,q81_c0 (mkD 120 q81_d0 v) (lpK 120 q81_d0 q81_dx0 k Y)=q81_T0 (fun t0 a9 here15 found18 x85 x86 x87 rv5b=>Y (t0,a9,here15,found18,x85,x86,x87,rv5b,())) (q81_y0x0 k) v.1 v.2.1 v.2.2.1 v.2.2.2.1 v.2.2.2.2.1 v.2.2.2.2.2.1 v.2.2.2.2.2.2.1 v.2.2.2.2.2.2.2.1
  | (t0,a9,here15,found18,x85,x86,x87,rv5b,())=>by kernel_rfl
theorem q81_v0 (k:Ex→St→Prop):∀ (n:Nat) (v:vals q81_d0),lpD 120 q81_d0 q81_dx0 q81_c0 k n v=q81_g0 k n v
  | 0,(t0,a9,here15,found18,x85,x86,x87,rv5b,())=>rfl
  | n+1,(t0,a9,here15,found18,x85,x86,x87,rv5b,())=>congrArg (fun Z:Prop=>wfD q81_d0 (t0,a9,here15,found18,x85,x86,x87,rv5b,())→Z) ((q81_s0 k _ (t0,a9,here15,found18,x85,x86,x87,rv5b,())).trans (congrArg (fun Y=>q81_T0 Y (q81_y0x0 k) t0 a9 here15 found18 x85 x86 x87 rv5b) (funext fun t0=>funext fun a9=>funext fun here15=>funext fun found18=>funext fun x85=>funext fun x86=>funext fun x87=>funext fun rv5b=>q81_v0 k n (t0,a9,here15,found18,x85,x86,x87,rv5b,()))))
def q81_X0:Pce:=fun st k=>ckD 120 q81_d0 st fun v=>wfD q81_d0 v→∃ n,q81_g0 k n v
theorem q81_x0:SemOk Tryz.prog (at' (bodyOf Tryz.f210) [0,1,0,1,1,1,1,1,1,1,1,1]) q81_X0:=
  (SemOk.loop (ex_sound tb_M tb_ok q81_Gok (LabsOk.nil) (at' (bodyOf Tryz.f210) [0,0,1,0,1,1,1,1,1,1,1,1,1]) [0,0,1,0,1,1,1,1,1,1,1,1,1] rfl (storesC_at q81_st [0,0,1,0,1,1,1,1,1,1,1,1,1])) 120 q81_d0 q81_dx0).mono fun st k h=>ckD_mono h fun v hv hw=>(hv hw).elim fun n hn=>⟨n,Eq.mpr (q81_v0 k n v) hn⟩
def q81_B0:Labs:=([0,1,0,1,1,1,1,1,1,1,1,1],q81_X0)::[]
theorem q81_b0:LabsOk Tryz.prog (bodyOf Tryz.f210) q81_B0:=LabsOk.cons q81_x0 (LabsOk.nil)
def q81_d1:List LS:=[.v 0 yB,.v 1 yI,.b 5 40 [],.v 9 yI,.c 40 (.st (.pair yI (.pair yI (.pair .bool .bool))))]
def q81_d1r:List LS:=[.v 6 yI,.v 7 yI,.v 8 .bool]
def q81_dx1:DX:=⟨none,some q81_d1r,[]⟩
def q81_y1r (k:Ex→St→Prop) (x6:Int) (x7:Int) (x8:Bool):Prop:=wfD q81_d1r (x6,x7,x8,())→k .ret (mkD 120 q81_d1r (x6,x7,x8,()))
def q81_J1 (kr:Int→Int→Bool→Prop) (t0:LI) (at1:Int) (a9:Int) (rv5b:(Int×Int×Bool×Bool)):Prop:=
 q101_P t0 rv5b.2.1∧(
 ∀ (r3:Int×Int),r3=q101_F t0 rv5b.2.1→(
 wfR (.tup [.v yI r3.1,.v yI r3.2])→(
 q101_P t0 at1∧(
 ∀ (r4:Int×Int),r4=q101_F t0 at1→(
 wfR (.tup [.v yI r4.1,.v yI r4.2])→(
 q90_P t0∧(
 ∀ (r5:Int),r5=q90_F t0→(
 wI r5→(
 (wfD q81_d0 (t0,a9,r4.1,(-1:Int),([(IntKind.wrap .i64 (r3.1 - (1:Int))),(IntKind.wrap .i64 (r5 - (1:Int)))]:LI),(List.length ([(IntKind.wrap .i64 (r3.1 - (1:Int))),(IntKind.wrap .i64 (r5 - (1:Int)))]:LI):Int),(0:Int),rv5b,())→∃ n,q81_L0 (fun (a9:Int) (found18:Int)=>wfD q81_d0x0 (a9,found18,())→(
 kr a9 found18 (decide ((0:Int)≤found18)))) n t0 a9 r4.1 (-1:Int) ([(IntKind.wrap .i64 (r3.1 - (1:Int))),(IntKind.wrap .i64 (r5 - (1:Int)))]:LI) (List.length ([(IntKind.wrap .i64 (r3.1 - (1:Int))),(IntKind.wrap .i64 (r5 - (1:Int)))]:LI):Int) (0:Int) rv5b))))))))))
def q81_g1 (k:Ex→St→Prop) (v:vals q81_d1):Prop:=q81_J1 (q81_y1r k) v.1 v.2.1 v.2.2.1 v.2.2.2.1
theorem q81_v1 (k:Ex→St→Prop):∀ v:vals q81_d1,ex tb (getG q81_G) q81_B0 (at' (bodyOf Tryz.f210) [1,1,1,1,1]) [1,1,1,1,1] (mkD 120 q81_d1 v) (wk 120 q81_dx1 k)=q81_g1 k v
  | (t0,at1,a9,rv5b,())=>by kernel_rfl
def q81_X1:Pce:=fun st k=>ckD 120 q81_d1 st fun v=>wfD q81_d1 v→q81_g1 k v
theorem q81_x1:SemOk Tryz.prog (at' (bodyOf Tryz.f210) [1,1,1,1,1]) q81_X1:=
  (SemOk.wk (N:=120) (ds:=q81_d1) (dx:=q81_dx1) (ex_sound tb_M tb_ok q81_Gok (q81_b0) (at' (bodyOf Tryz.f210) [1,1,1,1,1]) [1,1,1,1,1] rfl (storesC_at q81_st [1,1,1,1,1]))).mono fun st k h=>ckD_mono h fun v hv hw=>Eq.mpr (q81_v1 k v) (hv hw)
def q81_B1:Labs:=([1,1,1,1,1],q81_X1)::q81_B0
theorem q81_b1:LabsOk Tryz.prog (bodyOf Tryz.f210) q81_B1:=LabsOk.cons q81_x1 (q81_b0)
def q81_raw (t0:LI) (at1:Int) (rv2:(Int×Int×Bool×Bool)) (K:Res→List Cell→Prop):Prop:=
 q101_P t0 rv2.1∧(
 ∀ (r1:Int×Int),r1=q101_F t0 rv2.1→(
 wfR (.tup [.v yI r1.1,.v yI r1.2])→(
 bif (!decide (r1.2=(0:Int))) then
 K (.tup [.v yI (0:Int),.v yI (0:Int),.v .bool false]) []
 else
 bif (decide (rv2.2.1<rv2.1)) then
 K (.tup [.v yI (0:Int),.v yI (0:Int),.v .bool false]) []
 else
 bif (decide ((List.length t0:Int)<rv2.2.1)) then
 K (.tup [.v yI (0:Int),.v yI (0:Int),.v .bool false]) []
 else
 bif (!rv2.2.2.1) then
 q101_P t0 (mx rv2.1 (IntKind.wrap .i64 (rv2.2.1 - (1:Int))))∧(
 ∀ (r2:Int×Int),r2=q101_F t0 (mx rv2.1 (IntKind.wrap .i64 (rv2.2.1 - (1:Int))))→(
 wfR (.tup [.v yI r2.1,.v yI r2.2])→(
 K (.tup [.v yI r1.1,.v yI r2.1,.v .bool true]) [])))
 else
 bif rv2.2.2.2 then
 (wfD q81_d1 (t0,at1,(IntKind.wrap .i64 (r1.1+(1:Int))),rv2,())→q81_J1 (fun (x6:Int) (x7:Int) (x8:Bool)=>wfD q81_d1r (x6,x7,x8,())→(
 K (.tup [.v yI x6,.v yI x7,.v .bool x8]) [])) t0 at1 (IntKind.wrap .i64 (r1.1+(1:Int))) rv2)
 else
 (wfD q81_d1 (t0,at1,r1.1,rv2,())→q81_J1 (fun (x6:Int) (x7:Int) (x8:Bool)=>wfD q81_d1r (x6,x7,x8,())→(
 K (.tup [.v yI x6,.v yI x7,.v .bool x8]) [])) t0 at1 r1.1 rv2))))
def q81_A:List AS:=[.v yB,.v yI,.v (.st (.pair yI (.pair yI (.pair .bool .bool))))]
def spanStep (t:LI) (a here:Int) (r:Int×Int×Bool×Bool) (found b:Int):Int:=
  if (q79_F t a b).2=0∧eqT (.pair yI (.pair yI (.pair .bool .bool))) (q79_F t a b).1 r=true∧¬ (0≤found∧here≤found) then b else found
def q81_L0_P (t:LI) (a here found:Int) (xs:LI) (n i:Int) (r:Int×Int×Bool×Bool):Prop:=n=xs.length∧i=0∧n≤1000
def q81_L0_F (t:LI) (a here found:Int) (xs:LI) (n i:Int) (r:Int×Int×Bool×Bool):Int×Int:=(a,xs.foldl (spanStep t a here r) found)
theorem q81_l0 (kx0:Int→Int→Prop) (t:LI) (a here:Int) (xs:LI) (r:Int×Int×Bool×Bool) (hx:xs.length≤1000):∀ (m i:Nat) (found:Int),xs.length<m+i→i≤xs.length→
    kx0 a ((xs.drop i).foldl (spanStep t a here r) found)→q81_L0 kx0 m t a here found xs (xs.length:Int) (i:Int) r
  | 0,i,found,h,h2,_=>by omega
  | m+1,i,found,h,h2,hk=>by
    intro _
    unfold q81_T0
    refine brn (fun hlt=>asrt ⟨by omega,by omega⟩ ?_) (fun hge=>?_)
    · have hi:i<xs.length:=by omega
      rw [List.drop_eq_getElem_cons hi,List.foldl_cons] at hk
      rw [rd_nat _ _ _ hi]
      intro r6 h6 _
      subst h6
      have next:∀ f',f'=spanStep t a here r found xs[i]→q81_L0 kx0 m t a here f' xs (xs.length:Int) (IntKind.wrap .i64 ((i:Int)+1)) r:=fun f' hf=>by
        rw [wrap_i64 (by omega) (by omega),show (i:Int)+1=((i+1:Nat):Int) by omega]
        exact q81_l0 kx0 t a here xs r hx m (i+1) f' (by omega) (by omega) (by rw [hf]; exact hk)
      refine brx (fun c=>next _ ?_) (fun c1=>brb (fun c=>next _ ?_) (fun c2=>brn (fun c3=>brn (fun c4=>next _ ?_) (fun c4=>next _ ?_)) (fun c3=>next _ ?_)))
      · unfold spanStep; rw [if_neg (fun hh=>c hh.1)]
      · unfold spanStep; rw [if_neg (fun hh=>by rw [hh.2.1] at c; cases c)]
      · unfold spanStep; rw [if_neg (fun hh=>hh.2.2 ⟨c3,c4⟩)]
      · unfold spanStep; rw [if_pos ⟨c1,by simpa using c2,fun hh=>c4 hh.2⟩]
      · unfold spanStep; rw [if_pos ⟨c1,by simpa using c2,fun hh=>c3 hh.1⟩]
    · have:i=xs.length:=by omega
      rw [this,List.drop_length] at hk
      exact hk
theorem q81_L0_sp (kx0:Int→Int→Prop) (t:LI) (a here found:Int) (xs:LI) (n i:Int) (r:Int×Int×Bool×Bool) (hp:q81_L0_P t a here found xs n i r) (h:∀ q:Int×Int,q=q81_L0_F t a here found xs n i r→kx0 q.1 q.2):∃ m,q81_L0 kx0 m t a here found xs n i r:=by
  obtain ⟨rfl,rfl,hx⟩:=hp
  exact ⟨xs.length+1,q81_l0 kx0 t a here xs r (by omega) (xs.length+1) 0 found (by omega) (Nat.zero_le _) (h _ rfl)⟩

def q81_J1_P (t0:LI) (at1:Int) (a9:Int) (rv5b:(Int×Int×Bool×Bool)):Prop:=
 q101_P t0 rv5b.2.1∧(
 let r3:Int×Int:=q101_F t0 rv5b.2.1
 q101_P t0 at1∧(
 let r4:Int×Int:=q101_F t0 at1
 q90_P t0∧(
 let r5:Int:=q90_F t0
 q81_L0_P t0 a9 r4.1 (-1:Int) ([(IntKind.wrap .i64 (r3.1 - (1:Int))),(IntKind.wrap .i64 (r5 - (1:Int)))]:LI) (List.length ([(IntKind.wrap .i64 (r3.1 - (1:Int))),(IntKind.wrap .i64 (r5 - (1:Int)))]:LI):Int) (0:Int) rv5b)))
def q81_J1_F (t0:LI) (at1:Int) (a9:Int) (rv5b:(Int×Int×Bool×Bool)):Int×Int×Bool:=
 let r3:Int×Int:=q101_F t0 rv5b.2.1
 let r4:Int×Int:=q101_F t0 at1
 let r5:Int:=q90_F t0
 let q0x0:Int×Int:=q81_L0_F t0 a9 r4.1 (-1:Int) ([(IntKind.wrap .i64 (r3.1 - (1:Int))),(IntKind.wrap .i64 (r5 - (1:Int)))]:LI) (List.length ([(IntKind.wrap .i64 (r3.1 - (1:Int))),(IntKind.wrap .i64 (r5 - (1:Int)))]:LI):Int) (0:Int) rv5b
 let a9:Int:=q0x0.1
 let found18:Int:=q0x0.2
 (a9,found18,(decide ((0:Int)≤found18)))
theorem q81_J1_sp (kr:Int→Int→Bool→Prop) (t0:LI) (at1:Int) (a9:Int) (rv5b:(Int×Int×Bool×Bool)) (hp:q81_J1_P t0 at1 a9 rv5b) (hr:∀ q:Int×Int×Bool,q=q81_J1_F t0 at1 a9 rv5b→kr q.1 q.2.1 q.2.2):q81_J1 kr t0 at1 a9 rv5b:=
 have h:=hr; an1 hp fun hp=>al (an1 hp fun hp=>al (an1 hp fun hp=>al (fun _=>q81_L0_sp _ _ _ _ _ _ _ _ _ hp (al (h _ rfl)))))
def q81_P (t0:LI) (at1:Int) (rv2:(Int×Int×Bool×Bool)):Prop:=
 q101_P t0 rv2.1∧(
 let r1:Int×Int:=q101_F t0 rv2.1
 bif (!decide (r1.2=(0:Int))) then
 True
 else
 bif (decide (rv2.2.1<rv2.1)) then
 True
 else
 bif (decide ((List.length t0:Int)<rv2.2.1)) then
 True
 else
 bif (!rv2.2.2.1) then
 q101_P t0 (mx rv2.1 (IntKind.wrap .i64 (rv2.2.1 - (1:Int))))
 else
 bif rv2.2.2.2 then
 q81_J1_P t0 at1 (IntKind.wrap .i64 (r1.1+(1:Int))) rv2
 else
 q81_J1_P t0 at1 r1.1 rv2)
def q81_F (t0:LI) (at1:Int) (rv2:(Int×Int×Bool×Bool)):Int×Int×Bool:=
 let r1:Int×Int:=q101_F t0 rv2.1
 bif (!decide (r1.2=(0:Int))) then
 ((0:Int),(0:Int),false)
 else
 bif (decide (rv2.2.1<rv2.1)) then
 ((0:Int),(0:Int),false)
 else
 bif (decide ((List.length t0:Int)<rv2.2.1)) then
 ((0:Int),(0:Int),false)
 else
 bif (!rv2.2.2.1) then
 let r2:Int×Int:=q101_F t0 (mx rv2.1 (IntKind.wrap .i64 (rv2.2.1 - (1:Int))))
 (r1.1,r2.1,true)
 else
 bif rv2.2.2.2 then
 let q1r:Int×Int×Bool:=q81_J1_F t0 at1 (IntKind.wrap .i64 (r1.1+(1:Int))) rv2
 let x6:Int:=q1r.1
 let x7:Int:=q1r.2.1
 let x8:Bool:=q1r.2.2
 (x6,x7,x8)
 else
 let q1r:Int×Int×Bool:=q81_J1_F t0 at1 r1.1 rv2
 let x6:Int:=q1r.1
 let x7:Int:=q1r.2.1
 let x8:Bool:=q1r.2.2
 (x6,x7,x8)
theorem q81_sp (t0:LI) (at1:Int) (rv2:(Int×Int×Bool×Bool)) (K:Res→List Cell→Prop) (_:wfA q81_A (t0,at1,rv2,())) (hp:q81_P t0 at1 rv2) (h:∀ r:Int×Int×Bool,r=q81_F t0 at1 rv2→K (.tup [.v yI r.1,.v yI r.2.1,.v .bool r.2.2]) []):q81_raw t0 at1 rv2 K:=
 an1 hp fun hp=>al (br1 hp h (fun _ hp h=>h _ rfl)
 fun _ hp h=>br1 hp h (fun _ hp h=>h _ rfl)
 fun _ hp h=>br1 hp h (fun _ hp h=>h _ rfl)
 fun _ hp h=>br1 hp h (fun _ hp h=>⟨hp,al (h _ rfl)⟩)
 fun _ hp h=>br1 hp h (fun _ hp h=>fun _=>q81_J1_sp _ _ _ _ _ hp (al (h _ rfl)))
 fun _ hp h=>fun _=>q81_J1_sp _ _ _ _ _ hp (al (h _ rfl)))
def q81_C (v:valsA q81_A) (K:Res→List Cell→Prop):Prop:=q81_P v.1 v.2.1 v.2.2.1∧∀ r:Int×Int×Bool,r=q81_F v.1 v.2.1 v.2.2.1→K (.tup [.v yI r.1,.v yI r.2.1,.v .bool r.2.2]) []
def q81_S:App:=specW q81_A q81_C
theorem q81_wv (K:Res→List Cell→Prop):∀ v:valsA q81_A,runF tb (getG q81_G) q81_B1 Tryz.f210 [true,true,true] (mkA q81_A v) K=q81_raw v.1 v.2.1 v.2.2.1 K
  | (t0,at1,rv2,())=>by kernel_rfl
theorem q81_ok:AppOk Tryz.prog 210 q81_S:=
  AppOk.specW (spec_ok ((runF_ok tb_M tb_ok q81_Gok (q81_b1) (f:=210) (fn:=Tryz.f210) (by kernel_rfl) (by kernel_rfl) q81_st [true,true,true])) fun v K hw h=>(q81_wv K v).mpr (q81_sp v.1 v.2.1 v.2.2.1 K hw h.1 h.2))

def q93_G:List (Nat×App):=[(95,q86_S),(67,q83_S)]
theorem q93_Gok:GOk Tryz.prog (getG q93_G):=GOk.cons q86_ok (GOk.cons q83_ok (GOk.nil))
def q93_raw (t0:LI) (from1:Int) (to2:Int) (p3:LI) (K:Res→List Cell→Prop):Prop:=
 bif decide (0≤from1∧from1≤to2∧to2≤(List.length t0:Int)) then
 ∀ (r1:Bool),r1=q86_F (slc t0 from1 to2) p3→(
 wB r1→(
 bif r1 then
 K (.one (.fr 75 (.st (.pair yI (.pair yB yB))) ([]:List ((Int×LI×LI))))) []
 else
 bif decide (0≤from1∧from1≤to2∧to2≤(List.length t0:Int)) then
 q83_P (slc t0 from1 to2)∧(
 ∀ (r2:LI),r2=q83_F (slc t0 from1 to2)→(
 wfR (.one (.fr 5 yU r2))→(
 q83_P p3∧(
 ∀ (r3:LI),r3=q83_F p3→(
 wfR (.one (.fr 5 yU r3))→(
 K (.one (.fr 75 (.st (.pair yI (.pair yB yB))) ([(from1,r2,r3)]:List ((Int×LI×LI))))) []))))))
 else False))
 else False
def q93_A:List AS:=[.v yB,.v yI,.v yI,.v yB]

def q93_P (t0:LI) (from1:Int) (to2:Int) (p3:LI):Prop:=
 (0≤from1∧from1≤to2∧to2≤(List.length t0:Int))∧(
 let r1:Bool:=q86_F (slc t0 from1 to2) p3
 bif r1 then
 True
 else
 (0≤from1∧from1≤to2∧to2≤(List.length t0:Int))∧(
 q83_P (slc t0 from1 to2)∧(
 let r2:LI:=q83_F (slc t0 from1 to2)
 q83_P p3)))
def q93_F (t0:LI) (from1:Int) (to2:Int) (p3:LI):List ((Int×LI×LI)):=
 let r1:Bool:=q86_F (slc t0 from1 to2) p3
 bif r1 then
 ([]:List ((Int×LI×LI)))
 else
 let r2:LI:=q83_F (slc t0 from1 to2)
 let r3:LI:=q83_F p3
 ([(from1,r2,r3)]:List ((Int×LI×LI)))
theorem q93_sp (t0:LI) (from1:Int) (to2:Int) (p3:LI) (K:Res→List Cell→Prop) (_:wfA q93_A (t0,from1,to2,p3,())) (hp:q93_P t0 from1 to2 p3) (h:∀ r:List ((Int×LI×LI)),r=q93_F t0 from1 to2 p3→K (.one (.fr 75 (.st (.pair yI (.pair yB yB))) r)) []):q93_raw t0 from1 to2 p3 K:=
 as1 hp fun hp=>al (br1 hp h (fun _ hp h=>h _ rfl)
 fun _ hp h=>as1 hp fun hp=>an1 hp fun hp=>al (⟨hp,al (h _ rfl)⟩))
def q93_C (v:valsA q93_A) (K:Res→List Cell→Prop):Prop:=q93_P v.1 v.2.1 v.2.2.1 v.2.2.2.1∧∀ r:List ((Int×LI×LI)),r=q93_F v.1 v.2.1 v.2.2.1 v.2.2.2.1→K (.one (.fr 75 (.st (.pair yI (.pair yB yB))) r)) []
def q93_S:App:=specW q93_A q93_C
theorem q93_wv (K:Res→List Cell→Prop):∀ v:valsA q93_A,runF tb (getG q93_G) [] Tryz.f213 [true] (mkA q93_A v) K=q93_raw v.1 v.2.1 v.2.2.1 v.2.2.2.1 K
  | (t0,from1,to2,p3,())=>by kernel_rfl
theorem q93_ok:AppOk Tryz.prog 213 q93_S:=
  AppOk.specW (spec_ok ((runF_ok tb_M tb_ok q93_Gok (LabsOk.nil) (f:=213) (fn:=Tryz.f213) (by kernel_rfl) (by kernel_rfl) (by kernel_rfl) [true])) fun v K hw h=>(q93_wv K v).mpr (q93_sp v.1 v.2.1 v.2.2.1 v.2.2.2.1 K hw h.1 h.2))

end Go.VE
namespace Go.VE
open Go Go.Proofs
def q15_G:List (Nat×App):=[]
theorem q15_Gok:GOk Tryz.prog (getG q15_G):=GOk.nil
def q15_raw (s0:LI) (K:Res→List Cell→Prop):Prop:=
 (
 bif decide (List.length ([]:LI)+List.length s0≤lim) then
 K (.one (.fr 5 yU (([]:LI)++s0))) []
 else False)∧(bif decide (List.length s0=0) then
 K (.one (.fr 5 yU ([]:LI))) []
 else True)
def q15_A:List AS:=[.v yB]
def q15_P (s:LI):Prop:=s.length≤lim
def q15_F (s:LI):LI:=s
theorem q15_sp (s:LI) (K:Res→List Cell→Prop) (_:wfA q15_A (s,())) (hp:q15_P s) (h:∀ r:LI,r=q15_F s→K (.one (.fr 5 yU r)) []):q15_raw s K:=by
  unfold q15_raw
  unfold q15_P at hp
  refine ⟨asrt (by simpa using hp) (h _ rfl),?_⟩
  by_cases hz:s.length=0
  · rw [decide_eq_true hz]
    exact h _ (List.eq_nil_of_length_eq_zero hz).symm
  · rw [decide_eq_false hz]; trivial

def q15_C (v:valsA q15_A) (K:Res→List Cell→Prop):Prop:=q15_P v.1∧∀ r:LI,r=q15_F v.1→K (.one (.fr 5 yU r)) []
def q15_S:App:=specW q15_A q15_C
theorem q15_wv (K:Res→List Cell→Prop):∀ v:valsA q15_A,runF tb (getG q15_G) [] Tryz.f133 [true] (mkA q15_A v) K=q15_raw v.1 K
  | (s0,())=>by kernel_rfl
set_option maxRecDepth 20000 in
theorem q15_ok:AppOk Tryz.prog 133 q15_S:=
  AppOk.specW (spec_ok ((runF_ok tb_M tb_ok q15_Gok (LabsOk.nil) (f:=133) (fn:=Tryz.f133) (by kernel_rfl) (by kernel_rfl) (by kernel_rfl) [true])) fun v K hw h=>(q15_wv K v).mpr (q15_sp v.1 K hw h.1 h.2))

end Go.VE
namespace Go.VE
set_option maxRecDepth 20000
open Go Go.Proofs
def q94_G:List (Nat×App):=[(133,q15_S)]
theorem q94_Gok:GOk Tryz.prog (getG q94_G):=GOk.cons q15_ok (GOk.nil)
theorem q94_st:storesC (bodyOf Tryz.f279)=true:=by kernel_rfl
def q94_d0:List LS:=[.b 3 24 [],.b 4 32 [],.v 6 yB,.c 24 (.st (.pair yI (.pair yI (.pair .bool .bool)))),.c 32 (.st (.pair .bool (.pair .bool yB)))]
def q94_d0r:List LS:=[.b 4 32 [],.v 5 yI,.c 32 (.st (.pair .bool (.pair .bool yB)))]
def q94_dx0:DX:=⟨none,some q94_d0r,[]⟩
def q94_y0r (k:Ex→St→Prop) (x5:Int) (x4b:(Bool×Bool×LI)):Prop:=wfD q94_d0r (x5,x4b,())→k .ret (mkD 93 q94_d0r (x5,x4b,()))
def q94_J0 (kr:Int→(Bool×Bool×LI)→Prop) (text6:LI) (rv3b:(Int×Int×Bool×Bool)) (x4b:(Bool×Bool×LI)):Prop:=
 q15_P text6∧(
 ∀ (r2:LI),r2=q15_F text6→(
 wfR (.one (.fr 5 yU r2))→(
 bif rv3b.2.2.2 then
 bif decide (List.length r2+List.length ([(10:Int)]:LI)≤lim) then
 kr (0:Int) (true,true,(r2++([(10:Int)]:LI)))
 else False
 else
 bif (decide ((List.length r2:Int)=(0:Int))) then
 bif decide (List.length r2+List.length ([(10:Int)]:LI)≤lim) then
 kr (0:Int) (true,true,(r2++([(10:Int)]:LI)))
 else False
 else
 bif decide (0≤(IntKind.wrap .i64 ((List.length r2:Int) - (1:Int)))∧(IntKind.wrap .i64 ((List.length r2:Int) - (1:Int)))<(List.length r2:Int)) then
 bif (!decide ((rd (0:Int) r2 (IntKind.wrap .i64 ((List.length r2:Int) - (1:Int))))=(10:Int))) then
 bif decide (List.length r2+List.length ([(10:Int)]:LI)≤lim) then
 kr (0:Int) (true,true,(r2++([(10:Int)]:LI)))
 else False
 else
 kr (0:Int) (true,true,r2)
 else False)))
def q94_g0 (k:Ex→St→Prop) (v:vals q94_d0):Prop:=q94_J0 (q94_y0r k) v.1 v.2.1 v.2.2.1
theorem q94_v0 (k:Ex→St→Prop):∀ v:vals q94_d0,ex tb (getG q94_G) [] (at' (bodyOf Tryz.f279) [1,1,1,1,1]) [1,1,1,1,1] (mkD 93 q94_d0 v) (wk 93 q94_dx0 k)=q94_g0 k v
  | (text6,rv3b,x4b,())=>by kernel_rfl
def q94_X0:Pce:=fun st k=>ckD 93 q94_d0 st fun v=>wfD q94_d0 v→q94_g0 k v
theorem q94_x0:SemOk Tryz.prog (at' (bodyOf Tryz.f279) [1,1,1,1,1]) q94_X0:=
  (SemOk.wk (N:=93) (ds:=q94_d0) (dx:=q94_dx0) (ex_sound tb_M tb_ok q94_Gok (LabsOk.nil) (at' (bodyOf Tryz.f279) [1,1,1,1,1]) [1,1,1,1,1] rfl (storesC_at q94_st [1,1,1,1,1]))).mono fun st k h=>ckD_mono h fun v hv hw=>Eq.mpr (q94_v0 k v) (hv hw)
def q94_B0:Labs:=([1,1,1,1,1],q94_X0)::[]
theorem q94_b0:LabsOk Tryz.prog (bodyOf Tryz.f279) q94_B0:=LabsOk.cons q94_x0 (LabsOk.nil)
def q94_raw (t0:LI) (rv1:(Int×Int×Bool×Bool)) (K:Res→List Cell→Prop):Prop:=
 bif (decide (rv1.1<(0:Int))) then
 K (.tup [.v (.st (.pair .bool (.pair .bool yB))) (false,false,([]:LI)),.v yI (2:Int)]) []
 else
 bif (decide (rv1.2.1<rv1.1)) then
 K (.tup [.v (.st (.pair .bool (.pair .bool yB))) (false,false,([]:LI)),.v yI (2:Int)]) []
 else
 bif (decide ((List.length t0:Int)<rv1.2.1)) then
 K (.tup [.v (.st (.pair .bool (.pair .bool yB))) (false,false,([]:LI)),.v yI (2:Int)]) []
 else
 bif (!rv1.2.2.1) then
 bif decide (0≤rv1.1∧rv1.1≤rv1.2.1∧rv1.2.1≤(List.length t0:Int)) then
 q15_P (slc t0 rv1.1 rv1.2.1)∧(
 ∀ (r1:LI),r1=q15_F (slc t0 rv1.1 rv1.2.1)→(
 wfR (.one (.fr 5 yU r1))→(
 K (.tup [.v (.st (.pair .bool (.pair .bool yB))) (true,false,r1),.v yI (0:Int)]) [])))
 else False
 else
 bif decide (0≤rv1.1∧rv1.1≤rv1.2.1∧rv1.2.1≤(List.length t0:Int)) then
 bif rv1.2.2.2 then
 bif (decide (rv1.1=(List.length t0:Int))) then
 K (.tup [.v (.st (.pair .bool (.pair .bool yB))) (false,false,([]:LI)),.v yI (2:Int)]) []
 else
 bif decide (0≤rv1.1∧rv1.1<(List.length t0:Int)) then
 bif (!decide ((rd (0:Int) t0 rv1.1)=(10:Int))) then
 K (.tup [.v (.st (.pair .bool (.pair .bool yB))) (false,false,([]:LI)),.v yI (2:Int)]) []
 else
 bif decide (0≤(IntKind.wrap .i64 (rv1.1+(1:Int)))∧(IntKind.wrap .i64 (rv1.1+(1:Int)))≤(mx (IntKind.wrap .i64 (rv1.1+(1:Int))) rv1.2.1)∧(mx (IntKind.wrap .i64 (rv1.1+(1:Int))) rv1.2.1)≤(List.length t0:Int)) then
 (wfD q94_d0 ((slc t0 (IntKind.wrap .i64 (rv1.1+(1:Int))) (mx (IntKind.wrap .i64 (rv1.1+(1:Int))) rv1.2.1)),rv1,(false,false,([]:LI)),())→q94_J0 (fun (x5:Int) (x4b:(Bool×Bool×LI))=>wfD q94_d0r (x5,x4b,())→(
 K (.tup [.v (.st (.pair .bool (.pair .bool yB))) x4b,.v yI x5]) [])) (slc t0 (IntKind.wrap .i64 (rv1.1+(1:Int))) (mx (IntKind.wrap .i64 (rv1.1+(1:Int))) rv1.2.1)) rv1 (false,false,([]:LI)))
 else False
 else False
 else
 (wfD q94_d0 ((slc t0 rv1.1 rv1.2.1),rv1,(false,false,([]:LI)),())→q94_J0 (fun (x5:Int) (x4b:(Bool×Bool×LI))=>wfD q94_d0r (x5,x4b,())→(
 K (.tup [.v (.st (.pair .bool (.pair .bool yB))) x4b,.v yI x5]) [])) (slc t0 rv1.1 rv1.2.1) rv1 (false,false,([]:LI)))
 else False
def q94_A:List AS:=[.v yB,.v (.st (.pair yI (.pair yI (.pair .bool .bool))))]

def q94_J0_P (text6:LI) (rv3b:(Int×Int×Bool×Bool)) (x4b:(Bool×Bool×LI)):Prop:=
 q15_P text6∧(
 let r2:LI:=q15_F text6
 bif rv3b.2.2.2 then
 (List.length r2+List.length ([(10:Int)]:LI)≤lim)
 else
 bif (decide ((List.length r2:Int)=(0:Int))) then
 (List.length r2+List.length ([(10:Int)]:LI)≤lim)
 else
 (0≤(IntKind.wrap .i64 ((List.length r2:Int) - (1:Int)))∧(IntKind.wrap .i64 ((List.length r2:Int) - (1:Int)))<(List.length r2:Int))∧(
 bif (!decide ((rd (0:Int) r2 (IntKind.wrap .i64 ((List.length r2:Int) - (1:Int))))=(10:Int))) then
 (List.length r2+List.length ([(10:Int)]:LI)≤lim)
 else
 True))
def q94_J0_F (text6:LI) (rv3b:(Int×Int×Bool×Bool)) (x4b:(Bool×Bool×LI)):Int×(Bool×Bool×LI):=
 let r2:LI:=q15_F text6
 bif rv3b.2.2.2 then
 ((0:Int),(true,true,(r2++([(10:Int)]:LI))))
 else
 bif (decide ((List.length r2:Int)=(0:Int))) then
 ((0:Int),(true,true,(r2++([(10:Int)]:LI))))
 else
 bif (!decide ((rd (0:Int) r2 (IntKind.wrap .i64 ((List.length r2:Int) - (1:Int))))=(10:Int))) then
 ((0:Int),(true,true,(r2++([(10:Int)]:LI))))
 else
 ((0:Int),(true,true,r2))
theorem q94_J0_sp (kr:Int→(Bool×Bool×LI)→Prop) (text6:LI) (rv3b:(Int×Int×Bool×Bool)) (x4b:(Bool×Bool×LI)) (hp:q94_J0_P text6 rv3b x4b) (hr:∀ q:Int×(Bool×Bool×LI),q=q94_J0_F text6 rv3b x4b→kr q.1 q.2):q94_J0 kr text6 rv3b x4b:=
 have h:=hr; an1 hp fun hp=>al (br1 hp h (fun _ hp h=>as0 hp (h _ rfl))
 fun _ hp h=>br1 hp h (fun _ hp h=>as0 hp (h _ rfl))
 fun _ hp h=>as1 hp fun hp=>br1 hp h (fun _ hp h=>as0 hp (h _ rfl))
 fun _ hp h=>h _ rfl)
def q94_P (t0:LI) (rv1:(Int×Int×Bool×Bool)):Prop:=
 bif (decide (rv1.1<(0:Int))) then
 True
 else
 bif (decide (rv1.2.1<rv1.1)) then
 True
 else
 bif (decide ((List.length t0:Int)<rv1.2.1)) then
 True
 else
 bif (!rv1.2.2.1) then
 (0≤rv1.1∧rv1.1≤rv1.2.1∧rv1.2.1≤(List.length t0:Int))∧(
 q15_P (slc t0 rv1.1 rv1.2.1))
 else
 (0≤rv1.1∧rv1.1≤rv1.2.1∧rv1.2.1≤(List.length t0:Int))∧(
 bif rv1.2.2.2 then
 bif (decide (rv1.1=(List.length t0:Int))) then
 True
 else
 (0≤rv1.1∧rv1.1<(List.length t0:Int))∧(
 bif (!decide ((rd (0:Int) t0 rv1.1)=(10:Int))) then
 True
 else
 (0≤(IntKind.wrap .i64 (rv1.1+(1:Int)))∧(IntKind.wrap .i64 (rv1.1+(1:Int)))≤(mx (IntKind.wrap .i64 (rv1.1+(1:Int))) rv1.2.1)∧(mx (IntKind.wrap .i64 (rv1.1+(1:Int))) rv1.2.1)≤(List.length t0:Int))∧(
 q94_J0_P (slc t0 (IntKind.wrap .i64 (rv1.1+(1:Int))) (mx (IntKind.wrap .i64 (rv1.1+(1:Int))) rv1.2.1)) rv1 (false,false,([]:LI))))
 else
 q94_J0_P (slc t0 rv1.1 rv1.2.1) rv1 (false,false,([]:LI)))
def q94_F (t0:LI) (rv1:(Int×Int×Bool×Bool)):(Bool×Bool×LI)×Int:=
 bif (decide (rv1.1<(0:Int))) then
 ((false,false,([]:LI)),(2:Int))
 else
 bif (decide (rv1.2.1<rv1.1)) then
 ((false,false,([]:LI)),(2:Int))
 else
 bif (decide ((List.length t0:Int)<rv1.2.1)) then
 ((false,false,([]:LI)),(2:Int))
 else
 bif (!rv1.2.2.1) then
 let r1:LI:=q15_F (slc t0 rv1.1 rv1.2.1)
 ((true,false,r1),(0:Int))
 else
 bif rv1.2.2.2 then
 bif (decide (rv1.1=(List.length t0:Int))) then
 ((false,false,([]:LI)),(2:Int))
 else
 bif (!decide ((rd (0:Int) t0 rv1.1)=(10:Int))) then
 ((false,false,([]:LI)),(2:Int))
 else
 let q0r:Int×(Bool×Bool×LI):=q94_J0_F (slc t0 (IntKind.wrap .i64 (rv1.1+(1:Int))) (mx (IntKind.wrap .i64 (rv1.1+(1:Int))) rv1.2.1)) rv1 (false,false,([]:LI))
 let x5:Int:=q0r.1
 let x4b:(Bool×Bool×LI):=q0r.2
 (x4b,x5)
 else
 let q0r:Int×(Bool×Bool×LI):=q94_J0_F (slc t0 rv1.1 rv1.2.1) rv1 (false,false,([]:LI))
 let x5:Int:=q0r.1
 let x4b:(Bool×Bool×LI):=q0r.2
 (x4b,x5)
theorem q94_sp (t0:LI) (rv1:(Int×Int×Bool×Bool)) (K:Res→List Cell→Prop) (_:wfA q94_A (t0,rv1,())) (hp:q94_P t0 rv1) (h:∀ r:(Bool×Bool×LI)×Int,r=q94_F t0 rv1→K (.tup [.v (.st (.pair .bool (.pair .bool yB))) r.1,.v yI r.2]) []):q94_raw t0 rv1 K:=
 br1 hp h (fun _ hp h=>h _ rfl)
 fun _ hp h=>br1 hp h (fun _ hp h=>h _ rfl)
 fun _ hp h=>br1 hp h (fun _ hp h=>h _ rfl)
 fun _ hp h=>br1 hp h (fun _ hp h=>as1 hp fun hp=>⟨hp,al (h _ rfl)⟩)
 fun _ hp h=>as1 hp fun hp=>br1 hp h (fun _ hp h=>br1 hp h (fun _ hp h=>h _ rfl)
 fun _ hp h=>as1 hp fun hp=>br1 hp h (fun _ hp h=>h _ rfl)
 fun _ hp h=>as1 hp fun hp=>fun _=>q94_J0_sp _ _ _ _ hp (al (h _ rfl)))
 fun _ hp h=>fun _=>q94_J0_sp _ _ _ _ hp (al (h _ rfl))
def q94_C (v:valsA q94_A) (K:Res→List Cell→Prop):Prop:=q94_P v.1 v.2.1∧∀ r:(Bool×Bool×LI)×Int,r=q94_F v.1 v.2.1→K (.tup [.v (.st (.pair .bool (.pair .bool yB))) r.1,.v yI r.2]) []
def q94_S:App:=specW q94_A q94_C
theorem q94_wv (K:Res→List Cell→Prop):∀ v:valsA q94_A,runF tb (getG q94_G) q94_B0 Tryz.f279 [true,true] (mkA q94_A v) K=q94_raw v.1 v.2.1 K
  | (t0,rv1,())=>by kernel_rfl
theorem q94_ok:AppOk Tryz.prog 279 q94_S:=
  AppOk.specW (spec_ok ((runF_ok tb_M tb_ok q94_Gok (q94_b0) (f:=279) (fn:=Tryz.f279) (by kernel_rfl) (by kernel_rfl) q94_st [true,true])) fun v K hw h=>(q94_wv K v).mpr (q94_sp v.1 v.2.1 K hw h.1 h.2))

def q65_G:List (Nat×App):=[(279,q94_S),(189,q59_S)]
theorem q65_Gok:GOk Tryz.prog (getG q65_G):=GOk.cons q94_ok (GOk.cons q59_ok (GOk.nil))
def q65_raw (j0:tJb) (K:Res→List Cell→Prop):Prop:=
 q94_P j0.1 j0.2.2.1∧(
 ∀ (r1:(Bool×Bool×LI)×Int),r1=q94_F j0.1 j0.2.2.1→(
 wfR (.tup [.v (.st (.pair .bool (.pair .bool yB))) r1.1,.v yI r1.2])→(
 bif j0.2.2.1.2.2.1 then
 K (.tup [.v (.st (.pair .bool (.pair .bool yB))) r1.1,.v yI (2:Int)]) []
 else
 ∀ (r2:Int),r2=q59_F r1.1.2.2 (10:Int)→(
 wI r2→(
 bif (decide ((0:Int)≤r2)) then
 K (.tup [.v (.st (.pair .bool (.pair .bool yB))) r1.1,.v yI (2:Int)]) []
 else
 K (.tup [.v (.st (.pair .bool (.pair .bool yB))) r1.1,.v yI (3:Int)]) [])))))
def q65_A:List AS:=[.v tyJ]

def q65_P (j0:tJb):Prop:=
 q94_P j0.1 j0.2.2.1
def q65_F (j0:tJb):(Bool×Bool×LI)×Int:=
 let r1:(Bool×Bool×LI)×Int:=q94_F j0.1 j0.2.2.1
 bif j0.2.2.1.2.2.1 then
 (r1.1,(2:Int))
 else
 let r2:Int:=q59_F r1.1.2.2 (10:Int)
 bif (decide ((0:Int)≤r2)) then
 (r1.1,(2:Int))
 else
 (r1.1,(3:Int))
theorem q65_sp (j0:tJb) (K:Res→List Cell→Prop) (_:wfA q65_A (j0,())) (hp:q65_P j0) (h:∀ r:(Bool×Bool×LI)×Int,r=q65_F j0→K (.tup [.v (.st (.pair .bool (.pair .bool yB))) r.1,.v yI r.2]) []):q65_raw j0 K:=
 ⟨hp,al (br0 h (fun _ h=>h _ rfl)
 fun _ h=>al (br0 h (fun _ h=>h _ rfl)
 fun _ h=>h _ rfl))⟩
def q65_C (v:valsA q65_A) (K:Res→List Cell→Prop):Prop:=q65_P v.1∧∀ r:(Bool×Bool×LI)×Int,r=q65_F v.1→K (.tup [.v (.st (.pair .bool (.pair .bool yB))) r.1,.v yI r.2]) []
def q65_S:App:=specW q65_A q65_C
theorem q65_wv (K:Res→List Cell→Prop):∀ v:valsA q65_A,runF tb (getG q65_G) [] Tryz.f264 [true,true] (mkA q65_A v) K=q65_raw v.1 K
  | (j0,())=>by kernel_rfl
theorem q65_ok:AppOk Tryz.prog 264 q65_S:=
  AppOk.specW (spec_ok ((runF_ok tb_M tb_ok q65_Gok (LabsOk.nil) (f:=264) (fn:=Tryz.f264) (by kernel_rfl) (by kernel_rfl) (by kernel_rfl) [true,true])) fun v K hw h=>(q65_wv K v).mpr (q65_sp v.1 K hw h.1 h.2))

def q60_G:List (Nat×App):=[(95,q86_S)]
theorem q60_Gok:GOk Tryz.prog (getG q60_G):=GOk.cons q86_ok (GOk.nil)
def q60_raw (s0:LI) (prefix1:LI) (K:Res→List Cell→Prop):Prop:=
 bif (decide ((List.length prefix1:Int)≤(List.length s0:Int))) then
 bif decide (0≤(List.length prefix1:Int)∧(List.length prefix1:Int)≤(List.length s0:Int)) then
 ∀ (r1:Bool),r1=q86_F (List.take (Int.toNat (List.length prefix1:Int)) s0) prefix1→(
 wB r1→(
 K (.one (.v .bool r1)) []))
 else False
 else
 K (.one (.v .bool false)) []
def q60_A:List AS:=[.v yB,.v yB]

def q60_P (s0:LI) (prefix1:LI):Prop:=
 bif (decide ((List.length prefix1:Int)≤(List.length s0:Int))) then
 (0≤(List.length prefix1:Int)∧(List.length prefix1:Int)≤(List.length s0:Int))
 else
 True
def q60_F (s0:LI) (prefix1:LI):Bool:=
 bif (decide ((List.length prefix1:Int)≤(List.length s0:Int))) then
 let r1:Bool:=q86_F (List.take (Int.toNat (List.length prefix1:Int)) s0) prefix1
 r1
 else
 false
theorem q60_sp (s0:LI) (prefix1:LI) (K:Res→List Cell→Prop) (_:wfA q60_A (s0,prefix1,())) (hp:q60_P s0 prefix1) (h:∀ r:Bool,r=q60_F s0 prefix1→K (.one (.v .bool r)) []):q60_raw s0 prefix1 K:=
 br1 hp h (fun _ hp h=>as0 hp (al (h _ rfl)))
 fun _ hp h=>h _ rfl
def q60_C (v:valsA q60_A) (K:Res→List Cell→Prop):Prop:=q60_P v.1 v.2.1∧∀ r:Bool,r=q60_F v.1 v.2.1→K (.one (.v .bool r)) []
def q60_S:App:=specW q60_A q60_C
theorem q60_wv (K:Res→List Cell→Prop):∀ v:valsA q60_A,runF tb (getG q60_G) [] Tryz.f64 [true] (mkA q60_A v) K=q60_raw v.1 v.2.1 K
  | (s0,prefix1,())=>by kernel_rfl
theorem q60_ok:AppOk Tryz.prog 64 q60_S:=
  AppOk.specW (spec_ok ((runF_ok tb_M tb_ok q60_Gok (LabsOk.nil) (f:=64) (fn:=Tryz.f64) (by kernel_rfl) (by kernel_rfl) (by kernel_rfl) [true])) fun v K hw h=>(q60_wv K v).mpr (q60_sp v.1 v.2.1 K hw h.1 h.2))

end Go.VE
