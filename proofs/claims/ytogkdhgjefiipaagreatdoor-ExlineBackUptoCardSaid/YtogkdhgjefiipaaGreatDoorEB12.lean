import Derived.Test.YtogkdhgjefiipaaGreatDoorEB11
import Derived.Shelf.Strconv.Itoa1
import Derived.Shelf.Strconv.Itoa2
import Derived.Lib.Walk
import Derived.Lib.ItoaWalk
import Derived.Lib.ItoaMem
import Derived.Lib.AppendIntMem
import Derived.Lib.BufferKept
import Derived.Lib.OwnKind
import Derived.Lib.Slices
import Derived.Lib.Hide
import Derived.OwnWalk
import Derived.WalkKit
import Derived.BigCall
import Derived.BigGuard
import Derived.CellFam
set_option linter.unusedVariables false
set_option linter.unusedSectionVars false
set_option linter.unusedSimpArgs false
namespace Go.VE
open Go Go.Proofs
end Go.VE
namespace Go.VE
open Go

theorem step_append {P:Program} {ops:Array Oper} {rest:List Oper} {o:Oper} {a:Act} {w w':World} {v':Value} {Q:Exit→Act→World→Prop} (hgd:o.guard=none) (s x:Operand) (t t':TypeId)
    (ho:o.op=.call { callee:=.builtin .append,args:=#[s,x],argTypes:=#[t,t'] }) (hrun:(Builtin.append_ #[t,t'] o.type #[a.eval s,a.eval x]).run P w=.ok v' w') (h:wpList P ops Q rest (a.put o.dst v') w') :
    wpList P ops Q (o::rest) a w:=by
  refine wpList_plain hgd fun K hK=>?_
  unfold Oper.wp
  have e:(execOp a.eval o).run P w=.ok (.value v') w':=by
    unfold execOp
    rw [ho]
    simp [invoke,resolve,builtin,hrun]
  rw [e]
  exact hK _ _ h

def decI (u:Nat):LI:=(Lib.decDigits u).map fun b=>(b.toNat:Int)

def au_A:List AS:=[.o 5 yU,.v (.int .u64),.v yI]
end Go.VE
namespace Go.Proofs
open Go.Shelf Go.RowKit Go.Sort
def lays284_ren:Go.Shelf.Ren:=⟨fun | 284=>227 | 129=>259 | 317=>258 | 318=>260 | n=>n,fun | 53=>175 | 3=>3 | 212=>278 | 0=>0 | 4=>4 | 46=>136 | 5=>5 | 9=>9 | n=>n,fun | 17=>1 | n=>n⟩
theorem lays284:LaysM.n284 Tryz.prog lays284_ren where
  mixed:=by kernel_rfl
  f129:=Tryz.func259.trans (congrArg some (by kernel_rfl))
  f284:=Tryz.func227.trans (congrArg some (by kernel_rfl))
  f317:=Tryz.func258.trans (congrArg some (by kernel_rfl))
  f318:=Tryz.func260.trans (congrArg some (by kernel_rfl))
  t0:=Tryz.underlying0
  a0:=Tryz.isAgg0
  z0:=Tryz.sizeOf0
  v0:=Tryz.zeroValue0
  t3:=Tryz.underlying3
  a3:=Tryz.isAgg3
  z3:=Tryz.sizeOf3
  v3:=Tryz.zeroValue3
  t4:=Tryz.underlying4
  a4:=Tryz.isAgg4
  z4:=Tryz.sizeOf4
  v4:=Tryz.zeroValue4
  t5:=Tryz.underlying5
  a5:=Tryz.isAgg5
  z5:=Tryz.sizeOf5
  v5:=Tryz.zeroValue5
  t9:=Tryz.underlying9
  a9:=Tryz.isAgg9
  z9:=Tryz.sizeOf9
  v9:=Tryz.zeroValue9
  t46:=Tryz.underlying136
  a46:=Tryz.isAgg136
  z46:=Tryz.sizeOf136
  v46:=Tryz.zeroValue136
  t53:=Tryz.underlying175
  a53:=Tryz.isAgg175
  z53:=Tryz.sizeOf175
  v53:=Tryz.zeroValue175
  t212:=Tryz.underlying278
  a212:=Tryz.isAgg278
  z212:=Tryz.sizeOf278
  v212:=Tryz.zeroValue278
  g17:=by kernel_rfl
  i0:=by kernel_rfl
  i3:=by kernel_rfl
  i4:=by kernel_rfl
  i5:=by kernel_rfl
  i9:=by kernel_rfl
  i46:=by kernel_rfl
  i53:=by kernel_rfl
  i212:=by kernel_rfl
  m17:=by kernel_rfl
def lays285_ren:Go.Shelf.Ren:=⟨fun | 285=>228 | n=>n,fun | 37=>22 | 53=>175 | 3=>3 | 4=>4 | 51=>172 | 9=>9 | 5=>5 | 0=>0 | n=>n,fun | n=>n⟩
theorem lays285:Lays.n285 Tryz.prog lays285_ren where
  mixed:=by kernel_rfl
  f285:=Tryz.func228.trans (congrArg some (by kernel_rfl))
  t0:=Tryz.underlying0
  a0:=Tryz.isAgg0
  z0:=Tryz.sizeOf0
  v0:=Tryz.zeroValue0
  t3:=Tryz.underlying3
  a3:=Tryz.isAgg3
  z3:=Tryz.sizeOf3
  v3:=Tryz.zeroValue3
  t4:=Tryz.underlying4
  a4:=Tryz.isAgg4
  z4:=Tryz.sizeOf4
  v4:=Tryz.zeroValue4
  t5:=Tryz.underlying5
  a5:=Tryz.isAgg5
  z5:=Tryz.sizeOf5
  v5:=Tryz.zeroValue5
  t9:=Tryz.underlying9
  a9:=Tryz.isAgg9
  z9:=Tryz.sizeOf9
  v9:=Tryz.zeroValue9
  t37:=Tryz.underlying22
  a37:=Tryz.isAgg22
  z37:=Tryz.sizeOf22
  v37:=Tryz.zeroValue22
  t51:=Tryz.underlying172
  a51:=Tryz.isAgg172
  z51:=Tryz.sizeOf172
  v51:=Tryz.zeroValue172
  t53:=Tryz.underlying175
  a53:=Tryz.isAgg175
  z53:=Tryz.sizeOf175
  v53:=Tryz.zeroValue175


set_option maxHeartbeats 3200000 in
set_option maxRecDepth 100000 in
theorem au_big (Post:Value→World→Prop) (u:Nat) (hu:100≤u) (hu64:u<18446744073709551616) (sv:Value) (w:World)
    (htab : Lib.TabIs Tryz.prog w "internal/strconv.uint64pow10" .u64 Lib.pow10Tab)
    (happ:∀ W2:World,W2.os=w.os→W2.tape=w.tape→W2.output=w.output→w.heap.size≤W2.heap.size→(∀ k,k<w.heap.size→W2.heap[k]?=w.heap[k]?)→
      (∀ j (h:j<(Lib.decDigits u).length),W2.cell? ⟨w.heap.size,j,none⟩=some (Value.int .u8 ((Lib.decDigits u)[j].toNat:Int)))→
      ∃ v' w',(Builtin.append_ #[22,22] 22 #[sv,.slice (some ⟨w.heap.size,0,none⟩) (Lib.nDigits u) 24]).run Tryz.prog W2=.ok v' w'∧Post v' w') :
    Calls Tryz.prog 195 #[sv,.int .u64 u,.int .i64 10] w fun e w'=>∃ v,e=.returned v∧Post v w':=by
  have e58:∀ args w,(callFunc 227 args).run Tryz.prog w=.ok (.enter 227 args) w:=VE.enters_of Tryz.func227 (by kernel_rfl)
  have e59:∀ args w,(callFunc 228 args).run Tryz.prog w=.ok (.enter 228 args) w:=VE.enters_of Tryz.func228 (by kernel_rfl)
  have hu1:1≤u:=by omega
  have hnd20:Lib.nDigits u≤20:=by have:=Lib.numDigits_eq u hu1 hu64; split at this <;> omega
  have iu:(100:Int)≤(u:Int):=by omega
  have hal:Tryz.prog.arrayLen 254=24:=by kernel_rfl
  have hsl:∀ W,(Instr.sliceAt 254 (.pointer (some ⟨w.heap.size,0,none⟩)) none (some (.int .i64 (Lib.nDigits u:Int))) none).run Tryz.prog W=.ok (.slice (some ⟨w.heap.size,0,none⟩) (Lib.nDigits u) 24) W:=fun W=>by
    rw [run_sliceAt_array_h W 254 ⟨w.heap.size,0,none⟩ (by kernel_rfl) .i64 (Lib.nDigits u:Int) (by omega) (by rw [hal]; omega)]
    go_simp
  have hH0:=Lib.holds_zero0 w 254 (Lib.nDigits u) (by omega)
  have hfmt:=Any.internal_strconv_formatBase10 lays285 w.heap.size 0 24 u (Array.replicate (Lib.nDigits u) 0) (w.alloc (.cells Lib.zeros24 254)) hH0 (by rw [Array.size_replicate]; exact Lib.lt_pow_nDigits u) hu64 (by rw [Array.size_replicate]; omega)
  rw [Array.size_replicate] at hfmt
  have HH0:=Lib.hid hH0
  clear hH0
  go_enter Tryz.func195,Tryz.ntmps195
  go_wp2_with (first
    | (go_at_fn 227; refine (Any.internal_strconv_numDigits lays284 u hu1 hu64 _ (Lib.tabIs_alloc htab _)).mono ?_; rintro e w' ⟨rfl,rfl⟩))
  go_at_fn 228
  refine hfmt.mono ?_
  rintro e w' ⟨rfl,k,v',dk,rfl,hF⟩
  obtain ⟨os,eo⟩:=Lib.fin_at w (.cells Lib.zeros24 254) dk k 0
  obtain ⟨v2,w2,hrun,hpost⟩:=happ ((putRow (fun (b:UInt8)=>Value.int .u8 (b.toNat:Int)) (w.alloc (.cells Lib.zeros24 254)) w.heap.size 0 dk).drewN k) (by rw [eo]; rfl) (by rw [eo]; rfl) (by rw [eo]; rfl) (by rw [eo]; exact Lib.size_grow w k os)
    (fun g hg=>by rw [eo]; exact Lib.heap_grow_old w k os g hg) (fun j hj=>by
      have:=cell?_putRow (fun (b:UInt8)=>Value.int .u8 (b.toNat:Int)) (w.alloc (.cells Lib.zeros24 254)) w.heap.size 0 (Array.replicate (Lib.nDigits u) 0) dk HH0.out (by rw [hF.size,Array.size_replicate]) j (by rw [hF.size]; rw [Lib.decDigits_length] at hj; exact hj)
      rw [Lib.row_is_numeral hF j hj,World.cell?_drewN]
      simpa using this)
  generalize (putRow (fun (b:UInt8)=>Value.int .u8 (b.toNat:Int)) (w.alloc (.cells Lib.zeros24 254)) w.heap.size 0 dk).drewN k=W2 at hrun ⊢
  clear eo HH0 hfmt happ
  go_wp2_with (at_builtin; refine VE.step_append rfl _ _ 22 22 rfl hrun ?_)
  go_wp2
  go_ret
  exact ⟨_,rfl,hpost⟩
end Go.Proofs
namespace Go.VE
open Go

theorem decI_byte (u:Nat):∀ x∈decI u,0≤x∧x≤255:=fun x hx=>by
  unfold decI at hx
  obtain ⟨b,_,rfl⟩:=List.mem_map.1 hx
  have:=b.toNat_lt
  omega

theorem decI_len (u:Nat):(decI u).length=Lib.nDigits u:=by unfold decI; rw [List.length_map,Lib.decDigits_length]

theorem digits20 {u:Nat} (h1:1≤u) (h:u<18446744073709551616):Lib.nDigits u≤20:=by
  have:=Lib.numDigits_eq u h1 h
  split at this <;> omega

theorem au_spec (xs:LI) (u:Int) (hu:100≤u) (hl:xs.length+20≤lim) {Ok:Res→List Cell→Prop} (hK:wfR (.one (.fr 5 yU (xs++decI u.toNat)))→Ok (.one (.fr 5 yU (xs++decI u.toNat))) []) :
    CallSpec Go.Proofs.Tryz.prog 195 (mkA au_A (xs,u,10,())) (fun r o=>wfR r→Ok r o):=by
  intro I w vs bs hI hg ha
  have hlen:=ha.length
  obtain ⟨sv,uv,bv,rfl⟩:∃ a b c,vs=[a,b,c]:=by
    match vs,hlen with
    | [a,b,c],_=>exact ⟨a,b,c,rfl⟩
  obtain ⟨b,rfl⟩:∃ b,bs=[b]:=by
    cases bs with
    | nil=>exact ha.elim
    | cons b bs=>
      cases bs with
      | nil=>exact ⟨b,rfl⟩
      | cons c bs=>exact ha.2.2.2.elim
  · have ha':=ha
    obtain ⟨hs,hu2,hb2,_⟩:=ha'
    obtain ⟨hur,rfl⟩:=RepV.int_eq hu2
    obtain ⟨_,rfl⟩:=RepV.int_eq hb2
    obtain ⟨n,rfl⟩:∃ n:Nat,u=n:=⟨u.toNat,by omega⟩
    have hn64:n<18446744073709551616:=by
      have:=hur.2
      simp only [kmax] at this
      omega
    obtain ⟨g,ob,_,_,h2,h3⟩:=glob_pow10 hg
    have htab:=h3 w h2
    have hd20:=digits20 (u:=n) (by omega) hn64
    refine Calls.mono (R':=fun e w'=>Ends I w [b] (refsOf (mkA au_A (xs,(n:Int),10,())) [b]) (fun r o=>wfR r→Ok r o) e w') (Go.Proofs.au_big (fun v w'=>Behind I w [b] (refsOf (mkA au_A (xs,(n:Int),10,())) [b]) (fun r o=>wfR r→Ok r o) v w') n (by omega) hn64 sv w htab ?_) (fun e w' ⟨v,h1,h2⟩=>.inl ⟨v,h1,h2⟩)
    intro W2 ho ht hp hz hold hcell
    have hinv:=init_inv hI hg ha 3
    have hgr:=hinv.grow hz hold ho ht hp
    have hslot:=hgr.slot 0
    have hown:OwnV (names0 (mkA au_A (xs,(n:Int),10,())) [sv,.int .u64 n,.int .i64 10] [b] 0) I W2 0 5 yU xs sv:=hslot
    obtain ⟨news,hsrc⟩:=src_slice (P:=Go.Proofs.Tryz.prog) (I:=I) (w:=W2) (t':=22) (el:=5) (e:=.int .u8) (ys:=decI n) (A:=some ⟨w.heap.size,0,none⟩) (cap:=24) (by kernel_rfl) (fun i hi=>by
      refine ⟨w.heap.size,0,rfl,[.int .u8 (decI n)[i]],⟨decI_byte n _ (List.getElem_mem hi),rfl⟩,fun j v hv=>?_⟩
      cases j with
      | succ j=>simp at hv
      | zero=>
        simp at hv; subst hv
        have hi':i<(Lib.decDigits n).length:=by simpa [decI] using hi
        have:=hcell i hi'
        simpa [decI,Ty.cells] using this)
    rw [decI_len] at hsrc
    obtain ⟨v',w',G',hrun,hI',hown'⟩:=append_own (ty:=22) tb_ok (t:=22) (t':=22) (ti:=⟨.sl yU,5,[],24⟩) rfl rfl rfl rfl hgr (by decide) hown hsrc (by rw [decI_len]; omega)
    refine ⟨v',w',hrun,.one (.fr 5 yU (xs++decI n)),[],fun _=>False,?_⟩
    obtain ⟨bo,hG,hv⟩:=hown'
    refine ⟨[bo],hK,hI'.since,fun b h=>h.elim,fun i b' hi=>?_,⟨bo,rfl,?_⟩,trivial⟩
    · cases i with
      | succ i=>simp at hi
      | zero=>
        simp at hi; subst hi
        refine ⟨?_,(hI'.own _ _ b' hG rfl).2.1,fun h=>h,fun j hj=>?_⟩
        · rcases hI'.tok_new hG with h | h
          · exact .inl h
          · exact .inr ⟨h.1,by show b'∉([]:List Nat); simp⟩
        · cases j with
          | zero=>rfl
          | succ j=>simp at hj
    · rcases hv with ⟨rfl,rfl,hx⟩ | ⟨b',rfl,hr⟩
      · exact ⟨rfl,hx⟩
      · exact RVRel.keep (x:=.fr 5 yU (xs++decI n)) (b:=some b') (fun _ h=>.inl h) hr
end Go.VE

namespace Go.VE
open Go Go.Proofs
def q2_P (xs:LI) (_ base:Int):Prop:=xs.length+20≤lim∧base=10
def q2_F (xs:LI) (u _:Int):LI:=xs++decI u.toNat
def q2_C (v:valsA au_A) (K:Res→List Cell→Prop):Prop:=q2_P v.1 v.2.1 v.2.2.1∧∀ r:LI,r=q2_F v.1 v.2.1 v.2.2.1→K (.one (.fr 5 yU r)) []
def q2_S:App:=specW au_A q2_C
theorem small_dec:∀ n:Fin 100,q9_F (n.val:Int)=decI n.val:=by decide +kernel
set_option maxRecDepth 20000 in
theorem small_P {n:Nat} (h:n<100):q9_P (n:Int):=by
  unfold q9_P
  rw [wrap_i64 (n:=(n:Int)+1) (by omega) (by omega),wrap_i64 (n:=(n:Int) * 2) (by omega) (by omega),wrap_i64 (n:=(n:Int) * 2+2) (by omega) (by omega)]
  by_cases h10:(n:Int)<10
  · have e:decide ((n:Int)<10)=true:=by simpa using h10
    rw [e]
    simp only [cond_true,List.length_cons,List.length_nil]
    omega
  · have e:decide ((n:Int)<10)=false:=by simpa using h10
    rw [e]
    simp only [cond_false,List.length_cons,List.length_nil]
    omega
theorem q2_ok:AppOk Tryz.prog 195 q2_S:=by
  intro ags K hs
  obtain ⟨v,rfl,hP,hK⟩:=rdA_of _ ags _ hs
  obtain ⟨xs,u,b,⟨⟩⟩:=v
  obtain ⟨hl,hb⟩:=hP
  change xs.length+20≤lim at hl
  change b=10 at hb
  subst hb
  refine Meets.when (p:=wfA au_A (xs,u,10,())) (fun I w vs bs ha=>ArgsRel.wf au_A _ ha) fun hw=>?_
  have h0:0≤u:=hw.2.1.1
  by_cases h100:u<100
  · obtain ⟨n,rfl⟩:∃ n:Nat,u=(n:Int):=⟨Int.toNat u,(Int.toNat_of_nonneg h0).symm⟩
    have hn:n<100:=by
      have h100':(n:Int)<100:=h100
      omega
    have sd:q9_F (n:Int)=decI n:=small_dec ⟨n,hn⟩
    refine q0_ok (mkA q0_A (xs,(n:Int),(10:Int),())) K (rdA_mk q0_A (xs,(n:Int),(10:Int),()) (fun v=>q0_C v fun r o=>wfR r→K r o) ⟨?_,fun r hr=>?_⟩)
    · show q0_P xs (n:Int) 10
      unfold q0_P
      have e:decide ((n:Int)<100)=true:=by simpa using h100
      rw [e,wrap_i64 (by omega) (by omega)]
      show q9_P (n:Int)∧_
      refine ⟨small_P hn,?_⟩
      show xs.length+(q9_F (n:Int)).length≤lim
      rw [sd,decI_len]
      have:Lib.nDigits n≤2:=by
        have:∀ n:Fin 100,Lib.nDigits n.val≤2:=by decide +kernel
        exact this ⟨n,hn⟩
      omega
    · refine hK r ?_
      rw [hr]
      show q0_F xs (n:Int) 10=xs++decI (Int.toNat (n:Int))
      unfold q0_F
      have e:decide ((n:Int)<100)=true:=by simpa using h100
      rw [e,wrap_i64 (by omega) (by omega),Int.toNat_natCast]
      show xs++q9_F (n:Int)=_
      rw [sd]
  · refine Meets.mono (Ok:=fun r o=>wfR r→K r o) (.inl ⟨enters_of Tryz.func195 (by kernel_rfl),au_spec xs u (Int.not_lt.1 h100) hl (fun hwf=>hK _ rfl hwf)⟩) (fun r o I w v fb hr hk=>hk (ResRel.wf hr)) fun n hk=>hk trivial

end Go.VE
namespace Go.VE
set_option maxRecDepth 20000
open Go Go.Proofs
def q5_G:List (Nat×App):=[(195,q2_S)]
theorem q5_Gok:GOk Tryz.prog (getG q5_G):=GOk.cons q2_ok (GOk.nil)
def q5_raw (dst0:LI) (i1:Int) (base2:Int) (K:Res→List Cell→Prop):Prop:=
 bif (decide (i1<(0:Int))) then
 bif decide (List.length dst0+List.length ([(45:Int)]:LI)≤lim) then
 q2_P (dst0++([(45:Int)]:LI)) (IntKind.wrap .u64 (0 - (IntKind.wrap .u64 i1))) base2∧(
 ∀ (r1:LI),r1=q2_F (dst0++([(45:Int)]:LI)) (IntKind.wrap .u64 (0 - (IntKind.wrap .u64 i1))) base2→(
 wfR (.one (.fr 5 yU r1))→(
 K (.one (.fr 5 yU r1)) [])))
 else False
 else
 q2_P dst0 (IntKind.wrap .u64 i1) base2∧(
 ∀ (r2:LI),r2=q2_F dst0 (IntKind.wrap .u64 i1) base2→(
 wfR (.one (.fr 5 yU r2))→(
 K (.one (.fr 5 yU r2)) [])))
def q5_A:List AS:=[.o 5 yU,.v yI,.v yI]

def q5_P (dst0:LI) (i1:Int) (base2:Int):Prop:=
 bif (decide (i1<(0:Int))) then
 (List.length dst0+List.length ([(45:Int)]:LI)≤lim)∧(
 q2_P (dst0++([(45:Int)]:LI)) (IntKind.wrap .u64 (0 - (IntKind.wrap .u64 i1))) base2)
 else
 q2_P dst0 (IntKind.wrap .u64 i1) base2
def q5_F (dst0:LI) (i1:Int) (base2:Int):LI:=
 bif (decide (i1<(0:Int))) then
 let r1:LI:=q2_F (dst0++([(45:Int)]:LI)) (IntKind.wrap .u64 (0 - (IntKind.wrap .u64 i1))) base2
 r1
 else
 let r2:LI:=q2_F dst0 (IntKind.wrap .u64 i1) base2
 r2
theorem q5_sp (dst0:LI) (i1:Int) (base2:Int) (K:Res→List Cell→Prop) (_:wfA q5_A (dst0,i1,base2,())) (hp:q5_P dst0 i1 base2) (h:∀ r:LI,r=q5_F dst0 i1 base2→K (.one (.fr 5 yU r)) []):q5_raw dst0 i1 base2 K:=
 br1 hp h (fun _ hp h=>as1 hp fun hp=>⟨hp,al (h _ rfl)⟩)
 fun _ hp h=>⟨hp,al (h _ rfl)⟩
def q5_C (v:valsA q5_A) (K:Res→List Cell→Prop):Prop:=q5_P v.1 v.2.1 v.2.2.1∧∀ r:LI,r=q5_F v.1 v.2.1 v.2.2.1→K (.one (.fr 5 yU r)) []
def q5_S:App:=specW q5_A q5_C
theorem q5_wv (K:Res→List Cell→Prop):∀ v:valsA q5_A,runF tb (getG q5_G) [] Tryz.f140 [true] (mkA q5_A v) K=q5_raw v.1 v.2.1 v.2.2.1 K
  | (dst0,i1,base2,())=>by kernel_rfl
theorem q5_ok:AppOk Tryz.prog 140 q5_S:=
  AppOk.specW (spec_ok ((runF_ok tb_M tb_ok q5_Gok (LabsOk.nil) (f:=140) (fn:=Tryz.f140) (by kernel_rfl) (by kernel_rfl) (by kernel_rfl) [true])) fun v K hw h=>(q5_wv K v).mpr (q5_sp v.1 v.2.1 v.2.2.1 K hw h.1 h.2))

def q32_G:List (Nat×App):=[(140,q5_S)]
theorem q32_Gok:GOk Tryz.prog (getG q32_G):=GOk.cons q5_ok (GOk.nil)
def q32_raw (dst0:LI) (i1:Int) (base2:Int) (K:Res→List Cell→Prop):Prop:=
 q5_P dst0 i1 base2∧(
 ∀ (r1:LI),r1=q5_F dst0 i1 base2→(
 wfR (.one (.fr 5 yU r1))→(
 K (.one (.fr 5 yU r1)) [])))
def q32_A:List AS:=[.o 5 yU,.v yI,.v yI]

def q32_P (dst0:LI) (i1:Int) (base2:Int):Prop:=
 q5_P dst0 i1 base2
def q32_F (dst0:LI) (i1:Int) (base2:Int):LI:=
 let r1:LI:=q5_F dst0 i1 base2
 r1
theorem q32_sp (dst0:LI) (i1:Int) (base2:Int) (K:Res→List Cell→Prop) (_:wfA q32_A (dst0,i1,base2,())) (hp:q32_P dst0 i1 base2) (h:∀ r:LI,r=q32_F dst0 i1 base2→K (.one (.fr 5 yU r)) []):q32_raw dst0 i1 base2 K:=
 ⟨hp,al (h _ rfl)⟩
def q32_C (v:valsA q32_A) (K:Res→List Cell→Prop):Prop:=q32_P v.1 v.2.1 v.2.2.1∧∀ r:LI,r=q32_F v.1 v.2.1 v.2.2.1→K (.one (.fr 5 yU r)) []
def q32_S:App:=specW q32_A q32_C
theorem q32_wv (K:Res→List Cell→Prop):∀ v:valsA q32_A,runF tb (getG q32_G) [] Tryz.f91 [true] (mkA q32_A v) K=q32_raw v.1 v.2.1 v.2.2.1 K
  | (dst0,i1,base2,())=>by kernel_rfl
theorem q32_ok:AppOk Tryz.prog 91 q32_S:=
  AppOk.specW (spec_ok ((runF_ok tb_M tb_ok q32_Gok (LabsOk.nil) (f:=91) (fn:=Tryz.f91) (by kernel_rfl) (by kernel_rfl) (by kernel_rfl) [true])) fun v K hw h=>(q32_wv K v).mpr (q32_sp v.1 v.2.1 v.2.2.1 K hw h.1 h.2))

def q58_G:List (Nat×App):=[(90,q57_S),(91,q32_S)]
theorem q58_Gok:GOk Tryz.prog (getG q58_G):=GOk.cons q57_ok (GOk.cons q32_ok (GOk.nil))
theorem q58_st:storesC (bodyOf Tryz.f48)=true:=by kernel_rfl
def q58_d0:List LS:=[.b 1 8 [],.o 3 29 5 yU,.c 8 tyA]
def q58_d0r:List LS:=[.o 2 21 5 yU]
def q58_dx0:DX:=⟨none,some q58_d0r,[]⟩
def q58_y0r (k:Ex→St→Prop) (x2:LI):Prop:=wfD q58_d0r (x2,())→k .ret (mkD 69 q58_d0r (x2,()))
def q58_J0 (kr:LI→Prop) (out3:LI) (a1b:tAd):Prop:=
 bif (decide (a1b.2.2.2.2.1=(0:Int))) then
 bif (!decide (a1b.1=(0:Int))) then
 kr out3
 else
 bif (decide (a1b.2.2.2.2.1<(0:Int))) then
 q32_P out3 a1b.2.2.2.2.1 (10:Int)∧(
 ∀ (r3:LI),r3=q32_F out3 a1b.2.2.2.2.1 (10:Int)→(
 wfR (.one (.fr 5 yU r3))→(
 kr r3)))
 else
 bif decide (List.length out3+List.length ([(43:Int)]:LI)≤lim) then
 q32_P (out3++([(43:Int)]:LI)) a1b.2.2.2.2.1 (10:Int)∧(
 ∀ (r4:LI),r4=q32_F (out3++([(43:Int)]:LI)) a1b.2.2.2.2.1 (10:Int)→(
 wfR (.one (.fr 5 yU r4))→(
 kr r4)))
 else False
 else
 bif (decide (a1b.2.2.2.2.1<(0:Int))) then
 q32_P out3 a1b.2.2.2.2.1 (10:Int)∧(
 ∀ (r5:LI),r5=q32_F out3 a1b.2.2.2.2.1 (10:Int)→(
 wfR (.one (.fr 5 yU r5))→(
 kr r5)))
 else
 bif decide (List.length out3+List.length ([(43:Int)]:LI)≤lim) then
 q32_P (out3++([(43:Int)]:LI)) a1b.2.2.2.2.1 (10:Int)∧(
 ∀ (r6:LI),r6=q32_F (out3++([(43:Int)]:LI)) a1b.2.2.2.2.1 (10:Int)→(
 wfR (.one (.fr 5 yU r6))→(
 kr r6)))
 else False
def q58_g0 (k:Ex→St→Prop) (v:vals q58_d0):Prop:=q58_J0 (q58_y0r k) v.1 v.2.1
theorem q58_v0 (k:Ex→St→Prop):∀ v:vals q58_d0,ex tb (getG q58_G) [] (at' (bodyOf Tryz.f48) [1,1,1,1]) [1,1,1,1] (mkD 69 q58_d0 v) (wk 69 q58_dx0 k)=q58_g0 k v
  | (out3,a1b,())=>by kernel_rfl
def q58_X0:Pce:=fun st k=>ckD 69 q58_d0 st fun v=>wfD q58_d0 v→q58_g0 k v
theorem q58_x0:SemOk Tryz.prog (at' (bodyOf Tryz.f48) [1,1,1,1]) q58_X0:=
  (SemOk.wk (N:=69) (ds:=q58_d0) (dx:=q58_dx0) (ex_sound tb_M tb_ok q58_Gok (LabsOk.nil) (at' (bodyOf Tryz.f48) [1,1,1,1]) [1,1,1,1] rfl (storesC_at q58_st [1,1,1,1]))).mono fun st k h=>ckD_mono h fun v hv hw=>Eq.mpr (q58_v0 k v) (hv hw)
def q58_B0:Labs:=([1,1,1,1],q58_X0)::[]
theorem q58_b0:LabsOk Tryz.prog (bodyOf Tryz.f48) q58_B0:=LabsOk.cons q58_x0 (LabsOk.nil)
def q58_d1:List LS:=[.b 1 8 [],.o 3 29 5 yU,.v 8 yU,.v 24 .bool,.c 8 tyA]
def q58_d1n:List LS:=[.b 1 8 [],.o 3 29 5 yU,.c 8 tyA]
def q58_dx1:DX:=⟨some q58_d1n,none,[]⟩
def q58_y1n (k:Ex→St→Prop) (out3:LI) (a1b:tAd):Prop:=wfD q58_d1n (out3,a1b,())→k .nrm (mkD 69 q58_d1n (out3,a1b,()))
def q58_J1 (kn:LI→tAd→Prop) (out3:LI) (x8:Int) (x24:Bool) (a1b:tAd):Prop:=
 bif x24 then
 (
 (
 bif decide (List.length out3+List.length ([a1b.1]:LI)≤lim) then
 (
 bif decide (List.length (out3++([a1b.1]:LI))+List.length a1b.2.2.2.1≤lim) then
 bif decide (List.length ((out3++([a1b.1]:LI))++a1b.2.2.2.1)+List.length ([a1b.1]:LI)≤lim) then
 kn (((out3++([a1b.1]:LI))++a1b.2.2.2.1)++([a1b.1]:LI)) a1b
 else False
 else False)∧(
 bif decide (List.length (out3++([a1b.1]:LI))+List.length a1b.2.2.2.1≤lim) then
 bif decide (List.length ((out3++([a1b.1]:LI))++a1b.2.2.2.1)+List.length ([a1b.1]:LI)≤lim) then
 kn (((out3++([a1b.1]:LI))++a1b.2.2.2.1)++([a1b.1]:LI)) a1b
 else False
 else False)∧True
 else False)∧(
 bif decide (List.length out3+List.length ([a1b.1]:LI)≤lim) then
 bif decide (List.length (out3++([a1b.1]:LI))+List.length a1b.2.2.2.1≤lim) then
 bif decide (List.length ((out3++([a1b.1]:LI))++a1b.2.2.2.1)+List.length ([a1b.1]:LI)≤lim) then
 kn (((out3++([a1b.1]:LI))++a1b.2.2.2.1)++([a1b.1]:LI)) a1b
 else False
 else False
 else False)∧True)∧(
 bif decide (List.length out3+List.length ([a1b.1]:LI)≤lim) then
 bif decide (List.length (out3++([a1b.1]:LI))+List.length a1b.2.2.2.1≤lim) then
 bif decide (List.length ((out3++([a1b.1]:LI))++a1b.2.2.2.1)+List.length ([a1b.1]:LI)≤lim) then
 kn (((out3++([a1b.1]:LI))++a1b.2.2.2.1)++([a1b.1]:LI)) a1b
 else False
 else False
 else False)∧True
 else
 bif (decide (x8=(46:Int))) then
 bif (decide (x8=(46:Int))) then
 bif decide (List.length out3+List.length ([a1b.1]:LI)≤lim) then
 kn (out3++([a1b.1]:LI)) a1b
 else False
 else
 kn out3 a1b
 else
 bif (decide (x8=(36:Int))) then
 bif decide (List.length out3+List.length ([a1b.1]:LI)≤lim) then
 kn (out3++([a1b.1]:LI)) a1b
 else False
 else
 kn out3 a1b
def q58_g1 (k:Ex→St→Prop) (v:vals q58_d1):Prop:=q58_J1 (q58_y1n k) v.1 v.2.1 v.2.2.1 v.2.2.2.1
theorem q58_v1 (k:Ex→St→Prop):∀ v:vals q58_d1,ex tb (getG q58_G) q58_B0 (at' (bodyOf Tryz.f48) [1,1,1,1,1,0,1,0,1,1,1]) [1,1,1,1,1,0,1,0,1,1,1] (mkD 69 q58_d1 v) (wk 69 q58_dx1 k)=q58_g1 k v
  | (out3,x8,x24,a1b,())=>by kernel_rfl
def q58_X1:Pce:=fun st k=>ckD 69 q58_d1 st fun v=>wfD q58_d1 v→q58_g1 k v
theorem q58_x1:SemOk Tryz.prog (at' (bodyOf Tryz.f48) [1,1,1,1,1,0,1,0,1,1,1]) q58_X1:=
  (SemOk.wk (N:=69) (ds:=q58_d1) (dx:=q58_dx1) (ex_sound tb_M tb_ok q58_Gok (q58_b0) (at' (bodyOf Tryz.f48) [1,1,1,1,1,0,1,0,1,1,1]) [1,1,1,1,1,0,1,0,1,1,1] rfl (storesC_at q58_st [1,1,1,1,1,0,1,0,1,1,1]))).mono fun st k h=>ckD_mono h fun v hv hw=>Eq.mpr (q58_v1 k v) (hv hw)
def q58_B1:Labs:=([1,1,1,1,1,0,1,0,1,1,1],q58_X1)::q58_B0
theorem q58_b1:LabsOk Tryz.prog (bodyOf Tryz.f48) q58_B1:=LabsOk.cons q58_x1 (q58_b0)
def q58_raw (a0:tAd) (K:Res→List Cell→Prop):Prop:=
 q57_P a0∧(
 ∀ (r1:Bool),r1=q57_F a0→(
 wB r1→(
 bif (!r1) then
 K (.one (.fr 5 yU ([]:LI))) []
 else
 bif (decide (a0.1=(110:Int))) then
 q32_P ([]:LI) a0.2.1 (10:Int)∧(
 ∀ (r2:LI),r2=q32_F ([]:LI) a0.2.1 (10:Int)→(
 wfR (.one (.fr 5 yU r2))→(
 (wfD q58_d0 (r2,a0,())→q58_J0 (fun (x2:LI)=>wfD q58_d0r (x2,())→(
 K (.one (.fr 5 yU x2)) [])) r2 a0))))
 else
 bif (decide (a0.1=(39:Int))) then
 bif decide (List.length ([]:LI)+List.length ([a0.1,a0.2.2.1]:LI)≤lim) then
 (wfD q58_d0 ((([]:LI)++([a0.1,a0.2.2.1]:LI)),a0,())→q58_J0 (fun (x2:LI)=>wfD q58_d0r (x2,())→(
 K (.one (.fr 5 yU x2)) [])) (([]:LI)++([a0.1,a0.2.2.1]:LI)) a0)
 else False
 else
 bif (decide (a0.1=(47:Int))) then
 (wfD q58_d1 (([]:LI),a0.1,(decide (a0.1=(47:Int))),a0,())→q58_J1 (fun (out3:LI) (a1b:tAd)=>wfD q58_d1n (out3,a1b,())→(
 (wfD q58_d0 (out3,a1b,())→q58_J0 (fun (x2:LI)=>wfD q58_d0r (x2,())→(
 K (.one (.fr 5 yU x2)) [])) out3 a1b))) ([]:LI) a0.1 (decide (a0.1=(47:Int))) a0)
 else
 (wfD q58_d1 (([]:LI),a0.1,(decide (a0.1=(63:Int))),a0,())→q58_J1 (fun (out3:LI) (a1b:tAd)=>wfD q58_d1n (out3,a1b,())→(
 (wfD q58_d0 (out3,a1b,())→q58_J0 (fun (x2:LI)=>wfD q58_d0r (x2,())→(
 K (.one (.fr 5 yU x2)) [])) out3 a1b))) ([]:LI) a0.1 (decide (a0.1=(63:Int))) a0))))
def q58_A:List AS:=[.v tyA]

def q58_J0_P (out3:LI) (a1b:tAd):Prop:=
 bif (decide (a1b.2.2.2.2.1=(0:Int))) then
 bif (!decide (a1b.1=(0:Int))) then
 True
 else
 bif (decide (a1b.2.2.2.2.1<(0:Int))) then
 q32_P out3 a1b.2.2.2.2.1 (10:Int)
 else
 (List.length out3+List.length ([(43:Int)]:LI)≤lim)∧(
 q32_P (out3++([(43:Int)]:LI)) a1b.2.2.2.2.1 (10:Int))
 else
 bif (decide (a1b.2.2.2.2.1<(0:Int))) then
 q32_P out3 a1b.2.2.2.2.1 (10:Int)
 else
 (List.length out3+List.length ([(43:Int)]:LI)≤lim)∧(
 q32_P (out3++([(43:Int)]:LI)) a1b.2.2.2.2.1 (10:Int))
def q58_J0_F (out3:LI) (a1b:tAd):LI:=
 bif (decide (a1b.2.2.2.2.1=(0:Int))) then
 bif (!decide (a1b.1=(0:Int))) then
 (out3)
 else
 bif (decide (a1b.2.2.2.2.1<(0:Int))) then
 let r3:LI:=q32_F out3 a1b.2.2.2.2.1 (10:Int)
 (r3)
 else
 let r4:LI:=q32_F (out3++([(43:Int)]:LI)) a1b.2.2.2.2.1 (10:Int)
 (r4)
 else
 bif (decide (a1b.2.2.2.2.1<(0:Int))) then
 let r5:LI:=q32_F out3 a1b.2.2.2.2.1 (10:Int)
 (r5)
 else
 let r6:LI:=q32_F (out3++([(43:Int)]:LI)) a1b.2.2.2.2.1 (10:Int)
 (r6)
theorem q58_J0_sp (kr:LI→Prop) (out3:LI) (a1b:tAd) (hp:q58_J0_P out3 a1b) (hr:∀ q:LI,q=q58_J0_F out3 a1b→kr q):q58_J0 kr out3 a1b:=
 have h:=hr; br1 hp h (fun _ hp h=>br1 hp h (fun _ hp h=>h _ rfl)
 fun _ hp h=>br1 hp h (fun _ hp h=>⟨hp,al (h _ rfl)⟩)
 fun _ hp h=>as1 hp fun hp=>⟨hp,al (h _ rfl)⟩)
 fun _ hp h=>br1 hp h (fun _ hp h=>⟨hp,al (h _ rfl)⟩)
 fun _ hp h=>as1 hp fun hp=>⟨hp,al (h _ rfl)⟩
def q58_J1_P (out3:LI) (x8:Int) (x24:Bool) (a1b:tAd):Prop:=
 bif x24 then
 (List.length out3+List.length ([a1b.1]:LI)≤lim)∧(
 (List.length (out3++([a1b.1]:LI))+List.length a1b.2.2.2.1≤lim)∧(
 (List.length ((out3++([a1b.1]:LI))++a1b.2.2.2.1)+List.length ([a1b.1]:LI)≤lim)))
 else
 bif (decide (x8=(46:Int))) then
 (List.length out3+List.length ([a1b.1]:LI)≤lim)
 else
 bif (decide (x8=(36:Int))) then
 (List.length out3+List.length ([a1b.1]:LI)≤lim)
 else
 True
def q58_J1_F (out3:LI) (x8:Int) (x24:Bool) (a1b:tAd):LI×tAd:=
 bif x24 then
 ((((out3++([a1b.1]:LI))++a1b.2.2.2.1)++([a1b.1]:LI)),a1b)
 else
 bif (decide (x8=(46:Int))) then
 ((out3++([a1b.1]:LI)),a1b)
 else
 bif (decide (x8=(36:Int))) then
 ((out3++([a1b.1]:LI)),a1b)
 else
 (out3,a1b)
theorem q58_J1_sp (kn:LI→tAd→Prop) (out3:LI) (x8:Int) (x24:Bool) (a1b:tAd) (hp:q58_J1_P out3 x8 x24 a1b) (hn:∀ q:LI×tAd,q=q58_J1_F out3 x8 x24 a1b→kn q.1 q.2):q58_J1 kn out3 x8 x24 a1b:=
 have h:=hn; br1 hp h (fun _ hp h=>⟨⟨as1 hp fun hp=>⟨as1 hp fun hp=>as0 hp (h _ rfl),
 as1 hp fun hp=>as0 hp (h _ rfl),trivial⟩,
 as1 hp fun hp=>as1 hp fun hp=>as0 hp (h _ rfl),trivial⟩,
 as1 hp fun hp=>as1 hp fun hp=>as0 hp (h _ rfl),trivial⟩)
 fun _ hp h=>br1 hp h (fun c6 hp h=>bkn (fun c7=>as0 hp (h _ rfl)) fun c7=>absurd c6 (by simp only [decide_eq_true_eq,decide_eq_false_iff_not,Bool.not_eq_eq_eq_not,Bool.not_true,Bool.not_false,Bool.not_eq_true,Bool.not_eq_false] at c7 ⊢; first | exact c7 | omega))
 fun c6 hp h=>br1 hp h (fun _ hp h=>as0 hp (h _ rfl))
 fun _ hp h=>h _ rfl
def q58_P (a0:tAd):Prop:=
 q57_P a0∧(
 let r1:Bool:=q57_F a0
 bif (!r1) then
 True
 else
 bif (decide (a0.1=(110:Int))) then
 q32_P ([]:LI) a0.2.1 (10:Int)∧(
 let r2:LI:=q32_F ([]:LI) a0.2.1 (10:Int)
 q58_J0_P r2 a0)
 else
 bif (decide (a0.1=(39:Int))) then
 (List.length ([]:LI)+List.length ([a0.1,a0.2.2.1]:LI)≤lim)∧(
 q58_J0_P (([]:LI)++([a0.1,a0.2.2.1]:LI)) a0)
 else
 bif (decide (a0.1=(47:Int))) then
 q58_J1_P ([]:LI) a0.1 (decide (a0.1=(47:Int))) a0∧(
 let q1n:LI×tAd:=q58_J1_F ([]:LI) a0.1 (decide (a0.1=(47:Int))) a0
 let out3:LI:=q1n.1
 let a1b:tAd:=q1n.2
 q58_J0_P out3 a1b)
 else
 q58_J1_P ([]:LI) a0.1 (decide (a0.1=(63:Int))) a0∧(
 let q1n:LI×tAd:=q58_J1_F ([]:LI) a0.1 (decide (a0.1=(63:Int))) a0
 let out3:LI:=q1n.1
 let a1b:tAd:=q1n.2
 q58_J0_P out3 a1b))
def q58_F (a0:tAd):LI:=
 let r1:Bool:=q57_F a0
 bif (!r1) then
 ([]:LI)
 else
 bif (decide (a0.1=(110:Int))) then
 let r2:LI:=q32_F ([]:LI) a0.2.1 (10:Int)
 let q0r:LI:=q58_J0_F r2 a0
 let x2:LI:=q0r
 x2
 else
 bif (decide (a0.1=(39:Int))) then
 let q0r:LI:=q58_J0_F (([]:LI)++([a0.1,a0.2.2.1]:LI)) a0
 let x2:LI:=q0r
 x2
 else
 bif (decide (a0.1=(47:Int))) then
 let q1n:LI×tAd:=q58_J1_F ([]:LI) a0.1 (decide (a0.1=(47:Int))) a0
 let out3:LI:=q1n.1
 let a1b:tAd:=q1n.2
 let q0r:LI:=q58_J0_F out3 a1b
 let x2:LI:=q0r
 x2
 else
 let q1n:LI×tAd:=q58_J1_F ([]:LI) a0.1 (decide (a0.1=(63:Int))) a0
 let out3:LI:=q1n.1
 let a1b:tAd:=q1n.2
 let q0r:LI:=q58_J0_F out3 a1b
 let x2:LI:=q0r
 x2
theorem q58_sp (a0:tAd) (K:Res→List Cell→Prop) (_:wfA q58_A (a0,())) (hp:q58_P a0) (h:∀ r:LI,r=q58_F a0→K (.one (.fr 5 yU r)) []):q58_raw a0 K:=
 an1 hp fun hp=>al (br1 hp h (fun _ hp h=>h _ rfl)
 fun _ hp h=>br1 hp h (fun _ hp h=>an1 hp fun hp=>al (fun _=>q58_J0_sp _ _ _ hp (al (h _ rfl))))
 fun _ hp h=>br1 hp h (fun _ hp h=>as1 hp fun hp=>fun _=>q58_J0_sp _ _ _ hp (al (h _ rfl)))
 fun _ hp h=>br1 hp h (fun _ hp h=>fun _=>q58_J1_sp _ _ _ _ _ hp.1 (have hp:=hp.2; al (fun _=>q58_J0_sp _ _ _ hp (al (h _ rfl)))))
 fun _ hp h=>fun _=>q58_J1_sp _ _ _ _ _ hp.1 (have hp:=hp.2; al (fun _=>q58_J0_sp _ _ _ hp (al (h _ rfl)))))
def q58_C (v:valsA q58_A) (K:Res→List Cell→Prop):Prop:=q58_P v.1∧∀ r:LI,r=q58_F v.1→K (.one (.fr 5 yU r)) []
def q58_S:App:=specW q58_A q58_C
theorem q58_wv (K:Res→List Cell→Prop):∀ v:valsA q58_A,runF tb (getG q58_G) q58_B1 Tryz.f48 [true] (mkA q58_A v) K=q58_raw v.1 K
  | (a0,())=>by kernel_rfl
theorem q58_ok:AppOk Tryz.prog 48 q58_S:=
  AppOk.specW (spec_ok ((runF_ok tb_M tb_ok q58_Gok (q58_b1) (f:=48) (fn:=Tryz.f48) (by kernel_rfl) (by kernel_rfl) q58_st [true])) fun v K hw h=>(q58_wv K v).mpr (q58_sp v.1 K hw h.1 h.2))

end Go.VE
namespace Go.VE
open Go
theorem decI_dec:∀ (k n:Nat),n<10 ^ k→0<k→n<10000000000→decI n=dec n
  | 0,n,h,h0,_=>absurd h0 (Nat.lt_irrefl 0)
  | k+1,n,h,_,hn=>by
    unfold decI
    by_cases h1:n<10
    · rw [Lib.decDigits_one h1,dec_small h1]
      have:∀ i:Fin 10,((UInt8.ofNat (48+i.val)).toNat:Int)=48+(i.val:Int):=by decide
      simpa using this ⟨n,h1⟩
    · rw [Lib.decDigits,dif_neg h1,List.map_append,dec_great (by omega) hn]
      have hk:0<k:=by
        cases k with
        | zero=>simp at h; omega
        | succ k=>omega
      have:=decI_dec k (n / 10) (by rw [Nat.pow_succ] at h; omega) hk (by omega)
      unfold decI at this
      rw [this]
      have h2:∀ i:Fin 10,((UInt8.ofNat (48+i.val)).toNat:Int)=48+(i.val:Int):=by decide
      have:=h2 ⟨n % 10,by omega⟩
      simp only [List.map_cons,List.map_nil]
      rw [this]
def nI (n:Int):LI:=if n<0 then 45::dec (-n).toNat else dec n.toNat
theorem dec_len (n:Nat):(dec n).length≤10:=decL_len 10 n
theorem nI_len (n:Int):(nI n).length≤11:=by
  unfold nI
  have:=dec_len (-n).toNat
  have:=dec_len n.toNat
  split
  · simp only [List.length_cons]; omega
  · omega
theorem wrap_neg {n:Int} (h1:-10000000000<n) (h2:n<0):IntKind.wrap .u64 (0 - IntKind.wrap .u64 n) = -n:=by
  have e:IntKind.wrap .u64 n=n+18446744073709551616:=by
    show n % (2 ^ 64:Int)=_
    omega
  rw [e]
  show (0 - (n+18446744073709551616)) % (2 ^ 64:Int)=_
  omega
theorem append_eq (xs:LI) (n:Int) (h1:-10000000000<n) (h2:n<10000000000) (hx:xs.length+21≤lim):q32_P xs n 10∧q32_F xs n 10=xs++nI n:=by
  unfold q32_P q32_F q5_P q5_F nI
  by_cases h:n<0
  · rw [decide_eq_true h,if_pos h,wrap_neg h1 h]
    refine ⟨⟨by simp only [List.length_cons,List.length_nil]; omega,by simp only [List.length_append,List.length_cons,List.length_nil]; omega,rfl⟩,?_⟩
    show (xs++[45])++decI (-n).toNat=_
    rw [decI_dec 10 _ (by omega) (by omega) (by omega),List.append_assoc]; rfl
  · rw [decide_eq_false h,if_neg h,wrap_u64 (n:=n) (by omega) (by omega)]
    refine ⟨⟨by omega,rfl⟩,?_⟩
    show xs++decI n.toNat=_
    rw [decI_dec 10 _ (by omega) (by omega) (by omega)]
def sndM (a:Adr):Bool:=a.2.2.2.2.2 && decide (-999999999≤a.2.2.2.2.1) && decide (a.2.2.2.2.1≤999999999) &&
  (if a.1=0∨a.1=46∨a.1=36∨a.1=39 then true else if a.1=110 then decide (0≤a.2.1) && decide (a.2.1≤999999999) else if a.1=47∨a.1=63 then decide (clo (a.2.2.2.1++[a.1]) a.1=a.2.2.2.1.length) else false)
def bsS (a:Adr):LI:=if a.1=110 then nI a.2.1 else if a.1=39 then [39,a.2.2.1] else if a.1=47∨a.1=63 then a.1::(a.2.2.2.1++[a.1]) else if a.1=46∨a.1=36 then [a.1] else []
def adT (a:Adr):LI:=if a.2.2.2.2.1=0∧a.1≠0 then [] else if a.2.2.2.2.1<0 then nI a.2.2.2.2.1 else 43::nI a.2.2.2.2.1
def adS (a:Adr):LI:=if sndM a=true then bsS a++adT a else []
theorem sound_s (a:Adr) (ha:a.2.2.2.1.length+1≤lim):q57_P a∧q57_F a=sndM a:=by
  obtain ⟨b,num,nam,tx,ad,g⟩:=a
  have hc:q71_P tx:=by unfold q71_P; dsimp only at ha; omega
  have hq:q44_P (tx++[b]) b:=⟨rfl,by simp only [List.length_append,List.length_cons,List.length_nil]; exact ha⟩
  have hl:tx.length+([b]:LI).length≤lim:=ha
  unfold q57_P q57_F sndM
  dsimp only
  cases g
  · exact ⟨trivial,rfl⟩
  by_cases h1:ad < -999999999
  · rw [decide_eq_true h1,decide_eq_false (show ¬ -999999999≤ad by omega)]
    exact ⟨trivial,rfl⟩
  rw [decide_eq_false h1,decide_eq_true (show -999999999≤ad by omega)]
  by_cases h2:999999999<ad
  · rw [decide_eq_true h2,decide_eq_false (show ¬ ad≤999999999 by omega)]
    exact ⟨trivial,rfl⟩
  rw [decide_eq_false h2,decide_eq_true (show ad≤999999999 by omega)]
  unfold q57_J1_P q57_J1_F q57_J0_P q57_J0_F
  simp only [closing_eq,q71_F]
  have hd:decide ((clo (tx++[b]) b:Int)=(tx.length:Int))=decide (clo (tx++[b]) b=tx.length):=decide_eq_decide.2 (by omega)
  rw [hd]
  by_cases c0:b=0
  · subst c0; exact ⟨trivial,rfl⟩
  by_cases c1:b=46
  · subst c1; exact ⟨trivial,rfl⟩
  by_cases c2:b=36
  · subst c2; exact ⟨trivial,rfl⟩
  by_cases c3:b=39
  · subst c3; exact ⟨trivial,rfl⟩
  rw [decide_eq_false c0,decide_eq_false c1,decide_eq_false c2,decide_eq_false c3,if_neg (show ¬ (b=0∨b=46∨b=36∨b=39) by simp [c0,c1,c2,c3])]
  by_cases c4:b=110
  · rw [decide_eq_true c4,if_pos c4]
    refine ⟨trivial,?_⟩
    by_cases h5:0≤num
    · rw [decide_eq_true h5]
      simp
    · rw [decide_eq_false h5]
      simp
  rw [decide_eq_false c4,if_neg c4]
  by_cases c5:b=47
  · rw [decide_eq_true c5,if_pos (show b=47∨b=63 from .inl c5)]
    refine ⟨⟨hc,hl,hq⟩,?_⟩
    simp
  rw [decide_eq_false c5]
  by_cases c6:b=63
  · rw [decide_eq_true c6,if_pos (show b=47∨b=63 from .inr c6)]
    refine ⟨⟨hc,hl,hq⟩,?_⟩
    simp
  rw [decide_eq_false c6,if_neg (show ¬ (b=47∨b=63) by simp [c5,c6])]
  exact ⟨trivial,rfl⟩
theorem j0S (out:LI) (a:Adr) (h1:-999999999≤a.2.2.2.2.1) (h2:a.2.2.2.2.1≤999999999) (hx:out.length+22≤lim):q58_J0_P out a∧q58_J0_F out a=out++adT a:=by
  obtain ⟨p1,f1⟩:=append_eq out a.2.2.2.2.1 (by omega) (by omega) (by omega)
  obtain ⟨p2,f2⟩:=append_eq (out++[43]) a.2.2.2.2.1 (by omega) (by omega) (by simp only [List.length_append,List.length_cons,List.length_nil]; omega)
  have hl:out.length+([43]:LI).length≤lim:=by simp only [List.length_cons,List.length_nil]; omega
  have f2':q32_F (out++[43]) a.2.2.2.2.1 10=out++43::nI a.2.2.2.2.1:=by rw [f2,List.append_assoc]; rfl
  unfold q58_J0_P q58_J0_F adT
  simp only [f1,f2']
  by_cases h3:a.2.2.2.2.1=0
  · rw [decide_eq_true h3,decide_eq_false (show ¬ a.2.2.2.2.1<0 by omega)]
    by_cases h4:a.1=0
    · rw [decide_eq_true h4,if_neg (by simp [h4]),if_neg (by omega)]
      exact ⟨⟨hl,p2⟩,rfl⟩
    · rw [decide_eq_false h4,if_pos ⟨h3,h4⟩,List.append_nil]
      exact ⟨trivial,rfl⟩
  · rw [decide_eq_false h3,if_neg (fun h=>h3 h.1)]
    by_cases h5:a.2.2.2.2.1<0
    · rw [decide_eq_true h5,if_pos h5]
      exact ⟨p1,rfl⟩
    · rw [decide_eq_false h5,if_neg h5]
      exact ⟨⟨hl,p2⟩,rfl⟩
end Go.VE
namespace Go.VE
theorem snd_rng {a:Adr} (h:sndM a=true):-999999999≤a.2.2.2.2.1∧a.2.2.2.2.1≤999999999:=by
  unfold sndM at h
  simp only [Bool.and_eq_true,decide_eq_true_eq] at h
  exact ⟨h.1.1.2,h.1.2⟩
theorem bsS_len (a:Adr):(bsS a).length≤a.2.2.2.1.length+11:=by
  unfold bsS
  have:=nI_len a.2.1
  repeat' split
  all_goals ((try simp only [List.length_cons,List.length_nil,List.length_append]); omega)
theorem adT_len (a:Adr):(adT a).length≤12:=by
  unfold adT
  have:=nI_len a.2.2.2.2.1
  repeat' split
  all_goals ((try simp only [List.length_cons,List.length_nil]); omega)
theorem adS_len (a:Adr):(adS a).length≤a.2.2.2.1.length+23:=by
  unfold adS
  have:=bsS_len a
  have:=adT_len a
  split
  · rw [List.length_append]; omega
  · simp only [List.length_nil]; omega
theorem addr_s (a:Adr) (ha:a.2.2.2.1.length+100≤lim):q58_P a∧q58_F a=adS a:=by
  obtain ⟨sp,sf⟩:=sound_s a (by omega)
  unfold q58_P q58_F adS
  simp only [sf]
  cases hs:sndM a
  · exact ⟨⟨sp,trivial⟩,rfl⟩
  obtain ⟨h1,h2⟩:=snd_rng hs
  have hbl:=bsS_len a
  have jj:=j0S (bsS a) a h1 h2 (by omega)
  rw [if_pos rfl]
  by_cases c1:a.1=110
  · have hnum:0≤a.2.1∧a.2.1≤999999999:=by
      unfold sndM at hs
      rw [if_neg (by omega),if_pos c1] at hs
      simp only [Bool.and_eq_true,decide_eq_true_eq] at hs
      exact hs.2
    obtain ⟨p,f⟩:=append_eq [] a.2.1 (by omega) (by omega) (by simp only [List.length_nil]; omega)
    have e:bsS a=nI a.2.1:=by unfold bsS; rw [if_pos c1]
    rw [List.nil_append] at f
    rw [e] at jj
    rw [decide_eq_true c1]
    simp only [f,e]
    exact ⟨⟨sp,p,jj.1⟩,jj.2⟩
  rw [decide_eq_false c1]
  by_cases c2:a.1=39
  · have e:bsS a=[a.1,a.2.2.1]:=by unfold bsS; rw [if_neg c1,if_pos c2,c2]
    rw [e] at jj
    rw [decide_eq_true c2,e]
    exact ⟨⟨sp,by simp only [List.length_cons,List.length_nil]; omega,jj.1⟩,jj.2⟩
  rw [decide_eq_false c2]
  -- the others
  have j1:q58_J1_P [] a.1 (decide (a.1=47) || decide (a.1=63)) a∧q58_J1_F [] a.1 (decide (a.1=47) || decide (a.1=63)) a=(bsS a,a):=by
    unfold q58_J1_P q58_J1_F bsS
    rw [if_neg c1,if_neg c2]
    by_cases c3:a.1=47∨a.1=63
    · rw [if_pos c3,show (decide (a.1=47) || decide (a.1=63))=true by rcases c3 with h | h <;> simp [h]]
      refine ⟨⟨by simp only [List.length_cons,List.length_nil]; omega,by simp only [List.length_cons,List.length_nil,List.length_append]; omega,by simp only [List.length_cons,List.length_nil,List.length_append]; omega⟩,?_⟩
      simp
    · have d1:¬ a.1=47:=fun h=>c3 (.inl h)
      have d2:¬ a.1=63:=fun h=>c3 (.inr h)
      rw [if_neg c3,show (decide (a.1=47) || decide (a.1=63))=false by simp [d1,d2]]
      have hl:([]:LI).length+[a.1].length≤lim:=by simp only [List.length_cons,List.length_nil]; omega
      by_cases c4:a.1=46
      · rw [decide_eq_true c4,if_pos (.inl c4)]; exact ⟨hl,rfl⟩
      · rw [decide_eq_false c4]
        by_cases c5:a.1=36
        · rw [decide_eq_true c5,if_pos (.inr c5)]; exact ⟨hl,rfl⟩
        · rw [decide_eq_false c5,if_neg (show ¬ (a.1=46∨a.1=36) by simp [c4,c5])]; exact ⟨trivial,rfl⟩
  by_cases c3:a.1=47
  · rw [decide_eq_true c3,Bool.true_or] at j1
    rw [decide_eq_true c3]
    simp only [j1.2]
    exact ⟨⟨sp,j1.1,jj.1⟩,jj.2⟩
  · rw [decide_eq_false c3,Bool.false_or] at j1
    rw [decide_eq_false c3]
    simp only [j1.2]
    exact ⟨⟨sp,j1.1,jj.1⟩,jj.2⟩
def ndH (r:LI):Prop:=∀ c t,r=c::t→isDg c=false
theorem dgs_app:∀ (l r:LI),(∀ c∈l,isDg c=true)→ndH r→dgs (l++r)=l.length
  | [],r,_,h=>by
    cases r with
    | nil=>rfl
    | cons c t=>rw [List.nil_append,dgs_cons,h c t rfl]; rfl
  | c::l,r,h1,h2=>by
    rw [List.cons_append,dgs_cons,if_pos (h1 c List.mem_cons_self),dgs_app l r (fun x hx=>h1 x (List.mem_cons_of_mem _ hx)) h2,List.length_cons]
theorem dval_app:∀ (l r:LI) (a:Int),dval a (l++r)=dval (dval a l) r
  | [],r,a=>rfl
  | b::l,r,a=>dval_app l r _
theorem dg_of {n:Nat} (h:n<10):isDg (48+(n:Int))=true:=by unfold isDg; exact decide_eq_true (by omega)
theorem decL_dg:∀ (k n:Nat) (c:Int),c∈decL k n→isDg c=true
  | 0,n,c,h=>by cases h
  | k+1,n,c,h=>by
    unfold decL at h
    split at h
    · rename_i h1
      rw [List.mem_singleton] at h; subst h
      exact dg_of h1
    · rw [List.mem_append,List.mem_singleton] at h
      rcases h with h | h
      · exact decL_dg k _ c h
      · subst h; exact dg_of (by omega)
theorem decL_val:∀ (k n:Nat),n<10 ^ k→0<k→dval 0 (decL k n)=n
  | 0,n,_,h=>absurd h (Nat.lt_irrefl 0)
  | k+1,n,h,_=>by
    unfold decL
    split
    · show (0:Int) * 10+(48+(n:Int) - 48)=n
      omega
    · rename_i h1
      have hk:0<k:=by
        cases k with
        | zero=>simp at h; omega
        | succ k=>omega
      rw [dval_app,decL_val k (n / 10) (by rw [Nat.pow_succ] at h; omega) hk]
      show ((n / 10:Nat):Int) * 10+(48+((n % 10:Nat):Int) - 48)=n
      omega
theorem decL_len2:∀ (k j n:Nat),n<10 ^ j→0<j→(decL k n).length≤j
  | 0,j,n,_,_=>Nat.zero_le _
  | k+1,j,n,h,hj=>by
    unfold decL
    split
    · simp only [List.length_cons,List.length_nil]; omega
    · rename_i h1
      have hj2:1<j:=by
        rcases Nat.lt_or_ge 1 j with h | h2
        · exact h
        · have:j=1:=by omega
          subst this; simp at h; omega
      have:=decL_len2 k (j - 1) (n / 10) (by
        have e:j=(j - 1)+1:=by omega
        rw [e,Nat.pow_succ] at h; omega) (by omega)
      rw [List.length_append,List.length_singleton]; omega
theorem decL_ne:∀ (k n:Nat),0<k→decL k n≠[]
  | 0,n,h=>absurd h (Nat.lt_irrefl 0)
  | k+1,n,_=>by
    unfold decL
    split <;> simp
theorem dec_dg {n:Nat} {c:Int} (h:c∈dec n):isDg c=true:=decL_dg 10 n c h
theorem dec_ne (n:Nat):dec n≠[]:=decL_ne 10 n (by omega)
theorem dec_len9 {n:Nat} (h:n≤999999999):(dec n).length≤9:=decL_len2 10 9 n (by omega) (by omega)
theorem dgs_dec (n:Nat) {r:LI} (h:ndH r):dgs (dec n++r)=(dec n).length:=dgs_app _ r (fun _=>dec_dg) h
theorem dv_dec {n:Nat} (hn:n≤999999999) {r:LI} (h:ndH r):dv (dec n++r)=n:=by
  have h9:=dec_len9 hn
  unfold dv
  rw [dgs_dec n h,Nat.min_eq_left h9,List.take_left]
  exact decL_val 10 n (by omega) (by omega)
theorem drop_dec (n:Nat) (r:LI):(dec n++r).drop (dec n).length=r:=List.drop_left

theorem clo_app {c:Int} (hc:c≠92):∀ (t r:LI),clo (t++[c]) c=t.length→clo (t++c::r) c=t.length
  | [],r,_=>by rw [List.nil_append,clo_cons,if_neg hc,if_pos rfl]; rfl
  | [b],r,h=>by
    rw [List.cons_append,List.nil_append,clo_cons] at h ⊢
    by_cases h1:b=92
    · rw [if_pos h1] at h; cases h
    · rw [if_neg h1] at h ⊢
      by_cases h2:b=c
      · rw [if_pos h2] at h; cases h
      · rw [if_neg h2,clo_cons,if_neg hc,if_pos rfl]; rfl
  | b::d::t,r,h=>by
    rw [List.cons_append,clo_cons] at h ⊢
    by_cases h1:b=92
    · rw [if_pos h1] at h ⊢
      have h3:clo (t++[c]) c+2=t.length+1+1:=h
      have:=clo_app hc t r (by omega)
      show clo (t++c::r) c+2=t.length+1+1
      omega
    · rw [if_neg h1] at h ⊢
      by_cases h2:b=c
      · rw [if_pos h2] at h; cases h
      · rw [if_neg h2] at h ⊢
        have h3:clo (d::t++[c]) c+1=t.length+1+1:=h
        have:=clo_app hc (d::t) r (by rw [List.length_cons]; omega)
        rw [List.length_cons] at this
        show clo (d::t++c::r) c+1=t.length+1+1
        omega
theorem clo_alone {c:Int} (hc:c≠92):∀ (t:LI),clo (t++[c]) c=t.length→clo t c=t.length∧alo t=false
  | [],_=>⟨rfl,rfl⟩
  | [b],h=>by
    rw [List.cons_append,List.nil_append,clo_cons] at h
    by_cases h1:b=92
    · rw [if_pos h1] at h; cases h
    · rw [if_neg h1] at h
      by_cases h2:b=c
      · rw [if_pos h2] at h; cases h
      · exact ⟨by rw [clo_cons,if_neg h1,if_neg h2]; rfl,by simp [alo,h1]⟩
  | b::d::t,h=>by
    rw [List.cons_append,clo_cons] at h
    by_cases h1:b=92
    · rw [if_pos h1] at h
      have h3:clo (t++[c]) c+2=t.length+1+1:=h
      obtain ⟨q1,q2⟩:=clo_alone hc t (by omega)
      refine ⟨by rw [clo_cons,if_pos h1]; show clo t c+2=t.length+1+1; omega,by rw [alo_cons]; dsimp only; rw [if_pos h1]; exact q2⟩
    · rw [if_neg h1] at h
      by_cases h2:b=c
      · rw [if_pos h2] at h; cases h
      · rw [if_neg h2] at h
        have h3:clo (d::t++[c]) c+1=t.length+1+1:=h
        obtain ⟨q1,q2⟩:=clo_alone hc (d::t) (by rw [List.length_cons]; omega)
        rw [List.length_cons] at q1
        refine ⟨by rw [clo_cons,if_neg h1,if_neg h2]; show clo (d::t) c+1=t.length+1+1; omega,by rw [alo_ne h1]; exact q2⟩
theorem clo_take {c:Int} (hc:c≠92):∀ (r:LI),¬ (clo r c=r.length∧alo r=true)→clo (r.take (clo r c)++[c]) c=clo r c
  | [],_=>by
    rw [show clo [] c=0 from rfl]
    show clo [c] c=0
    rw [clo_cons,if_neg hc,if_pos rfl]
  | [b],h=>by
    by_cases h1:b=92
    · refine absurd ⟨?_,?_⟩ h
      · rw [clo_cons,if_pos h1]; rfl
      · simp [alo,h1]
    · by_cases h2:b=c
      · rw [show clo [b] c=0 by rw [clo_cons,if_neg h1,if_pos h2]]
        show clo [c] c=0
        rw [clo_cons,if_neg hc,if_pos rfl]
      · rw [show clo [b] c=1 by rw [clo_cons,if_neg h1,if_neg h2]; rfl]
        show clo [b,c] c=1
        rw [clo_cons,if_neg h1,if_neg h2,clo_cons,if_neg hc,if_pos rfl]
  | b::d::r,h=>by
    have hle:=clo_le r c
    by_cases h1:b=92
    · have e:clo (b::d::r) c=clo r c+2:=by rw [clo_cons,if_pos h1]
      have ea:alo (b::d::r)=alo r:=by rw [alo_cons]; dsimp only; rw [if_pos h1]
      rw [e,ea] at h
      have:=clo_take hc r (fun hh=>h ⟨by simp only [List.length_cons]; omega,hh.2⟩)
      rw [e]
      show clo (b::(d::(r.take (clo r c)++[c]))) c=clo r c+2
      rw [clo_cons,if_pos h1]
      show clo (r.take (clo r c)++[c]) c+2=_
      omega
    · by_cases h2:b=c
      · rw [show clo (b::d::r) c=0 by rw [clo_cons,if_neg h1,if_pos h2]]
        show clo [c] c=0
        rw [clo_cons,if_neg hc,if_pos rfl]
      · have e:clo (b::d::r) c=clo (d::r) c+1:=by rw [clo_cons,if_neg h1,if_neg h2]
        rw [e,alo_ne h1] at h
        have:=clo_take hc (d::r) (fun hh=>h ⟨by rw [hh.1]; rfl,hh.2⟩)
        rw [e,List.take_succ_cons,List.cons_append,clo_cons,if_neg h1,if_neg h2]
        omega
def nsH (r:LI):Prop:=∀ c t,r=c::t→isDg c=false∧c≠43∧c≠45
theorem nsH.nd {r:LI} (h:nsH r):ndH r:=fun c t e=>(h c t e).1
theorem adds_end {r:LI} (h:nsH r) (f:Nat) (x:Int) (g:Bool):adds (f+1) r x g=some (0,x,g):=by
  cases r with
  | nil=>rfl
  | cons c t=>
    obtain ⟨_,h2,h3⟩:=h c t rfl
    unfold adds
    rw [if_neg (by simp [h2,h3])]
def adX (x:Int):LI:=if x<0 then nI x else 43::nI x
theorem adX_form (x:Int) (h1:-999999999≤x) (h2:x≤999999999):∃ (b:Int) (n:Nat),adX x=b::dec n∧n≤999999999∧(b=43∨b=45)∧(if b=45 then -(n:Int) else (n:Int))=x:=by
  unfold adX nI
  by_cases h:x<0
  · rw [if_pos h,if_pos h]
    exact ⟨45,(-x).toNat,rfl,by omega,.inr rfl,by rw [if_pos rfl]; omega⟩
  · rw [if_neg h,if_neg h]
    exact ⟨43,x.toNat,rfl,by omega,.inl rfl,by rw [if_neg (by decide)]; omega⟩
theorem adds_adX (x:Int) (h1:-999999999≤x) (h2:x≤999999999) {r:LI} (hr:nsH r) (g:Bool) (f:Nat) (hf:(adX x++r).length<f):adds f (adX x++r) 0 g=some ((adX x).length,x,true):=by
  obtain ⟨b,n,e,hn,hb,hx⟩:=adX_form x h1 h2
  rw [e] at hf ⊢
  have h9:=dec_len9 hn
  have hne:(dec n).length≠0:=fun h=>dec_ne n (List.eq_nil_of_length_eq_zero h)
  cases f with
  | zero=>exact absurd hf (Nat.not_lt_zero _)
  | succ f=>
    cases f with
    | zero=>simp only [List.length_append,List.length_cons] at hf; omega
    | succ f=>
      rw [List.cons_append]
      unfold adds
      rw [if_pos hb,dgs_dec n hr.nd,if_pos h9,drop_dec,if_neg hne,dv_dec hn hr.nd,hx,adds_end hr]
      dsimp only
      rw [wrap_i64 (by omega) (by omega),Int.zero_add,List.length_cons,Nat.add_zero,Nat.add_comm]
inductive CanA:Adr→Prop
  | num (n x:Int):0≤n→n≤999999999→-999999999≤x→x≤999999999→CanA (110,n,0,[],x,true)
  | here (c x:Int):c=46∨c=36→-999999999≤x→x≤999999999→CanA (c,0,0,[],x,true)
  | mark (n x:Int):-999999999≤x→x≤999999999→CanA (39,0,n,[],x,true)
  | text (c x:Int) (t:LI):c=47∨c=63→clo (t++[c]) c=t.length→-999999999≤x→x≤999999999→CanA (c,0,0,t,x,true)
  | none (x:Int):-999999999≤x→x≤999999999→CanA (0,0,0,[],x,true)
theorem CanA.given {a:Adr} (h:CanA a):a.2.2.2.2.2=true:=by cases h <;> rfl
theorem CanA.snd {a:Adr} (h:CanA a):sndM a=true:=by
  cases h with
  | num n x h1 h2 h3 h4=>simp [sndM,h1,h2,h3,h4]
  | here c x h1 h3 h4=>rcases h1 with rfl | rfl <;> simp [sndM,h3,h4]
  | mark n x h3 h4=>simp [sndM,h3,h4]
  | text c x t h1 h2 h3 h4=>rcases h1 with rfl | rfl <;> simp [sndM,h2,h3,h4]
  | none x h3 h4=>simp [sndM,h3,h4]
theorem adF_back {a:Adr} {x:Int} (ha:a.2.2.2.2.1=0) (hg:a.2.2.2.2.2=true) (h1:-999999999≤x) (h2:x≤999999999) {r:LI} (hr:nsH r) :
    adF ((if x=0 then [] else adX x)++r) a=.inl (adrA a x true,r):=by
  unfold adF
  rw [ha,hg]
  by_cases h0:x=0
  · rw [if_pos h0,List.nil_append,adds_end hr]
    dsimp only
    rw [if_neg (by omega),h0]; rfl
  · rw [if_neg h0,adds_adX x h1 h2 hr true _ (Nat.lt_succ_self _)]
    dsimp only
    rw [if_neg (by omega),List.drop_left]
theorem adX_nd (x:Int) (h1:-999999999≤x) (h2:x≤999999999) (r:LI):ndH (adX x++r):=by
  obtain ⟨b,n,e,_,hb,_⟩:=adX_form x h1 h2
  intro c t hc
  rw [e,List.cons_append] at hc
  injection hc with hc _
  subst hc
  rcases hb with rfl | rfl <;> rfl
theorem adT_eq (a:Adr):adT a=if a.2.2.2.2.1=0∧a.1≠0 then [] else adX a.2.2.2.2.1:=rfl
theorem adS_eq {a:Adr} (h:CanA a):adS a=bsS a++adT a:=by unfold adS; rw [if_pos h.snd]
theorem rest_nd {x:Int} (h1:-999999999≤x) (h2:x≤999999999) {r:LI} (hr:nsH r):ndH ((if x=0 then [] else adX x)++r):=by
  by_cases h:x=0
  · rw [if_pos h]; exact hr.nd
  · rw [if_neg h]; exact adX_nd x h1 h2 r
theorem back_s {a:Adr} (h:CanA a) {r:LI} (hr:nsH r):adM (adS a++r)=.inl (a,r):=by
  rw [adS_eq h,adT_eq]
  cases h with
  | num n x hn1 hn2 h1 h2=>
    have e:bsS (110,n,0,[],x,true)=dec n.toNat:=by unfold bsS nI; rw [if_pos rfl,if_neg (by dsimp only; omega)]
    have e2:(if x=0∧(110:Int)≠0 then ([]:LI) else adX x)=if x=0 then [] else adX x:=by simp
    dsimp only
    rw [e,e2,List.append_assoc]
    have hnd:=rest_nd h1 h2 hr
    have hb:bsM (dec n.toNat++((if x=0 then [] else adX x)++r))=.inl ((110,n,0,[],0,true),(if x=0 then [] else adX x)++r):=by
      have d1:=dgs_dec n.toNat hnd
      have d2:=dv_dec (n:=n.toNat) (by omega) hnd
      have d3:=drop_dec n.toNat ((if x=0 then [] else adX x)++r)
      have d4:=dec_len9 (n:=n.toNat) (by omega)
      have hdg:∀ c∈dec n.toNat,isDg c=true:=fun c hc=>dec_dg hc
      cases hd:dec n.toNat with
      | nil=>exact absurd hd (dec_ne _)
      | cons c t=>
        rw [hd] at d1 d2 d3 d4 hdg
        rw [List.cons_append] at d1 d2 d3 ⊢
        rw [bsM_cons,if_pos (hdg c List.mem_cons_self),d1,if_pos d4,d2,d3]
        rw [show ((n.toNat:Nat):Int)=n by omega]
    unfold adM
    rw [hb]
    exact adF_back rfl rfl h1 h2 hr
  | here c x hc h1 h2=>
    have e:bsS (c,0,0,[],x,true)=[c]:=by rcases hc with rfl | rfl <;> rfl
    have e2:(if x=0∧c≠0 then ([]:LI) else adX x)=if x=0 then [] else adX x:=by rcases hc with rfl | rfl <;> simp
    dsimp only
    rw [e,e2]
    have hb:bsM (c::((if x=0 then [] else adX x)++r))=.inl ((c,0,0,[],0,true),(if x=0 then [] else adX x)++r):=by
      rw [bsM_cons,if_neg (by rcases hc with rfl | rfl <;> decide),if_pos hc]
    unfold adM
    rw [List.append_assoc,List.cons_append,List.nil_append,hb]
    exact adF_back rfl rfl h1 h2 hr
  | mark n x h1 h2=>
    have e2:(if x=0∧(39:Int)≠0 then ([]:LI) else adX x)=if x=0 then [] else adX x:=by simp
    dsimp only
    rw [show bsS (39,0,n,[],x,true)=[39,n] from rfl,e2]
    have hb:bsM (39::n::((if x=0 then [] else adX x)++r))=.inl ((39,0,n,[],0,true),(if x=0 then [] else adX x)++r):=rfl
    unfold adM
    rw [List.append_assoc,List.cons_append,List.cons_append,List.nil_append,hb]
    exact adF_back rfl rfl h1 h2 hr
  | text c x t hc ht h1 h2=>
    have e:bsS (c,0,0,t,x,true)=c::(t++[c]):=by rcases hc with rfl | rfl <;> rfl
    have e2:(if x=0∧c≠0 then ([]:LI) else adX x)=if x=0 then [] else adX x:=by rcases hc with rfl | rfl <;> simp
    have hc92:c≠92:=by rcases hc with rfl | rfl <;> decide
    dsimp only
    rw [e,e2]
    have hcl:=clo_app hc92 t ((if x=0 then [] else adX x)++r) ht
    have hb:bsM (c::(t++c::((if x=0 then [] else adX x)++r)))=.inl ((c,0,0,t,0,true),(if x=0 then [] else adX x)++r):=by
      rw [bsM_cons,if_neg (by rcases hc with rfl | rfl <;> decide),if_neg (by rcases hc with rfl | rfl <;> decide),if_neg (by rcases hc with rfl | rfl <;> decide),if_pos hc,hcl,
        if_neg (fun h=>by have:=h.1; simp only [List.length_append,List.length_cons] at this; omega),List.take_left]
      rw [show t++c::((if x=0 then [] else adX x)++r)=(t++[c])++((if x=0 then [] else adX x)++r) by simp,show t.length+1=(t++[c]).length by simp,List.drop_left]
    unfold adM
    rw [show (c::(t++[c])++(if x=0 then [] else adX x))++r=c::(t++c::((if x=0 then [] else adX x)++r)) by simp,hb]
    exact adF_back rfl rfl h1 h2 hr
  | none x h1 h2=>
    have e2:(if x=0∧(0:Int)≠0 then ([]:LI) else adX x)=adX x:=by simp
    dsimp only
    rw [show bsS (0,0,0,[],x,true)=[] from rfl,e2,List.nil_append]
    obtain ⟨b,n,e,_,hb,_⟩:=adX_form x h1 h2
    have hbs:bsM (adX x++r)=.inl (adr0,adX x++r):=by
      rw [e,List.cons_append,bsM_cons]
      rcases hb with rfl | rfl
      · rfl
      · rfl
    unfold adM
    rw [hbs]
    show adF (adX x++r) adr0=_
    unfold adF
    rw [show adr0.2.2.2.2.1=0 from rfl,show adr0.2.2.2.2.2=false from rfl,adds_adX x h1 h2 hr false _ (Nat.lt_succ_self _)]
    dsimp only
    rw [if_neg (by omega),List.drop_left]; rfl
theorem adds_g:∀ (f:Nat) (l:LI) (x:Int) (g:Bool) (m:Nat) (s:Int) (g':Bool),adds f l x g=some (m,s,g')→(g'=true∨(g'=false∧g=false∧s=x))
  | 0,_,_,_,_,_,_,h=>by cases h
  | f+1,[],x,g,m,s,g',h=>by
    simp only [adds,Option.some.injEq,Prod.mk.injEq] at h
    obtain ⟨_,rfl,rfl⟩:=h
    cases g
    · exact .inr ⟨rfl,rfl,rfl⟩
    · exact .inl rfl
  | f+1,b::r,x,g,m,s,g',h=>by
    unfold adds at h
    split at h
    · split at h
      · split at h
        · rename_i m2 a2 g2 h2
          simp only [Option.some.injEq,Prod.mk.injEq] at h
          obtain ⟨_,rfl,rfl⟩:=h
          rcases adds_g f _ _ _ _ _ _ h2 with h3 | ⟨_,h4,_⟩
          · exact .inl h3
          · cases h4
        · cases h
      · cases h
    · simp only [Option.some.injEq,Prod.mk.injEq] at h
      obtain ⟨_,rfl,rfl⟩:=h
      cases g
      · exact .inr ⟨rfl,rfl,rfl⟩
      · exact .inl rfl
theorem adM_can {l:LI} {a:Adr} {r:LI} (h:adM l=.inl (a,r)):a=adr0∨CanA a:=by
  unfold adM at h
  split at h
  · cases h
  · rename_i b t hb
    have hf:∃ (x:Int) (g:Bool),a=adrA b x g∧-999999999≤x∧x≤999999999∧(g=true∨(g=false∧b.2.2.2.2.2=false∧x=b.2.2.2.2.1)):=by
      rcases adF_cases t b with ⟨_,h2⟩ | ⟨m,s,g,h1,_,h2⟩
      · rw [h2] at h; cases h
      · rw [h2] at h
        split at h
        · cases h
        · cases h
          exact ⟨s,g,rfl,by omega,by omega,adds_g _ _ _ _ _ _ _ h1⟩
    obtain ⟨x,g,rfl,h1,h2,hg⟩:=hf
    have given:b.2.2.2.2.2=true→g=true:=fun hb=>by
      rcases hg with h | ⟨_,h,_⟩
      · exact h
      · rw [hb] at h; cases h
    cases l with
    | nil=>
      cases hb
      rcases hg with rfl | ⟨rfl,_,rfl⟩
      · exact .inr (CanA.none x h1 h2)
      · exact .inl rfl
    | cons c u=>
      rw [bsM_cons] at hb
      split at hb
      · split at hb
        · rename_i hd h9
          cases hb
          rw [given rfl]
          obtain ⟨q1,q2⟩:=dval_take (c::u) (min (dgs (c::u)) 9) (Nat.min_le_left _ _)
          have q3:=pow9 (Nat.min_le_right (dgs (c::u)) 9)
          exact .inr (CanA.num _ x q1 (by show dval 0 ((c::u).take (min (dgs (c::u)) 9))≤999999999; omega) h1 h2)
        · cases hb
      · split at hb
        · rename_i hc
          cases hb
          rw [given rfl]
          exact .inr (CanA.here c x hc h1 h2)
        · split at hb
          · rename_i hc
            cases u with
            | nil=>cases hb
            | cons n u=>
              cases hb
              rw [given rfl]
              exact .inr (CanA.mark n x h1 h2)
          · split at hb
            · rename_i hc
              split at hb
              · cases hb
              · rename_i hcl
                cases hb
                rw [given rfl]
                have hc92:c≠92:=by rcases hc with rfl | rfl <;> decide
                have hle:=clo_le u c
                refine .inr (CanA.text c x _ hc ?_ h1 h2)
                rw [clo_take hc92 u hcl,List.length_take]; omega
            · cases hb
              rcases hg with rfl | ⟨rfl,_,rfl⟩
              · exact .inr (CanA.none x h1 h2)
              · exact .inl rfl
end Go.VE
namespace Go.VE
set_option maxRecDepth 20000
open Go Go.Proofs
def q20_G:List (Nat×App):=[]
theorem q20_Gok:GOk Tryz.prog (getG q20_G):=GOk.nil
def q20_raw (rv0:(LI×Int)) (K:Res→List Cell→Prop):Prop:=
 K (.one (.v .bool (decide ((List.length rv0.1:Int)≤rv0.2)))) [⟨.st (.pair yB yI),rv0⟩]
def q20_A:List AS:=[.r none (.st (.pair yB yI))]

def q20_F (rv0:(LI×Int)):Bool:=
 (decide ((List.length rv0.1:Int)≤rv0.2))
theorem q20_sp (rv0:(LI×Int)) (K:Res→List Cell→Prop) (_:wfA q20_A (rv0,())) (h:∀ r:Bool,r=q20_F rv0→K (.one (.v .bool r)) [⟨.st (.pair yB yI),rv0⟩]):q20_raw rv0 K:=
 h _ rfl
def q20_C (v:valsA q20_A) (K:Res→List Cell→Prop):Prop:=∀ r:Bool,r=q20_F v.1→K (.one (.v .bool r)) [⟨.st (.pair yB yI),v.1⟩]
def q20_S:App:=specW q20_A q20_C
theorem q20_wv (K:Res→List Cell→Prop):∀ v:valsA q20_A,runF tb (getG q20_G) [] Tryz.f41 [true] (mkA q20_A v) K=q20_raw v.1 K
  | (rv0,())=>by kernel_rfl
theorem q20_ok:AppOk Tryz.prog 41 q20_S:=
  AppOk.specW (spec_ok ((runF_ok tb_M tb_ok q20_Gok (LabsOk.nil) (f:=41) (fn:=Tryz.f41) (by kernel_rfl) (by kernel_rfl) (by kernel_rfl) [true])) fun v K hw h=>(q20_wv K v).mpr (q20_sp v.1 K hw h))

def q18_G:List (Nat×App):=[(41,q20_S)]
theorem q18_Gok:GOk Tryz.prog (getG q18_G):=GOk.cons q20_ok (GOk.nil)
theorem q18_st:storesC (bodyOf Tryz.f39)=true:=by kernel_rfl
def q18_d0:List LS:=[.b 0 7 [],.c 7 (.st (.pair yB yI))]
def q18_d0x0:List LS:=[.c 7 (.st (.pair yB yI))]
def q18_dx0:DX:=⟨none,none,[(0,q18_d0x0)]⟩
def q18_y0x0 (k:Ex→St→Prop) (rv0b:(LI×Int)):Prop:=wfD q18_d0x0 (rv0b,())→k (.exit 0) (mkD 38 q18_d0x0 (rv0b,()))
def q18_T0 (Y:(LI×Int)→Prop) (kx0:(LI×Int)→Prop) (rv0b:(LI×Int)):Prop:=
 ∀ (r1:Bool),r1=q20_F rv0b→(
 wB r1→(
 bif (!r1) then
 (
 bif decide (0≤rv0b.2∧rv0b.2<(List.length rv0b.1:Int)) then
 bif (decide ((rd (0:Int) rv0b.1 rv0b.2)=(32:Int))) then
 Y (rv0b.1,(IntKind.wrap .i64 (rv0b.2+(1:Int))))
 else
 (
 bif decide (0≤rv0b.2∧rv0b.2<(List.length rv0b.1:Int)) then
 bif (decide ((rd (0:Int) rv0b.1 rv0b.2)=(9:Int))) then
 Y (rv0b.1,(IntKind.wrap .i64 (rv0b.2+(1:Int))))
 else
 kx0 rv0b
 else False)∧(
 bif decide (0≤rv0b.2∧rv0b.2<(List.length rv0b.1:Int)) then
 bif (decide ((rd (0:Int) rv0b.1 rv0b.2)=(9:Int))) then
 Y (rv0b.1,(IntKind.wrap .i64 (rv0b.2+(1:Int))))
 else
 kx0 rv0b
 else False)∧True
 else False)∧(
 bif decide (0≤rv0b.2∧rv0b.2<(List.length rv0b.1:Int)) then
 bif (decide ((rd (0:Int) rv0b.1 rv0b.2)=(32:Int))) then
 Y (rv0b.1,(IntKind.wrap .i64 (rv0b.2+(1:Int))))
 else
 (
 bif decide (0≤rv0b.2∧rv0b.2<(List.length rv0b.1:Int)) then
 bif (decide ((rd (0:Int) rv0b.1 rv0b.2)=(9:Int))) then
 Y (rv0b.1,(IntKind.wrap .i64 (rv0b.2+(1:Int))))
 else
 kx0 rv0b
 else False)∧(
 bif decide (0≤rv0b.2∧rv0b.2<(List.length rv0b.1:Int)) then
 bif (decide ((rd (0:Int) rv0b.1 rv0b.2)=(9:Int))) then
 Y (rv0b.1,(IntKind.wrap .i64 (rv0b.2+(1:Int))))
 else
 kx0 rv0b
 else False)∧True
 else False)∧True
 else
 kx0 rv0b))
def q18_L0 (kx0:(LI×Int)→Prop):Nat→(LI×Int)→Prop
  | 0,_=>False
  | n+1,rv0b=>wfD q18_d0 (rv0b,())→q18_T0 (q18_L0 kx0 n) kx0 rv0b
def q18_c0:Pce:=ex tb (getG q18_G) [] (at' (bodyOf Tryz.f39) [0,0]) [0,0]
def q18_g0 (k:Ex→St→Prop) (n:Nat) (v:vals q18_d0):Prop:=q18_L0 (q18_y0x0 k) n v.1
theorem q18_s0 (k:Ex→St→Prop) (Y:vals q18_d0→Prop):∀ v:vals q18_d0,q18_c0 (mkD 38 q18_d0 v) (lpK 38 q18_d0 q18_dx0 k Y)=q18_T0 (fun rv0b=>Y (rv0b,())) (q18_y0x0 k) v.1
  | (rv0b,())=>by kernel_rfl
theorem q18_v0 (k:Ex→St→Prop):∀ (n:Nat) (v:vals q18_d0),lpD 38 q18_d0 q18_dx0 q18_c0 k n v=q18_g0 k n v
  | 0,(rv0b,())=>rfl
  | n+1,(rv0b,())=>congrArg (fun Z:Prop=>wfD q18_d0 (rv0b,())→Z) ((q18_s0 k _ (rv0b,())).trans (congrArg (fun Y=>q18_T0 Y (q18_y0x0 k) rv0b) (funext fun rv0b=>q18_v0 k n (rv0b,()))))
def q18_X0:Pce:=fun st k=>ckD 38 q18_d0 st fun v=>wfD q18_d0 v→∃ n,q18_g0 k n v
theorem q18_x0:SemOk Tryz.prog (at' (bodyOf Tryz.f39) [0]) q18_X0:=
  (SemOk.loop (ex_sound tb_M tb_ok q18_Gok (LabsOk.nil) (at' (bodyOf Tryz.f39) [0,0]) [0,0] rfl (storesC_at q18_st [0,0])) 38 q18_d0 q18_dx0).mono fun st k h=>ckD_mono h fun v hv hw=>(hv hw).elim fun n hn=>⟨n,Eq.mpr (q18_v0 k n v) hn⟩
def q18_B0:Labs:=([0],q18_X0)::[]
theorem q18_b0:LabsOk Tryz.prog (bodyOf Tryz.f39) q18_B0:=LabsOk.cons q18_x0 (LabsOk.nil)
def q18_raw (rv0:(LI×Int)) (K:Res→List Cell→Prop):Prop:=
 (wfD q18_d0 (rv0,())→∃ n,q18_L0 (fun (rv0b:(LI×Int))=>wfD q18_d0x0 (rv0b,())→(
 K (.tup []) [⟨.st (.pair yB yI),rv0b⟩])) n rv0)
def q18_A:List AS:=[.r none (.st (.pair yB yI))]
def q18_P (rv:LI×Int):Prop:=0≤rv.2∧rv.2≤rv.1.length
def q18_F (rv:LI×Int):LI×Int:=(rv.1,rv.2+(bls (rv.1.drop rv.2.toNat):Int))
theorem q18_l0 (kx0:LI×Int→Prop) (s:LI) (hs:s.length≤9223372036854775807):∀ (n i:Nat),s.length<n+i→i≤s.length→kx0 (s,((i+bls (s.drop i):Nat):Int))→q18_L0 kx0 n (s,(i:Int))
  | 0,i,hn,hi,h=>absurd hn (by omega)
  | n+1,i,hn,hi,h=>by
    intro _
    unfold q18_T0
    intro r hr _
    subst r
    unfold q20_F
    refine brb (fun he=>?_) (fun he=>?_)
    · have hlt:i<s.length:=by simpa using he
      have hi':i<s.length:=by omega
      have hw:IntKind.wrap .i64 ((i:Int)+1)=((i+1:Nat):Int):=by rw [wrap_i64 (by omega) (by omega)]; omega
      dsimp only
      rw [rd_drop hi',hw]
      rw [dropc hi',bls_cons] at h
      have go:(s[i]=32∨s[i]=9)→q18_L0 kx0 n (s,((i+1:Nat):Int)):=fun hb=>by
        rw [if_pos hb] at h
        exact q18_l0 kx0 s hs n (i+1) (by omega) (by omega) (by rw [show i+1+bls (s.drop (i+1))=i+(bls (s.drop (i+1))+1) by omega]; exact h)
      have one:∀ {A:Prop},A→((bif decide (s[i]=9) then q18_L0 kx0 n (s,((i+1:Nat):Int)) else kx0 (s,(i:Int)))→A)→A:=fun a _=>a
      have in2:¬ s[i]=32→(bif decide (0≤(i:Int)∧(i:Int)<(s.length:Int)) then (bif decide (s[i]=9) then q18_L0 kx0 n (s,((i+1:Nat):Int)) else kx0 (s,(i:Int))) else False):=fun h32=>
        asrt (by omega) (brn (fun h9=>go (.inr h9)) (fun h9=>by rw [if_neg (fun hb=>hb.elim h32 h9)] at h; exact h))
      have in1:(bif decide (0≤(i:Int)∧(i:Int)<(s.length:Int)) then (bif decide (s[i]=32) then q18_L0 kx0 n (s,((i+1:Nat):Int)) else
          ((bif decide (0≤(i:Int)∧(i:Int)<(s.length:Int)) then (bif decide (s[i]=9) then q18_L0 kx0 n (s,((i+1:Nat):Int)) else kx0 (s,(i:Int))) else False)∧(bif decide (0≤(i:Int)∧(i:Int)<(s.length:Int)) then (bif decide (s[i]=9) then q18_L0 kx0 n (s,((i+1:Nat):Int)) else kx0 (s,(i:Int))) else False)∧True)) else False):=
        asrt (by omega) (brn (fun h32=>go (.inl h32)) (fun h32=>⟨in2 h32,in2 h32,trivial⟩))
      exact ⟨in1,in1,trivial⟩
    · have hge:s.length≤i:=by simpa using he
      rw [List.drop_eq_nil_of_le (by omega)] at h; exact h
theorem q18_sp (rv0:LI×Int) (K:Res→List Cell→Prop) (hw:wfA q18_A (rv0,())) (hp:q18_P rv0) (h:∀ r:LI×Int,r=q18_F rv0→K (.tup []) [⟨.st (.pair yB yI),r⟩]):q18_raw rv0 K:=by
  obtain ⟨s,a⟩:=rv0
  have hs:s.length≤9223372036854775807:=hw.1.1.1
  obtain ⟨h1,h2⟩:=hp
  obtain ⟨i,rfl⟩:=Int.eq_ofNat_of_zero_le (show 0≤a from h1)
  intro _
  exact ⟨s.length+1,q18_l0 _ s hs _ i (by omega) (by have:(i:Int)≤s.length:=h2; omega) (fun _=>h _ (by unfold q18_F; dsimp only; rw [Int.toNat_natCast]; congr 1))⟩

def q18_C (v:valsA q18_A) (K:Res→List Cell→Prop):Prop:=q18_P v.1∧∀ r:(LI×Int),r=q18_F v.1→K (.tup []) [⟨.st (.pair yB yI),r⟩]
def q18_S:App:=specW q18_A q18_C
theorem q18_wv (K:Res→List Cell→Prop):∀ v:valsA q18_A,runF tb (getG q18_G) q18_B0 Tryz.f39 [] (mkA q18_A v) K=q18_raw v.1 K
  | (rv0,())=>by kernel_rfl
theorem q18_ok:AppOk Tryz.prog 39 q18_S:=
  AppOk.specW (spec_ok ((runF_ok tb_M tb_ok q18_Gok (q18_b0) (f:=39) (fn:=Tryz.f39) (by kernel_rfl) (by kernel_rfl) q18_st [])) fun v K hw h=>(q18_wv K v).mpr (q18_sp v.1 K hw h.1 h.2))

def q21_G:List (Nat×App):=[(41,q20_S)]
theorem q21_Gok:GOk Tryz.prog (getG q21_G):=GOk.cons q20_ok (GOk.nil)
def q21_raw (rv0:(LI×Int)) (b1:Int) (K:Res→List Cell→Prop):Prop:=
 ∀ (r1:Bool),r1=q20_F rv0→(
 wB r1→(
 bif r1 then
 K (.one (.v .bool false)) [⟨.st (.pair yB yI),rv0⟩]
 else
 (
 bif decide (0≤rv0.2∧rv0.2<(List.length rv0.1:Int)) then
 bif (!decide ((rd (0:Int) rv0.1 rv0.2)=b1)) then
 K (.one (.v .bool false)) [⟨.st (.pair yB yI),rv0⟩]
 else
 K (.one (.v .bool true)) [⟨.st (.pair yB yI),(rv0.1,(IntKind.wrap .i64 (rv0.2+(1:Int))))⟩]
 else False)∧(
 bif decide (0≤rv0.2∧rv0.2<(List.length rv0.1:Int)) then
 bif (!decide ((rd (0:Int) rv0.1 rv0.2)=b1)) then
 K (.one (.v .bool false)) [⟨.st (.pair yB yI),rv0⟩]
 else
 K (.one (.v .bool true)) [⟨.st (.pair yB yI),(rv0.1,(IntKind.wrap .i64 (rv0.2+(1:Int))))⟩]
 else False)∧True))
def q21_A:List AS:=[.r none (.st (.pair yB yI)),.v yU]

def q21_P (rv0:(LI×Int)) (b1:Int):Prop:=
 let r1:Bool:=q20_F rv0
 bif r1 then
 True
 else
 (0≤rv0.2∧rv0.2<(List.length rv0.1:Int))
def q21_F (rv0:(LI×Int)) (b1:Int):Bool×(LI×Int):=
 let r1:Bool:=q20_F rv0
 bif r1 then
 (false,rv0)
 else
 bif (!decide ((rd (0:Int) rv0.1 rv0.2)=b1)) then
 (false,rv0)
 else
 (true,(rv0.1,(IntKind.wrap .i64 (rv0.2+(1:Int)))))
theorem q21_sp (rv0:(LI×Int)) (b1:Int) (K:Res→List Cell→Prop) (_:wfA q21_A (rv0,b1,())) (hp:q21_P rv0 b1) (h:∀ r:Bool×(LI×Int),r=q21_F rv0 b1→K (.one (.v .bool r.1)) [⟨.st (.pair yB yI),r.2⟩]):q21_raw rv0 b1 K:=
 al (br1 hp h (fun _ hp h=>h _ rfl)
 fun _ hp h=>⟨as0 hp (br0 h (fun _ h=>h _ rfl)
 fun _ h=>h _ rfl),
 as0 hp (br0 h (fun _ h=>h _ rfl)
 fun _ h=>h _ rfl),trivial⟩)
def q21_C (v:valsA q21_A) (K:Res→List Cell→Prop):Prop:=q21_P v.1 v.2.1∧∀ r:Bool×(LI×Int),r=q21_F v.1 v.2.1→K (.one (.v .bool r.1)) [⟨.st (.pair yB yI),r.2⟩]
def q21_S:App:=specW q21_A q21_C
theorem q21_wv (K:Res→List Cell→Prop):∀ v:valsA q21_A,runF tb (getG q21_G) [] Tryz.f81 [true] (mkA q21_A v) K=q21_raw v.1 v.2.1 K
  | (rv0,b1,())=>by kernel_rfl
theorem q21_ok:AppOk Tryz.prog 81 q21_S:=
  AppOk.specW (spec_ok ((runF_ok tb_M tb_ok q21_Gok (LabsOk.nil) (f:=81) (fn:=Tryz.f81) (by kernel_rfl) (by kernel_rfl) (by kernel_rfl) [true])) fun v K hw h=>(q21_wv K v).mpr (q21_sp v.1 v.2.1 K hw h.1 h.2))
theorem exTakes (s:LI) (i:Nat) (b:Int) (h:i≤s.length) (hs:s.length≤lim):q21_P (s,(i:Int)) b∧
    q21_F (s,(i:Int)) b=(match s.drop i with | []=>(false,(s,(i:Int))) | c::_=>if c=b then (true,(s,((i+1:Nat):Int))) else (false,(s,(i:Int)))):=by
  unfold q21_P q21_F q20_F
  dsimp only
  rcases Nat.lt_or_ge i s.length with hi | hi
  · have e:decide ((s.length:Int)≤(i:Int))=false:=by simpa using hi
    rw [e]
    refine ⟨⟨by omega,by omega⟩,?_⟩
    rw [cond_false,rd_nat _ _ _ hi,List.drop_eq_getElem_cons hi,wrap_i64 (by omega) (by unfold lim at hs; omega),show (i:Int)+1=((i+1:Nat):Int) by omega]
    by_cases hb:s[i]=b <;> simp [hb]
  · have e:decide ((s.length:Int)≤(i:Int))=true:=by simpa using hi
    rw [e,List.drop_eq_nil_of_le hi]
    exact ⟨trivial,rfl⟩

end Go.VE
