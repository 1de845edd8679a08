import Derived.Test.YtogkdhgjefiipaaGreatDoorES11
import Derived.Shelf.Strconv.Itoa1
import Derived.Shelf.Strconv.Itoa2
import Derived.Lib.Walk
import Derived.Lib.ItoaWalk
import Derived.Lib.ItoaMem
import Derived.Lib.AppendIntMem
import Derived.Lib.BufferKept
import Derived.Lib.OwnKind
import Derived.Lib.Slices
import Derived.Lib.Hide
import Derived.OwnWalk
import Derived.WalkKit
import Derived.BigCall
import Derived.BigGuard
import Derived.CellFam
set_option linter.unusedVariables false
set_option linter.unusedSectionVars false
set_option linter.unusedSimpArgs false
namespace Go.VE
open Go Go.Proofs
end Go.VE
namespace Go.VE
open Go
theorem step_append {P:Program} {ops:Array Oper} {rest:List Oper} {o:Oper} {a:Act} {w w':World} {v':Value} {Q:Exit→Act→World→Prop} (hgd:o.guard=none) (s x:Operand) (t t':TypeId)
  (ho:o.op=.call { callee:=.builtin .append,args:=#[s,x],argTypes:=#[t,t'] }) (hrun:(Builtin.append_ #[t,t'] o.type #[a.eval s,a.eval x]).run P w=.ok v' w') (h:wpList P ops Q rest (a.put o.dst v') w') :
  wpList P ops Q (o::rest) a w:=by
 refine wpList_plain hgd fun K hK=>?_
 unfold Oper.wp
 have e:(execOp a.eval o).run P w=.ok (.value v') w':=by
  unfold execOp
  rw [ho]
  simp [invoke,resolve,builtin,hrun]
 rw [e]
 exact hK _ _ h
def a0W (u:Nat):LI:=(Lib.decDigits u).map fun b=>(b.toNat:Int)
def b5h:List AS:=[.o 5 yU,.v (.int .u64),.v yI]
end Go.VE
namespace Go.Proofs
open Go.Shelf Go.RowKit Go.Sort
def b5s:Go.Shelf.Ren:=⟨fun | 284=>227 | 129=>259 | 317=>258 | 318=>260 | n=>n,fun | 53=>175 | 3=>3 | 212=>278 | 0=>0 | 4=>4 | 46=>136 | 5=>5 | 9=>9 | n=>n,fun | 17=>1 | n=>n⟩
theorem d15:LaysM.n284 Tryz.prog b5s where
 mixed:=by kernel_rfl
 f129:=Tryz.func259.trans (congrArg some (by kernel_rfl))
 f284:=Tryz.func227.trans (congrArg some (by kernel_rfl))
 f317:=Tryz.func258.trans (congrArg some (by kernel_rfl))
 f318:=Tryz.func260.trans (congrArg some (by kernel_rfl))
 t0:=Tryz.underlying0
 a0:=Tryz.isAgg0
 z0:=Tryz.sizeOf0
 v0:=Tryz.zeroValue0
 t3:=Tryz.underlying3
 a3:=Tryz.isAgg3
 z3:=Tryz.sizeOf3
 v3:=Tryz.zeroValue3
 t4:=Tryz.underlying4
 a4:=Tryz.isAgg4
 z4:=Tryz.sizeOf4
 v4:=Tryz.zeroValue4
 t5:=Tryz.underlying5
 a5:=Tryz.isAgg5
 z5:=Tryz.sizeOf5
 v5:=Tryz.zeroValue5
 t9:=Tryz.underlying9
 a9:=Tryz.isAgg9
 z9:=Tryz.sizeOf9
 v9:=Tryz.zeroValue9
 t46:=Tryz.underlying136
 a46:=Tryz.isAgg136
 z46:=Tryz.sizeOf136
 v46:=Tryz.zeroValue136
 t53:=Tryz.underlying175
 a53:=Tryz.isAgg175
 z53:=Tryz.sizeOf175
 v53:=Tryz.zeroValue175
 t212:=Tryz.underlying278
 a212:=Tryz.isAgg278
 z212:=Tryz.sizeOf278
 v212:=Tryz.zeroValue278
 g17:=by kernel_rfl
 i0:=by kernel_rfl
 i3:=by kernel_rfl
 i4:=by kernel_rfl
 i5:=by kernel_rfl
 i9:=by kernel_rfl
 i46:=by kernel_rfl
 i53:=by kernel_rfl
 i212:=by kernel_rfl
 m17:=by kernel_rfl
def b5t:Go.Shelf.Ren:=⟨fun | 285=>228 | n=>n,fun | 37=>22 | 53=>175 | 3=>3 | 4=>4 | 51=>172 | 9=>9 | 5=>5 | 0=>0 | n=>n,fun | n=>n⟩
theorem d16:Lays.n285 Tryz.prog b5t where
 mixed:=by kernel_rfl
 f285:=Tryz.func228.trans (congrArg some (by kernel_rfl))
 t0:=Tryz.underlying0
 a0:=Tryz.isAgg0
 z0:=Tryz.sizeOf0
 v0:=Tryz.zeroValue0
 t3:=Tryz.underlying3
 a3:=Tryz.isAgg3
 z3:=Tryz.sizeOf3
 v3:=Tryz.zeroValue3
 t4:=Tryz.underlying4
 a4:=Tryz.isAgg4
 z4:=Tryz.sizeOf4
 v4:=Tryz.zeroValue4
 t5:=Tryz.underlying5
 a5:=Tryz.isAgg5
 z5:=Tryz.sizeOf5
 v5:=Tryz.zeroValue5
 t9:=Tryz.underlying9
 a9:=Tryz.isAgg9
 z9:=Tryz.sizeOf9
 v9:=Tryz.zeroValue9
 t37:=Tryz.underlying22
 a37:=Tryz.isAgg22
 z37:=Tryz.sizeOf22
 v37:=Tryz.zeroValue22
 t51:=Tryz.underlying172
 a51:=Tryz.isAgg172
 z51:=Tryz.sizeOf172
 v51:=Tryz.zeroValue172
 t53:=Tryz.underlying175
 a53:=Tryz.isAgg175
 z53:=Tryz.sizeOf175
 v53:=Tryz.zeroValue175
set_option maxHeartbeats 3200000 in
set_option maxRecDepth 100000 in
theorem au_big (Post:Value→World→Prop) (u:Nat) (hu:100≤u) (hu64:u<18446744073709551616) (sv:Value) (w:World)
  (htab : Lib.TabIs Tryz.prog w "internal/strconv.uint64pow10" .u64 Lib.pow10Tab)
  (happ:∀ W2:World,W2.os=w.os→W2.tape=w.tape→W2.output=w.output→w.heap.size≤W2.heap.size→(∀ k,k<w.heap.size→W2.heap[k]?=w.heap[k]?)→
   (∀ j (h:j<(Lib.decDigits u).length),W2.cell? ⟨w.heap.size,j,none⟩=some (Value.int .u8 ((Lib.decDigits u)[j].toNat:Int)))→
   ∃ v' w',(Builtin.append_ #[22,22] 22 #[sv,.slice (some ⟨w.heap.size,0,none⟩) (Lib.nDigits u) 24]).run Tryz.prog W2=.ok v' w'∧Post v' w') :
  Calls Tryz.prog 195 #[sv,.int .u64 u,.int .i64 10] w fun e w'=>∃ v,e=.returned v∧Post v w':=by
 have e58:∀ args w,(callFunc 227 args).run Tryz.prog w=.ok (.enter 227 args) w:=VE.enters_of Tryz.func227 (by kernel_rfl)
 have e59:∀ args w,(callFunc 228 args).run Tryz.prog w=.ok (.enter 228 args) w:=VE.enters_of Tryz.func228 (by kernel_rfl)
 have hu1:1≤u:=by omega
 have hnd20:Lib.nDigits u≤20:=by have:=Lib.numDigits_eq u hu1 hu64; split at this <;> omega
 have iu:(100:Int)≤(u:Int):=by omega
 have hal:Tryz.prog.arrayLen 254=24:=by kernel_rfl
 have hsl:∀ W,(Instr.sliceAt 254 (.pointer (some ⟨w.heap.size,0,none⟩)) none (some (.int .i64 (Lib.nDigits u:Int))) none).run Tryz.prog W=.ok (.slice (some ⟨w.heap.size,0,none⟩) (Lib.nDigits u) 24) W:=fun W=>by
  rw [run_sliceAt_array_h W 254 ⟨w.heap.size,0,none⟩ (by kernel_rfl) .i64 (Lib.nDigits u:Int) (by omega) (by rw [hal]; omega)]
  go_simp
 have hH0:=Lib.holds_zero0 w 254 (Lib.nDigits u) (by omega)
 have hfmt:=Any.internal_strconv_formatBase10 d16 w.heap.size 0 24 u (Array.replicate (Lib.nDigits u) 0) (w.alloc (.cells Lib.zeros24 254)) hH0 (by rw [Array.size_replicate]; exact Lib.lt_pow_nDigits u) hu64 (by rw [Array.size_replicate]; omega)
 rw [Array.size_replicate] at hfmt
 have HH0:=Lib.hid hH0
 clear hH0
 go_enter Tryz.func195,Tryz.ntmps195
 go_wp2_with (first
  | (go_at_fn 227; refine (Any.internal_strconv_numDigits d15 u hu1 hu64 _ (Lib.tabIs_alloc htab _)).mono ?_; rintro e w' ⟨rfl,rfl⟩))
 go_at_fn 228
 refine hfmt.mono ?_
 rintro e w' ⟨rfl,k,v',dk,rfl,hF⟩
 obtain ⟨os,eo⟩:=Lib.fin_at w (.cells Lib.zeros24 254) dk k 0
 obtain ⟨v2,w2,hrun,hpost⟩:=happ ((putRow (fun (b:UInt8)=>Value.int .u8 (b.toNat:Int)) (w.alloc (.cells Lib.zeros24 254)) w.heap.size 0 dk).drewN k) (by rw [eo]; rfl) (by rw [eo]; rfl) (by rw [eo]; rfl) (by rw [eo]; exact Lib.size_grow w k os)
  (fun g hg=>by rw [eo]; exact Lib.heap_grow_old w k os g hg) (fun j hj=>by
   have:=cell?_putRow (fun (b:UInt8)=>Value.int .u8 (b.toNat:Int)) (w.alloc (.cells Lib.zeros24 254)) w.heap.size 0 (Array.replicate (Lib.nDigits u) 0) dk HH0.out (by rw [hF.size,Array.size_replicate]) j (by rw [hF.size]; rw [Lib.decDigits_length] at hj; exact hj)
   rw [Lib.row_is_numeral hF j hj,World.cell?_drewN]
   simpa using this)
 generalize (putRow (fun (b:UInt8)=>Value.int .u8 (b.toNat:Int)) (w.alloc (.cells Lib.zeros24 254)) w.heap.size 0 dk).drewN k=W2 at hrun ⊢
 clear eo HH0 hfmt happ
 go_wp2_with (at_builtin; refine VE.step_append rfl _ _ 22 22 rfl hrun ?_)
 go_wp2
 go_ret
 exact ⟨_,rfl,hpost⟩
end Go.Proofs
namespace Go.VE
open Go
theorem c29 (u:Nat):∀ x∈a0W u,0≤x∧x≤255:=fun x hx=>by
 unfold a0W at hx
 obtain ⟨b,_,rfl⟩:=List.mem_map.1 hx
 have:=b.toNat_lt
 omega
theorem a9p (u:Nat):(a0W u).length=Lib.nDigits u:=by unfold a0W; rw [List.length_map,Lib.decDigits_length]
theorem c4b {u:Nat} (h1:1≤u) (h:u<18446744073709551616):Lib.nDigits u≤20:=by
 have:=Lib.numDigits_eq u h1 h
 split at this <;> omega
theorem d1S (xs:LI) (u:Int) (hu:100≤u) (hl:xs.length+20≤lim) {Ok:Res→List Cell→Prop} (hK:wfR (.one (.fr 5 yU (xs++a0W u.toNat)))→Ok (.one (.fr 5 yU (xs++a0W u.toNat))) []) :
  a2N Go.Proofs.Tryz.prog 195 (mkA b5h (xs,u,10,())) (fun r o=>wfR r→Ok r o):=by
 intro I w vs bs hI hg ha
 have hlen:=ha.length
 obtain ⟨sv,uv,bv,rfl⟩:∃ a b c,vs=[a,b,c]:=by
  match vs,hlen with
  | [a,b,c],_=>exact ⟨a,b,c,rfl⟩
 obtain ⟨b,rfl⟩:∃ b,bs=[b]:=by
  cases bs with
  | nil=>exact ha.elim
  | cons b bs=>
   cases bs with
   | nil=>exact ⟨b,rfl⟩
   | cons c bs=>exact ha.2.2.2.elim
 ·have ha':=ha
  obtain ⟨hs,hu2,hb2,_⟩:=ha'
  obtain ⟨hur,rfl⟩:=l0.int_eq hu2
  obtain ⟨_,rfl⟩:=l0.int_eq hb2
  obtain ⟨n,rfl⟩:∃ n:Nat,u=n:=⟨u.toNat,by omega⟩
  have hn64:n<18446744073709551616:=by
   have:=hur.2
   simp only [a0G] at this
   omega
  obtain ⟨g,ob,_,_,h2,h3⟩:=b71 hg
  have htab:=h3 w h2
  have hd20:=c4b (u:=n) (by omega) hn64
  refine Calls.mono (R':=fun e w'=>c3R I w [b] (p5 (mkA b5h (xs,(n:Int),10,())) [b]) (fun r o=>wfR r→Ok r o) e w') (Go.Proofs.au_big (fun v w'=>N2 I w [b] (p5 (mkA b5h (xs,(n:Int),10,())) [b]) (fun r o=>wfR r→Ok r o) v w') n (by omega) hn64 sv w htab ?_) (fun e w' ⟨v,h1,h2⟩=>.inl ⟨v,h1,h2⟩)
  intro W2 ho ht hp hz hold hcell
  have hinv:=a9z hI hg ha 3
  have hgr:=hinv.grow hz hold ho ht hp
  have hslot:=hgr.slot 0
  have hown:N3 (B7 (mkA b5h (xs,(n:Int),10,())) [sv,.int .u64 n,.int .i64 10] [b] 0) I W2 0 5 yU xs sv:=hslot
  obtain ⟨news,hsrc⟩:=b2U (P:=Go.Proofs.Tryz.prog) (I:=I) (w:=W2) (t':=22) (el:=5) (e:=.int .u8) (ys:=a0W n) (A:=some ⟨w.heap.size,0,none⟩) (cap:=24) (by kernel_rfl) (fun i hi=>by
   refine ⟨w.heap.size,0,rfl,[.int .u8 (a0W n)[i]],⟨c29 n _ (List.getElem_mem hi),rfl⟩,fun j v hv=>?_⟩
   cases j with
   | succ j=>simp at hv
   | zero=>
    simp at hv; subst hv
    have hi':i<(Lib.decDigits n).length:=by simpa [a0W] using hi
    have:=hcell i hi'
    simpa [a0W,Ty.cells] using this)
  rw [a9p] at hsrc
  obtain ⟨v',w',G',hrun,hI',hown'⟩:=a9i (ty:=22) j9 (t:=22) (t':=22) (ti:=⟨.sl yU,5,[],24⟩) rfl rfl rfl rfl hgr (by decide) hown hsrc (by rw [a9p]; omega)
  refine ⟨v',w',hrun,.one (.fr 5 yU (xs++a0W n)),[],fun _=>False,?_⟩
  obtain ⟨bo,hG,hv⟩:=hown'
  refine ⟨[bo],hK,hI'.since,fun b h=>h.elim,fun i b' hi=>?_,⟨bo,rfl,?_⟩,trivial⟩
  ·cases i with
   | succ i=>simp at hi
   | zero=>
    simp at hi; subst hi
    refine ⟨?_,(hI'.own _ _ b' hG rfl).2.1,fun h=>h,fun j hj=>?_⟩
    ·rcases hI'.tok_new hG with h | h
     ·exact .inl h
     ·exact .inr ⟨h.1,by show b'∉([]:List Nat); simp⟩
    ·cases j with
     | zero=>rfl
     | succ j=>simp at hj
  ·rcases hv with ⟨rfl,rfl,hx⟩ | ⟨b',rfl,hr⟩
   ·exact ⟨rfl,hx⟩
   ·exact V9.keep (x:=.fr 5 yU (xs++a0W n)) (b:=some b') (fun _ h=>.inl h) hr
end Go.VE
namespace Go.VE
open Go Go.Proofs
def c59 (xs:LI) (_ base:Int):Prop:=xs.length+20≤lim∧base=10
def c58 (xs:LI) (u _:Int):LI:=xs++a0W u.toNat
def e7w (v:j3 b5h) (K:Res→List Cell→Prop):Prop:=c59 v.1 v.2.1 v.2.2.1∧∀ r:LI,r=c58 v.1 v.2.1 v.2.2.1→K (.one (.fr 5 yU r)) []
def e5g:App:=specW b5h e7w
theorem c3K:∀ n:Fin 100,a56 (n.val:Int)=a0W n.val:=by decide +kernel
set_option maxRecDepth 20000 in
theorem d4C {n:Nat} (h:n<100):a9V (n:Int):=by
 unfold a9V
 rw [wrap_i64 (n:=(n:Int)+1) (by omega) (by omega),wrap_i64 (n:=(n:Int) * 2) (by omega) (by omega),wrap_i64 (n:=(n:Int) * 2+2) (by omega) (by omega)]
 by_cases h10:(n:Int)<10
 ·have e:decide ((n:Int)<10)=true:=by simpa using h10
  rw [e]
  simp only [cond_true,List.length_cons,List.length_nil]
  omega
 ·have e:decide ((n:Int)<10)=false:=by simpa using h10
  rw [e]
  simp only [cond_false,List.length_cons,List.length_nil]
  omega
theorem e5h:g8 Tryz.prog 195 e5g:=by
 intro ags K hs
 obtain ⟨v,rfl,hP,hK⟩:=G5 _ ags _ hs
 obtain ⟨xs,u,b,⟨⟩⟩:=v
 obtain ⟨hl,hb⟩:=hP
 change xs.length+20≤lim at hl
 change b=10 at hb
 subst hb
 refine a2C.when (p:=wfA b5h (xs,u,10,())) (fun I w vs bs ha=>o6.wf b5h _ ha) fun hw=>?_
 have h0:0≤u:=hw.2.1.1
 by_cases h100:u<100
 ·obtain ⟨n,rfl⟩:∃ n:Nat,u=(n:Int):=⟨Int.toNat u,(Int.toNat_of_nonneg h0).symm⟩
  have hn:n<100:=by
   have h100':(n:Int)<100:=h100
   omega
  have sd:a56 (n:Int)=a0W n:=c3K ⟨n,hn⟩
  refine e4R (mkA b79 (xs,(n:Int),(10:Int),())) K (a2x b79 (xs,(n:Int),(10:Int),()) (fun v=>e4P v fun r o=>wfR r→K r o) ⟨?_,fun r hr=>?_⟩)
  ·show d2h xs (n:Int) 10
   unfold d2h
   have e:decide ((n:Int)<100)=true:=by simpa using h100
   rw [e,wrap_i64 (by omega) (by omega)]
   show a9V (n:Int)∧_
   refine ⟨d4C hn,?_⟩
   show xs.length+(a56 (n:Int)).length≤lim
   rw [sd,a9p]
   have:Lib.nDigits n≤2:=by
    have:∀ n:Fin 100,Lib.nDigits n.val≤2:=by decide +kernel
    exact this ⟨n,hn⟩
   omega
  ·refine hK r ?_
   rw [hr]
   show d2g xs (n:Int) 10=xs++a0W (Int.toNat (n:Int))
   unfold d2g
   have e:decide ((n:Int)<100)=true:=by simpa using h100
   rw [e,wrap_i64 (by omega) (by omega),Int.toNat_natCast]
   show xs++a56 (n:Int)=_
   rw [sd]
 ·refine a2C.mono (Ok:=fun r o=>wfR r→K r o) (.inl ⟨enters_of Tryz.func195 (by kernel_rfl),d1S xs u (Int.not_lt.1 h100) hl (fun hwf=>hK _ rfl hwf)⟩) (fun r o I w v fb hr hk=>hk (Q9.wf hr)) fun n hk=>hk trivial
end Go.VE
namespace Go.VE
set_option maxRecDepth 20000
open Go Go.Proofs
def e5U:List (Nat×App):=[(195,e5g)]
theorem e07:GOk Tryz.prog (j8 e5U):=GOk.cons e5h (GOk.nil)
def c8A (dst0:LI) (i1:Int) (base2:Int) (K:Res→List Cell→Prop):Prop:=
 bif (decide (i1<(0:Int))) then
 bif decide (List.length dst0+List.length ([(45:Int)]:LI)≤lim) then
 c59 (dst0++([(45:Int)]:LI)) (IntKind.wrap .u64 (0 - (IntKind.wrap .u64 i1))) base2∧(
 ∀ (r1:LI),r1=c58 (dst0++([(45:Int)]:LI)) (IntKind.wrap .u64 (0 - (IntKind.wrap .u64 i1))) base2→(
 wfR (.one (.fr 5 yU r1))→(
 K (.one (.fr 5 yU r1)) [])))
 else False
 else
 c59 dst0 (IntKind.wrap .u64 i1) base2∧(
 ∀ (r2:LI),r2=c58 dst0 (IntKind.wrap .u64 i1) base2→(
 wfR (.one (.fr 5 yU r2))→(
 K (.one (.fr 5 yU r2)) [])))
def c8x:List AS:=[.o 5 yU,.v yI,.v yI]
def c8z (dst0:LI) (i1:Int) (base2:Int):Prop:=
 bif (decide (i1<(0:Int))) then
 (List.length dst0+List.length ([(45:Int)]:LI)≤lim)∧(
 c59 (dst0++([(45:Int)]:LI)) (IntKind.wrap .u64 (0 - (IntKind.wrap .u64 i1))) base2)
 else
 c59 dst0 (IntKind.wrap .u64 i1) base2
def c8y (dst0:LI) (i1:Int) (base2:Int):LI:=
 bif (decide (i1<(0:Int))) then
 let r1:LI:=c58 (dst0++([(45:Int)]:LI)) (IntKind.wrap .u64 (0 - (IntKind.wrap .u64 i1))) base2
 r1
 else
 let r2:LI:=c58 dst0 (IntKind.wrap .u64 i1) base2
 r2
theorem e5X (dst0:LI) (i1:Int) (base2:Int) (K:Res→List Cell→Prop) (_:wfA c8x (dst0,i1,base2,())) (hp:c8z dst0 i1 base2) (h:∀ r:LI,r=c8y dst0 i1 base2→K (.one (.fr 5 yU r)) []):c8A dst0 i1 base2 K:=
 br1 hp h (fun _ hp h=>as1 hp fun hp=>⟨hp,al (h _ rfl)⟩)
 fun _ hp h=>⟨hp,al (h _ rfl)⟩
def e7y (v:j3 c8x) (K:Res→List Cell→Prop):Prop:=c8z v.1 v.2.1 v.2.2.1∧∀ r:LI,r=c8y v.1 v.2.1 v.2.2.1→K (.one (.fr 5 yU r)) []
def e5V:App:=specW c8x e7y
theorem e5Y (K:Res→List Cell→Prop):∀ v:j3 c8x,q7 tb (j8 e5U) [] Tryz.f140 [true] (mkA c8x v) K=c8A v.1 v.2.1 v.2.2.1 K
 | (dst0,i1,base2,())=>by kernel_rfl
theorem e5W:g8 Tryz.prog 140 e5V:=
 g8.specW (l9 ((l8 o0 j9 e07 (g7.nil) (f:=140) (fn:=Tryz.f140) (by kernel_rfl) (by kernel_rfl) (by kernel_rfl) [true])) fun v K hw h=>(e5Y K v).mpr (e5X v.1 v.2.1 v.2.2.1 K hw h.1 h.2))
def d5y:List (Nat×App):=[(140,e5V)]
theorem d24:GOk Tryz.prog (j8 d5y):=GOk.cons e5W (GOk.nil)
def c0Z (dst0:LI) (i1:Int) (base2:Int) (K:Res→List Cell→Prop):Prop:=
 c8z dst0 i1 base2∧(
 ∀ (r1:LI),r1=c8y dst0 i1 base2→(
 wfR (.one (.fr 5 yU r1))→(
 K (.one (.fr 5 yU r1)) [])))
def b6e:List AS:=[.o 5 yU,.v yI,.v yI]
def a0O (dst0:LI) (i1:Int) (base2:Int):Prop:=
 c8z dst0 i1 base2
def Z7 (dst0:LI) (i1:Int) (base2:Int):LI:=
 let r1:LI:=c8y dst0 i1 base2
 r1
theorem d9b (dst0:LI) (i1:Int) (base2:Int) (K:Res→List Cell→Prop) (_:wfA b6e (dst0,i1,base2,())) (hp:a0O dst0 i1 base2) (h:∀ r:LI,r=Z7 dst0 i1 base2→K (.one (.fr 5 yU r)) []):c0Z dst0 i1 base2 K:=
 ⟨hp,al (h _ rfl)⟩
def e5q (v:j3 b6e) (K:Res→List Cell→Prop):Prop:=a0O v.1 v.2.1 v.2.2.1∧∀ r:LI,r=Z7 v.1 v.2.1 v.2.2.1→K (.one (.fr 5 yU r)) []
def d5z:App:=specW b6e e5q
theorem d9c (K:Res→List Cell→Prop):∀ v:j3 b6e,q7 tb (j8 d5y) [] Tryz.f91 [true] (mkA b6e v) K=c0Z v.1 v.2.1 v.2.2.1 K
 | (dst0,i1,base2,())=>by kernel_rfl
theorem d9a:g8 Tryz.prog 91 d5z:=
 g8.specW (l9 ((l8 o0 j9 d24 (g7.nil) (f:=91) (fn:=Tryz.f91) (by kernel_rfl) (by kernel_rfl) (by kernel_rfl) [true])) fun v K hw h=>(d9c K v).mpr (d9b v.1 v.2.1 v.2.2.1 K hw h.1 h.2))
def c14:List (Nat×App):=[(90,d6g),(91,d5z)]
theorem b4t:GOk Tryz.prog (j8 c14):=GOk.cons e13 (GOk.cons d9a (GOk.nil))
theorem b84:o8 (g6 Tryz.f48)=true:=by kernel_rfl
def a09:List LS:=[.b 1 8 [],.o 3 29 5 yU,.c 8 tyA]
def a2p:List LS:=[.o 2 21 5 yU]
def c15:DX:=⟨none,some a2p,[]⟩
def d3S (k:Ex→St→Prop) (x2:LI):Prop:=wfD a2p (x2,())→k .ret (mkD 69 a2p (x2,()))
def a79 (kr:LI→Prop) (out3:LI) (a1b:tAd):Prop:=
 bif (decide (a1b.2.2.2.2.1=(0:Int))) then
 bif (!decide (a1b.1=(0:Int))) then
 kr out3
 else
 bif (decide (a1b.2.2.2.2.1<(0:Int))) then
 a0O out3 a1b.2.2.2.2.1 (10:Int)∧(
 ∀ (r3:LI),r3=Z7 out3 a1b.2.2.2.2.1 (10:Int)→(
 wfR (.one (.fr 5 yU r3))→(
 kr r3)))
 else
 bif decide (List.length out3+List.length ([(43:Int)]:LI)≤lim) then
 a0O (out3++([(43:Int)]:LI)) a1b.2.2.2.2.1 (10:Int)∧(
 ∀ (r4:LI),r4=Z7 (out3++([(43:Int)]:LI)) a1b.2.2.2.2.1 (10:Int)→(
 wfR (.one (.fr 5 yU r4))→(
 kr r4)))
 else False
 else
 bif (decide (a1b.2.2.2.2.1<(0:Int))) then
 a0O out3 a1b.2.2.2.2.1 (10:Int)∧(
 ∀ (r5:LI),r5=Z7 out3 a1b.2.2.2.2.1 (10:Int)→(
 wfR (.one (.fr 5 yU r5))→(
 kr r5)))
 else
 bif decide (List.length out3+List.length ([(43:Int)]:LI)≤lim) then
 a0O (out3++([(43:Int)]:LI)) a1b.2.2.2.2.1 (10:Int)∧(
 ∀ (r6:LI),r6=Z7 (out3++([(43:Int)]:LI)) a1b.2.2.2.2.1 (10:Int)→(
 wfR (.one (.fr 5 yU r6))→(
 kr r6)))
 else False
def c9E (k:Ex→St→Prop) (v:l6 a09):Prop:=a79 (d3S k) v.1 v.2.1
theorem e2g (k:Ex→St→Prop):∀ v:l6 a09,ex tb (j8 c14) [] (at' (g6 Tryz.f48) [1,1,1,1]) [1,1,1,1] (mkD 69 a09 v) (wk 69 c15 k)=c9E k v
 | (out3,a1b,())=>by kernel_rfl
def c9B:Pce:=fun st k=>ckD 69 a09 st fun v=>wfD a09 v→c9E k v
theorem e2j:j5 Tryz.prog (at' (g6 Tryz.f48) [1,1,1,1]) c9B:=
 (j5.wk (N:=69) (ds:=a09) (dx:=c15) (l3 o0 j9 b4t (g7.nil) (at' (g6 Tryz.f48) [1,1,1,1]) [1,1,1,1] rfl (g9 b84 [1,1,1,1]))).mono fun st k h=>l4 h fun v hv hw=>Eq.mpr (e2g k v) (hv hw)
def b83:q8:=([1,1,1,1],c9B)::[]
theorem c9D:g7 Tryz.prog (g6 Tryz.f48) b83:=g7.cons e2j (g7.nil)
def a3Z:List LS:=[.b 1 8 [],.o 3 29 5 yU,.v 8 yU,.v 24 .bool,.c 8 tyA]
def a64:List LS:=[.b 1 8 [],.o 3 29 5 yU,.c 8 tyA]
def c16:DX:=⟨some a64,none,[]⟩
def d3T (k:Ex→St→Prop) (out3:LI) (a1b:tAd):Prop:=wfD a64 (out3,a1b,())→k .nrm (mkD 69 a64 (out3,a1b,()))
def b4u (kn:LI→tAd→Prop) (out3:LI) (x8:Int) (x24:Bool) (a1b:tAd):Prop:=
 bif x24 then
 (
 (
 bif decide (List.length out3+List.length ([a1b.1]:LI)≤lim) then
 (
 bif decide (List.length (out3++([a1b.1]:LI))+List.length a1b.2.2.2.1≤lim) then
 bif decide (List.length ((out3++([a1b.1]:LI))++a1b.2.2.2.1)+List.length ([a1b.1]:LI)≤lim) then
 kn (((out3++([a1b.1]:LI))++a1b.2.2.2.1)++([a1b.1]:LI)) a1b
 else False
 else False)∧(
 bif decide (List.length (out3++([a1b.1]:LI))+List.length a1b.2.2.2.1≤lim) then
 bif decide (List.length ((out3++([a1b.1]:LI))++a1b.2.2.2.1)+List.length ([a1b.1]:LI)≤lim) then
 kn (((out3++([a1b.1]:LI))++a1b.2.2.2.1)++([a1b.1]:LI)) a1b
 else False
 else False)∧True
 else False)∧(
 bif decide (List.length out3+List.length ([a1b.1]:LI)≤lim) then
 bif decide (List.length (out3++([a1b.1]:LI))+List.length a1b.2.2.2.1≤lim) then
 bif decide (List.length ((out3++([a1b.1]:LI))++a1b.2.2.2.1)+List.length ([a1b.1]:LI)≤lim) then
 kn (((out3++([a1b.1]:LI))++a1b.2.2.2.1)++([a1b.1]:LI)) a1b
 else False
 else False
 else False)∧True)∧(
 bif decide (List.length out3+List.length ([a1b.1]:LI)≤lim) then
 bif decide (List.length (out3++([a1b.1]:LI))+List.length a1b.2.2.2.1≤lim) then
 bif decide (List.length ((out3++([a1b.1]:LI))++a1b.2.2.2.1)+List.length ([a1b.1]:LI)≤lim) then
 kn (((out3++([a1b.1]:LI))++a1b.2.2.2.1)++([a1b.1]:LI)) a1b
 else False
 else False
 else False)∧True
 else
 bif (decide (x8=(46:Int))) then
 bif (decide (x8=(46:Int))) then
 bif decide (List.length out3+List.length ([a1b.1]:LI)≤lim) then
 kn (out3++([a1b.1]:LI)) a1b
 else False
 else
 kn out3 a1b
 else
 bif (decide (x8=(36:Int))) then
 bif decide (List.length out3+List.length ([a1b.1]:LI)≤lim) then
 kn (out3++([a1b.1]:LI)) a1b
 else False
 else
 kn out3 a1b
def c9F (k:Ex→St→Prop) (v:l6 a3Z):Prop:=b4u (d3T k) v.1 v.2.1 v.2.2.1 v.2.2.2.1
theorem e2h (k:Ex→St→Prop):∀ v:l6 a3Z,ex tb (j8 c14) b83 (at' (g6 Tryz.f48) [1,1,1,1,1,0,1,0,1,1,1]) [1,1,1,1,1,0,1,0,1,1,1] (mkD 69 a3Z v) (wk 69 c16 k)=c9F k v
 | (out3,x8,x24,a1b,())=>by kernel_rfl
def c9C:Pce:=fun st k=>ckD 69 a3Z st fun v=>wfD a3Z v→c9F k v
theorem e2k:j5 Tryz.prog (at' (g6 Tryz.f48) [1,1,1,1,1,0,1,0,1,1,1]) c9C:=
 (j5.wk (N:=69) (ds:=a3Z) (dx:=c16) (l3 o0 j9 b4t (c9D) (at' (g6 Tryz.f48) [1,1,1,1,1,0,1,0,1,1,1]) [1,1,1,1,1,0,1,0,1,1,1] rfl (g9 b84 [1,1,1,1,1,0,1,0,1,1,1]))).mono fun st k h=>l4 h fun v hv hw=>Eq.mpr (e2h k v) (hv hw)
def c9A:q8:=([1,1,1,1,1,0,1,0,1,1,1],c9C)::b83
theorem e2d:g7 Tryz.prog (g6 Tryz.f48) c9A:=g7.cons e2k (c9D)
def c17 (a0:tAd) (K:Res→List Cell→Prop):Prop:=
 b2B a0∧(
 ∀ (r1:Bool),r1=b0Y a0→(
 wB r1→(
 bif (!r1) then
 K (.one (.fr 5 yU ([]:LI))) []
 else
 bif (decide (a0.1=(110:Int))) then
 a0O ([]:LI) a0.2.1 (10:Int)∧(
 ∀ (r2:LI),r2=Z7 ([]:LI) a0.2.1 (10:Int)→(
 wfR (.one (.fr 5 yU r2))→(
 (wfD a09 (r2,a0,())→a79 (fun (x2:LI)=>wfD a2p (x2,())→(
 K (.one (.fr 5 yU x2)) [])) r2 a0))))
 else
 bif (decide (a0.1=(39:Int))) then
 bif decide (List.length ([]:LI)+List.length ([a0.1,a0.2.2.1]:LI)≤lim) then
 (wfD a09 ((([]:LI)++([a0.1,a0.2.2.1]:LI)),a0,())→a79 (fun (x2:LI)=>wfD a2p (x2,())→(
 K (.one (.fr 5 yU x2)) [])) (([]:LI)++([a0.1,a0.2.2.1]:LI)) a0)
 else False
 else
 bif (decide (a0.1=(47:Int))) then
 (wfD a3Z (([]:LI),a0.1,(decide (a0.1=(47:Int))),a0,())→b4u (fun (out3:LI) (a1b:tAd)=>wfD a64 (out3,a1b,())→(
 (wfD a09 (out3,a1b,())→a79 (fun (x2:LI)=>wfD a2p (x2,())→(
 K (.one (.fr 5 yU x2)) [])) out3 a1b))) ([]:LI) a0.1 (decide (a0.1=(47:Int))) a0)
 else
 (wfD a3Z (([]:LI),a0.1,(decide (a0.1=(63:Int))),a0,())→b4u (fun (out3:LI) (a1b:tAd)=>wfD a64 (out3,a1b,())→(
 (wfD a09 (out3,a1b,())→a79 (fun (x2:LI)=>wfD a2p (x2,())→(
 K (.one (.fr 5 yU x2)) [])) out3 a1b))) ([]:LI) a0.1 (decide (a0.1=(63:Int))) a0))))
def b60:List AS:=[.v tyA]
def a0z (out3:LI) (a1b:tAd):Prop:=
 bif (decide (a1b.2.2.2.2.1=(0:Int))) then
 bif (!decide (a1b.1=(0:Int))) then
 True
 else
 bif (decide (a1b.2.2.2.2.1<(0:Int))) then
 a0O out3 a1b.2.2.2.2.1 (10:Int)
 else
 (List.length out3+List.length ([(43:Int)]:LI)≤lim)∧(
 a0O (out3++([(43:Int)]:LI)) a1b.2.2.2.2.1 (10:Int))
 else
 bif (decide (a1b.2.2.2.2.1<(0:Int))) then
 a0O out3 a1b.2.2.2.2.1 (10:Int)
 else
 (List.length out3+List.length ([(43:Int)]:LI)≤lim)∧(
 a0O (out3++([(43:Int)]:LI)) a1b.2.2.2.2.1 (10:Int))
def a0y (out3:LI) (a1b:tAd):LI:=
 bif (decide (a1b.2.2.2.2.1=(0:Int))) then
 bif (!decide (a1b.1=(0:Int))) then
 (out3)
 else
 bif (decide (a1b.2.2.2.2.1<(0:Int))) then
 let r3:LI:=Z7 out3 a1b.2.2.2.2.1 (10:Int)
 (r3)
 else
 let r4:LI:=Z7 (out3++([(43:Int)]:LI)) a1b.2.2.2.2.1 (10:Int)
 (r4)
 else
 bif (decide (a1b.2.2.2.2.1<(0:Int))) then
 let r5:LI:=Z7 out3 a1b.2.2.2.2.1 (10:Int)
 (r5)
 else
 let r6:LI:=Z7 (out3++([(43:Int)]:LI)) a1b.2.2.2.2.1 (10:Int)
 (r6)
theorem a4S (kr:LI→Prop) (out3:LI) (a1b:tAd) (hp:a0z out3 a1b) (hr:∀ q:LI,q=a0y out3 a1b→kr q):a79 kr out3 a1b:=
 have h:=hr; br1 hp h (fun _ hp h=>br1 hp h (fun _ hp h=>h _ rfl)
 fun _ hp h=>br1 hp h (fun _ hp h=>⟨hp,al (h _ rfl)⟩)
 fun _ hp h=>as1 hp fun hp=>⟨hp,al (h _ rfl)⟩)
 fun _ hp h=>br1 hp h (fun _ hp h=>⟨hp,al (h _ rfl)⟩)
 fun _ hp h=>as1 hp fun hp=>⟨hp,al (h _ rfl)⟩
def a3Y (out3:LI) (x8:Int) (x24:Bool) (a1b:tAd):Prop:=
 bif x24 then
 (List.length out3+List.length ([a1b.1]:LI)≤lim)∧(
 (List.length (out3++([a1b.1]:LI))+List.length a1b.2.2.2.1≤lim)∧(
 (List.length ((out3++([a1b.1]:LI))++a1b.2.2.2.1)+List.length ([a1b.1]:LI)≤lim)))
 else
 bif (decide (x8=(46:Int))) then
 (List.length out3+List.length ([a1b.1]:LI)≤lim)
 else
 bif (decide (x8=(36:Int))) then
 (List.length out3+List.length ([a1b.1]:LI)≤lim)
 else
 True
def a0A (out3:LI) (x8:Int) (x24:Bool) (a1b:tAd):LI×tAd:=
 bif x24 then
 ((((out3++([a1b.1]:LI))++a1b.2.2.2.1)++([a1b.1]:LI)),a1b)
 else
 bif (decide (x8=(46:Int))) then
 ((out3++([a1b.1]:LI)),a1b)
 else
 bif (decide (x8=(36:Int))) then
 ((out3++([a1b.1]:LI)),a1b)
 else
 (out3,a1b)
theorem b2C (kn:LI→tAd→Prop) (out3:LI) (x8:Int) (x24:Bool) (a1b:tAd) (hp:a3Y out3 x8 x24 a1b) (hn:∀ q:LI×tAd,q=a0A out3 x8 x24 a1b→kn q.1 q.2):b4u kn out3 x8 x24 a1b:=
 have h:=hn; br1 hp h (fun _ hp h=>⟨⟨as1 hp fun hp=>⟨as1 hp fun hp=>as0 hp (h _ rfl),
 as1 hp fun hp=>as0 hp (h _ rfl),trivial⟩,
 as1 hp fun hp=>as1 hp fun hp=>as0 hp (h _ rfl),trivial⟩,
 as1 hp fun hp=>as1 hp fun hp=>as0 hp (h _ rfl),trivial⟩)
 fun _ hp h=>br1 hp h (fun c6 hp h=>bkn (fun c7=>as0 hp (h _ rfl)) fun c7=>absurd c6 (by simp only [decide_eq_true_eq,decide_eq_false_iff_not,Bool.not_eq_eq_eq_not,Bool.not_true,Bool.not_false,Bool.not_eq_true,Bool.not_eq_false] at c7 ⊢; first | exact c7 | omega))
 fun c6 hp h=>br1 hp h (fun _ hp h=>as0 hp (h _ rfl))
 fun _ hp h=>h _ rfl
def a5r (a0:tAd):Prop:=
 b2B a0∧(
 let r1:Bool:=b0Y a0
 bif (!r1) then
 True
 else
 bif (decide (a0.1=(110:Int))) then
 a0O ([]:LI) a0.2.1 (10:Int)∧(
 let r2:LI:=Z7 ([]:LI) a0.2.1 (10:Int)
 a0z r2 a0)
 else
 bif (decide (a0.1=(39:Int))) then
 (List.length ([]:LI)+List.length ([a0.1,a0.2.2.1]:LI)≤lim)∧(
 a0z (([]:LI)++([a0.1,a0.2.2.1]:LI)) a0)
 else
 bif (decide (a0.1=(47:Int))) then
 a3Y ([]:LI) a0.1 (decide (a0.1=(47:Int))) a0∧(
 let q1n:LI×tAd:=a0A ([]:LI) a0.1 (decide (a0.1=(47:Int))) a0
 let out3:LI:=q1n.1
 let a1b:tAd:=q1n.2
 a0z out3 a1b)
 else
 a3Y ([]:LI) a0.1 (decide (a0.1=(63:Int))) a0∧(
 let q1n:LI×tAd:=a0A ([]:LI) a0.1 (decide (a0.1=(63:Int))) a0
 let out3:LI:=q1n.1
 let a1b:tAd:=q1n.2
 a0z out3 a1b))
def a1O (a0:tAd):LI:=
 let r1:Bool:=b0Y a0
 bif (!r1) then
 ([]:LI)
 else
 bif (decide (a0.1=(110:Int))) then
 let r2:LI:=Z7 ([]:LI) a0.2.1 (10:Int)
 let q0r:LI:=a0y r2 a0
 let x2:LI:=q0r
 x2
 else
 bif (decide (a0.1=(39:Int))) then
 let q0r:LI:=a0y (([]:LI)++([a0.1,a0.2.2.1]:LI)) a0
 let x2:LI:=q0r
 x2
 else
 bif (decide (a0.1=(47:Int))) then
 let q1n:LI×tAd:=a0A ([]:LI) a0.1 (decide (a0.1=(47:Int))) a0
 let out3:LI:=q1n.1
 let a1b:tAd:=q1n.2
 let q0r:LI:=a0y out3 a1b
 let x2:LI:=q0r
 x2
 else
 let q1n:LI×tAd:=a0A ([]:LI) a0.1 (decide (a0.1=(63:Int))) a0
 let out3:LI:=q1n.1
 let a1b:tAd:=q1n.2
 let q0r:LI:=a0y out3 a1b
 let x2:LI:=q0r
 x2
theorem e2f (a0:tAd) (K:Res→List Cell→Prop) (_:wfA b60 (a0,())) (hp:a5r a0) (h:∀ r:LI,r=a1O a0→K (.one (.fr 5 yU r)) []):c17 a0 K:=
 an1 hp fun hp=>al (br1 hp h (fun _ hp h=>h _ rfl)
 fun _ hp h=>br1 hp h (fun _ hp h=>an1 hp fun hp=>al (fun _=>a4S _ _ _ hp (al (h _ rfl))))
 fun _ hp h=>br1 hp h (fun _ hp h=>as1 hp fun hp=>fun _=>a4S _ _ _ hp (al (h _ rfl)))
 fun _ hp h=>br1 hp h (fun _ hp h=>fun _=>b2C _ _ _ _ _ hp.1 (have hp:=hp.2; al (fun _=>a4S _ _ _ hp (al (h _ rfl)))))
 fun _ hp h=>fun _=>b2C _ _ _ _ _ hp.1 (have hp:=hp.2; al (fun _=>a4S _ _ _ hp (al (h _ rfl)))))
def e6i (v:j3 b60) (K:Res→List Cell→Prop):Prop:=a5r v.1∧∀ r:LI,r=a1O v.1→K (.one (.fr 5 yU r)) []
def d6h:App:=specW b60 e6i
theorem e2i (K:Res→List Cell→Prop):∀ v:j3 b60,q7 tb (j8 c14) c9A Tryz.f48 [true] (mkA b60 v) K=c17 v.1 K
 | (a0,())=>by kernel_rfl
theorem e2e:g8 Tryz.prog 48 d6h:=
 g8.specW (l9 ((l8 o0 j9 b4t (e2d) (f:=48) (fn:=Tryz.f48) (by kernel_rfl) (by kernel_rfl) b84 [true])) fun v K hw h=>(e2i K v).mpr (e2f v.1 K hw h.1 h.2))
end Go.VE
namespace Go.VE
open Go
theorem a9o:∀ (k n:Nat),n<10 ^ k→0<k→n<10000000000→a0W n=dec n
 | 0,n,h,h0,_=>absurd h0 (Nat.lt_irrefl 0)
 | k+1,n,h,_,hn=>by
  unfold a0W
  by_cases h1:n<10
  ·rw [Lib.decDigits_one h1,a4r h1]
   have:∀ i:Fin 10,((UInt8.ofNat (48+i.val)).toNat:Int)=48+(i.val:Int):=by decide
   simpa using this ⟨n,h1⟩
  ·rw [Lib.decDigits,dif_neg h1,List.map_append,a4q (by omega) hn]
   have hk:0<k:=by
    cases k with
    | zero=>simp at h; omega
    | succ k=>omega
   have:=a9o k (n / 10) (by rw [Nat.pow_succ] at h; omega) hk (by omega)
   unfold a0W at this
   rw [this]
   have h2:∀ i:Fin 10,((UInt8.ofNat (48+i.val)).toNat:Int)=48+(i.val:Int):=by decide
   have:=h2 ⟨n % 10,by omega⟩
   simp only [List.map_cons,List.map_nil]
   rw [this]
def nI (n:Int):LI:=if n<0 then 45::dec (-n).toNat else dec n.toNat
theorem a0I (n:Nat):(dec n).length≤10:=a2U 10 n
theorem b76 (n:Int):(nI n).length≤11:=by
 unfold nI
 have:=a0I (-n).toNat
 have:=a0I n.toNat
 split
 ·simp only [List.length_cons]; omega
 ·omega
theorem d1M {n:Int} (h1:-10000000000<n) (h2:n<0):IntKind.wrap .u64 (0 - IntKind.wrap .u64 n) = -n:=by
 have e:IntKind.wrap .u64 n=n+18446744073709551616:=by
  show n % (2 ^ 64:Int)=_
  omega
 rw [e]
 show (0 - (n+18446744073709551616)) % (2 ^ 64:Int)=_
 omega
theorem a7F (xs:LI) (n:Int) (h1:-10000000000<n) (h2:n<10000000000) (hx:xs.length+21≤lim):a0O xs n 10∧Z7 xs n 10=xs++nI n:=by
 unfold a0O Z7 c8z c8y nI
 by_cases h:n<0
 ·rw [decide_eq_true h,if_pos h,d1M h1 h]
  refine ⟨⟨by simp only [List.length_cons,List.length_nil]; omega,by simp only [List.length_append,List.length_cons,List.length_nil]; omega,rfl⟩,?_⟩
  show (xs++[45])++a0W (-n).toNat=_
  rw [a9o 10 _ (by omega) (by omega) (by omega),List.append_assoc]; rfl
 ·rw [decide_eq_false h,if_neg h,F9 (n:=n) (by omega) (by omega)]
  refine ⟨⟨by omega,rfl⟩,?_⟩
  show xs++a0W n.toNat=_
  rw [a9o 10 _ (by omega) (by omega) (by omega)]
def b46 (a:Adr):Bool:=a.2.2.2.2.2 && decide (-999999999≤a.2.2.2.2.1) && decide (a.2.2.2.2.1≤999999999) &&
 (if a.1=0∨a.1=46∨a.1=36∨a.1=39 then true else if a.1=110 then decide (0≤a.2.1) && decide (a.2.1≤999999999) else if a.1=47∨a.1=63 then decide (clo (a.2.2.2.1++[a.1]) a.1=a.2.2.2.1.length) else false)
def bsS (a:Adr):LI:=if a.1=110 then nI a.2.1 else if a.1=39 then [39,a.2.2.1] else if a.1=47∨a.1=63 then a.1::(a.2.2.2.1++[a.1]) else if a.1=46∨a.1=36 then [a.1] else []
def adT (a:Adr):LI:=if a.2.2.2.2.1=0∧a.1≠0 then [] else if a.2.2.2.2.1<0 then nI a.2.2.2.2.1 else 43::nI a.2.2.2.2.1
def adS (a:Adr):LI:=if b46 a=true then bsS a++adT a else []
theorem d4E (a:Adr) (ha:a.2.2.2.1.length+1≤lim):b2B a∧b0Y a=b46 a:=by
 obtain ⟨b,num,nam,tx,ad,g⟩:=a
 have hc:D9 tx:=by unfold D9; dsimp only at ha; omega
 have hq:a3Q (tx++[b]) b:=⟨rfl,by simp only [List.length_append,List.length_cons,List.length_nil]; exact ha⟩
 have hl:tx.length+([b]:LI).length≤lim:=ha
 unfold b2B b0Y b46
 dsimp only
 cases g
 ·exact ⟨trivial,rfl⟩
 by_cases h1:ad < -999999999
 ·rw [decide_eq_true h1,decide_eq_false (show ¬ -999999999≤ad by omega)]
  exact ⟨trivial,rfl⟩
 rw [decide_eq_false h1,decide_eq_true (show -999999999≤ad by omega)]
 by_cases h2:999999999<ad
 ·rw [decide_eq_true h2,decide_eq_false (show ¬ ad≤999999999 by omega)]
  exact ⟨trivial,rfl⟩
 rw [decide_eq_false h2,decide_eq_true (show ad≤999999999 by omega)]
 unfold a1N a0x a61 a3V
 simp only [a9l,F7]
 have hd:decide ((clo (tx++[b]) b:Int)=(tx.length:Int))=decide (clo (tx++[b]) b=tx.length):=decide_eq_decide.2 (by omega)
 rw [hd]
 by_cases c0:b=0
 ·subst c0; exact ⟨trivial,rfl⟩
 by_cases c1:b=46
 ·subst c1; exact ⟨trivial,rfl⟩
 by_cases c2:b=36
 ·subst c2; exact ⟨trivial,rfl⟩
 by_cases c3:b=39
 ·subst c3; exact ⟨trivial,rfl⟩
 rw [decide_eq_false c0,decide_eq_false c1,decide_eq_false c2,decide_eq_false c3,if_neg (show ¬ (b=0∨b=46∨b=36∨b=39) by simp [c0,c1,c2,c3])]
 by_cases c4:b=110
 ·rw [decide_eq_true c4,if_pos c4]
  refine ⟨trivial,?_⟩
  by_cases h5:0≤num
  ·rw [decide_eq_true h5]
   simp
  ·rw [decide_eq_false h5]
   simp
 rw [decide_eq_false c4,if_neg c4]
 by_cases c5:b=47
 ·rw [decide_eq_true c5,if_pos (show b=47∨b=63 from .inl c5)]
  refine ⟨⟨hc,hl,hq⟩,?_⟩
  simp
 rw [decide_eq_false c5]
 by_cases c6:b=63
 ·rw [decide_eq_true c6,if_pos (show b=47∨b=63 from .inr c6)]
  refine ⟨⟨hc,hl,hq⟩,?_⟩
  simp
 rw [decide_eq_false c6,if_neg (show ¬ (b=47∨b=63) by simp [c5,c6])]
 exact ⟨trivial,rfl⟩
theorem j0S (out:LI) (a:Adr) (h1:-999999999≤a.2.2.2.2.1) (h2:a.2.2.2.2.1≤999999999) (hx:out.length+22≤lim):a0z out a∧a0y out a=out++adT a:=by
 obtain ⟨p1,f1⟩:=a7F out a.2.2.2.2.1 (by omega) (by omega) (by omega)
 obtain ⟨p2,f2⟩:=a7F (out++[43]) a.2.2.2.2.1 (by omega) (by omega) (by simp only [List.length_append,List.length_cons,List.length_nil]; omega)
 have hl:out.length+([43]:LI).length≤lim:=by simp only [List.length_cons,List.length_nil]; omega
 have f2':Z7 (out++[43]) a.2.2.2.2.1 10=out++43::nI a.2.2.2.2.1:=by rw [f2,List.append_assoc]; rfl
 unfold a0z a0y adT
 simp only [f1,f2']
 by_cases h3:a.2.2.2.2.1=0
 ·rw [decide_eq_true h3,decide_eq_false (show ¬ a.2.2.2.2.1<0 by omega)]
  by_cases h4:a.1=0
  ·rw [decide_eq_true h4,if_neg (by simp [h4]),if_neg (by omega)]
   exact ⟨⟨hl,p2⟩,rfl⟩
  ·rw [decide_eq_false h4,if_pos ⟨h3,h4⟩,List.append_nil]
   exact ⟨trivial,rfl⟩
 ·rw [decide_eq_false h3,if_neg (fun h=>h3 h.1)]
  by_cases h5:a.2.2.2.2.1<0
  ·rw [decide_eq_true h5,if_pos h5]
   exact ⟨p1,rfl⟩
  ·rw [decide_eq_false h5,if_neg h5]
   exact ⟨⟨hl,p2⟩,rfl⟩
end Go.VE
namespace Go.VE
theorem d4D {a:Adr} (h:b46 a=true):-999999999≤a.2.2.2.2.1∧a.2.2.2.2.1≤999999999:=by
 unfold b46 at h
 simp only [Bool.and_eq_true,decide_eq_true_eq] at h
 exact ⟨h.1.1.2,h.1.2⟩
theorem b9I (a:Adr):(bsS a).length≤a.2.2.2.1.length+11:=by
 unfold bsS
 have:=b76 a.2.1
 repeat' split
 all_goals ((try simp only [List.length_cons,List.length_nil,List.length_append]); omega)
theorem d1Q (a:Adr):(adT a).length≤12:=by
 unfold adT
 have:=b76 a.2.2.2.2.1
 repeat' split
 all_goals ((try simp only [List.length_cons,List.length_nil]); omega)
theorem V4 (a:Adr):(adS a).length≤a.2.2.2.1.length+23:=by
 unfold adS
 have:=b9I a
 have:=d1Q a
 split
 ·rw [List.length_append]; omega
 ·simp only [List.length_nil]; omega
theorem b7O (a:Adr) (ha:a.2.2.2.1.length+100≤lim):a5r a∧a1O a=adS a:=by
 obtain ⟨sp,sf⟩:=d4E a (by omega)
 unfold a5r a1O adS
 simp only [sf]
 cases hs:b46 a
 ·exact ⟨⟨sp,trivial⟩,rfl⟩
 obtain ⟨h1,h2⟩:=d4D hs
 have hbl:=b9I a
 have jj:=j0S (bsS a) a h1 h2 (by omega)
 rw [if_pos rfl]
 by_cases c1:a.1=110
 ·have hnum:0≤a.2.1∧a.2.1≤999999999:=by
   unfold b46 at hs
   rw [if_neg (by omega),if_pos c1] at hs
   simp only [Bool.and_eq_true,decide_eq_true_eq] at hs
   exact hs.2
  obtain ⟨p,f⟩:=a7F [] a.2.1 (by omega) (by omega) (by simp only [List.length_nil]; omega)
  have e:bsS a=nI a.2.1:=by unfold bsS; rw [if_pos c1]
  rw [List.nil_append] at f
  rw [e] at jj
  rw [decide_eq_true c1]
  simp only [f,e]
  exact ⟨⟨sp,p,jj.1⟩,jj.2⟩
 rw [decide_eq_false c1]
 by_cases c2:a.1=39
 ·have e:bsS a=[a.1,a.2.2.1]:=by unfold bsS; rw [if_neg c1,if_pos c2,c2]
  rw [e] at jj
  rw [decide_eq_true c2,e]
  exact ⟨⟨sp,by simp only [List.length_cons,List.length_nil]; omega,jj.1⟩,jj.2⟩
 rw [decide_eq_false c2]
 -- the others
 have j1:a3Y [] a.1 (decide (a.1=47) || decide (a.1=63)) a∧a0A [] a.1 (decide (a.1=47) || decide (a.1=63)) a=(bsS a,a):=by
  unfold a3Y a0A bsS
  rw [if_neg c1,if_neg c2]
  by_cases c3:a.1=47∨a.1=63
  ·rw [if_pos c3,show (decide (a.1=47) || decide (a.1=63))=true by rcases c3 with h | h <;> simp [h]]
   refine ⟨⟨by simp only [List.length_cons,List.length_nil]; omega,by simp only [List.length_cons,List.length_nil,List.length_append]; omega,by simp only [List.length_cons,List.length_nil,List.length_append]; omega⟩,?_⟩
   simp
  ·have d1:¬ a.1=47:=fun h=>c3 (.inl h)
   have d2:¬ a.1=63:=fun h=>c3 (.inr h)
   rw [if_neg c3,show (decide (a.1=47) || decide (a.1=63))=false by simp [d1,d2]]
   have hl:([]:LI).length+[a.1].length≤lim:=by simp only [List.length_cons,List.length_nil]; omega
   by_cases c4:a.1=46
   ·rw [decide_eq_true c4,if_pos (.inl c4)]; exact ⟨hl,rfl⟩
   ·rw [decide_eq_false c4]
    by_cases c5:a.1=36
    ·rw [decide_eq_true c5,if_pos (.inr c5)]; exact ⟨hl,rfl⟩
    ·rw [decide_eq_false c5,if_neg (show ¬ (a.1=46∨a.1=36) by simp [c4,c5])]; exact ⟨trivial,rfl⟩
 by_cases c3:a.1=47
 ·rw [decide_eq_true c3,Bool.true_or] at j1
  rw [decide_eq_true c3]
  simp only [j1.2]
  exact ⟨⟨sp,j1.1,jj.1⟩,jj.2⟩
 ·rw [decide_eq_false c3,Bool.false_or] at j1
  rw [decide_eq_false c3]
  simp only [j1.2]
  exact ⟨⟨sp,j1.1,jj.1⟩,jj.2⟩
end Go.VE
namespace Go.VE
set_option maxRecDepth 20000
open Go Go.Proofs
def d5f:List (Nat×App):=[]
theorem d2R:GOk Tryz.prog (j8 d5f):=GOk.nil
def c0z (rv0:(LI×Int)) (K:Res→List Cell→Prop):Prop:=
 K (.one (.v .bool (decide ((List.length rv0.1:Int)≤rv0.2)))) [⟨.st (.pair yB yI),rv0⟩]
def b5V:List AS:=[.r none (.st (.pair yB yI))]
def L6 (rv0:(LI×Int)):Bool:=
 (decide ((List.length rv0.1:Int)≤rv0.2))
theorem d78 (rv0:(LI×Int)) (K:Res→List Cell→Prop) (_:wfA b5V (rv0,())) (h:∀ r:Bool,r=L6 rv0→K (.one (.v .bool r)) [⟨.st (.pair yB yI),rv0⟩]):c0z rv0 K:=
 h _ rfl
def e48 (v:j3 b5V) (K:Res→List Cell→Prop):Prop:=∀ r:Bool,r=L6 v.1→K (.one (.v .bool r)) [⟨.st (.pair yB yI),v.1⟩]
def a97:App:=specW b5V e48
theorem d79 (K:Res→List Cell→Prop):∀ v:j3 b5V,q7 tb (j8 d5f) [] Tryz.f41 [true] (mkA b5V v) K=c0z v.1 K
 | (rv0,())=>by kernel_rfl
theorem a7X:g8 Tryz.prog 41 a97:=
 g8.specW (l9 ((l8 o0 j9 d2R (g7.nil) (f:=41) (fn:=Tryz.f41) (by kernel_rfl) (by kernel_rfl) (by kernel_rfl) [true])) fun v K hw h=>(d79 K v).mpr (d78 v.1 K hw h))
def c5A:List (Nat×App):=[(41,a97)]
theorem c0u:GOk Tryz.prog (j8 c5A):=GOk.cons a7X (GOk.nil)
theorem c5F:o8 (g6 Tryz.f39)=true:=by kernel_rfl
def R9:List LS:=[.b 0 7 [],.c 7 (.st (.pair yB yI))]
def a6e:List LS:=[.c 7 (.st (.pair yB yI))]
def b3l:DX:=⟨none,none,[(0,a6e)]⟩
def a95 (k:Ex→St→Prop) (rv0b:(LI×Int)):Prop:=wfD a6e (rv0b,())→k (.exit 0) (mkD 38 a6e (rv0b,()))
def b3k (Y:(LI×Int)→Prop) (kx0:(LI×Int)→Prop) (rv0b:(LI×Int)):Prop:=
 ∀ (r1:Bool),r1=L6 rv0b→(
 wB r1→(
 bif (!r1) then
 (
 bif decide (0≤rv0b.2∧rv0b.2<(List.length rv0b.1:Int)) then
 bif (decide ((rd (0:Int) rv0b.1 rv0b.2)=(32:Int))) then
 Y (rv0b.1,(IntKind.wrap .i64 (rv0b.2+(1:Int))))
 else
 (
 bif decide (0≤rv0b.2∧rv0b.2<(List.length rv0b.1:Int)) then
 bif (decide ((rd (0:Int) rv0b.1 rv0b.2)=(9:Int))) then
 Y (rv0b.1,(IntKind.wrap .i64 (rv0b.2+(1:Int))))
 else
 kx0 rv0b
 else False)∧(
 bif decide (0≤rv0b.2∧rv0b.2<(List.length rv0b.1:Int)) then
 bif (decide ((rd (0:Int) rv0b.1 rv0b.2)=(9:Int))) then
 Y (rv0b.1,(IntKind.wrap .i64 (rv0b.2+(1:Int))))
 else
 kx0 rv0b
 else False)∧True
 else False)∧(
 bif decide (0≤rv0b.2∧rv0b.2<(List.length rv0b.1:Int)) then
 bif (decide ((rd (0:Int) rv0b.1 rv0b.2)=(32:Int))) then
 Y (rv0b.1,(IntKind.wrap .i64 (rv0b.2+(1:Int))))
 else
 (
 bif decide (0≤rv0b.2∧rv0b.2<(List.length rv0b.1:Int)) then
 bif (decide ((rd (0:Int) rv0b.1 rv0b.2)=(9:Int))) then
 Y (rv0b.1,(IntKind.wrap .i64 (rv0b.2+(1:Int))))
 else
 kx0 rv0b
 else False)∧(
 bif decide (0≤rv0b.2∧rv0b.2<(List.length rv0b.1:Int)) then
 bif (decide ((rd (0:Int) rv0b.1 rv0b.2)=(9:Int))) then
 Y (rv0b.1,(IntKind.wrap .i64 (rv0b.2+(1:Int))))
 else
 kx0 rv0b
 else False)∧True
 else False)∧True
 else
 kx0 rv0b))
def a01 (kx0:(LI×Int)→Prop):Nat→(LI×Int)→Prop
 | 0,_=>False
 | n+1,rv0b=>wfD R9 (rv0b,())→b3k (a01 kx0 n) kx0 rv0b
def c5C:Pce:=ex tb (j8 c5A) [] (at' (g6 Tryz.f39) [0,0]) [0,0]
def c5D (k:Ex→St→Prop) (n:Nat) (v:l6 R9):Prop:=a01 (a95 k) n v.1
theorem d7X (k:Ex→St→Prop) (Y:l6 R9→Prop):∀ v:l6 R9,c5C (mkD 38 R9 v) (lpK 38 R9 b3l k Y)=b3k (fun rv0b=>Y (rv0b,())) (a95 k) v.1
 | (rv0b,())=>by kernel_rfl
theorem c5G (k:Ex→St→Prop):∀ (n:Nat) (v:l6 R9),lpD 38 R9 b3l c5C k n v=c5D k n v
 | 0,(rv0b,())=>rfl
 | n+1,(rv0b,())=>congrArg (fun Z:Prop=>wfD R9 (rv0b,())→Z) ((d7X k _ (rv0b,())).trans (congrArg (fun Y=>b3k Y (a95 k) rv0b) (funext fun rv0b=>c5G k n (rv0b,()))))
def c5B:Pce:=fun st k=>ckD 38 R9 st fun v=>wfD R9 v→∃ n,c5D k n v
theorem d70:j5 Tryz.prog (at' (g6 Tryz.f39) [0]) c5B:=
 (j5.loop (l3 o0 j9 c0u (g7.nil) (at' (g6 Tryz.f39) [0,0]) [0,0] rfl (g9 c5F [0,0])) 38 R9 b3l).mono fun st k h=>l4 h fun v hv hw=>(hv hw).elim fun n hn=>⟨n,Eq.mpr (c5G k n v) hn⟩
def c5z:q8:=([0],c5B)::[]
theorem d7W:g7 Tryz.prog (g6 Tryz.f39) c5z:=g7.cons d70 (g7.nil)
def c0v (rv0:(LI×Int)) (K:Res→List Cell→Prop):Prop:=
 (wfD R9 (rv0,())→∃ n,a01 (fun (rv0b:(LI×Int))=>wfD a6e (rv0b,())→(
 K (.tup []) [⟨.st (.pair yB yI),rv0b⟩])) n rv0)
def b5T:List AS:=[.r none (.st (.pair yB yI))]
def P1 (rv:LI×Int):Prop:=0≤rv.2∧rv.2≤rv.1.length
def E0 (rv:LI×Int):LI×Int:=(rv.1,rv.2+(bls (rv.1.drop rv.2.toNat):Int))
theorem c5E (kx0:LI×Int→Prop) (s:LI) (hs:s.length≤9223372036854775807):∀ (n i:Nat),s.length<n+i→i≤s.length→kx0 (s,((i+bls (s.drop i):Nat):Int))→a01 kx0 n (s,(i:Int))
 | 0,i,hn,hi,h=>absurd hn (by omega)
 | n+1,i,hn,hi,h=>by
  intro _
  unfold b3k
  intro r hr _
  subst r
  unfold L6
  refine brb (fun he=>?_) (fun he=>?_)
  ·have hlt:i<s.length:=by simpa using he
   have hi':i<s.length:=by omega
   have hw:IntKind.wrap .i64 ((i:Int)+1)=((i+1:Nat):Int):=by rw [wrap_i64 (by omega) (by omega)]; omega
   dsimp only
   rw [D4 hi',hw]
   rw [D3 hi',a5N] at h
   have go:(s[i]=32∨s[i]=9)→a01 kx0 n (s,((i+1:Nat):Int)):=fun hb=>by
    rw [if_pos hb] at h
    exact c5E kx0 s hs n (i+1) (by omega) (by omega) (by rw [show i+1+bls (s.drop (i+1))=i+(bls (s.drop (i+1))+1) by omega]; exact h)
   have one:∀ {A:Prop},A→((bif decide (s[i]=9) then a01 kx0 n (s,((i+1:Nat):Int)) else kx0 (s,(i:Int)))→A)→A:=fun a _=>a
   have in2:¬ s[i]=32→(bif decide (0≤(i:Int)∧(i:Int)<(s.length:Int)) then (bif decide (s[i]=9) then a01 kx0 n (s,((i+1:Nat):Int)) else kx0 (s,(i:Int))) else False):=fun h32=>
    C1 (by omega) (brn (fun h9=>go (.inr h9)) (fun h9=>by rw [if_neg (fun hb=>hb.elim h32 h9)] at h; exact h))
   have in1:(bif decide (0≤(i:Int)∧(i:Int)<(s.length:Int)) then (bif decide (s[i]=32) then a01 kx0 n (s,((i+1:Nat):Int)) else
     ((bif decide (0≤(i:Int)∧(i:Int)<(s.length:Int)) then (bif decide (s[i]=9) then a01 kx0 n (s,((i+1:Nat):Int)) else kx0 (s,(i:Int))) else False)∧(bif decide (0≤(i:Int)∧(i:Int)<(s.length:Int)) then (bif decide (s[i]=9) then a01 kx0 n (s,((i+1:Nat):Int)) else kx0 (s,(i:Int))) else False)∧True)) else False):=
    C1 (by omega) (brn (fun h32=>go (.inl h32)) (fun h32=>⟨in2 h32,in2 h32,trivial⟩))
   exact ⟨in1,in1,trivial⟩
  ·have hge:s.length≤i:=by simpa using he
   rw [List.drop_eq_nil_of_le (by omega)] at h; exact h
theorem d7Y (rv0:LI×Int) (K:Res→List Cell→Prop) (hw:wfA b5T (rv0,())) (hp:P1 rv0) (h:∀ r:LI×Int,r=E0 rv0→K (.tup []) [⟨.st (.pair yB yI),r⟩]):c0v rv0 K:=by
 obtain ⟨s,a⟩:=rv0
 have hs:s.length≤9223372036854775807:=hw.1.1.1
 obtain ⟨h1,h2⟩:=hp
 obtain ⟨i,rfl⟩:=Int.eq_ofNat_of_zero_le (show 0≤a from h1)
 intro _
 exact ⟨s.length+1,c5E _ s hs _ i (by omega) (by have:(i:Int)≤s.length:=h2; omega) (fun _=>h _ (by unfold E0; dsimp only; rw [Int.toNat_natCast]; congr 1))⟩
def e43 (v:j3 b5T) (K:Res→List Cell→Prop):Prop:=P1 v.1∧∀ r:(LI×Int),r=E0 v.1→K (.tup []) [⟨.st (.pair yB yI),r⟩]
def a94:App:=specW b5T e43
theorem d7Z (K:Res→List Cell→Prop):∀ v:j3 b5T,q7 tb (j8 c5A) c5z Tryz.f39 [] (mkA b5T v) K=c0v v.1 K
 | (rv0,())=>by kernel_rfl
theorem a7V:g8 Tryz.prog 39 a94:=
 g8.specW (l9 ((l8 o0 j9 c0u (d7W) (f:=39) (fn:=Tryz.f39) (by kernel_rfl) (by kernel_rfl) c5F [])) fun v K hw h=>(d7Z K v).mpr (d7Y v.1 K hw h.1 h.2))
def d5g:List (Nat×App):=[(41,a97)]
theorem d2S:GOk Tryz.prog (j8 d5g):=GOk.cons a7X (GOk.nil)
def c0B (rv0:(LI×Int)) (b1:Int) (K:Res→List Cell→Prop):Prop:=
 ∀ (r1:Bool),r1=L6 rv0→(
 wB r1→(
 bif r1 then
 K (.one (.v .bool false)) [⟨.st (.pair yB yI),rv0⟩]
 else
 (
 bif decide (0≤rv0.2∧rv0.2<(List.length rv0.1:Int)) then
 bif (!decide ((rd (0:Int) rv0.1 rv0.2)=b1)) then
 K (.one (.v .bool false)) [⟨.st (.pair yB yI),rv0⟩]
 else
 K (.one (.v .bool true)) [⟨.st (.pair yB yI),(rv0.1,(IntKind.wrap .i64 (rv0.2+(1:Int))))⟩]
 else False)∧(
 bif decide (0≤rv0.2∧rv0.2<(List.length rv0.1:Int)) then
 bif (!decide ((rd (0:Int) rv0.1 rv0.2)=b1)) then
 K (.one (.v .bool false)) [⟨.st (.pair yB yI),rv0⟩]
 else
 K (.one (.v .bool true)) [⟨.st (.pair yB yI),(rv0.1,(IntKind.wrap .i64 (rv0.2+(1:Int))))⟩]
 else False)∧True))
def b5W:List AS:=[.r none (.st (.pair yB yI)),.v yU]
def L7 (rv0:(LI×Int)) (b1:Int):Prop:=
 let r1:Bool:=L6 rv0
 bif r1 then
 True
 else
 (0≤rv0.2∧rv0.2<(List.length rv0.1:Int))
def D7 (rv0:(LI×Int)) (b1:Int):Bool×(LI×Int):=
 let r1:Bool:=L6 rv0
 bif r1 then
 (false,rv0)
 else
 bif (!decide ((rd (0:Int) rv0.1 rv0.2)=b1)) then
 (false,rv0)
 else
 (true,(rv0.1,(IntKind.wrap .i64 (rv0.2+(1:Int)))))
theorem d8a (rv0:(LI×Int)) (b1:Int) (K:Res→List Cell→Prop) (_:wfA b5W (rv0,b1,())) (hp:L7 rv0 b1) (h:∀ r:Bool×(LI×Int),r=D7 rv0 b1→K (.one (.v .bool r.1)) [⟨.st (.pair yB yI),r.2⟩]):c0B rv0 b1 K:=
 al (br1 hp h (fun _ hp h=>h _ rfl)
 fun _ hp h=>⟨as0 hp (br0 h (fun _ h=>h _ rfl)
 fun _ h=>h _ rfl),
 as0 hp (br0 h (fun _ h=>h _ rfl)
 fun _ h=>h _ rfl),trivial⟩)
def e49 (v:j3 b5W) (K:Res→List Cell→Prop):Prop:=L7 v.1 v.2.1∧∀ r:Bool×(LI×Int),r=D7 v.1 v.2.1→K (.one (.v .bool r.1)) [⟨.st (.pair yB yI),r.2⟩]
def c0A:App:=specW b5W e49
theorem d8b (K:Res→List Cell→Prop):∀ v:j3 b5W,q7 tb (j8 d5g) [] Tryz.f81 [true] (mkA b5W v) K=c0B v.1 v.2.1 K
 | (rv0,b1,())=>by kernel_rfl
theorem b8k:g8 Tryz.prog 81 c0A:=
 g8.specW (l9 ((l8 o0 j9 d2S (g7.nil) (f:=81) (fn:=Tryz.f81) (by kernel_rfl) (by kernel_rfl) (by kernel_rfl) [true])) fun v K hw h=>(d8b K v).mpr (d8a v.1 v.2.1 K hw h.1 h.2))
theorem b9V (s:LI) (i:Nat) (b:Int) (h:i≤s.length) (hs:s.length≤lim):L7 (s,(i:Int)) b∧
  D7 (s,(i:Int)) b=(match s.drop i with | []=>(false,(s,(i:Int))) | c::_=>if c=b then (true,(s,((i+1:Nat):Int))) else (false,(s,(i:Int)))):=by
 unfold L7 D7 L6
 dsimp only
 rcases Nat.lt_or_ge i s.length with hi | hi
 ·have e:decide ((s.length:Int)≤(i:Int))=false:=by simpa using hi
  rw [e]
  refine ⟨⟨by omega,by omega⟩,?_⟩
  rw [cond_false,b42 _ _ _ hi,List.drop_eq_getElem_cons hi,wrap_i64 (by omega) (by unfold lim at hs; omega),show (i:Int)+1=((i+1:Nat):Int) by omega]
  by_cases hb:s[i]=b <;> simp [hb]
 ·have e:decide ((s.length:Int)≤(i:Int))=true:=by simpa using hi
  rw [e,List.drop_eq_nil_of_le hi]
  exact ⟨trivial,rfl⟩
end Go.VE
