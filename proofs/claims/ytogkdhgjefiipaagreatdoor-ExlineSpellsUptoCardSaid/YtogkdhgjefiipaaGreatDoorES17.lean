import Derived.Test.YtogkdhgjefiipaaGreatDoorES16
import Derived.Shelf.Spec.SlicesInsert
import Derived.Lib.Hide
set_option linter.unusedVariables false
set_option linter.unusedSectionVars false
set_option linter.unusedSimpArgs false
namespace Go.VE
open Go Go.RowKit Go.Lib
theorem b2Q {P:Program} {w:World} {b:Nat} {cur:Array Value} {el:TypeId} {fr:Nat×Nat} (hh:w.heap[b]?=some (.cells cur el fr)) (o l c:Nat):a8j P w (.slice (some ⟨b,o,none⟩) l c) (cur.toList.drop o):=
 b7v fun j v hj=>by
  rw [List.getElem?_drop,Array.getElem?_toList] at hj
  simp [World.cell?,hh,hj]
theorem a8j.take {P:Program} {w:World} {v:Value} {xs:List Value} (h:a8j P w v xs) (k:Nat):a8j P w v (xs.take k):=fun n d hn=>by
 rw [List.length_take] at hn
 rw [List.take_take,Nat.min_eq_left (by omega)]
 exact h n d (by omega)
theorem u3 {cur:Array Value} {o:Nat} {vs:List Value} (h:o+vs.length≤cur.size) (q:Nat):(lay cur o vs).toList[q]?=if o≤q∧q<o+vs.length then vs[q - o]? else cur.toList[q]?:=by
 have:=a5J (l:=cur.toList) (vs:=vs) (s:=o) (by rw [Array.length_toList]; exact h) q
 simpa [lay] using this
structure a7D (P:Program) (w:World) (b:Nat) (A:Option Addr) (m vc:Nat) (xs:LI):Prop where
 len:xs.length=m
 byte:∀ x∈xs,inR .u8 x
 rd:∀ w':World,(∀ k,k≠b→k<w.heap.size→w'.heap[k]?=w.heap[k]?)→a8j P w' (.slice A m vc) (bv xs)
 at':0<m→∃ vb vo,A=some ⟨vb,vo,none⟩∧vb≠b∧vb<w.heap.size∧∃ tA kA,w.shape? vb=some (tA,kA)∧kA≠0
theorem a7D.src {P:Program} {w:World} {b:Nat} {A:Option Addr} {m vc:Nat} {xs:LI} (h:a7D P w b A m vc xs) {t' el:Nat} (hu:P.underlying t'=some (.slice el)):Src P (fun _=>True) w t' (.int .u8) xs (.slice A m vc) (bv xs) where
 ty:=⟨_,hu,fun k h=>by cases h⟩
 len:=fun n=>by simp [Builtin.lenOf,h.len]
 cells:=fun n=>by
  have:=h.rd w (fun _ _ _=>rfl) xs.length n (Nat.le_of_eq (l7 xs).symm)
  rw [List.take_of_length_le (Nat.le_of_eq (l7 xs))] at this
  exact this
 size:=by rw [l7]; simp [Ty.cells]
 one:=a5z xs
 rep:=fun i hi=>⟨[.int .u8 xs[i]],⟨h.byte _ (List.getElem_mem hi),rfl⟩,fun j u hu=>by
  cases j with
  | succ j=>simp at hu
  | zero=>simp at hu; subst hu; simp [bv,Ty.cells,hi]⟩
theorem b5g {P:Program} {w:World} {t ty el:TypeId} {i:TypeInfo} (ht:P.underlying t=some (.slice el)) (hi:P.info? el=some i) (hz:i.zero=some (.int .u8 0)) (hs:i.size=1) (hby:i.bytes≤128)
  {b n c:Nat} {cur:Array Value} {fr:Nat×Nat} (hh:w.heap[b]?=some (.cells cur el fr)) (hfr:fr.1=fr.2) (hcz:c≤cur.size) (hnc:n≤c) {A:Option Addr} {m vc:Nat} {xs:LI} (h:a7D P w b A m vc xs) (hroom:n+m≤c) :
  (Builtin.append_ #[t,t] ty #[.slice (some ⟨b,0,none⟩) n c,.slice A m vc]).run P w=.ok (.slice (some ⟨b,0,none⟩) (n+m) c) (w.setRow b (lay cur n (bv xs))):=by
 have:=((Q7 (w:=w) (ty:=ty) (e:=.int .u8) ht hi hz hs hby (h.src ht)).2 b n c cur fr hh (.inl hfr) (by simpa [Ty.cells] using hcz) hnc).1 (by rw [h.len]; exact hroom)
 simpa [Ty.cells,h.len,lay] using this
theorem c30 {P:Program} {w:World} {t ty el:TypeId} {i:TypeInfo} (ht:P.underlying t=some (.slice el)) (hi:P.info? el=some i) (hz:i.zero=some (.int .u8 0)) (hs:i.size=1) (hby:i.bytes≤128)
  {b n c:Nat} {cur:Array Value} {fr:Nat×Nat} (hh:w.heap[b]?=some (.cells cur el fr)) (hfr:fr.1=fr.2) (hcz:c≤cur.size) (hnc:n≤c) {A:Option Addr} {m vc:Nat} {xs:LI} (h:a7D P w b A m vc xs) (hg:c<n+m) (hl:n+m≤lim) :
  ∃ R,(Builtin.append_ #[t,t] ty #[.slice (some ⟨b,0,none⟩) n c,.slice A m vc]).run P w=.ok (.slice (some ⟨w.heap.size,0,none⟩) (n+m) (grownCap w (n+m) c el)) (w.drew.alloc (.cells R el))∧
   R.toList.take (n+m)=cur.toList.take n++bv xs∧grownCap w (n+m) c el≤R.size:=by
 have:=((Q7 (w:=w) (ty:=ty) (e:=.int .u8) ht hi hz hs hby (h.src ht)).2 b n c cur fr hh (.inl hfr) (by simpa [Ty.cells] using hcz) hnc).2 (by rw [h.len]; exact hg) (by rw [h.len]; exact hl)
 rw [h.len] at this
 have hge:=grownCap_ge w (n+m) c el
 have hl1:(cur.toList.take n).length=n:=by rw [List.length_take,Array.length_toList]; omega
 refine ⟨_,this,?_,?_⟩
 ·simp only [Ty.cells,Nat.mul_one,Array.toList_append]
  rw [List.take_append_of_le_length (by simp [h.len,l7]; omega)]
  rw [List.take_of_length_le (by simp [h.len,l7]; omega)]
 ·simp only [Ty.cells,Nat.mul_one,Array.size_append,List.size_toArray,l7,h.len,hl1,size_zeroCells,p8,Value.cells]
  simp [Ty.agg,E1]
  omega
theorem b1J {P:Program} {w:World} {t tn el:TypeId} {i:TypeInfo} (ht:P.underlying t=some (.slice el)) (htn:P.underlying tn=some (.int .i64)) (hi:P.info? el=some i) (hz:i.zero=some (.int .u8 0)) (hs:i.size=1) (hby:i.bytes=1)
  {b n c:Nat} {cur:Array Value} {fr:Nat×Nat} (hh:w.heap[b]?=some (.cells cur el fr)) (hcz:n≤cur.size) (k:Nat) (h0:0<k) (hg:c<n+k) (hl:n+k≤lim) :
  ∃ R,(∀ ty,(Builtin.append_ #[t,tn] ty #[.slice (some ⟨b,0,none⟩) n c,.int .i64 (k:Int)]).run P w=.ok (.slice (some ⟨w.heap.size,0,none⟩) (n+k) (grownCap w (n+k) c el)) (w.drew.alloc (.cells R el)))∧
   R.toList.take n=cur.toList.take n∧grownCap w (n+k) c el≤R.size:=by
 have hl1:(cur.toList.take n).length=n:=by rw [List.length_take,Array.length_toList]; omega
 have hold:(Builtin.firstCells i.size n (.slice (some ⟨b,0,none⟩) n c)).run P w.drew=.ok (cur.toList.take n).toArray w.drew:=by
  rw [hs]
  have:=b2Q (P:=P) hh 0 n c n (w.drawn+1) (by rw [List.drop_zero,Array.length_toList]; exact hcz)
  rw [List.drop_zero] at this
  exact this
 have hge:=grownCap_ge w (n+k) c el
 have h1:=nextslicecap_le hg
 unfold lim at hl
 refine ⟨_,fun ty=>Lib.run_append_grow_zeros w t tn ty el i (.int .u8 0) .i64 .i64 ht htn hi hz (some ⟨b,0,none⟩) n c (cur.toList.take n) hold k h0 (by omega) hg (by omega) (by rw [hby]; omega) (by rw [hby]; omega),?_,?_⟩
 ·simp only [Array.toList_append]
  rw [List.append_assoc,List.take_append_of_le_length (by simp only [hl1]; exact Nat.le_refl _),List.take_of_length_le (by simp only [hl1]; exact Nat.le_refl _)]
 ·simp only [Array.size_append,List.size_toArray,hl1,size_zeroCells,Value.cells]
  simp
  omega
def a5K (w:World) (b:Nat) (zs:List Value) (v:Value) (w':World):Prop:=
 ∃ b' cap cur fr,v=.slice (some ⟨b',0,none⟩) zs.length cap∧(b'=b∨b'=w.heap.size)∧zs.length≤cap∧cap≤maxLen∧w'.heap[b']?=some (.cells cur 5 fr)∧fr.1=fr.2∧cap≤cur.size∧
  cur.toList.take zs.length=zs∧w.heap.size≤w'.heap.size∧(∀ k,k≠b→k<w.heap.size→w'.heap[k]?=w.heap[k]?)∧w'.os=w.os∧w'.tape=w.tape∧w'.output=w.output
end Go.VE
namespace Go.Proofs
open Go.Shelf Go.RowKit Go.Lib Go.VE
section
variable (b n c:Nat) (cur:Array Value) (fr:Nat×Nat) (w:World)
set_option maxHeartbeats 4000000 in
set_option maxRecDepth 100000 in
theorem c3e (hh:w.heap[b]?=some (.cells cur 5 fr)) (hfr:fr.1=fr.2) (hnc:n≤c) (hcm:c≤maxLen) (hcz:c≤cur.size) (A:Option Addr) (m vc:Nat) (xs:LI) (hs:a7D Tryz.prog w b A m vc xs) (hm:0<m)
  (i:Nat) (hi:i<n) (hroom:n+m≤c) (h1c:∀ v∈cur.toList.take n,v.oneCell'=true) :
  Calls Tryz.prog 124 #[.slice (some ⟨b,0,none⟩) n c,.int .i64 i,.slice A m vc] w fun e w'=>
   e=.returned (.slice (some ⟨b,0,none⟩) (n+m) c)∧w'=w.drew.setRow b (lay (lay cur (i+m) ((cur.toList.drop i).take (n - i))) i (bv xs)):=by
 obtain ⟨vb,vo,rfl,hvb,hvw,tA,kA,hsa,hkA⟩:=hs.at' hm
 have hz1:¬ ((m:Int)=0):=by omega
 have hz2:¬ ((i:Int)=(n:Int)):=by omega
 have hc63:c≤9223372036854775807:=hcm
 have hyl:=hs.len
 have hu22:Tryz.prog.underlying 22=some (.slice 5):=by kernel_rfl
 have hsz:(Tryz.prog.info? 5).map (·.size)=some 1:=by kernel_rfl
 have hsz5:∀ w,(sizeOf 5).run Tryz.prog w=.ok 1 w:=fun w=>by
  cases hq:Tryz.prog.info? 5 with
  | none=>simp [hq] at hsz
  | some i=>simp [sizeOf,typeInfo,hq]; simpa [hq] using hsz
 have hsb:w.shape? b=some (5,cur.size):=by simp [World.shape?,hh]
 have hfz:∀ o,w.frozen? ⟨b,o,none⟩=false:=fun o=>by simp [World.frozen?,hh]; omega
 have hov:∀ lb cb,(callFunc 125 #[.slice (some ⟨vb,vo,none⟩) m vc,.slice (some ⟨b,i+m,none⟩) lb cb]).run Tryz.prog w=.ok (.value (.bool false)) w:=fun lb cb=>by
  rw [run_callFunc_extern (fn:=Tryz.f125) rfl (by kernel_rfl) (by kernel_rfl) (by kernel_rfl) (e:=Extern.SlicesOverlaps.overlaps #[22,22] #[4]) (by kernel_rfl),
   a54 w 22 4 5 hu22 1 hsz5 ⟨vb,vo,none⟩ ⟨b,i+m,none⟩ m vc lb cb hvb tA 5 kA cur.size hsa hsb hkA (by omega) (.inl fun o=>⟨hfz o,hfz _⟩)]
  rfl
 have hw1:IntKind.i64.wrap ((i:Int)+(m:Int))=(i:Int)+(m:Int):=by rw [IntKind.wrap_i64]; omega
 have hb1:(0:Int)≤(i:Int)+(m:Int):=by omega
 have hin:i≤n:=by omega
 have htn:((i:Int)+(m:Int)).toNat=i+m:=by omega
 have hb2:¬ (c=i+m):=by omega
 have hb3:(i:Int)≤(n:Int)+(m:Int):=by omega
 have hb4:¬ (c=i):=by omega
 have hmin:Nat.min (n+m - i) (n+m - (i+m))=n - i:=by simp only [Nat.min_def]; split <;> omega
 have hmin2:Nat.min m (n+m - i)=m:=by simp only [Nat.min_def]; split <;> omega
 have hcp1:∀ ty dc sc,(Builtin.copy_ #[22,22] ty #[.slice (some ⟨b,i+m,none⟩) (n+m - (i+m)) dc,.slice (some ⟨b,i,none⟩) (n+m - i) sc]).run Tryz.prog w.drew=.ok (goInt ((n - i:Nat):Int)) (w.drew.setRow b (lay cur (i+m) ((cur.toList.drop i).take (n - i)))):=fun ty dc sc=>by
  have:=M4 (P:=Tryz.prog) w.drew 22 22 ty 5 hu22 hsz b (i+m) (n+m - (i+m)) dc cur fr hh hfr (some ⟨b,i,none⟩) (n+m - i) sc ((cur.toList.drop i).take (n - i)) ((b2Q (w:=w.drew) hh _ _ _).take _) (by rw [hmin]; simp; omega) (fun v hv=>h1c v (by rw [← List.drop_take] at hv; exact List.mem_of_mem_drop hv)) (by rw [hmin]; omega)
  rw [hmin,List.take_take,Nat.min_self] at this
  exact this
 obtain ⟨cur1,hc1⟩:∃ x,x=lay cur (i+m) ((cur.toList.drop i).take (n - i)):=⟨_,rfl⟩
 have hcs1:cur1.size=cur.size:=by rw [hc1,B5]; simp; omega
 have hcp2:∀ ty dc,(Builtin.copy_ #[22,22] ty #[.slice (some ⟨b,i,none⟩) (n+m - i) dc,.slice (some ⟨vb,vo,none⟩) m vc]).run Tryz.prog (w.drew.setRow b cur1)=.ok (goInt m) (w.drew.setRow b (lay cur1 i (bv xs))):=fun ty dc=>by
  have:=M4 (P:=Tryz.prog) (w.drew.setRow b cur1) 22 22 ty 5 hu22 hsz b i (n+m - i) dc cur1 fr (setRow_heap w.drew b cur cur1 _ fr hh) hfr (some ⟨vb,vo,none⟩) m vc (bv xs) (hs.rd _ fun k hk _=>setRow_other w.drew b k cur1 hk) (by rw [hmin2,l7]; omega) (a5z xs) (by rw [hmin2]; omega)
  rw [hmin2,List.take_of_length_le (by rw [l7]; omega),setRow_setRow] at this
  exact this
 rw [← hc1] at hcp1 ⊢
 have mixed:=o0
 clear hc1 hs hh hsa hsb hfz
 go_enter Tryz.func124,Tryz.ntmps124
 go_wp2_with (simp only [hov])
 go_region_law_o (refine step_copy_runI rfl _ _ 22 22 rfl _ _ (by simp [Act.eval,Act.put]) (by simp [Act.eval,Act.put]) (hcp1 _ _ _) ?_)
 go_wp2_with (at_builtin; refine wpList_copy_runI _ rfl _ _ 22 22 rfl _ _ rfl rfl (hcp2 _ _) ?_)
 go_ret
 exact ⟨rfl,rfl⟩
theorem b5b:∃ i,Tryz.prog.info? 5=some i∧i.zero=some (.int .u8 0)∧i.size=1∧i.bytes=1:=by
 obtain ⟨i,hi,h1,h2,h3⟩:=(j9 5 ⟨.int .u8,0,[],1⟩ rfl).info
 exact ⟨i,hi,h3,h1,h2⟩
set_option maxHeartbeats 4000000 in
set_option maxRecDepth 100000 in
theorem d14 (c:Nat) (A:Option Addr) (m vc:Nat) (hm:0<m) (v':Value) (w':World)
  (hrun:∀ ty,(Builtin.append_ #[22,22] ty #[.slice (some ⟨b,0,none⟩) n c,.slice A m vc]).run Tryz.prog w=.ok v' w') :
  Calls Tryz.prog 124 #[.slice (some ⟨b,0,none⟩) n c,.int .i64 n,.slice A m vc] w fun e w''=>e=.returned v'∧w''=w':=by
 have hz1:¬ ((m:Int)=0):=by omega
 have mixed:=o0
 go_enter Tryz.func124,Tryz.ntmps124
 go_wp2_with (at_builtin; refine Lib.wpList_append_run _ rfl _ _ _ _ rfl _ _ rfl rfl _ _ (hrun _) ?_)
 all_goals (go_ret; exact ⟨rfl,rfl⟩)
set_option maxHeartbeats 4000000 in
set_option maxRecDepth 100000 in
theorem c4q (hh:w.heap[b]?=some (.cells cur 5 fr)) (hfr:fr.1=fr.2) (hnc:n≤c) (hcm:c≤maxLen) (hcz:c≤cur.size) (A:Option Addr) (m vc:Nat) (xs:LI) (hs:a7D Tryz.prog w b A m vc xs) (hm:0<m)
  (i:Nat) (hi:i<n) (hroom:c<n+m) (hl:n+m≤lim) (h1c:∀ v∈cur.toList.take n,v.oneCell'=true)
  (R:Array Value) (hR:∀ ty,(Builtin.append_ #[22,3] ty #[.slice (some ⟨b,0,none⟩) i c,.int .i64 ((n+m - i:Nat):Int)]).run Tryz.prog w=.ok (.slice (some ⟨w.heap.size,0,none⟩) (i+(n+m - i)) (grownCap w (i+(n+m - i)) c 5)) (w.drew.alloc (.cells R 5)))
  (hRz:grownCap w (i+(n+m - i)) c 5≤R.size) :
  Calls Tryz.prog 124 #[.slice (some ⟨b,0,none⟩) n c,.int .i64 i,.slice A m vc] w fun e w'=>
   e=.returned (.slice (some ⟨w.heap.size,0,none⟩) (n+m) (grownCap w (n+m) c 5))∧w'=(((w.alloc (.cells R 5)).drew.setRow w.heap.size (lay R i (bv xs))).drew).setRow w.heap.size (lay (lay R i (bv xs)) (i+m) ((cur.toList.drop i).take (n - i))):=by
 have hz1:¬ ((m:Int)=0):=by omega
 have hz2:¬ ((i:Int)=(n:Int)):=by omega
 have hz3:(c:Int)<(n:Int)+(m:Int):=by omega
 have hc63:c≤9223372036854775807:=hcm
 have hxl:=hs.len
 have hu22:Tryz.prog.underlying 22=some (.slice 5):=by kernel_rfl
 have hsz:(Tryz.prog.info? 5).map (·.size)=some 1:=by kernel_rfl
 have hbw:b<w.heap.size:=by
  rcases Nat.lt_or_ge b w.heap.size with h | h
  ·exact h
  ·rw [Array.getElem?_eq_none h] at hh; cases hh
 have hkk:(n:Int)+(m:Int) - (i:Int)=((n+m - i:Nat):Int):=by omega
 have hik:i+(n+m - i)=n+m:=by omega
 rw [hik] at hR hRz
 rw [← hkk] at hR
 have hGn:=grownCap_ge w (n+m) c 5
 have hG63:=grownCap_le_maxLen w (n+m) c 5 (by unfold lim at hl; unfold maxLen; omega)
 generalize hG:grownCap w (n+m) c 5=G at *
 have hG63:G≤9223372036854775807:=hG63
 have hGi:¬ (G=i):=by omega
 have hGim:¬ (G=i+m):=by omega
 have hci:¬ (c=i):=by omega
 have hmin1:Nat.min m (n+m - i)=m:=by simp only [Nat.min_def]; split <;> omega
 have hmin2:Nat.min (n - i) (n+m - (i+m))=n - i:=by simp only [Nat.min_def]; split <;> omega
 have hnew:(w.alloc (.cells R 5)).drew.heap[w.heap.size]?=some (.cells R 5 (0,0)):=heap_alloc_new w _
 have hold:∀ k,k<w.heap.size→(w.alloc (.cells R 5)).drew.heap[k]?=w.heap[k]?:=fun k hk=>heap_alloc_old w _ hk
 have hcp1:∀ ty dc,(Builtin.copy_ #[22,22] ty #[.slice (some ⟨w.heap.size,i,none⟩) (n+m - i) dc,.slice A m vc]).run Tryz.prog (w.alloc (.cells R 5)).drew=.ok (goInt m) ((w.alloc (.cells R 5)).drew.setRow w.heap.size (lay R i (bv xs))):=fun ty dc=>by
  have:=M4 (P:=Tryz.prog) (w.alloc (.cells R 5)).drew 22 22 ty 5 hu22 hsz w.heap.size i (n+m - i) dc R (0,0) hnew rfl A m vc (bv xs) (hs.rd _ fun k _ hk=>hold k hk) (by rw [hmin1,l7]; omega) (a5z xs) (by rw [hmin1]; omega)
  rw [hmin1,List.take_of_length_le (by rw [l7]; omega)] at this
  exact this
 have hls:(lay R i (bv xs)).size=R.size:=B5 (by rw [l7]; omega)
 have hcp2:∀ ty dc sc,(Builtin.copy_ #[22,22] ty #[.slice (some ⟨w.heap.size,i+m,none⟩) (n+m - (i+m)) dc,.slice (some ⟨b,i,none⟩) (n - i) sc]).run Tryz.prog ((w.alloc (.cells R 5)).drew.setRow w.heap.size (lay R i (bv xs))).drew=.ok (goInt ((n - i:Nat):Int)) (((w.alloc (.cells R 5)).drew.setRow w.heap.size (lay R i (bv xs))).drew.setRow w.heap.size (lay (lay R i (bv xs)) (i+m) ((cur.toList.drop i).take (n - i)))):=fun ty dc sc=>by
  have hhb:((w.alloc (.cells R 5)).drew.setRow w.heap.size (lay R i (bv xs))).drew.heap[b]?=some (.cells cur 5 fr):=by
   show ((w.alloc (.cells R 5)).drew.setRow w.heap.size (lay R i (bv xs))).heap[b]?=_
   rw [setRow_other _ _ _ _ (by omega),hold b hbw]; exact hh
  have:=M4 (P:=Tryz.prog) ((w.alloc (.cells R 5)).drew.setRow w.heap.size (lay R i (bv xs))).drew 22 22 ty 5 hu22 hsz w.heap.size (i+m) (n+m - (i+m)) dc (lay R i (bv xs)) (0,0) (setRow_heap (w.alloc (.cells R 5)).drew w.heap.size R _ _ _ hnew) rfl (some ⟨b,i,none⟩) (n - i) sc ((cur.toList.drop i).take (n - i)) ((b2Q hhb _ _ _).take _) (by rw [hmin2]; simp; omega) (fun v hv=>h1c v (by rw [← List.drop_take] at hv; exact List.mem_of_mem_drop hv)) (by rw [hmin2]; omega)
  rw [hmin2,List.take_take,Nat.min_self] at this
  exact this
 have hw1:IntKind.i64.wrap ((i:Int)+(m:Int))=(i:Int)+(m:Int):=by rw [IntKind.wrap_i64]; omega
 have hb1:(0:Int)≤(i:Int)+(m:Int):=by omega
 have hin:i≤n:=by omega
 have htn:((i:Int)+(m:Int)).toNat=i+m:=by omega
 have hb3:(i:Int)≤(n:Int):=by omega
 have mixed:=o0
 generalize lay (lay R i (bv xs)) (i+m) ((cur.toList.drop i).take (n - i))=R2 at hcp2 ⊢
 generalize lay R i (bv xs)=R1 at hcp1 hcp2 ⊢
 clear hkk hik hs hh hnew hold hls hG
 go_enter Tryz.func124,Tryz.ntmps124
 go_wp2_with (first
  | (at_builtin; refine Lib.wpList_append_run _ rfl _ _ _ _ rfl _ _ rfl rfl _ _ (hR _) ?_)
  | (at_builtin; refine wpList_copy_runI _ rfl _ _ 22 22 rfl _ _ rfl rfl (hcp1 _ _) ?_))
 go_region_law_o (refine step_copy_runI rfl _ _ 22 22 rfl (.slice (some ⟨w.heap.size,i+m,none⟩) (n+m - (i+m)) (G - (i+m))) (.slice (some ⟨b,i,none⟩) (n - i) (c - i)) (by simp [Act.eval,Act.put]) (by simp [Act.eval,Act.put]) (hcp2 3 (G - (i+m)) (c - i)) ?_)
 go_wp2
 go_ret
 exact ⟨rfl,rfl⟩
set_option maxHeartbeats 4000000 in
set_option maxRecDepth 100000 in
theorem c4r (c:Nat) (A:Option Addr) (vc i:Nat) (hi:i≤n) :
  Calls Tryz.prog 124 #[.slice (some ⟨b,0,none⟩) n c,.int .i64 i,.slice A 0 vc] w fun e w''=>e=.returned (.slice (some ⟨b,0,none⟩) n c)∧w''=w:=by
 have mixed:=o0
 go_enter Tryz.func124,Tryz.ntmps124
 go_wp2
 all_goals (go_ret; exact ⟨rfl,rfl⟩)
end
end Go.Proofs
namespace Go.VE
open Go
theorem V3 {P:Program} (w:World) {ops:Array Oper} {rest:List Oper} {o:Oper} {a:Act} {Q:Exit→Act→World→Prop} (hgd:o.guard=none) (x:Operand) (t:TypeId)
  (ho:o.op=.call { callee:=.builtin .clear,args:=#[x],argTypes:=#[t] }) (vx:Value) (hx:a.eval x=vx)
  (v':Value) (w':World) (hr:(Builtin.clear_ #[t] o.type #[vx]).run P w=.ok v' w') (h:wpList P ops Q rest (a.put o.dst v') w'):wpList P ops Q (o::rest) a w:=by
 refine wpList_plain hgd fun K hK=>?_
 unfold Oper.wp
 have e:(execOp a.eval o).run P w=.ok (.value v') w':=by
  unfold execOp
  rw [ho]
  simp [invoke,resolve,builtin,hx,hr]
 rw [e]
 exact hK _ _ h
end Go.VE
namespace Go.Proofs
open Go.Shelf Go.RowKit Go.Lib Go.VE
section
variable (b n c:Nat) (cur:Array Value) (fr:Nat×Nat) (w:World)
set_option maxHeartbeats 4000000 in
set_option maxRecDepth 100000 in
theorem d4t (i:Nat) (hi:i≤n) (hnc:n≤c) (A:Option Addr) (m vc:Nat) (Post:Value→World→Prop)
  (hc:Calls Tryz.prog 124 #[.slice (some ⟨b,0,none⟩) n c,.int .i64 i,.slice A m vc] w fun e w'=>∃ u,e=.returned u∧Post u w') :
  Calls Tryz.prog 65 #[.slice (some ⟨b,0,none⟩) n c,.int .i64 i,.int .i64 i,.slice A m vc] w fun e w'=>∃ u,e=.returned u∧Post u w':=by
 have mixed:=o0
 have e58:∀ args w,(callFunc 124 args).run Tryz.prog w=.ok (.enter 124 args) w:=VE.enters_of Tryz.func124 (by kernel_rfl)
 have hic:i≤c:=by omega
 go_enter Tryz.func65,Tryz.ntmps65
 go_wp2_with (first
  | (go_at_fn 124; refine hc.mono ?_; rintro e w' ⟨u,rfl,hp⟩))
 all_goals (go_ret; exact ⟨_,rfl,hp⟩)
set_option maxHeartbeats 4000000 in
set_option maxRecDepth 100000 in
theorem d4s (i:Nat) (hi:i<n) (hnc:n≤c) (A:Option Addr) (m vc:Nat) (hm:n≤i+m) (B:Option Addr) (c':Nat) (w':World)
  (hrun:∀ ty,(Builtin.append_ #[22,22] ty #[.slice (some ⟨b,0,none⟩) i c,.slice A m vc]).run Tryz.prog w=.ok (.slice B (i+m) c') w') :
  Calls Tryz.prog 65 #[.slice (some ⟨b,0,none⟩) n c,.int .i64 i,.int .i64 n,.slice A m vc] w fun e w''=>e=.returned (.slice B (i+m) c')∧w''=w':=by
 have mixed:=o0
 have hin:i≤n:=by omega
 have hic:i≤c:=by omega
 have hz1:¬ ((i:Int)=(n:Int)):=by omega
 have hz2:¬ ((i:Int)+(m:Int)<(n:Int)):=by omega
 have hb4:¬ (c=i):=by omega
 go_enter Tryz.func65,Tryz.ntmps65
 go_wp2_with (at_builtin; refine Lib.wpList_append_run _ rfl _ _ _ _ rfl _ _ rfl rfl _ _ (hrun _) ?_)
 all_goals (go_ret; exact ⟨rfl,rfl⟩)
set_option maxHeartbeats 4000000 in
set_option maxRecDepth 100000 in
theorem d4r (hh:w.heap[b]?=some (.cells cur 5 fr)) (hfr:fr.1=fr.2) (i:Nat) (hi:i<n) (hnc:n≤c) (hcz:c≤cur.size) (A:Option Addr) (m vc:Nat) (xs:LI) (hs:a7D Tryz.prog w b A m vc xs) (hm:i+m<n) :
  Calls Tryz.prog 65 #[.slice (some ⟨b,0,none⟩) n c,.int .i64 i,.int .i64 n,.slice A m vc] w fun e w'=>
   e=.returned (.slice (some ⟨b,0,none⟩) (i+m) c)∧w'=w.setRow b (lay (lay cur i (bv xs)) (i+m) (List.replicate (n - (i+m)) (.int .u8 0))):=by
 have mixed:=o0
 have hin:i≤n:=by omega
 have hic:i≤c:=by omega
 have hz1:¬ ((i:Int)=(n:Int)):=by omega
 have hz2:(i:Int)+(m:Int)<(n:Int):=by omega
 have hb4:¬ (c=i):=by omega
 have hb5:¬ (c=i+m):=by omega
 have hb1:(0:Int)≤(i:Int)+(m:Int):=by omega
 have hb6:(i:Int)+(m:Int)≤(n:Int):=by omega
 have htn:((i:Int)+(m:Int)).toNat=i+m:=by omega
 have hu22:Tryz.prog.underlying 22=some (.slice 5):=by kernel_rfl
 obtain ⟨ti,h1,h2,h3,h4⟩:=b5b
 have hz:∀ w,(zeroValue 5).run Tryz.prog w=.ok (.int .u8 0) w:=fun w=>by simp [zeroValue,typeInfo,h1,h2]
 have hxl:=hs.len
 have hrun:∀ ty,(Builtin.append_ #[22,22] ty #[.slice (some ⟨b,0,none⟩) i c,.slice A m vc]).run Tryz.prog w=.ok (.slice (some ⟨b,0,none⟩) (i+m) c) (w.setRow b (lay cur i (bv xs))):=fun ty=>
  b5g (w:=w) hu22 h1 h2 h3 (by omega) hh hfr hcz hic hs (by omega)
 have hls:(lay cur i (bv xs)).size=cur.size:=B5 (by rw [l7]; omega)
 have hcl:∀ ty cc,(Builtin.clear_ #[22] ty #[.slice (some ⟨b,i+m,none⟩) (n - (i+m)) cc]).run Tryz.prog (w.setRow b (lay cur i (bv xs)))=.ok (.tuple #[]) (w.setRow b (lay (lay cur i (bv xs)) (i+m) (List.replicate (n - (i+m)) (.int .u8 0)))):=fun ty cc=>by
  have:=b1M (P:=Tryz.prog) (w.setRow b (lay cur i (bv xs))) 22 ty 5 hu22 hz b (i+m) (n - (i+m)) cc (lay cur i (bv xs)) fr (setRow_heap w b cur _ _ fr hh) hfr (by omega)
  rw [setRow_setRow] at this
  exact this
 generalize lay (lay cur i (bv xs)) (i+m) (List.replicate (n - (i+m)) (.int .u8 0))=R2 at hcl ⊢
 generalize lay cur i (bv xs)=R1 at hrun hcl hls ⊢
 clear hs hh hls
 go_enter Tryz.func65,Tryz.ntmps65
 go_wp2_with (first
  | (at_builtin; refine Lib.wpList_append_run _ rfl _ _ _ _ rfl _ _ rfl rfl _ _ (hrun _) ?_)
  | (at_builtin; refine V3 _ rfl _ _ rfl _ rfl _ _ (hcl _ _) ?_))
 all_goals (go_ret; exact ⟨rfl,rfl⟩)
set_option maxHeartbeats 4000000 in
set_option maxRecDepth 100000 in
theorem c3G (hh:w.heap[b]?=some (.cells cur 5 fr)) (hfr:fr.1=fr.2) (i j:Nat) (hi:i<j) (hj:j<n) (hnc:n≤c) (hcm:c≤maxLen) (hcz:c≤cur.size) (A:Option Addr) (m vc:Nat) (xs:LI) (hs:a7D Tryz.prog w b A m vc xs) (hm:i+m≤j) (h1c:∀ v∈cur.toList.take n,v.oneCell'=true) :
  Calls Tryz.prog 65 #[.slice (some ⟨b,0,none⟩) n c,.int .i64 i,.int .i64 j,.slice A m vc] w fun e w'=>
   e=.returned (.slice (some ⟨b,0,none⟩) (i+m+(n - j)) c)∧
    ∃ R3,w'=(w.drew.setRow b (lay cur i (bv xs))).drew.setRow b R3∧R3.size=cur.size∧∀ q,q<i+m+(n - j)→R3.toList[q]?=(lay (lay cur i (bv xs)) (i+m) ((cur.toList.drop j).take (n - j))).toList[q]?:=by
 have mixed:=o0
 have hc63:c≤9223372036854775807:=hcm
 have hxl:=hs.len
 have hu22:Tryz.prog.underlying 22=some (.slice 5):=by kernel_rfl
 have hsz:(Tryz.prog.info? 5).map (·.size)=some 1:=by kernel_rfl
 have hz1:¬ ((i:Int)=(j:Int)):=by omega
 have hz2:¬ ((j:Int)=(n:Int)):=by omega
 have hin:i≤n:=by omega
 have hjn:j≤n:=by omega
 have hij:i≤j:=by omega
 have hic:i≤c:=by omega
 have hjc:j≤c:=by omega
 have hci:¬ (c=i):=by omega
 have hcj:¬ (c=j):=by omega
 have hsub:((n - j:Nat):Int)=(n:Int) - (j:Int):=by omega
 have hw1:IntKind.i64.wrap ((i:Int)+(m:Int))=(i:Int)+(m:Int):=by rw [IntKind.wrap_i64]; omega
 have hw2:IntKind.i64.wrap ((i:Int)+(m:Int)+((n:Int) - (j:Int)))=(i:Int)+(m:Int)+((n:Int) - (j:Int)):=by rw [IntKind.wrap_i64]; omega
 have hw3:IntKind.i64.wrap ((n:Int) - (j:Int))=(n:Int) - (j:Int):=by rw [IntKind.wrap_i64]; omega
 have hb1:(0:Int)≤(i:Int)+(m:Int):=by omega
 have htn:((i:Int)+(m:Int)).toNat=i+m:=by omega
 have hT0:(0:Int)≤(i:Int)+(m:Int)+((n:Int) - (j:Int)):=by omega
 have hTn:((i:Int)+(m:Int)+((n:Int) - (j:Int))).toNat=i+m+(n - j):=by rw [show (i:Int)+(m:Int)+((n:Int) - (j:Int))=((i+m+(n - j):Nat):Int) by omega,Int.toNat_natCast]
 have hT:¬ ((c:Int)<(i:Int)+(m:Int)+((n:Int) - (j:Int))):=by omega
 have hT2:(i:Int)+(m:Int)+((n:Int) - (j:Int))≤(c:Int):=by omega
 have hT3:(i:Int)+(m:Int)+((n:Int) - (j:Int))≤(n:Int):=by omega
 have hT4:(i:Int)+(m:Int)≤(i:Int)+(m:Int)+((n:Int) - (j:Int)):=by omega
 have hT5:(i:Int)≤(i:Int)+(m:Int)+((n:Int) - (j:Int)):=by omega
 have hM:(i:Int)+(m:Int)≤(j:Int):=by omega
 have hcim:¬ (c=i+m):=by omega
 obtain ⟨ti,g1,g2,g3,g4⟩:=b5b
 have hz:∀ w,(zeroValue 5).run Tryz.prog w=.ok (.int .u8 0) w:=fun w=>by simp [zeroValue,typeInfo,g1,g2]
 have hmin1:Nat.min m (i+m+(n - j) - i)=m:=by simp only [Nat.min_def]; split <;> omega
 have hmin2:Nat.min (n - j) (i+m+(n - j) - (i+m))=n - j:=by simp only [Nat.min_def]; split <;> omega
 have hcp1:∀ ty dc,(Builtin.copy_ #[22,22] ty #[.slice (some ⟨b,i,none⟩) (i+m+(n - j) - i) dc,.slice A m vc]).run Tryz.prog w.drew=.ok (goInt m) (w.drew.setRow b (lay cur i (bv xs))):=fun ty dc=>by
  have:=M4 (P:=Tryz.prog) w.drew 22 22 ty 5 hu22 hsz b i (i+m+(n - j) - i) dc cur fr hh hfr A m vc (bv xs) (hs.rd _ fun k _ hk=>rfl) (by rw [hmin1,l7]; omega) (a5z xs) (by rw [hmin1]; omega)
  rw [hmin1,List.take_of_length_le (by rw [l7]; omega)] at this
  exact this
 have hls:(lay cur i (bv xs)).size=cur.size:=B5 (by rw [l7]; omega)
 have hdr:((lay cur i (bv xs)).toList.drop j).take (n - j)=(cur.toList.drop j).take (n - j):=by
  refine List.ext_getElem? fun q=>?_
  rw [List.getElem?_take,List.getElem?_take,List.getElem?_drop,List.getElem?_drop,u3 (by rw [l7]; omega),l7,if_neg (c:=i≤j+q∧j+q<i+xs.length) (by omega)]
 have hcp2:∀ ty dc sc,(Builtin.copy_ #[22,22] ty #[.slice (some ⟨b,i+m,none⟩) (i+m+(n - j) - (i+m)) dc,.slice (some ⟨b,j,none⟩) (n - j) sc]).run Tryz.prog (w.drew.setRow b (lay cur i (bv xs))).drew=.ok (goInt ((n - j:Nat):Int)) ((w.drew.setRow b (lay cur i (bv xs))).drew.setRow b (lay (lay cur i (bv xs)) (i+m) ((cur.toList.drop j).take (n - j)))):=fun ty dc sc=>by
  have hhb:(w.drew.setRow b (lay cur i (bv xs))).drew.heap[b]?=some (.cells (lay cur i (bv xs)) 5 fr):=setRow_heap w.drew b cur _ _ fr hh
  have:=M4 (P:=Tryz.prog) (w.drew.setRow b (lay cur i (bv xs))).drew 22 22 ty 5 hu22 hsz b (i+m) (i+m+(n - j) - (i+m)) dc (lay cur i (bv xs)) fr hhb hfr (some ⟨b,j,none⟩) (n - j) sc (((lay cur i (bv xs)).toList.drop j).take (n - j)) ((b2Q hhb _ _ _).take _) (by rw [hmin2]; simp; omega) (fun v hv=>h1c v (by rw [hdr,← List.drop_take] at hv; exact List.mem_of_mem_drop hv)) (by rw [hmin2]; omega)
  rw [hmin2,List.take_take,Nat.min_self,hdr] at this
  exact this
 have hls2:(lay (lay cur i (bv xs)) (i+m) ((cur.toList.drop j).take (n - j))).size=cur.size:=by rw [B5 (by simp; omega),hls]
 have hcl:∀ ty cc,(Builtin.clear_ #[22] ty #[.slice (some ⟨b,i+m+(n - j),none⟩) (n - (i+m+(n - j))) cc]).run Tryz.prog ((w.drew.setRow b (lay cur i (bv xs))).drew.setRow b (lay (lay cur i (bv xs)) (i+m) ((cur.toList.drop j).take (n - j))))=.ok (.tuple #[]) ((w.drew.setRow b (lay cur i (bv xs))).drew.setRow b (lay (lay (lay cur i (bv xs)) (i+m) ((cur.toList.drop j).take (n - j))) (i+m+(n - j)) (List.replicate (n - (i+m+(n - j))) (.int .u8 0)))):=fun ty cc=>by
  have hhb:(w.drew.setRow b (lay cur i (bv xs))).drew.heap[b]?=some (.cells (lay cur i (bv xs)) 5 fr):=setRow_heap w.drew b cur _ _ fr hh
  have:=b1M (P:=Tryz.prog) ((w.drew.setRow b (lay cur i (bv xs))).drew.setRow b (lay (lay cur i (bv xs)) (i+m) ((cur.toList.drop j).take (n - j)))) 22 ty 5 hu22 hz b (i+m+(n - j)) (n - (i+m+(n - j))) cc _ fr (setRow_heap _ b _ _ _ fr hhb) hfr (by rw [hls2]; omega)
  rw [setRow_setRow] at this
  exact this
 have hR3:(lay (lay (lay cur i (bv xs)) (i+m) ((cur.toList.drop j).take (n - j))) (i+m+(n - j)) (List.replicate (n - (i+m+(n - j))) (.int .u8 0))).size=cur.size∧∀ q,q<i+m+(n - j)→(lay (lay (lay cur i (bv xs)) (i+m) ((cur.toList.drop j).take (n - j))) (i+m+(n - j)) (List.replicate (n - (i+m+(n - j))) (.int .u8 0))).toList[q]?=(lay (lay cur i (bv xs)) (i+m) ((cur.toList.drop j).take (n - j))).toList[q]?:=
  ⟨by rw [B5 (by rw [List.length_replicate]; omega),hls2],fun q hq=>by rw [u3 (by rw [List.length_replicate]; omega),if_neg (by omega)]⟩
 have hcl0:n - (i+m+(n - j))=0→∀ W ty a cc,(Builtin.clear_ #[22] ty #[.slice a (n - (i+m+(n - j))) cc]).run Tryz.prog W=.ok (.tuple #[]) W:=fun h0 W ty a cc=>by
  rw [h0]; cases a <;> simp [Builtin.clear_,run_underlying hu22]
 generalize lay (lay (lay cur i (bv xs)) (i+m) ((cur.toList.drop j).take (n - j))) (i+m+(n - j)) (List.replicate (n - (i+m+(n - j))) (.int .u8 0))=R3 at hcl hR3 ⊢
 generalize lay (lay cur i (bv xs)) (i+m) ((cur.toList.drop j).take (n - j))=R2 at hcp2 hcl hls2 hR3 ⊢
 generalize lay cur i (bv xs)=R1 at hcp1 hcp2 hcl hls ⊢
 clear hs hh hls hdr
 by_cases hcT:c=i+m+(n - j)
 ·have hcl0:=hcl0 (by omega)
  clear hcl hR3
  go_enter Tryz.func65,Tryz.ntmps65
  go_wp2
  go_region_law_o (fail)
  all_goals (
  go_wp2_with (first
   | (at_builtin; refine wpList_copy_runI _ rfl _ _ 22 22 rfl _ _ rfl rfl (hcp1 _ _) ?_))
  go_region_law_o (refine step_copy_runI rfl _ _ 22 22 rfl (.slice (some ⟨b,i+m,none⟩) (i+m+(n - j) - (i+m)) (c - (i+m))) (.slice (some ⟨b,j,none⟩) (n - j) (c - j)) (by simp [Act.eval,Act.put] <;> omega) (by simp [Act.eval,Act.put] <;> omega) (hcp2 3 (c - (i+m)) (c - j)) ?_)
  go_wp2_with (first
   | (at_builtin; refine V3 _ rfl _ _ rfl _ rfl _ _ (hcl0 _ _ _ _) ?_))
  all_goals (go_ret; exact ⟨rfl,R2,rfl,hls2,fun _ _=>rfl⟩))
 ·clear hcl0
  go_enter Tryz.func65,Tryz.ntmps65
  go_wp2
  go_region_law_o (fail)
  all_goals (
  go_wp2_with (first
   | (at_builtin; refine wpList_copy_runI _ rfl _ _ 22 22 rfl _ _ rfl rfl (hcp1 _ _) ?_))
  go_region_law_o (refine step_copy_runI rfl _ _ 22 22 rfl (.slice (some ⟨b,i+m,none⟩) (i+m+(n - j) - (i+m)) (c - (i+m))) (.slice (some ⟨b,j,none⟩) (n - j) (c - j)) (by simp [Act.eval,Act.put] <;> omega) (by simp [Act.eval,Act.put] <;> omega) (hcp2 3 (c - (i+m)) (c - j)) ?_)
  go_wp2_with (first
   | (at_builtin; refine V3 _ rfl _ _ rfl _ rfl _ _ (hcl _ _) ?_))
  all_goals (go_ret; exact ⟨rfl,R3,rfl,hR3.1,hR3.2⟩))
end
end Go.Proofs
namespace Go.Proofs
open Go.Shelf Go.RowKit Go.Lib Go.VE
section
variable (b n c:Nat) (cur:Array Value) (fr:Nat×Nat) (w:World)
set_option maxHeartbeats 4000000 in
set_option maxRecDepth 100000 in
theorem d4q (hh:w.heap[b]?=some (.cells cur 5 fr)) (hfr:fr.1=fr.2) (i j:Nat) (hi:i<j) (hj:j<n) (hnc:n≤c) (hcm:c≤maxLen) (hcz:c≤cur.size) (A:Option Addr) (m vc:Nat) (xs:LI) (hs:a7D Tryz.prog w b A m vc xs) (hm:j<i+m) (hroom:i+m+(n - j)≤c) (h1c:∀ v∈cur.toList.take n,v.oneCell'=true) :
  Calls Tryz.prog 65 #[.slice (some ⟨b,0,none⟩) n c,.int .i64 i,.int .i64 j,.slice A m vc] w fun e w'=>
   e=.returned (.slice (some ⟨b,0,none⟩) (i+m+(n - j)) c)∧w'=w.drew.drew.setRow b (lay (lay cur (i+m) ((cur.toList.drop j).take (n - j))) i (bv xs)):=by
 obtain ⟨vb,vo,rfl,hvb,hvw,tA,kA,hsa,hkA⟩:=hs.at' (by omega)
 have mixed:=o0
 have hc63:c≤9223372036854775807:=hcm
 have hxl:=hs.len
 have hu22:Tryz.prog.underlying 22=some (.slice 5):=by kernel_rfl
 have hsz:(Tryz.prog.info? 5).map (·.size)=some 1:=by kernel_rfl
 have hz1:¬ ((i:Int)=(j:Int)):=by omega
 have hz2:¬ ((j:Int)=(n:Int)):=by omega
 have hin:i≤n:=by omega
 have hjn:j≤n:=by omega
 have hij:i≤j:=by omega
 have hic:i≤c:=by omega
 have hjc:j≤c:=by omega
 have hci:¬ (c=i):=by omega
 have hcj:¬ (c=j):=by omega
 have hsub:((n - j:Nat):Int)=(n:Int) - (j:Int):=by omega
 have hw1:IntKind.i64.wrap ((i:Int)+(m:Int))=(i:Int)+(m:Int):=by rw [IntKind.wrap_i64]; omega
 have hw2:IntKind.i64.wrap ((i:Int)+(m:Int)+((n:Int) - (j:Int)))=(i:Int)+(m:Int)+((n:Int) - (j:Int)):=by rw [IntKind.wrap_i64]; omega
 have hw3:IntKind.i64.wrap ((n:Int) - (j:Int))=(n:Int) - (j:Int):=by rw [IntKind.wrap_i64]; omega
 have hb1:(0:Int)≤(i:Int)+(m:Int):=by omega
 have htn:((i:Int)+(m:Int)).toNat=i+m:=by omega
 have hT0:(0:Int)≤(i:Int)+(m:Int)+((n:Int) - (j:Int)):=by omega
 have hTn:((i:Int)+(m:Int)+((n:Int) - (j:Int))).toNat=i+m+(n - j):=by rw [show (i:Int)+(m:Int)+((n:Int) - (j:Int))=((i+m+(n - j):Nat):Int) by omega,Int.toNat_natCast]
 have hT:¬ ((c:Int)<(i:Int)+(m:Int)+((n:Int) - (j:Int))):=by omega
 have hT2:(i:Int)+(m:Int)+((n:Int) - (j:Int))≤(c:Int):=by omega
 have hT4:(i:Int)+(m:Int)≤(i:Int)+(m:Int)+((n:Int) - (j:Int)):=by omega
 have hT5:(i:Int)≤(i:Int)+(m:Int)+((n:Int) - (j:Int)):=by omega
 have hM:¬ ((i:Int)+(m:Int)≤(j:Int)):=by omega
 have hcim:¬ (c=i+m):=by omega
 have hsz5:∀ w,(sizeOf 5).run Tryz.prog w=.ok 1 w:=fun w=>by
  cases hq:Tryz.prog.info? 5 with
  | none=>simp [hq] at hsz
  | some i=>simp [sizeOf,typeInfo,hq]; simpa [hq] using hsz
 have hsb:w.shape? b=some (5,cur.size):=by simp [World.shape?,hh]
 have hfz:∀ o,w.frozen? ⟨b,o,none⟩=false:=fun o=>by simp [World.frozen?,hh]; omega
 have hov:∀ lb cb,(callFunc 125 #[.slice (some ⟨b,i+m,none⟩) lb cb,.slice (some ⟨vb,vo,none⟩) m vc]).run Tryz.prog w.drew=.ok (.value (.bool false)) w.drew:=fun lb cb=>by
  rw [run_callFunc_extern (fn:=Tryz.f125) rfl (by kernel_rfl) (by kernel_rfl) (by kernel_rfl) (e:=Extern.SlicesOverlaps.overlaps #[22,22] #[4]) (by kernel_rfl),
   a54 w.drew 22 4 5 hu22 1 hsz5 ⟨b,i+m,none⟩ ⟨vb,vo,none⟩ lb cb m vc (Ne.symm hvb) 5 tA cur.size kA hsb hsa (by omega) hkA (.inr fun o=>⟨hfz o,hfz _⟩)]
  rfl
 have hmin1:Nat.min (n - j) (i+m+(n - j) - (i+m))=n - j:=by simp only [Nat.min_def]; split <;> omega
 have hmin2:Nat.min m (i+m+(n - j) - i)=m:=by simp only [Nat.min_def]; split <;> omega
 have hcp1:∀ ty dc sc,(Builtin.copy_ #[22,22] ty #[.slice (some ⟨b,i+m,none⟩) (i+m+(n - j) - (i+m)) dc,.slice (some ⟨b,j,none⟩) (n - j) sc]).run Tryz.prog w.drew.drew=.ok (goInt ((n - j:Nat):Int)) (w.drew.drew.setRow b (lay cur (i+m) ((cur.toList.drop j).take (n - j)))):=fun ty dc sc=>by
  have:=M4 (P:=Tryz.prog) w.drew.drew 22 22 ty 5 hu22 hsz b (i+m) (i+m+(n - j) - (i+m)) dc cur fr hh hfr (some ⟨b,j,none⟩) (n - j) sc ((cur.toList.drop j).take (n - j)) ((b2Q (w:=w.drew.drew) hh _ _ _).take _) (by rw [hmin1]; simp; omega) (fun v hv=>h1c v (by rw [← List.drop_take] at hv; exact List.mem_of_mem_drop hv)) (by rw [hmin1]; omega)
  rw [hmin1,List.take_take,Nat.min_self] at this
  exact this
 have hls:(lay cur (i+m) ((cur.toList.drop j).take (n - j))).size=cur.size:=B5 (by simp; omega)
 have hcp2:∀ ty dc,(Builtin.copy_ #[22,22] ty #[.slice (some ⟨b,i,none⟩) (i+m+(n - j) - i) dc,.slice (some ⟨vb,vo,none⟩) m vc]).run Tryz.prog (w.drew.drew.setRow b (lay cur (i+m) ((cur.toList.drop j).take (n - j))))=.ok (goInt m) (w.drew.drew.setRow b (lay (lay cur (i+m) ((cur.toList.drop j).take (n - j))) i (bv xs))):=fun ty dc=>by
  have:=M4 (P:=Tryz.prog) (w.drew.drew.setRow b (lay cur (i+m) ((cur.toList.drop j).take (n - j)))) 22 22 ty 5 hu22 hsz b i (i+m+(n - j) - i) dc (lay cur (i+m) ((cur.toList.drop j).take (n - j))) fr (setRow_heap w.drew.drew b cur _ _ fr hh) hfr (some ⟨vb,vo,none⟩) m vc (bv xs) (hs.rd _ fun k hk _=>setRow_other w.drew.drew b k _ hk) (by rw [hmin2,l7]; omega) (a5z xs) (by rw [hmin2]; omega)
  rw [hmin2,List.take_of_length_le (l:=bv xs) (by rw [l7]; omega),setRow_setRow] at this
  exact this
 generalize lay (lay cur (i+m) ((cur.toList.drop j).take (n - j))) i (bv xs)=R2 at hcp2 ⊢
 generalize lay cur (i+m) ((cur.toList.drop j).take (n - j))=R1 at hcp1 hcp2 hls ⊢
 clear hs hh hls hsa hsb hfz
 go_enter Tryz.func65,Tryz.ntmps65
 go_wp2
 go_region_law_o (fail)
 all_goals (
 go_wp2_with (simp only [hov])
 go_region_law_o (refine step_copy_runI rfl _ _ 22 22 rfl (.slice (some ⟨b,i+m,none⟩) (i+m+(n - j) - (i+m)) (c - (i+m))) (.slice (some ⟨b,j,none⟩) (n - j) (c - j)) (by simp [Act.eval,Act.put] <;> omega) (by simp [Act.eval,Act.put] <;> omega) (hcp1 3 (c - (i+m)) (c - j)) ?_)
 go_wp2_with (first
  | (at_builtin; refine wpList_copy_runI _ rfl _ _ 22 22 rfl _ _ rfl rfl (hcp2 _ _) ?_))
 all_goals (go_ret; exact ⟨rfl,rfl⟩))
set_option maxHeartbeats 4000000 in
set_option maxRecDepth 100000 in
theorem d1u (hh:w.heap[b]?=some (.cells cur 5 fr)) (hfr:fr.1=fr.2) (i j:Nat) (hi:i<j) (hj:j<n) (hnc:n≤c) (hcm:c≤maxLen) (hcz:c≤cur.size) (A:Option Addr) (m vc:Nat) (xs:LI) (hs:a7D Tryz.prog w b A m vc xs) (hroom:c<i+m+(n - j)) (hl:n+m≤lim) (h1c:∀ v∈cur.toList.take n,v.oneCell'=true)
  (R:Array Value) (hR:∀ ty,(Builtin.append_ #[22,3] ty #[.slice (some ⟨b,0,none⟩) i c,.int .i64 ((m+(n - j):Nat):Int)]).run Tryz.prog w.drew=.ok (.slice (some ⟨w.heap.size,0,none⟩) (i+(m+(n - j))) (grownCap w.drew (i+(m+(n - j))) c 5)) (w.drew.drew.alloc (.cells R 5)))
  (hRz:grownCap w.drew (i+(m+(n - j))) c 5≤R.size) :
  Calls Tryz.prog 65 #[.slice (some ⟨b,0,none⟩) n c,.int .i64 i,.int .i64 j,.slice A m vc] w fun e w'=>
   e=.returned (.slice (some ⟨w.heap.size,0,none⟩) (i+m+(n - j)) (grownCap w.drew (i+m+(n - j)) c 5))∧w'=(((w.alloc (.cells R 5)).drew.drew.setRow w.heap.size (lay R i (bv xs))).drew).setRow w.heap.size (lay (lay R i (bv xs)) (i+m) ((cur.toList.drop j).take (n - j))):=by
 have hlim:n+m≤1099511627776:=hl
 have mixed:=o0
 have hc63:c≤9223372036854775807:=hcm
 have hxl:=hs.len
 have hu22:Tryz.prog.underlying 22=some (.slice 5):=by kernel_rfl
 have hsz:(Tryz.prog.info? 5).map (·.size)=some 1:=by kernel_rfl
 have hz1:¬ ((i:Int)=(j:Int)):=by omega
 have hz2:¬ ((j:Int)=(n:Int)):=by omega
 have hin:i≤n:=by omega
 have hjn:j≤n:=by omega
 have hij:i≤j:=by omega
 have hic:i≤c:=by omega
 have hjc:j≤c:=by omega
 have hci:¬ (c=i):=by omega
 have hcj:¬ (c=j):=by omega
 have hsub:((n - j:Nat):Int)=(n:Int) - (j:Int):=by omega
 have hw1:IntKind.i64.wrap ((i:Int)+(m:Int))=(i:Int)+(m:Int):=by rw [IntKind.wrap_i64]; omega
 have hw2:IntKind.i64.wrap ((i:Int)+(m:Int)+((n:Int) - (j:Int)))=(i:Int)+(m:Int)+((n:Int) - (j:Int)):=by rw [IntKind.wrap_i64]; omega
 have hw3:IntKind.i64.wrap ((n:Int) - (j:Int))=(n:Int) - (j:Int):=by rw [IntKind.wrap_i64]; omega
 have hb1:(0:Int)≤(i:Int)+(m:Int):=by omega
 have htn:((i:Int)+(m:Int)).toNat=i+m:=by omega
 have hT0:(0:Int)≤(i:Int)+(m:Int)+((n:Int) - (j:Int)):=by omega
 have hTn:((i:Int)+(m:Int)+((n:Int) - (j:Int))).toNat=i+m+(n - j):=by rw [show (i:Int)+(m:Int)+((n:Int) - (j:Int))=((i+m+(n - j):Nat):Int) by omega,Int.toNat_natCast]
 have hT:(c:Int)<(i:Int)+(m:Int)+((n:Int) - (j:Int)):=by omega
 have hT4:(i:Int)+(m:Int)≤(i:Int)+(m:Int)+((n:Int) - (j:Int)):=by omega
 have hT5:(i:Int)≤(i:Int)+(m:Int)+((n:Int) - (j:Int)):=by omega
 have hbw:b<w.heap.size:=by
  rcases Nat.lt_or_ge b w.heap.size with h | h
  ·exact h
  ·rw [Array.getElem?_eq_none h] at hh; cases hh
 have hkk:(i:Int)+(m:Int)+((n:Int) - (j:Int)) - (i:Int)=((m+(n - j):Nat):Int):=by omega
 have hwk:IntKind.i64.wrap ((i:Int)+(m:Int)+((n:Int) - (j:Int)) - (i:Int))=(i:Int)+(m:Int)+((n:Int) - (j:Int)) - (i:Int):=by rw [IntKind.wrap_i64]; unfold lim at hl; omega
 rw [← Nat.add_assoc] at hR hRz
 rw [← hkk] at hR
 have hGn:=grownCap_ge w.drew (i+m+(n - j)) c 5
 have hG63:=grownCap_le_maxLen w.drew (i+m+(n - j)) c 5 (by unfold lim at hl; unfold maxLen; omega)
 generalize hG:grownCap w.drew (i+m+(n - j)) c 5=G at *
 have hG63:G≤9223372036854775807:=hG63
 have hGi:¬ (G=i):=by omega
 have hGim:¬ (G=i+m):=by omega
 have hmin1:Nat.min m (i+m+(n - j) - i)=m:=by simp only [Nat.min_def]; split <;> omega
 have hmin2:Nat.min (n - j) (i+m+(n - j) - (i+m))=n - j:=by simp only [Nat.min_def]; split <;> omega
 have hnew:(w.alloc (.cells R 5)).drew.drew.heap[w.heap.size]?=some (.cells R 5 (0,0)):=heap_alloc_new w _
 have hold:∀ k,k<w.heap.size→(w.alloc (.cells R 5)).drew.drew.heap[k]?=w.heap[k]?:=fun k hk=>heap_alloc_old w _ hk
 have hcp1:∀ ty dc,(Builtin.copy_ #[22,22] ty #[.slice (some ⟨w.heap.size,i,none⟩) (i+m+(n - j) - i) dc,.slice A m vc]).run Tryz.prog (w.alloc (.cells R 5)).drew.drew=.ok (goInt m) ((w.alloc (.cells R 5)).drew.drew.setRow w.heap.size (lay R i (bv xs))):=fun ty dc=>by
  have:=M4 (P:=Tryz.prog) (w.alloc (.cells R 5)).drew.drew 22 22 ty 5 hu22 hsz w.heap.size i (i+m+(n - j) - i) dc R (0,0) hnew rfl A m vc (bv xs) (hs.rd _ fun k _ hk=>hold k hk) (by rw [hmin1,l7]; omega) (a5z xs) (by rw [hmin1]; omega)
  rw [hmin1,List.take_of_length_le (by rw [l7]; omega)] at this
  exact this
 have hls:(lay R i (bv xs)).size=R.size:=B5 (by rw [l7]; omega)
 have hcp2:∀ ty dc sc,(Builtin.copy_ #[22,22] ty #[.slice (some ⟨w.heap.size,i+m,none⟩) (i+m+(n - j) - (i+m)) dc,.slice (some ⟨b,j,none⟩) (n - j) sc]).run Tryz.prog ((w.alloc (.cells R 5)).drew.drew.setRow w.heap.size (lay R i (bv xs))).drew=.ok (goInt ((n - j:Nat):Int)) (((w.alloc (.cells R 5)).drew.drew.setRow w.heap.size (lay R i (bv xs))).drew.setRow w.heap.size (lay (lay R i (bv xs)) (i+m) ((cur.toList.drop j).take (n - j)))):=fun ty dc sc=>by
  have hhb:((w.alloc (.cells R 5)).drew.drew.setRow w.heap.size (lay R i (bv xs))).drew.heap[b]?=some (.cells cur 5 fr):=by
   show ((w.alloc (.cells R 5)).drew.drew.setRow w.heap.size (lay R i (bv xs))).heap[b]?=_
   rw [setRow_other _ _ _ _ (by omega),hold b hbw]; exact hh
  have:=M4 (P:=Tryz.prog) ((w.alloc (.cells R 5)).drew.drew.setRow w.heap.size (lay R i (bv xs))).drew 22 22 ty 5 hu22 hsz w.heap.size (i+m) (i+m+(n - j) - (i+m)) dc (lay R i (bv xs)) (0,0) (setRow_heap (w.alloc (.cells R 5)).drew.drew w.heap.size R _ _ _ hnew) rfl (some ⟨b,j,none⟩) (n - j) sc ((cur.toList.drop j).take (n - j)) ((b2Q hhb _ _ _).take _) (by rw [hmin2]; simp; omega) (fun v hv=>h1c v (by rw [← List.drop_take] at hv; exact List.mem_of_mem_drop hv)) (by rw [hmin2]; omega)
  rw [hmin2,List.take_take,Nat.min_self] at this
  exact this
 have mixed:=o0
 generalize lay (lay R i (bv xs)) (i+m) ((cur.toList.drop j).take (n - j))=R2 at hcp2 ⊢
 generalize lay R i (bv xs)=R1 at hcp1 hcp2 ⊢
 clear hkk hs hh hnew hold hls hG
 go_enter Tryz.func65,Tryz.ntmps65
 go_wp2
 go_region_law_o (fail)
 all_goals (
 go_wp2_with (first
  | (at_builtin; refine Lib.wpList_append_run _ rfl _ _ _ _ rfl _ _ rfl rfl _ _ (hR _) ?_)
  | (at_builtin; refine wpList_copy_runI _ rfl _ _ 22 22 rfl _ _ rfl rfl (hcp1 _ _) ?_))
 go_region_law_o (refine step_copy_runI rfl _ _ 22 22 rfl (.slice (some ⟨w.heap.size,i+m,none⟩) (i+m+(n - j) - (i+m)) (G - (i+m))) (.slice (some ⟨b,j,none⟩) (n - j) (c - j)) (by simp [Act.eval,Act.put] <;> omega) (by simp [Act.eval,Act.put] <;> omega) (hcp2 3 (G - (i+m)) (c - j)) ?_)
 go_wp2
 go_ret
 exact ⟨rfl,rfl⟩)
end
end Go.Proofs
namespace Go.VE
open Go Go.RowKit Go.Lib
theorem a4p (a b:LI):bv (a++b)=bv a++bv b:=List.map_append
theorem b9K (n:Nat) (a:LI):bv (a.take n)=(bv a).take n:=List.map_take
theorem b9J (n:Nat) (a:LI):bv (a.drop n)=(bv a).drop n:=List.map_drop
theorem a16 {R cur:List Value} {ys xs:LI} {n i j m:Nat} (hcs:cur.take n=bv ys) (hy:ys.length=n) (hx:xs.length=m) (hij:i≤j) (hjn:j≤n)
  (h1:∀ q,q<i→R[q]?=cur[q]?) (h2:∀ q,q<m→R[i+q]?=(bv xs)[q]?) (h3:∀ q,q<n - j→R[i+m+q]?=cur[j+q]?) :
  R.take (i+m+(n - j))=bv (ys.take i++xs++ys.drop j):=by
 have hc:∀ q,q<n→cur[q]?=(bv ys)[q]?:=fun q hq=>by rw [← hcs,List.getElem?_take,if_pos hq]
 have hl:(bv ys).length=n:=by rw [l7,hy]
 have hX:(bv xs).length=m:=by rw [l7,hx]
 rw [a4p,a4p,b9K,b9J]
 generalize bv xs=X at *
 generalize bv ys=Y at *
 refine List.ext_getElem? fun q=>?_
 rw [List.getElem?_take]
 have ht:(Y.take i).length=i:=by rw [List.length_take]; omega
 by_cases hq:q<i+m+(n - j)
 ·rw [if_pos hq]
  by_cases a:q<i
  ·rw [List.append_assoc,List.getElem?_append_left (by omega),List.getElem?_take,if_pos a,h1 q a,hc q (by omega)]
  ·by_cases b:q<i+m
   ·rw [List.append_assoc,List.getElem?_append_right (by omega),List.getElem?_append_left (by omega),ht,← h2 (q - i) (by omega)]
    congr 1; omega
   ·rw [List.getElem?_append_right (by rw [List.length_append]; omega),List.length_append,ht,hX,List.getElem?_drop,← hc _ (by omega),← h3 _ (by omega)]
    congr 1; omega
 ·rw [if_neg hq,List.getElem?_eq_none]
  simp only [List.length_append,List.length_take,List.length_drop]; omega
theorem b5l (ys xs:LI) (n i j m:Nat) (hy:ys.length=n) (hx:xs.length=m) (hij:i≤j) (hjn:j≤n):(bv (ys.take i++xs++ys.drop j)).length=i+m+(n - j):=by
 simp only [l7,List.length_append,List.length_take,List.length_drop]; omega
theorem a4s {w w':World} {b c:Nat} {R:Array Value} {fr:Nat×Nat} {zs:List Value} {L:Nat} (hz:zs.length=L) (hL:L≤c) (hcm:c≤maxLen) (hh:w'.heap[b]?=some (.cells R 5 fr)) (hfr:fr.1=fr.2) (hR:c≤R.size) (ht:R.toList.take L=zs)
  (hs:w'.heap.size=w.heap.size) (ho:∀ k,k≠b→w'.heap[k]?=w.heap[k]?) (h1:w'.os=w.os) (h2:w'.tape=w.tape) (h3:w'.output=w.output):a5K w b zs (.slice (some ⟨b,0,none⟩) L c) w':=by
 subst hz
 exact ⟨b,c,R,fr,rfl,.inl rfl,hL,hcm,hh,hfr,hR,ht,by omega,fun k hk _=>ho k hk,h1,h2,h3⟩
theorem a5W {w w':World} {b c:Nat} {R:Array Value} {zs:List Value} {L:Nat} (hz:zs.length=L) (hL:L≤c) (hcm:c≤maxLen) (hh:w'.heap[w.heap.size]?=some (.cells R 5 (0,0))) (hR:c≤R.size) (ht:R.toList.take L=zs)
  (hs:w.heap.size≤w'.heap.size) (ho:∀ k,k<w.heap.size→w'.heap[k]?=w.heap[k]?) (h1:w'.os=w.os) (h2:w'.tape=w.tape) (h3:w'.output=w.output):a5K w b zs (.slice (some ⟨w.heap.size,0,none⟩) L c) w':=by
 subst hz
 exact ⟨w.heap.size,c,R,(0,0),rfl,.inr rfl,hL,hcm,hh,rfl,hR,ht,hs,fun k _ hk=>ho k hk,h1,h2,h3⟩
end Go.VE
namespace Go.Proofs
open Go.Shelf Go.RowKit Go.Lib Go.VE
section
variable (b n c:Nat) (cur:Array Value) (fr:Nat×Nat) (w:World)
set_option maxRecDepth 20000 in
theorem rep_all (hh:w.heap[b]?=some (.cells cur 5 fr)) (hfr:fr.1=fr.2) (hnc:n≤c) (hcm:c≤maxLen) (hcz:c≤cur.size) (A:Option Addr) (m vc:Nat) (xs ys:LI) (hs:a7D Tryz.prog w b A m vc xs) (hcs:cur.toList.take n=bv ys)
  (i j:Nat) (hij:i≤j) (hjn:j≤n) (hl:n+m≤lim) :
  Calls Tryz.prog 65 #[.slice (some ⟨b,0,none⟩) n c,.int .i64 i,.int .i64 j,.slice A m vc] w fun e w'=>∃ v',e=.returned v'∧a5K w b (bv (ys.take i++xs++ys.drop j)) v' w':=by
 have hu22:Tryz.prog.underlying 22=some (.slice 5):=by kernel_rfl
 have hu3:Tryz.prog.underlying 3=some (.int .i64):=by kernel_rfl
 obtain ⟨ti,g1,g2,g3,g4⟩:=b5b
 have hx:=hs.len
 have hy:ys.length=n:=by
  have:=congrArg List.length hcs
  rw [l7,List.length_take,Array.length_toList] at this; omega
 have h1c:∀ v∈cur.toList.take n,v.oneCell'=true:=by rw [hcs]; exact a5z ys
 have hdl:=b5l ys xs n i j m hy hx hij hjn
 have hlim:n+m≤1099511627776:=hl
 have hG:∀ (w:World) L,L≤n+m→grownCap w L c 5≤maxLen:=fun w L h=>grownCap_le_maxLen w L c _ (by unfold maxLen; omega)
 -- an append at i,and no more
 have appI:∀ i,i≤n→n≤i+m→∀ j,j=n→i≤j→∃ B c' w',(∀ ty,(Builtin.append_ #[22,22] ty #[.slice (some ⟨b,0,none⟩) i c,.slice A m vc]).run Tryz.prog w=.ok (.slice B (i+m) c') w')∧a5K w b (bv (ys.take i++xs++ys.drop j)) (.slice B (i+m) c') w':=by
  intro i hi him j hj hij
  subst hj
  have hdl:=b5l ys xs j i j m hy hx hij (Nat.le_refl _)
  rw [Nat.sub_self,Nat.add_zero] at hdl
  by_cases hroom:i+m≤c
  ·refine ⟨_,_,_,fun ty=>b5g (w:=w) hu22 g1 g2 g3 (by omega) hh hfr hcz (by omega) hs hroom,a4s hdl hroom hcm (setRow_heap w b cur _ _ fr hh) hfr (by rw [B5 (by rw [l7]; omega)]; exact hcz) ?_ (by simp) (fun k hk=>setRow_other w b k _ hk) rfl rfl rfl⟩
   have:=a16 (R:=(lay cur i (bv xs)).toList) hcs hy hx hij (Nat.le_refl _) (fun q hq=>by rw [u3 (by rw [l7]; omega),if_neg (by omega)]) (fun q hq=>by rw [u3 (by rw [l7]; omega),l7,if_pos (by omega)]; congr 1; omega) (fun q hq=>by omega)
   rw [Nat.sub_self,Nat.add_zero] at this
   exact this
  ·obtain ⟨R,h1,h2,h3⟩:=c30 (w:=w) (ty:=0) hu22 g1 g2 g3 (by omega) hh hfr hcz (by omega) hs (show c<i+m by omega) (show i+m≤lim by unfold lim; omega)
   refine ⟨_,_,_,fun ty=>h1,a5W hdl (grownCap_ge w (i+m) c _) (hG w _ (by omega)) (heap_alloc_new w.drew _) h3 ?_ (by show _≤(w.heap.push _).size; simp) (fun k hk=>heap_alloc_old w.drew _ hk) rfl rfl rfl⟩
   rw [h2,a4p,a4p,b9K,b9J,List.drop_of_length_le (by rw [l7]; omega),List.append_nil,← hcs,List.take_take,Nat.min_eq_left hi]
 rcases Nat.lt_or_ge i j with hlt | hge
 ·rcases Nat.lt_or_ge j n with hjlt | hjge
  ·rcases Nat.lt_or_ge c (i+m+(n - j)) with hg | hroom
   ·obtain ⟨R,h1,h2,h3⟩:=b1J (P:=Tryz.prog) (w:=w.drew) hu22 hu3 g1 g2 g3 g4 (b:=b) (n:=i) (c:=c) (fr:=fr) hh (by omega) (m+(n - j)) (by omega) (by omega) (by unfold lim; omega)
    refine (d1u b n c cur fr w hh hfr i j hlt hjlt hnc hcm hcz A m vc xs hs hg hl h1c R h1 h3).mono ?_
    rintro e w' ⟨rfl,rfl⟩
    have hge:=grownCap_ge w.drew (i+m+(n - j)) c 5
    have hRz:grownCap w.drew (i+m+(n - j)) c 5≤R.size:=by rw [← Nat.add_assoc] at h3; exact h3
    have hnew:(w.alloc (.cells R 5)).drew.drew.heap[w.heap.size]?=some (.cells R 5 (0,0)):=heap_alloc_new w _
    have hs1:(lay R i (bv xs)).size=R.size:=B5 (by rw [l7]; omega)
    have hs2:(lay (lay R i (bv xs)) (i+m) ((cur.toList.drop j).take (n - j))).size=R.size:=by rw [B5 (by simp; omega),hs1]
    refine ⟨_,rfl,a5W hdl hge (hG w.drew _ (by omega)) (setRow_heap ((w.alloc (.cells R 5)).drew.drew.setRow w.heap.size (lay R i (bv xs))).drew w.heap.size _ _ _ _ (setRow_heap (w.alloc (.cells R 5)).drew.drew w.heap.size _ _ _ _ hnew)) (by rw [hs2]; exact hRz) ?_ (by simp) (fun k hk=>?_) rfl rfl rfl⟩
    ·refine a16 hcs hy hx hij hjn (fun q hq=>?_) (fun q hq=>?_) (fun q hq=>?_)
     ·rw [u3 (by simp; omega),if_neg (by omega),u3 (by rw [l7]; omega),if_neg (by omega)]
      have:=congrArg (fun l:List Value=>l[q]?) h2
      simpa [hq] using this
     ·rw [u3 (by simp; omega),if_neg (by omega),u3 (by rw [l7]; omega),l7,if_pos (by omega)]
      congr 1; omega
     ·rw [u3 (by simp; omega),if_pos (by simp; omega),List.getElem?_take,if_pos (by omega),List.getElem?_drop]
      congr 1; omega
    ·rw [setRow_other _ _ _ _ (by omega)]
     show ((w.alloc (.cells R 5)).drew.drew.setRow w.heap.size (lay R i (bv xs))).heap[k]?=_
     rw [setRow_other _ _ _ _ (by omega)]
     exact heap_alloc_old w _ hk
   ·rcases Nat.lt_or_ge j (i+m) with hbig | hsm
    ·refine (d4q b n c cur fr w hh hfr i j hlt hjlt hnc hcm hcz A m vc xs hs hbig hroom h1c).mono ?_
     rintro e w' ⟨rfl,rfl⟩
     have hs1:(lay cur (i+m) ((cur.toList.drop j).take (n - j))).size=cur.size:=B5 (by simp; omega)
     refine ⟨_,rfl,a4s hdl hroom hcm (setRow_heap w.drew.drew b cur _ _ fr hh) hfr (by rw [B5 (by rw [l7]; omega),hs1]; exact hcz) ?_ (by simp) (fun k hk=>setRow_other w.drew.drew b k _ hk) rfl rfl rfl⟩
     refine a16 hcs hy hx hij hjn (fun q hq=>?_) (fun q hq=>?_) (fun q hq=>?_)
     ·rw [u3 (by rw [l7]; omega),if_neg (by omega),u3 (by simp; omega),if_neg (by omega)]
     ·rw [u3 (by rw [l7]; omega),l7,if_pos (by omega)]
      congr 1; omega
     ·rw [u3 (by rw [l7]; omega),l7,if_neg (by omega),u3 (by simp; omega),if_pos (by simp; omega),List.getElem?_take,if_pos (by omega),List.getElem?_drop]
      congr 1; omega
    ·refine (c3G b n c cur fr w hh hfr i j hlt hjlt hnc hcm hcz A m vc xs hs hsm h1c).mono ?_
     rintro e w' ⟨rfl,R3,rfl,hR3,hR4⟩
     have hs1:(lay cur i (bv xs)).size=cur.size:=B5 (by rw [l7]; omega)
     refine ⟨_,rfl,a4s hdl (by omega) hcm (setRow_heap (w.drew.setRow b (lay cur i (bv xs))).drew b _ _ _ fr (setRow_heap w.drew b cur _ _ fr hh)) hfr (by rw [hR3]; exact hcz) ?_ (by simp) (fun k hk=>?_) rfl rfl rfl⟩
     ·refine a16 hcs hy hx hij hjn (fun q hq=>?_) (fun q hq=>?_) (fun q hq=>?_)
      ·rw [hR4 _ (by omega),u3 (by simp; omega),if_neg (by omega),u3 (by rw [l7]; omega),if_neg (by omega)]
      ·rw [hR4 _ (by omega),u3 (by simp; omega),if_neg (by omega),u3 (by rw [l7]; omega),l7,if_pos (by omega)]
       congr 1; omega
      ·rw [hR4 _ (by omega),u3 (by simp; omega),if_pos (by simp; omega),List.getElem?_take,if_pos (by omega),List.getElem?_drop]
       congr 1; omega
     ·rw [setRow_other _ _ _ _ hk]
      show (w.drew.setRow b (lay cur i (bv xs))).heap[k]?=_
      rw [setRow_other _ _ _ _ hk]
      rfl
  ·obtain rfl:j=n:=by omega
   rcases Nat.lt_or_ge (i+m) j with hcut | hend
   ·refine (d4r b j c cur fr w hh hfr i hlt hnc hcz A m vc xs hs hcut).mono ?_
    rintro e w' ⟨rfl,rfl⟩
    have hs1:(lay cur i (bv xs)).size=cur.size:=B5 (by rw [l7]; omega)
    have:=a16 (R:=(lay (lay cur i (bv xs)) (i+m) (List.replicate (j - (i+m)) (.int .u8 0))).toList) hcs hy hx hij (Nat.le_refl _) (fun q hq=>by rw [u3 (by simp; omega),if_neg (by omega),u3 (by rw [l7]; omega),if_neg (by omega)])
     (fun q hq=>by rw [u3 (by simp; omega),if_neg (by omega),u3 (by rw [l7]; omega),l7,if_pos (by omega)]; congr 1; omega) (fun q hq=>by omega)
    rw [Nat.sub_self,Nat.add_zero] at this hdl
    exact ⟨_,rfl,a4s hdl (by omega) hcm (setRow_heap w b cur _ _ fr hh) hfr (by rw [B5 (by simp; omega),hs1]; exact hcz) this (by simp) (fun k hk=>setRow_other w b k _ hk) rfl rfl rfl⟩
   ·obtain ⟨B,c',w',h1,h2⟩:=appI i hij hend j rfl hij
    refine (d4s b j c w i hlt hnc A m vc hend B c' w' h1).mono ?_
    rintro e w'' ⟨rfl,rfl⟩
    exact ⟨_,rfl,h2⟩
 ·obtain rfl:i=j:=by omega
  refine d4t b n c w i hjn hnc A m vc (a5K w b (bv (ys.take i++xs++ys.drop i))) ?_
  rcases Nat.eq_zero_or_pos m with rfl | hm
  ·refine (c4r b n w c A vc i hjn).mono ?_
   rintro e w' ⟨rfl,rfl⟩
   have hx0:xs=[]:=List.eq_nil_of_length_eq_zero hx
   have e1:ys.take i++xs++ys.drop i=ys:=by rw [hx0,List.append_nil,List.take_append_drop]
   rw [e1]
   exact ⟨_,rfl,a4s (by rw [l7,hy]) hnc hcm hh hfr hcz hcs rfl (fun _ _=>rfl) rfl rfl rfl⟩
  ·rcases Nat.lt_or_ge i n with hin | hin
   ·rcases Nat.lt_or_ge c (n+m) with hg | hroom
    ·obtain ⟨R,h1,h2,h3⟩:=b1J (P:=Tryz.prog) (w:=w) hu22 hu3 g1 g2 g3 g4 (b:=b) (n:=i) (c:=c) (fr:=fr) hh (by omega) (n+m - i) (by omega) (by omega) (by unfold lim; omega)
     refine (c4q b n c cur fr w hh hfr hnc hcm hcz A m vc xs hs hm i hin hg hl h1c R h1 h3).mono ?_
     rintro e w' ⟨rfl,rfl⟩
     have hge:=grownCap_ge w (n+m) c 5
     have hRz:grownCap w (n+m) c 5≤R.size:=by rw [show i+(n+m - i)=n+m by omega] at h3; exact h3
     have hnew:(w.alloc (.cells R 5)).drew.heap[w.heap.size]?=some (.cells R 5 (0,0)):=heap_alloc_new w _
     have hs1:(lay R i (bv xs)).size=R.size:=B5 (by rw [l7]; omega)
     have hs2:(lay (lay R i (bv xs)) (i+m) ((cur.toList.drop i).take (n - i))).size=R.size:=by rw [B5 (by simp; omega),hs1]
     have eL:i+m+(n - i)=n+m:=by omega
     rw [eL] at hdl
     refine ⟨_,rfl,a5W hdl hge (hG w _ (by omega)) (setRow_heap ((w.alloc (.cells R 5)).drew.setRow w.heap.size (lay R i (bv xs))).drew w.heap.size _ _ _ _ (setRow_heap (w.alloc (.cells R 5)).drew w.heap.size _ _ _ _ hnew)) (by rw [hs2]; exact hRz) ?_ (by simp) (fun k hk=>?_) rfl rfl rfl⟩
     ·rw [← eL]
      refine a16 hcs hy hx hij hjn (fun q hq=>?_) (fun q hq=>?_) (fun q hq=>?_)
      ·rw [u3 (by simp; omega),if_neg (by omega),u3 (by rw [l7]; omega),if_neg (by omega)]
       have:=congrArg (fun l:List Value=>l[q]?) h2
       simpa [hq] using this
      ·rw [u3 (by simp; omega),if_neg (by omega),u3 (by rw [l7]; omega),l7,if_pos (by omega)]
       congr 1; omega
      ·rw [u3 (by simp; omega),if_pos (by simp; omega),List.getElem?_take,if_pos (by omega),List.getElem?_drop]
       congr 1; omega
     ·rw [setRow_other _ _ _ _ (by omega)]
      show ((w.alloc (.cells R 5)).drew.setRow w.heap.size (lay R i (bv xs))).heap[k]?=_
      rw [setRow_other _ _ _ _ (by omega)]
      exact heap_alloc_old w _ hk
    ·refine (c3e b n c cur fr w hh hfr hnc hcm hcz A m vc xs hs hm i hin hroom h1c).mono ?_
     rintro e w' ⟨rfl,rfl⟩
     have hs1:(lay cur (i+m) ((cur.toList.drop i).take (n - i))).size=cur.size:=B5 (by simp; omega)
     have eL:i+m+(n - i)=n+m:=by omega
     rw [eL] at hdl
     refine ⟨_,rfl,a4s hdl hroom hcm (setRow_heap w.drew b cur _ _ fr hh) hfr (by rw [B5 (by rw [l7]; omega),hs1]; exact hcz) ?_ (by simp) (fun k hk=>setRow_other w.drew b k _ hk) rfl rfl rfl⟩
     rw [← eL]
     refine a16 hcs hy hx hij hjn (fun q hq=>?_) (fun q hq=>?_) (fun q hq=>?_)
     ·rw [u3 (by rw [l7]; omega),if_neg (by omega),u3 (by simp; omega),if_neg (by omega)]
     ·rw [u3 (by rw [l7]; omega),l7,if_pos (by omega)]
      congr 1; omega
     ·rw [u3 (by rw [l7]; omega),l7,if_neg (by omega),u3 (by simp; omega),if_pos (by simp; omega),List.getElem?_take,if_pos (by omega),List.getElem?_drop]
      congr 1; omega
   ·obtain rfl:i=n:=by omega
    obtain ⟨B,c',w',h1,h2⟩:=appI i hij (by omega) i rfl hij
    refine (d14 b i w c A m vc hm _ w' h1).mono ?_
    rintro e w'' ⟨rfl,rfl⟩
    exact ⟨_,rfl,h2⟩
end
end Go.Proofs
namespace Go.Proofs
open Go.Shelf Go.RowKit Go.Lib Go.VE
set_option maxHeartbeats 4000000 in
set_option maxRecDepth 100000 in
theorem rep_nil (w:World) (A:Option Addr) (m vc:Nat) (xs:LI) (hs:a7D Tryz.prog w w.heap.size A m vc xs) (hl:m≤lim) :
  Calls Tryz.prog 65 #[.slice none 0 0,.int .i64 0,.int .i64 0,.slice A m vc] w fun e w'=>∃ v',e=.returned v'∧((m=0∧v'=.slice none 0 0∧w'=w)∨a5K w w.heap.size (bv xs) v' w'):=by
 have mixed:=o0
 have e58:∀ args w,(callFunc 124 args).run Tryz.prog w=.ok (.enter 124 args) w:=VE.enters_of Tryz.func124 (by kernel_rfl)
 have hx:=hs.len
 rcases Nat.eq_zero_or_pos m with rfl | hm
 ·have hins:Calls Tryz.prog 124 #[.slice none 0 0,.int .i64 0,.slice A 0 vc] w fun e w'=>e=.returned (.slice none 0 0)∧w'=w:=by
   go_enter Tryz.func124,Tryz.ntmps124
   go_wp2
   all_goals (go_ret; exact ⟨rfl,rfl⟩)
  go_enter Tryz.func65,Tryz.ntmps65
  go_wp2_with (first
   | (go_at_fn 124; refine hins.mono ?_; rintro e w' ⟨rfl,rfl⟩))
  all_goals (go_ret; exact ⟨_,rfl,.inl (by simp)⟩)
 ·have hu22:Tryz.prog.underlying 22=some (.slice 5):=by kernel_rfl
  obtain ⟨ti,g1,g2,g3,g4⟩:=b5b
  have hrun:∀ ty,(Builtin.append_ #[22,22] ty #[.slice none 0 0,.slice A m vc]).run Tryz.prog w=.ok (.slice (some ⟨w.heap.size,0,none⟩) m (grownCap w m 0 5)) (w.drew.alloc (.cells ((bv xs).toArray++Builtin.zeroCells (p8 (.int .u8)).cells (grownCap w m 0 5 - m)) 5)):=fun ty=>by
   have:=(Q7 (P:=Tryz.prog) (w:=w) (ty:=ty) (e:=.int .u8) hu22 g1 g2 g3 (by omega) (hs.src (t':=22) hu22)).1.2 (by rw [hx]; exact hm) (by rw [hx]; exact hl)
   rw [hx] at this
   exact this
  have hge:=grownCap_ge w m 0 5
  have hle:=grownCap_le_maxLen w m 0 5 (by unfold lim at hl; unfold maxLen; omega)
  have hdone:a5K w w.heap.size (bv xs) (.slice (some ⟨w.heap.size,0,none⟩) m (grownCap w m 0 5)) (w.drew.alloc (.cells ((bv xs).toArray++Builtin.zeroCells (p8 (.int .u8)).cells (grownCap w m 0 5 - m)) 5)):=by
   refine a5W (by rw [l7,hx]) hge hle (heap_alloc_new w.drew _) ?_ ?_ (by show _≤(w.heap.push _).size; simp) (fun k hk=>heap_alloc_old w.drew _ hk) rfl rfl rfl
   ·simp only [Array.size_append,List.size_toArray,l7,hx,size_zeroCells,p8,Value.cells]
    simp [Ty.agg,E1]; omega
   ·rw [Array.toList_append,List.take_append_of_le_length (by simp [l7,hx]),List.take_of_length_le (by simp [l7,hx])]
  generalize w.drew.alloc (.cells ((bv xs).toArray++Builtin.zeroCells (p8 (.int .u8)).cells (grownCap w m 0 5 - m)) 5)=W2 at hrun hdone
  generalize grownCap w m 0 5=G at hrun hdone
  clear hs hge hle
  have hz1:¬ ((m:Int)=0):=by omega
  have hins:Calls Tryz.prog 124 #[.slice none 0 0,.int .i64 0,.slice A m vc] w fun e w'=>e=.returned (.slice (some ⟨w.heap.size,0,none⟩) m G)∧w'=W2:=by
   clear hdone
   go_enter Tryz.func124,Tryz.ntmps124
   go_wp2_with (at_builtin; refine Lib.wpList_append_run _ rfl _ _ _ _ rfl _ _ rfl rfl _ _ (hrun _) ?_)
   all_goals (go_ret; exact ⟨rfl,rfl⟩)
  clear hrun
  have hdone:=Lib.hid hdone
  go_enter Tryz.func65,Tryz.ntmps65
  go_wp2_with (first
   | (go_at_fn 124; refine hins.mono ?_; rintro e w' ⟨rfl,rfl⟩))
  all_goals (go_ret; exact ⟨_,rfl,.inr hdone.out⟩)
end Go.Proofs
namespace Go.VE
open Go Go.RowKit Go.Lib
def c2S:List AS:=[.o 5 (.int .u8),.v (.int .i64),.v (.int .i64),.v (.sl (.int .u8))]
theorem c2V {I:Nat→Prop} {w:World} {xs:LI} {v:Value} (h:l0 I w (.sl (.int .u8)) xs v) (hI:∀ b,I b→b<w.heap.size) (b:Nat) (hb:¬ I b) :
  ∃ A vc,v=.slice A xs.length vc∧a7D Go.Proofs.Tryz.prog w b A xs.length vc xs:=by
 obtain ⟨A,vc,hc,hl,hm,hr⟩:=h.list
 have hv:v=.slice A (List.length xs) vc:=by
  obtain ⟨u,hu,hcs⟩:=(h.list).one rfl
  obtain ⟨cs,h1,h2,h3,h4⟩:=h
  have h5:=h4 rfl
  rw [h5] at h2
  rw [h2] at hc
  simpa using hc
 have hr':∀ i (hi:i<xs.length),∃ b' o,A=some ⟨b',o,none⟩∧I b'∧inR .u8 xs[i]∧w.cell? ⟨b',o+i,none⟩=some (.int .u8 xs[i]):=by
  intro i hi
  obtain ⟨b',o,h1,h2,cs,⟨h3,h4⟩,h5,h6⟩:=hr i hi
  refine ⟨b',o,h1,h2,h3,?_⟩
  have:=h6 0 (.int .u8 xs[i]) (by rw [h4]; rfl)
  simpa [Ty.cells] using this
 refine ⟨A,vc,hv,rfl,fun x hx=>?_,fun w' hw'=>?_,fun hpos=>?_⟩
 ·obtain ⟨i,hi,rfl⟩:=List.mem_iff_getElem.1 hx
  obtain ⟨_,_,_,_,h,_⟩:=hr' i hi
  exact h
 ·rcases Nat.eq_zero_or_pos xs.length with h0 | hpos
  ·have:xs=[]:=List.eq_nil_of_length_eq_zero h0
   subst this
   exact c3E (A:=A) rfl
  ·obtain ⟨b',o,rfl,hb',_⟩:=hr' 0 hpos
   refine b7v fun j u hj=>?_
   have hj':j<xs.length:=by
    rcases Nat.lt_or_ge j xs.length with h | h
    ·exact h
    ·rw [List.getElem?_eq_none (by rw [l7]; exact h)] at hj; cases hj
   obtain ⟨b2,o2,e,_,_,hcell⟩:=hr' j hj'
   injection e with e; injection e with e1 e2; subst e1; subst e2
   rw [a0d (hw' b' (fun e=>by subst e; exact hb hb') (hI b' hb')),hcell,← hj]
   simp [bv,hj']
 ·obtain ⟨b',o,rfl,hb',_,hcell⟩:=hr' 0 hpos
  refine ⟨b',o,rfl,fun e=>by subst e; exact hb hb',hI b' hb',?_⟩
  unfold World.cell? at hcell
  split at hcell
  ·rename_i cs t fr hh
   refine ⟨t,cs.size,by simp [World.shape?,hh],fun e=>?_⟩
   have:cs=#[]:=Array.eq_empty_of_size_eq_zero e
   subst this
   simp at hcell
  ·cases hcell
theorem c4c {I:Nat→Prop} {w w':World} {b:Nat} {zs:LI} {v:Value} (hz:∀ x∈zs,inR .u8 x) (h:a5K w b (bv zs) v w') :
  ∃ b',(b'=b∨b'=w.heap.size)∧b'<w'.heap.size∧D5 I w' 5 (.int .u8) zs v b'∧w.heap.size≤w'.heap.size∧(∀ k,k≠b→k<w.heap.size→w'.heap[k]?=w.heap[k]?)∧w'.os=w.os∧w'.tape=w.tape∧w'.output=w.output:=by
 obtain ⟨b',cap,cur,fr,rfl,hb,hl,hm,hh,hfr,hR,ht,hs,ho,h1,h2,h3⟩:=h
 rw [l7] at hl ht ⊢
 refine ⟨b',hb,?_,⟨cap,cur,fr,rfl,hl,hm,hh,.inl hfr,by simpa [Ty.cells] using hR,fun i hi=>?_⟩,hs,ho,h1,h2,h3⟩
 ·rcases Nat.lt_or_ge b' w'.heap.size with h | h
  ·exact h
  ·rw [Array.getElem?_eq_none h] at hh; cases hh
 ·refine ⟨[.int .u8 zs[i]],⟨hz _ (List.getElem_mem hi),rfl⟩,fun j u hu=>?_⟩
  cases j with
  | succ j=>simp at hu
  | zero=>
   simp at hu; subst hu
   have:=congrArg (fun l:List Value=>l[i]?) ht
   simpa [hi,bv,Ty.cells] using this
theorem d1v (ys xs:LI) (i j:Int) (h0:0≤i) (hij:i≤j) (hj:j≤(ys.length:Int)) (hl:ys.length+xs.length≤lim) {Ok:Res→List Cell→Prop} (hK:Ok (.one (.fr 5 (.int .u8) (ys.take i.toNat++xs++ys.drop j.toNat))) []) :
  a2N Go.Proofs.Tryz.prog 65 (mkA c2S (ys,i,j,xs,())) Ok:=by
 intro I w vs bs hI hg ha
 have hlen:=ha.length
 obtain ⟨sv,iv,jv,xv,rfl⟩:∃ a b c d,vs=[a,b,c,d]:=by
  match vs,hlen with
  | [a,b,c,d],_=>exact ⟨a,b,c,d,rfl⟩
 obtain ⟨b,rfl⟩:∃ b,bs=[b]:=by
  cases bs with
  | nil=>exact ha.elim
  | cons b bs=>
   cases bs with
   | nil=>exact ⟨b,rfl⟩
   | cons c bs=>exact ha.2.2.2.2.elim
 obtain ⟨hs,hi2,hj2,hx2,_⟩:=ha
 obtain ⟨_,rfl⟩:=l0.int_eq hi2
 obtain ⟨_,rfl⟩:=l0.int_eq hj2
 obtain ⟨i,rfl⟩:=Int.eq_ofNat_of_zero_le h0
 obtain ⟨j,rfl⟩:=Int.eq_ofNat_of_zero_le (Int.le_trans h0 hij)
 have hij:i≤j:=Int.ofNat_le.1 hij
 have hj:j≤ys.length:=Int.ofNat_le.1 hj
 rw [Int.toNat_natCast,Int.toNat_natCast] at hK
 have hxs:∀ x∈xs,inR .u8 x:=fun x hx=>by
  have:=(l0.wf hx2).2 x hx
  exact this
 -- behind,out of what was done
 have fin:∀ (b0:Nat) (v':Value) (w':World) (zs:LI),(b0=b∨b0=w.heap.size)→(∀ cs e fr,w.heap[b0]?=some (.cells cs e fr)→D1.trk e=false)→(∀ x∈zs,inR .u8 x)→Ok (.one (.fr 5 (.int .u8) zs)) []→a5K w b0 (bv zs) v' w'→
   N2 I w [b] (p5 (mkA c2S (ys,(i:Int),(j:Int),xs,())) [b]) Ok v' w':=by
  intro b0 v' w' zs hb0 htk hz hok hd
  obtain ⟨b',hb',hlt,hown,hsz,ho,h1,h2,h3⟩:=c4c (I:=orP I fun _=>False) hz hd
  refine ⟨_,[],fun _=>False,[some b'],hok,⟨h1,h2,h3,hsz,fun k hk hF=>ho k (fun e=>?_) hk,d4B ho htk⟩,fun b h=>h.elim,fun q b1 hq=>?_,⟨_,rfl,hown⟩,trivial⟩
  ·rcases hb0 with rfl | rfl
   ·exact hF (by subst e; exact List.mem_singleton.2 rfl)
   ·omega
  ·cases q with
   | succ q=>simp at hq
   | zero=>
    simp at hq; subst hq
    refine ⟨?_,hlt,fun h=>h,fun r hr=>?_⟩
    ·rcases hb' with rfl | rfl
     ·rcases hb0 with rfl | rfl
      ·exact .inr ⟨List.mem_singleton.2 rfl,by show b'∉([]:List Nat); simp⟩
      ·exact .inl (Nat.le_refl _)
     ·exact .inl (Nat.le_refl _)
    ·cases r with
     | zero=>rfl
     | succ r=>simp at hr
 rcases hs with ⟨rfl,rfl,hbw⟩ | ⟨⟨cap,cur,fr,rfl,hle,hm,hh,hfr,hcz,hrow⟩,hbI,hbw,_⟩
 ·have hj0:j=0:=by simpa using hj
  subst hj0
  obtain rfl:i=0:=by omega
  obtain ⟨A,vc,rfl,hsrc⟩:=c2V hx2 hI w.heap.size (fun h=>absurd (hI _ h) (Nat.lt_irrefl _))
  refine (Go.Proofs.rep_nil w A xs.length vc xs hsrc (by simpa using hl)).mono ?_
  rintro e w' ⟨v',rfl,⟨hm0,rfl,rfl⟩ | hd⟩
  ·have hx0:xs=[]:=List.eq_nil_of_length_eq_zero hm0
   subst hx0
   refine .inl ⟨_,rfl,.one (.fr 5 (.int .u8) []),[],fun _=>False,[none],hK,L5.refl _ _,fun b h=>h.elim,fun q b1 hq=>?_,⟨none,rfl,rfl,rfl⟩,trivial⟩
   cases q with
   | zero=>simp at hq
   | succ q=>simp at hq
  ·exact .inl ⟨_,rfl,fin w.heap.size v' w' _ (.inr rfl) (fun _ _ _ h=>by simp at h) (by simpa using hxs) (by simpa using hK) (by simpa using hd)⟩
 ·have hfr':fr.1=fr.2:=by
   rcases hfr with h | h
   ·exact h
   ·exact absurd h.1 (by decide)
  have hcs:cur.toList.take ys.length=bv ys:=by
   refine List.ext_getElem? fun q=>?_
   rw [List.getElem?_take]
   by_cases hq:q<ys.length
   ·obtain ⟨cs,⟨_,h2⟩,h3⟩:=hrow q hq
    have:=h3 0 (.int .u8 ys[q]) (by rw [h2]; rfl)
    rw [if_pos hq]
    simpa [bv,hq,Ty.cells] using this
   ·rw [if_neg hq,List.getElem?_eq_none (by rw [l7]; omega)]
  have hys:∀ x∈ys,inR .u8 x:=fun x hx=>by
   obtain ⟨q,hq,rfl⟩:=List.mem_iff_getElem.1 hx
   obtain ⟨cs,⟨h1,_⟩,_⟩:=hrow q hq
   exact h1
  obtain ⟨A,vc,rfl,hsrc⟩:=c2V hx2 hI b hbI
  refine (Go.Proofs.rep_all b ys.length cap cur fr w hh hfr' hle hm (by simpa [Ty.cells] using hcz) A xs.length vc xs ys hsrc hcs i j hij hj hl).mono ?_
  rintro e w' ⟨v',rfl,hd⟩
  refine .inl ⟨_,rfl,fin b v' w' _ (.inl rfl) (fun _ _ _ h=>by rw [hh] at h; injection h with h; injection h with _ h _; rw [← h]; rfl) (fun x hx=>?_) hK hd⟩
  rcases List.mem_append.1 hx with hx | hx
  ·rcases List.mem_append.1 hx with hx | hx
   ·exact hys x (List.mem_of_mem_take hx)
   ·exact hxs x hx
  ·exact hys x (List.mem_of_mem_drop hx)
def e6n (xs:LI) (i j:Int) (v:LI):Prop:=0≤i∧i≤j∧j≤(xs.length:Int)∧xs.length+v.length≤lim
def d3Y (xs:LI) (i j:Int) (v:LI):LI:=xs.take i.toNat++v++xs.drop j.toNat
def e7z (v:j3 c2S) (K:Res→List Cell→Prop):Prop:=e6n v.1 v.2.1 v.2.2.1 v.2.2.2.1∧∀ r:LI,r=d3Y v.1 v.2.1 v.2.2.1 v.2.2.2.1→K (.one (.fr 5 (.int .u8) r)) []
def e6o:App:=specW c2S e7z
theorem e6p:g8 Go.Proofs.Tryz.prog 65 e6o:=by
 refine g8.specW fun ags K hs=>?_
 obtain ⟨v,rfl,hP,hK⟩:=G5 _ ags _ hs
 obtain ⟨ys,i,j,xs,⟨⟩⟩:=v
 obtain ⟨h0,h1,h2,h3⟩:=hP
 exact .inl ⟨enters_of Go.Proofs.Tryz.func65 (by kernel_rfl),d1v ys xs i j h0 h1 h2 h3 (hK _ rfl)⟩
end Go.VE
namespace Go.VE
open Go Go.Proofs
end Go.VE
namespace Go.VE
set_option maxRecDepth 20000
open Go Go.Proofs
def d0F:List (Nat×App):=[(64,d57),(65,e6o)]
theorem c2A:GOk Tryz.prog (j8 d0F):=GOk.cons e1l (GOk.cons e6p (GOk.nil))
theorem d0K:o8 (g6 Tryz.f20)=true:=by kernel_rfl
def U8:List LS:=[.o 6 53 5 yU,.v 12 (.sl (.st (.pair yI (.pair yB yB)))),.v 13 yI,.v 14 yI]
def a88:List LS:=[.o 4 37 5 yU,.v 5 yI]
def a7k:List LS:=[.o 6 53 5 yU]
def b4K:DX:=⟨none,some a88,[(0,a7k)]⟩
def b4M (k:Ex→St→Prop) (x4:LI) (x5:Int):Prop:=wfD a88 (x4,x5,())→k .ret (mkD 52 a88 (x4,x5,()))
def b07 (k:Ex→St→Prop) (out6:LI):Prop:=wfD a7k (out6,())→k (.exit 0) (mkD 52 a7k (out6,()))
def b4J (Y:LI→List ((Int×LI×LI))→Int→Int→Prop) (kr:LI→Int→Prop) (kx0:LI→Prop) (out6:LI) (x12:List ((Int×LI×LI))) (x13:Int) (x14:Int):Prop:=
 bif (decide (x14<x13)) then
 bif decide (0≤x14∧x14<(List.length x12:Int)) then
 bif (decide ((rd ((0:Int),([]:LI),([]:LI)) x12 x14).1<(0:Int))) then
 kr ([]:LI) (170:Int)
 else
 bif (decide ((List.length out6:Int)<(rd ((0:Int),([]:LI),([]:LI)) x12 x14).1)) then
 kr ([]:LI) (170:Int)
 else
 bif decide (0≤(rd ((0:Int),([]:LI),([]:LI)) x12 x14).1∧(rd ((0:Int),([]:LI),([]:LI)) x12 x14).1≤(List.length out6:Int)) then
 b6N (List.drop (Int.toNat ((rd ((0:Int),([]:LI),([]:LI)) x12 x14).1)) out6) ((rd ((0:Int),([]:LI),([]:LI)) x12 x14).2.1)∧(
 ∀ (r1:Bool),r1=a8s (List.drop (Int.toNat ((rd ((0:Int),([]:LI),([]:LI)) x12 x14).1)) out6) ((rd ((0:Int),([]:LI),([]:LI)) x12 x14).2.1)→(
 wB r1→(
 bif (!r1) then
 kr ([]:LI) (170:Int)
 else
 e6n out6 ((rd ((0:Int),([]:LI),([]:LI)) x12 x14).1) (IntKind.wrap .i64 (((rd ((0:Int),([]:LI),([]:LI)) x12 x14).1)+(List.length ((rd ((0:Int),([]:LI),([]:LI)) x12 x14).2.1):Int))) ((rd ((0:Int),([]:LI),([]:LI)) x12 x14).2.2)∧(
 ∀ (r2:LI),r2=d3Y out6 ((rd ((0:Int),([]:LI),([]:LI)) x12 x14).1) (IntKind.wrap .i64 (((rd ((0:Int),([]:LI),([]:LI)) x12 x14).1)+(List.length ((rd ((0:Int),([]:LI),([]:LI)) x12 x14).2.1):Int))) ((rd ((0:Int),([]:LI),([]:LI)) x12 x14).2.2)→(
 wfR (.one (.fr 5 yU r2))→(
 Y r2 x12 x13 (IntKind.wrap .i64 (x14+(1:Int)))))))))
 else False
 else False
 else
 kx0 out6
def b4I (kr:LI→Int→Prop) (kx0:LI→Prop):Nat→LI→List ((Int×LI×LI))→Int→Int→Prop
 | 0,_,_,_,_=>False
 | n+1,out6,x12,x13,x14=>wfD U8 (out6,x12,x13,x14,())→b4J (b4I kr kx0 n) kr kx0 out6 x12 x13 x14
def d0H:Pce:=ex tb (j8 d0F) [] (at' (g6 Tryz.f20) [0,0,1,0,1,1]) [0,0,1,0,1,1]
def d0I (k:Ex→St→Prop) (n:Nat) (v:l6 U8):Prop:=b4I (b4M k) (b07 k) n v.1 v.2.1 v.2.2.1 v.2.2.2.1
theorem e3k (k:Ex→St→Prop) (Y:l6 U8→Prop):∀ v:l6 U8,d0H (mkD 52 U8 v) (lpK 52 U8 b4K k Y)=b4J (fun out6 x12 x13 x14=>Y (out6,x12,x13,x14,())) (b4M k) (b07 k) v.1 v.2.1 v.2.2.1 v.2.2.2.1
 | (out6,x12,x13,x14,())=>by kernel_rfl
theorem d0L (k:Ex→St→Prop):∀ (n:Nat) (v:l6 U8),lpD 52 U8 b4K d0H k n v=d0I k n v
 | 0,(out6,x12,x13,x14,())=>rfl
 | n+1,(out6,x12,x13,x14,())=>congrArg (fun Z:Prop=>wfD U8 (out6,x12,x13,x14,())→Z) ((e3k k _ (out6,x12,x13,x14,())).trans (congrArg (fun Y=>b4J Y (b4M k) (b07 k) out6 x12 x13 x14) (funext fun out6=>funext fun x12=>funext fun x13=>funext fun x14=>d0L k n (out6,x12,x13,x14,()))))
def d0G:Pce:=fun st k=>ckD 52 U8 st fun v=>wfD U8 v→∃ n,d0I k n v
theorem e3n:j5 Tryz.prog (at' (g6 Tryz.f20) [0,1,0,1,1]) d0G:=
 (j5.loop (l3 o0 j9 c2A (g7.nil) (at' (g6 Tryz.f20) [0,0,1,0,1,1]) [0,0,1,0,1,1] rfl (g9 d0K [0,0,1,0,1,1])) 52 U8 b4K).mono fun st k h=>l4 h fun v hv hw=>(hv hw).elim fun n hn=>⟨n,Eq.mpr (d0L k n v) hn⟩
def d0E:q8:=([0,1,0,1,1],d0G)::[]
theorem e3i:g7 Tryz.prog (g6 Tryz.f20) d0E:=g7.cons e3n (g7.nil)
def b4L (t0:LI) (edits1:List ((Int×LI×LI))) (K:Res→List Cell→Prop):Prop:=
 bif decide (List.length ([]:LI)+List.length t0≤lim) then
 (wfD U8 ((([]:LI)++t0),edits1,(List.length edits1:Int),(0:Int),())→∃ n,b4I (fun (x4:LI) (x5:Int)=>wfD a88 (x4,x5,())→(
 K (.tup [.fr 5 yU x4,.v yI x5]) [])) (fun (out6:LI)=>wfD a7k (out6,())→(
 K (.tup [.fr 5 yU out6,.v yI (0:Int)]) [])) n (([]:LI)++t0) edits1 (List.length edits1:Int) (0:Int))
 else False
def b7d:List AS:=[.v yB,.v (.sl (.st (.pair yI (.pair yB yB))))]
abbrev c2Z:=Int×LI×LI
def a5x:List c2Z→LI→Option (LI)
 | [],out=>some out
 | e::r,out=>if 0≤e.1∧e.1≤out.length∧a8s (out.drop e.1.toNat) e.2.1=true then a5x r (d3Y out e.1 (e.1+(e.2.1.length:Int)) e.2.2) else none
def b5w:List c2Z→Nat
 | []=>0
 | e::r=>e.2.2.length+b5w r
theorem d11 {s p:LI} (h:a8s s p=true):p.length≤s.length:=by
 unfold a8s at h
 by_cases c:(List.length p:Int)≤(List.length s:Int)
 ·omega
 ·rw [decide_eq_false c] at h; cases h
theorem d64 (s p:LI):b6N s p:=by
 unfold b6N
 by_cases c:(List.length p:Int)≤(List.length s:Int)
 ·rw [decide_eq_true c]; exact ⟨by omega,c⟩
 ·rw [decide_eq_false c]; exact trivial
def b7e (t:LI) (edits:List c2Z):Prop:=t.length+b5w edits≤lim
def a4i (t:LI) (edits:List c2Z):LI×Int:=
 match a5x edits t with
 | some out=>(out,0)
 | none=>([],170)
theorem d0J (kr:LI→Int→Prop) (kx0:LI→Prop) (edits:List c2Z) (hl:edits.length≤9223372036854775807) (t:LI)
  (hk:∀ r,r=a4i t edits→(r.2=170→kr [] 170)∧(r.2=0→kx0 r.1)) :
  ∀ (n i:Nat) (out:LI),edits.length<n+i→i≤edits.length→a5x (edits.drop i) out=a5x edits t→out.length+b5w (edits.drop i)≤lim→
   b4I kr kx0 n out edits (edits.length:Int) (i:Int)
 | 0,i,out,h,h2,_,_=>by omega
 | n+1,i,out,h,h2,he,hr=>by
  intro _
  unfold b4J
  have hlim:lim=1099511627776:=rfl
  refine brn (fun hlt=>?_) (fun hge=>?_)
  ·have hlt:i<edits.length:=by omega
   have hd:edits.drop i=edits[i]::edits.drop (i+1):=List.drop_eq_getElem_cons hlt
   rw [hd] at he hr
   refine C1 ⟨by omega,by omega⟩ ?_
   rw [b42 _ _ _ hlt]
   generalize edits[i]=e at *
   have hbad:¬ (0≤e.1∧e.1≤out.length∧a8s (out.drop e.1.toNat) e.2.1=true)→kr [] 170:=fun hb=>by
    have:a4i t edits=([],170):=by
     unfold a4i
     rw [← he,a5x,if_neg hb]
    exact (hk _ rfl).1 (by rw [this])
   refine brn (fun c1=>hbad (by omega)) (fun c1=>brn (fun c2=>hbad (by omega)) (fun c2=>C1 (by omega) ⟨d64 _ _,fun r1 hr1 _=>brb (fun c3=>hbad ?_) (fun c3=>?_)⟩))
   ·rw [hr1] at c3
    rintro ⟨_,_,h3⟩
    rw [h3] at c3; cases c3
   ·have c3:a8s (out.drop e.1.toNat) e.2.1=true:=by rw [hr1] at c3; simpa using c3
    have hle:=d11 c3
    rw [List.length_drop] at hle
    simp only [b5w] at hr
    have hw:IntKind.wrap .i64 (e.1+(List.length e.2.1:Int))=e.1+(List.length e.2.1:Int):=wrap_i64 (by omega) (by omega)
    rw [hw]
    refine ⟨⟨by omega,by omega,by omega,by omega⟩,fun r2 hr2 _=>?_⟩
    rw [wrap_i64 (by omega) (by omega),show (i:Int)+1=((i+1:Nat):Int) by omega]
    refine d0J kr kx0 edits hl t hk n (i+1) r2 (by omega) (by omega) ?_ ?_
    ·rw [← he,a5x,if_pos ⟨by omega,by omega,c3⟩,hr2]
    ·rw [hr2]
     unfold d3Y
     rw [List.length_append,List.length_append,List.length_take,List.length_drop]
     omega
  ·have hi:i=edits.length:=by omega
   subst hi
   rw [List.drop_length,a5x] at he
   have:a4i t edits=(out,0):=by
    unfold a4i
    rw [← he]
   have:=(hk _ rfl).2 (by rw [this])
   rw [‹a4i t edits=(out,0)›] at this
   exact this
theorem e3l (t:LI) (edits:List c2Z) (K:Res→List Cell→Prop) (hw:wfA b7d (t,edits,())) (hp:b7e t edits) (h:∀ r:LI×Int,r=a4i t edits→K (.tup [.fr 5 yU r.1,.v yI r.2]) []):b4L t edits K:=by
 unfold b7e at hp
 unfold b4L
 refine C1 (by simp only [List.length_nil]; omega) ?_
 intro _
 refine ⟨edits.length+1,d0J _ _ edits hw.2.1.1 t (fun r hr=>⟨fun h170 _=>?_,fun h0 _=>?_⟩) _ 0 _ (by omega) (Nat.zero_le _) rfl (by simpa using hp)⟩
 ·have h1:r=([],170):=by
   rw [hr] at h170 ⊢
   unfold a4i at h170 ⊢
   split
   ·rename_i out ho; rw [ho] at h170; cases h170
   ·rfl
  have:=h r hr
  rw [h1] at this
  exact this
 ·have:=h r hr
  have e:r.2=0:=h0
  rw [e] at this
  exact this
def e6w (v:j3 b7d) (K:Res→List Cell→Prop):Prop:=b7e v.1 v.2.1∧∀ r:LI×Int,r=a4i v.1 v.2.1→K (.tup [.fr 5 yU r.1,.v yI r.2]) []
def d6u:App:=specW b7d e6w
theorem e3m (K:Res→List Cell→Prop):∀ v:j3 b7d,q7 tb (j8 d0F) d0E Tryz.f20 [true,true] (mkA b7d v) K=b4L v.1 v.2.1 K
 | (t0,edits1,())=>by kernel_rfl
theorem e3j:g8 Tryz.prog 20 d6u:=
 g8.specW (l9 ((l8 o0 j9 c2A (e3i) (f:=20) (fn:=Tryz.f20) (by kernel_rfl) (by kernel_rfl) d0K [true,true])) fun v K hw h=>(e3m K v).mpr (e3l v.1 v.2.1 K hw h.1 h.2))
def c4S:List (Nat×App):=[(20,d6u)]
theorem c4T:GOk Tryz.prog (j8 c4S):=GOk.cons e3j (GOk.nil)
def b5G (t0:LI) (edits1:List ((Int×LI×LI))) (K:Res→List Cell→Prop):Prop:=
 b7e t0 edits1∧(
 ∀ (r1:LI×Int),r1=a4i t0 edits1→(
 wfR (.tup [.fr 5 yU r1.1,.v yI r1.2])→(
 K (.one (.fr 5 yU r1.1)) [])))
def a9N:List AS:=[.v yB,.v (.sl (.st (.pair yI (.pair yB yB))))]
def a5E (t0:LI) (edits1:List ((Int×LI×LI))):Prop:=
 b7e t0 edits1
def a5D (t0:LI) (edits1:List ((Int×LI×LI))):LI:=
 let r1:LI×Int:=a4i t0 edits1
 r1.1
theorem d2s (t0:LI) (edits1:List ((Int×LI×LI))) (K:Res→List Cell→Prop) (_:wfA a9N (t0,edits1,())) (hp:a5E t0 edits1) (h:∀ r:LI,r=a5D t0 edits1→K (.one (.fr 5 yU r)) []):b5G t0 edits1 K:=
 ⟨hp,al (h _ rfl)⟩
def d7d (v:j3 a9N) (K:Res→List Cell→Prop):Prop:=a5E v.1 v.2.1∧∀ r:LI,r=a5D v.1 v.2.1→K (.one (.fr 5 yU r)) []
def c4U:App:=specW a9N d7d
theorem d2t (K:Res→List Cell→Prop):∀ v:j3 a9N,q7 tb (j8 c4S) [] Tryz.f214 [true] (mkA a9N v) K=b5G v.1 v.2.1 K
 | (t0,edits1,())=>by kernel_rfl
theorem d2r:g8 Tryz.prog 214 c4U:=
 g8.specW (l9 ((l8 o0 j9 c4T (g7.nil) (f:=214) (fn:=Tryz.f214) (by kernel_rfl) (by kernel_rfl) (by kernel_rfl) [true])) fun v K hw h=>(d2t K v).mpr (d2s v.1 v.2.1 K hw h.1 h.2))
def d5S:List (Nat×App):=[(213,d6K),(264,d6c),(214,c4U),(28,b7p),(116,d1g)]
theorem d3x:GOk Tryz.prog (j8 d5S):=GOk.cons e3S (GOk.cons e1y (GOk.cons d2r (GOk.cons b4T (GOk.cons d1l (GOk.nil)))))
def c1B (j0:tJb) (K:Res→List Cell→Prop):Prop:=
 (
 b2O j0.1 j0.2.2.1.1 j0.2.2.1.2.1 ([]:LI)∧(
 ∀ (r1:List ((Int×LI×LI))),r1=b2N j0.1 j0.2.2.1.1 j0.2.2.1.2.1 ([]:LI)→(
 wfR (.one (.fr 75 (.st (.pair yI (.pair yB yB))) r1))→(
 (
 a8u j0∧(
 ∀ (r2:(Bool×Bool×LI)×Int),r2=b0O j0→(
 wfR (.tup [.v (.st (.pair .bool (.pair .bool yB))) r2.1,.v yI r2.2])→(
 bif j0.2.2.1.2.2.1 then
 a5E j0.1 r1∧(
 ∀ (r3:LI),r3=a5D j0.1 r1→(
 wfR (.one (.fr 5 yU r3))→(
 a0R r3∧(
 ∀ (r4:Int),r4=Z0 r3→(
 wI r4→(
 ∀ (r5:Int×Int),r5=a4k r3 (mn j0.2.2.2.1 (IntKind.wrap .i64 (r4 - (1:Int))))→(
 wfR (.tup [.v yI r5.1,.v yI r5.2])→(
 K (.tup [.v tyE (r1,r5.1,r2.1,r2.2,false),.v yI (0:Int)]) []))))))))
 else
 K (.tup [.v tyE (r1,j0.2.2.1.1,r2.1,r2.2,false),.v yI (0:Int)]) []))))∧(
 a8u j0∧(
 ∀ (r6:(Bool×Bool×LI)×Int),r6=b0O j0→(
 wfR (.tup [.v (.st (.pair .bool (.pair .bool yB))) r6.1,.v yI r6.2])→(
 bif j0.2.2.1.2.2.1 then
 a5E j0.1 r1∧(
 ∀ (r7:LI),r7=a5D j0.1 r1→(
 wfR (.one (.fr 5 yU r7))→(
 a0R r7∧(
 ∀ (r8:Int),r8=Z0 r7→(
 wI r8→(
 ∀ (r9:Int×Int),r9=a4k r7 (mn j0.2.2.2.1 (IntKind.wrap .i64 (r8 - (1:Int))))→(
 wfR (.tup [.v yI r9.1,.v yI r9.2])→(
 K (.tup [.v tyE (r1,r9.1,r6.1,r6.2,false),.v yI (0:Int)]) []))))))))
 else
 K (.tup [.v tyE (r1,j0.2.2.1.1,r6.1,r6.2,false),.v yI (0:Int)]) []))))∧True))))∧(
 b2O j0.1 j0.2.2.1.1 j0.2.2.1.2.1 ([]:LI)∧(
 ∀ (r10:List ((Int×LI×LI))),r10=b2N j0.1 j0.2.2.1.1 j0.2.2.1.2.1 ([]:LI)→(
 wfR (.one (.fr 75 (.st (.pair yI (.pair yB yB))) r10))→(
 a8u j0∧(
 ∀ (r11:(Bool×Bool×LI)×Int),r11=b0O j0→(
 wfR (.tup [.v (.st (.pair .bool (.pair .bool yB))) r11.1,.v yI r11.2])→(
 bif j0.2.2.1.2.2.1 then
 a5E j0.1 r10∧(
 ∀ (r12:LI),r12=a5D j0.1 r10→(
 wfR (.one (.fr 5 yU r12))→(
 a0R r12∧(
 ∀ (r13:Int),r13=Z0 r12→(
 wI r13→(
 ∀ (r14:Int×Int),r14=a4k r12 (mn j0.2.2.2.1 (IntKind.wrap .i64 (r13 - (1:Int))))→(
 wfR (.tup [.v yI r14.1,.v yI r14.2])→(
 K (.tup [.v tyE (r10,r14.1,r11.1,r11.2,false),.v yI (0:Int)]) []))))))))
 else
 K (.tup [.v tyE (r10,j0.2.2.1.1,r11.1,r11.2,false),.v yI (0:Int)]) [])))))))∧True
def b6A:List AS:=[.v tyJ]
def a6O (j0:tJb):Prop:=
 b2O j0.1 j0.2.2.1.1 j0.2.2.1.2.1 ([]:LI)∧(
 let r1:List ((Int×LI×LI)):=b2N j0.1 j0.2.2.1.1 j0.2.2.1.2.1 ([]:LI)
 a8u j0∧(
 let r2:(Bool×Bool×LI)×Int:=b0O j0
 bif j0.2.2.1.2.2.1 then
 a5E j0.1 r1∧(
 let r3:LI:=a5D j0.1 r1
 a0R r3)
 else
 True))
def a8r (j0:tJb):tEf×Int:=
 let r1:List ((Int×LI×LI)):=b2N j0.1 j0.2.2.1.1 j0.2.2.1.2.1 ([]:LI)
 let r2:(Bool×Bool×LI)×Int:=b0O j0
 bif j0.2.2.1.2.2.1 then
 let r3:LI:=a5D j0.1 r1
 let r4:Int:=Z0 r3
 let r5:Int×Int:=a4k r3 (mn j0.2.2.2.1 (IntKind.wrap .i64 (r4 - (1:Int))))
 ((r1,r5.1,r2.1,r2.2,false),(0:Int))
 else
 ((r1,j0.2.2.1.1,r2.1,r2.2,false),(0:Int))
theorem e0P (j0:tJb) (K:Res→List Cell→Prop) (_:wfA b6A (j0,())) (hp:a6O j0) (h:∀ r:tEf×Int,r=a8r j0→K (.tup [.v tyE r.1,.v yI r.2]) []):c1B j0 K:=
 ⟨an1 hp fun hp=>al (⟨an1 hp fun hp=>al (br1 hp h (fun _ hp h=>an1 hp fun hp=>al (⟨hp,al (al (h _ rfl))⟩))
 fun _ hp h=>h _ rfl),
 an1 hp fun hp=>al (br1 hp h (fun _ hp h=>an1 hp fun hp=>al (⟨hp,al (al (h _ rfl))⟩))
 fun _ hp h=>h _ rfl),trivial⟩),
 an1 hp fun hp=>al (an1 hp fun hp=>al (br1 hp h (fun _ hp h=>an1 hp fun hp=>al (⟨hp,al (al (h _ rfl))⟩))
 fun _ hp h=>h _ rfl)),trivial⟩
def e5N (v:j3 b6A) (K:Res→List Cell→Prop):Prop:=a6O v.1∧∀ r:tEf×Int,r=a8r v.1→K (.tup [.v tyE r.1,.v yI r.2]) []
def d5T:App:=specW b6A e5N
theorem e0Q (K:Res→List Cell→Prop):∀ v:j3 b6A,q7 tb (j8 d5S) [] Tryz.f235 [true,true] (mkA b6A v) K=c1B v.1 K
 | (j0,())=>by kernel_rfl
theorem e0O:g8 Tryz.prog 235 d5T:=
 g8.specW (l9 ((l8 o0 j9 d3x (g7.nil) (f:=235) (fn:=Tryz.f235) (by kernel_rfl) (by kernel_rfl) (by kernel_rfl) [true,true])) fun v K hw h=>(e0Q K v).mpr (e0P v.1 K hw h.1 h.2))
end Go.VE
