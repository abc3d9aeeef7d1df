/- CarryFails returns true at every input. No condition. Part of a proof. -/
import Derived.Shelf.SlSortCmp.WholeK
import Derived.Shelf.SlGeneric
import Derived.Ground.SlsfProg
import Derived.Test.YtfidemmgofcnmaaGreatDoorProg
import Derived.Shelf.SlSortCmp.NoneTotal
import Derived.Shelf.SlIterI.Nil
import Derived.Shelf.SortM.Plain
import Derived.Shelf.SortM.SortNone
import Derived.Ground.GgzProg
import Derived.Ground.SlgmProg
import Derived.Test.YtfidemmgofcnmaaGreatDoorBz31
set_option maxHeartbeats 1000000
set_option linter.unusedVariables false
namespace Go.Proofs.YtfidemmgofcnmaaGreatDoor
open Go.RowKit Go.Proofs.Tryz
theorem SP.Ok.bytes{Z:SP}{fr:List Nat}{N K:Nat}{M:Int}(ok:Z.Ok fr N K M):∀b∈Z.S.P.a.mem,b<256:=ok.core.inv.mem.pool.bytes
def AsideN(H:HL)(m:List Nat)(a:Option Addr)(w:World):Prop:=AsideV H (bcells m) a w
theorem AsideN.at'{H:HL}{m:List Nat}{g:Nat}{w:World}(h:AsideN H m (some ⟨g,0,none⟩) w){i x:Nat}(hi:m[i]?=some x):w.cell? ⟨g,i,none⟩=some (.int .u8 x):=by
 obtain⟨g',e,_,_,z⟩:=h i (.int .u8 x) (by show(bcells m)[i]?=_;unfold bcells;rw[J4M,hi];rfl);cases e;exact z
theorem AsideN.step{H H':HL}{m:List Nat}{a:Option Addr}{w w':World}(h:AsideN H m a w)(st:Step H H' w w'):AsideN H' m a w':=AsideV.step h st
section
variable {w:World} {Z:SP} {fr:List Nat} {N K:Nat} {M:Int}
theorem Z2o(ok:Z.Ok fr N K M)(h:Sep w Z.hl)(hm:Z.S.P.a.mem.length=65536) :
  Calls prog 51 #[.pointer (some ⟨Z.S.P.a.a,0,none⟩),.int .i64 0,.int .i64 65536] w fun r w'=>∃g cap:Nat,r=.returned (.tuple #[.slice (some ⟨g,0,none⟩) 65536 cap,.int .i64 0])/\Below w.heap.size w w'/\AsideN Z.hl Z.S.P.a.mem (some ⟨g,0,none⟩) w':=by
 refine(Z4W (SP.sA h) 0 65536 (by omega) (by omega) (by omega)).mono ?_;rintro r w'⟨v,rfl,ho,hg⟩;have e:(Z.S.P.a.mem.drop 0).take 65536=Z.S.P.a.mem:=by rw[J6T,J4Z (by omega)]
 rw[e] at ho;obtain⟨a,cap,rfl,ha⟩:=Q7m h ho;obtain⟨g,rfl,_,_,_⟩:=ha 0 (.int .u8 ((Z.S.P.a.mem[0]'(by omega):Nat):Int)) (by unfold bcells;rw[J4M,J5s (by omega)];rfl);rw[hm];exact⟨g,cap,rfl,(Below.refl _ _).grown hg (J3h _) (fun k hk=>by cases hk),ha⟩
theorem Q3h(h:Sep w Z.hl){c k:Nat}(hc:CarC Z c k w) :
  (Calls prog 44 #[.pointer (some ⟨c,0,none⟩)] w fun r w'=>r=.returned (.pointer (some ⟨Z.s,0,none⟩))/\w=w') /\
  (Calls prog 26 #[.pointer (some ⟨Z.s,0,none⟩)] w fun r w'=>r=.returned (.pointer (some ⟨Z.S.c,0,none⟩))/\w=w') /\
  (Calls prog 27 #[.pointer (some ⟨Z.S.c,0,none⟩)] w fun r w'=>r=.returned (.pointer (some ⟨Z.S.P.p,0,none⟩))/\w=w') /\
  (Calls prog 50 #[.pointer (some ⟨Z.S.P.p,0,none⟩)] w fun r w'=>r=.returned (.pointer (some ⟨Z.S.P.a.a,0,none⟩))/\w=w'):=
 ⟨Q2f hc,Q1E h,Q0S (SP.sS h),Q0s (CO.sP (SP.sS h))⟩
end
end Go.Proofs.YtfidemmgofcnmaaGreatDoor
namespace Go.Proofs.YtfidemmgofcnmaaGreatDoor
open Go.Shelf Go.Proofs.Tryz
def Z1c:Go.Shelf.Ren:=⟨fun|6=>136|15=>196|14=>195|28=>228|29=>229|20=>220|21=>221|22=>222|23=>223|24=>224|25=>225|26=>226|27=>227|46=>243|47=>244|48=>245|49=>246|50=>247|57=>253|n=>n,fun|22=>34|24=>161|25=>248|3=>3|39=>123|0=>0|53=>57|55=>83|4=>4|46=>320|45=>319|50=>239|5=>5|9=>9|66=>334|70=>338|76=>343|77=>344|n=>n,fun|n=>n⟩
theorem Z7w:Go.Proofs.SlLaysF0.n6 prog Z1c:={
 mixed:=by kernel_rfl
 f6:=⟨f136.name,by decide,func136.trans (congrArg some (by kernel_rfl))⟩
 f14:=⟨f195.name,by decide,func195.trans (congrArg some (by kernel_rfl))⟩
 f15:=func196.trans (congrArg some (by kernel_rfl))
 f20:=⟨f220.name,by decide,func220.trans (congrArg some (by kernel_rfl))⟩
 f21:=⟨f221.name,by decide,func221.trans (congrArg some (by kernel_rfl))⟩
 f22:=⟨f222.name,by decide,func222.trans (congrArg some (by kernel_rfl))⟩
 f23:=⟨f223.name,by decide,func223.trans (congrArg some (by kernel_rfl))⟩
 f24:=⟨f224.name,by decide,func224.trans (congrArg some (by kernel_rfl))⟩
 f25:=⟨f225.name,by decide,func225.trans (congrArg some (by kernel_rfl))⟩
 f26:=⟨f226.name,by decide,func226.trans (congrArg some (by kernel_rfl))⟩
 f27:=⟨f227.name,by decide,func227.trans (congrArg some (by kernel_rfl))⟩
 f28:=func228.trans (congrArg some (by kernel_rfl))
 f29:=func229.trans (congrArg some (by kernel_rfl))
 f46:=⟨f243.name,by decide,func243.trans (congrArg some (by kernel_rfl))⟩
 f47:=func244.trans (congrArg some (by kernel_rfl))
 f48:=func245.trans (congrArg some (by kernel_rfl))
 f49:=⟨f246.name,by decide,func246.trans (congrArg some (by kernel_rfl))⟩
 f50:=⟨f247.name,by decide,func247.trans (congrArg some (by kernel_rfl))⟩
 f57:=⟨f253.name,by decide,func253.trans (congrArg some (by kernel_rfl))⟩
 t0:=underlying0
 a0:=isAgg0
 z0:=sizeOf0
 v0:=zeroValue0
 t3:=underlying3
 a3:=isAgg3
 z3:=sizeOf3
 v3:=zeroValue3
 t4:=underlying4
 a4:=isAgg4
 z4:=sizeOf4
 v4:=zeroValue4
 t5:=underlying5
 a5:=isAgg5
 z5:=sizeOf5
 v5:=zeroValue5
 t9:=underlying9
 a9:=isAgg9
 z9:=sizeOf9
 v9:=zeroValue9
 t22:=underlying34
 a22:=isAgg34
 z22:=sizeOf34
 v22:=zeroValue34
 t25:=underlying248
 a25:=isAgg248
 z25:=sizeOf248
 v25:=zeroValue248
 t39:=underlying123
 a39:=isAgg123
 z39:=sizeOf123
 v39:=zeroValue123
 t45:=underlying319
 a45:=isAgg319
 z45:=sizeOf319
 v45:=zeroValue319
 t46:=underlying320
 a46:=isAgg320
 z46:=sizeOf320
 v46:=zeroValue320
 t50:=underlying239
 a50:=isAgg239
 z50:=sizeOf239
 v50:=zeroValue239
 t53:=underlying57
 a53:=isAgg57
 z53:=sizeOf57
 v53:=zeroValue57
 t55:=underlying83
 a55:=isAgg83
 z55:=sizeOf83
 v55:=zeroValue83
 t66:=underlying334
 a66:=isAgg334
 z66:=sizeOf334
 v66:=zeroValue334
 t70:=underlying338
 a70:=isAgg338
 z70:=sizeOf338
 v70:=zeroValue338
 t76:=underlying343
 a76:=isAgg343
 z76:=sizeOf343
 v76:=zeroValue343
 t77:=underlying344
 a77:=isAgg344
 z77:=sizeOf344
 v77:=zeroValue344}
end Go.Proofs.YtfidemmgofcnmaaGreatDoor
namespace Go.Proofs.YtfidemmgofcnmaaGreatDoor
open Go.RowKit Go.Shelf Go.Proofs.Tryz
open Go.Sort (flatK HoldsK putRowK)
theorem Z1d(x y:Nat×Nat)(W:World):Calls prog 137 #[.agg (encB x).toArray,.agg (encB y).toArray] W fun e w'=>e=.returned (.int .i64 (cmpI (x.1:Int) (y.1:Int)))/\∃q os',w'=Go.Sort.grow (W.drewN q) os':=by
 have hc:=fun w:World=>Z4w (w:=w) (x.1:Int) (y.1:Int)
 generalize cmpI (x.1:Int) (y.1:Int)=c at *
 unfold encB;go_enter func137,ntmps137;go_wp2_with (go_at_call 138;refine(hc _).mono ?_;rintro e w'⟨rfl,rfl⟩);go_ret;exact⟨rfl,0,_,by rw[Go.Sort.alloc_eq_grow,Go.Sort.alloc_eq_grow,Go.Sort.grow_grow];rfl⟩
def cfB(x y:Nat×Nat):Int:=cmpI (x.1:Int) (y.1:Int)
theorem ltB(x y:Nat×Nat):ltOf cfB x y=decide (x.1<y.1):=by
 unfold ltOf cfB cmpI;by_cases h1:(x.1:Int)<(y.1:Int)
 ·have:x.1<y.1:=by omega
  simp[h1,this]
 ·have Ip:¬x.1<y.1:=by omega
  by_cases h2:(y.1:Int)<(x.1:Int) <;> simp[h1,Ip,h2]
theorem swoB:Go.Sort.SWO (ltOf cfB) where
 irrefl x:=by rw[ltB];simp
 trans x y z h1 h2:=by rw[ltB] at *;simp at *;omega
 ntrans x y z h1 h2:=by rw[ltB] at *;simp at *;omega
theorem Z1e(l:List (Nat×Nat))(k:Nat)(x:Nat×Nat)(h:l[k]?=some x):(Q0U l)[k*2]?=some (.int .i64 (x.1:Int))/\(Q0U l)[k*2+1]?=some (.int .i64 (x.2:Int)):=by
 induction l generalizing k with
 | nil=>simp at h
 | cons y r ih =>
  cases k with
  | zero=>simp at h;subst h;exact⟨rfl,rfl⟩
  | succ k =>
   have:=ih k (by simpa using h);have e1:(k+1)*2=(k*2)+1+1:=by omega
   have e2:(k+1)*2+1=(k*2+1)+1+1:=by omega
   rw[e1];exact⟨this.1,this.2⟩
theorem Q6C(l:List (Nat×Nat)):(Q0U l).length=l.length*2:=by
 induction l with
 | nil=>rfl
 | cons y r ih =>
  show(_::_::Q0U r).length=_;simp[ih];omega
theorem Q9V(d:Array (Nat×Nat)):(flatK encB 2 d).toList=Q0U d.toList:=by
 apply J4J
 intro t;rcases J5K t (d.size*2) with h|h
 ·have hk:t/2<d.size:=by omega
  have hx:d.toList[t/2]?=some d[t/2]!:=by
   rw[getElem!_pos d (t/2) hk,J5B,Array.getElem?_eq_getElem hk]
  obtain⟨e1,e2⟩:=Z1e d.toList (t/2) _ hx;have e0:(flatK encB 2 d).toList[t]?=some ((encB d[t/2]!)[t%2]!):=by
   simp[flatK,h]
  rw[e0];rcases Nat.mod_two_eq_zero_or_one t with hm|hm
  ·have ht:t=t/2*2:=by omega
   rw[hm]
   conv=>rhs;rw[ht]
   rw[e1];rfl
  ·have ht:t=t/2*2+1:=by omega
   rw[hm]
   conv=>rhs;rw[ht]
   rw[e2];rfl
 ·rw[J4Q (by simp;omega),J4Q (by rw[Q6C];simpa using h)]
theorem Z4a{d d':Array (Nat×Nat)}(h:Go.Sort.PermIn 0 d.size d d'):d'.toList.Perm d.toList/\d'.size=d.size:=by
 obtain⟨h1,_,h3⟩:=h;refine⟨?_,h1⟩;have e1:d'.extract 0 d.size=d':=by rw[<- h1];simp
 rw[e1] at h3
 simpa using h3
theorem Z1f{d:Array (Nat×Nat)}{n:Nat}(hn:n=d.size)(h:Go.Sort.SortedIn (ltOf cfB) 0 n d):d.toList.Pairwise (fun a b=>a.1<=b.1):=by
 subst hn;rw[J6d];intro i j hi hj D2;have:=h i j (J5d _) D2 (by simpa using hj);rw[ltB] at this;simp only[decide_eq_false_iff_not,Nat.not_lt] at this;rw[getElem!_pos d i (by simpa using hi),getElem!_pos d j (by simpa using hj)] at this
 simpa using this
theorem Q9W{w:World}{g:Nat}{Ak:Array Value}{e:TypeId}{L:List (Nat×Nat)}(hb:w.heap[g]?=some (.cells Ak e (0,0)))(ht:Ak.toList.take (L.length*2)=Q0U L):HoldsK encB 2 w g 0 L.toArray:=by
 intro j hj;have Bn:j<L.length*2:=by simpa using hj
 refine⟨?_,by simp[World.frozen?,hb]⟩;have h1:(Ak.toList.take (L.length*2))[j]?=(flatK encB 2 L.toArray).toList[j]?:=by rw[ht,Q9V]
 rw[J7r Bn] at h1;simp only[World.cell?,hb,J5F,J6e,J6S,if_false,id];rw[<- J5B,h1,getElem!_pos _ j hj];simp[Bn]
theorem Q6J(Ak F:Array Value)(h:F.size<=Ak.size):(Go.Sort.putCells id 0 F Ak).toList.take F.size=F.toList:=by
 apply J4J
 intro j;by_cases hj:j<F.size
 ·rw[J7r hj,J5B];simp[Go.Sort.putCells,hj,show j<Ak.size by omega]
 ·rw[J7s (by omega),J4Q (by simp;omega)]
theorem Q9X{w:World}{g n:Nat}{os:Array Obj}{Ak:Array Value}{e:TypeId}(d:Array (Nat×Nat))(hb:w.heap[g]?=some (.cells Ak e (0,0))) :
  (sortWorldK encB 2 w g 0 n d os).heap[g]?=some (.cells (Go.Sort.putCells id 0 (flatK encB 2 d) Ak) e (0,0)):=by
 have hg:g<w.heap.size:=(J7t.1 hb).1;unfold sortWorldK putRowK;rw[Go.Sort.heap_grow_old _ _ (by simpa using hg)];simp[Go.Sort.putRow,Go.Sort.mapBlock,Go.Sort.ahead,Array.getElem?_modify,hb,Go.Sort.onCells]
theorem Q8v{w:World}{g n:Nat}{os:Array Obj}(d:Array (Nat×Nat)):w.grownBy (sortWorldK encB 2 w g 0 n d os) (some g):=by
 unfold sortWorldK putRowK;refine⟨rfl,rfl,rfl,by simp,fun k hk Ac=>?_⟩;rw[Go.Sort.heap_grow_old _ _ (by simpa using hk)];have:g≠k:=fun e=>Ac (by rw[e])
 simp[Go.Sort.putRow,Go.Sort.mapBlock,Go.Sort.ahead,Array.getElem?_modify,this]
theorem Z4b{w w1:World}{v:Value}{L:List (Nat×Nat)}(h:OutB w w1 v L)(hl:L.length<=22020096):Calls prog 73 #[v] w1 (Q5W w.heap.size L v w1):=by
 obtain⟨⟨Ab,AL⟩,hb⟩:=h;rcases AL with ⟨rfl,h0⟩|⟨g,cap,Ak,rfl,hg,CR,hn,hm,hs,ht⟩
 ·have hL:L=[]:=J5r h0;subst hL;have FL:=AnyF.slices_SortFunc_none Z7w none 0 (.func (.func 137) #[] #[]) w1
  change Calls prog 136 _ _ _ at FL
  have HR:Hid (Q5W w.heap.size [] (.slice none 0 0) w1 (.returned (.slice none 0 0)) w1):=⟨rfl,[],J6v _,List.Pairwise.nil,⟨rfl,.inl ⟨rfl,rfl⟩⟩,Below.refl _ _⟩
  clear Ab hb h0 hl;go_enter func73,ntmps73;go_wp2_with (go_at_call 136;refine FL.mono ?_;rintro e w'⟨rfl,rfl⟩);go_ret;exact HR.out
 ·have eg:∀args w,(callFunc 137 args).run prog w=.ok (.enter 137 args) w:=enters_of func137 (by kernel_rfl) rfl;have Cp:CmpLays prog 137 #[] encB 2 cfB g 0 L.toArray.size w1:=fun _ _ _ _ x y=>Z1d x y _
  have FL:=AnyQ.slices_SortFunc Z7w 2 isAgg161 sizeOf161 encB (fun _=>rfl) (fun x v hv=>by simp[encB] at hv;rcases hv with rfl|rfl <;> rfl) cfB swoB 137 #[] g 0 cap L.toArray w1 eg Cp (Q9W CR ht) (lt_of_block CR) (by simp;omega)
  change Calls prog 136 _ _ _ at FL
  have HR:Hid (∀w2,(∃d' n os,Go.Sort.PermIn 0 L.toArray.size L.toArray d'/\Go.Sort.SortedIn (ltOf cfB) 0 L.toArray.size d'/\w2=sortWorldK encB 2 w1 g 0 n d' os)->Q5W w.heap.size L (.slice (some ⟨g,0,none⟩) L.length cap) w1 (.returned (.slice (some ⟨g,0,none⟩) L.length cap)) w2):=by
   rintro w2⟨d',n,os,hp,Rs,rfl⟩;obtain⟨p1,p2⟩:=Z4a hp;have p1':d'.toList.Perm L:=by simpa using p1
   have p3:d'.toList.length=L.length:=p1'.length_eq;refine⟨rfl,d'.toList,p1',Z1f p2.symm Rs,⟨Q6C _,.inr ⟨g,cap,_,by rw[p3],hg,Q9X d' CR,by rw[p3];exact hn,hm,by simp[Go.Sort.putCells,hs],?_⟩⟩,?_⟩
   ·have e:d'.toList.length*2=(flatK encB 2 d').size:=by simp
    rw[e,Q6J _ _ (by rw[<- e,p3,hs];omega),Q9V]
   ·have Ca:=Q8v (w:=w1) (g:=g) (n:=n) (os:=os) d';exact⟨Ca.os,Ca.tape,Ca.output,Ca.size,fun k hk=>by
     rcases J5K k w1.heap.size with e|e
     ·exact Ca.block k e (fun e'=>by cases e';omega)
     ·have:=hb.size;omega⟩
  rw[J5G] at FL;have RO:Hid (∀(r:Ending) (w2:World),(r=.returned (.tuple #[])/\∃d' n os,Go.Sort.PermIn 0 L.length L.toArray d'/\Go.Sort.SortedIn (ltOf cfB) 0 L.length d'/\w2=sortWorldK encB 2 w1 g 0 n d' os)->r=.returned (.tuple #[])/\Q5W w.heap.size L (.slice (some ⟨g,0,none⟩) L.length cap) w1 (.returned (.slice (some ⟨g,0,none⟩) L.length cap)) w2):=fun r w2 ⟨e,hx⟩=>⟨e,HR.out w2 (by simpa using hx)⟩
  clear HR Ab CR ht hs hn hm Cp eg hl hb hg;generalize L.length=ll at *
  go_enter func73,ntmps73;go_wp2_with fail;refine FL.mono ?_;intro r w2 hx;obtain⟨rfl,hy⟩:=RO.out _ _ hx;have HY:=Q0a hy;clear hx hy;go_wp2_with fail;go_ret;exact HY.out
theorem Z7x{w:World}{d:BD}{G:Nat->Nat->Bool}(h:Sep w d.hl)(hi:d.Is G):Calls prog 17 #[.pointer (some ⟨d.b,0,none⟩)] w (NewBlks w (Q1o G d.top (d.top+1))):=
 Z6g h hi fun _ _ _ ho hl _=>Z4b ho hl
end Go.Proofs.YtfidemmgofcnmaaGreatDoor
namespace Go.Proofs.YtfidemmgofcnmaaGreatDoor
open Go.Shelf Go.Proofs.Tryz
end Go.Proofs.YtfidemmgofcnmaaGreatDoor
namespace Go.Proofs.YtfidemmgofcnmaaGreatDoor
open Go.RowKit Go.Maps Go.Sort Go.Shelf Go.Proofs.Tryz
end Go.Proofs.YtfidemmgofcnmaaGreatDoor
namespace Go.Proofs.YtfidemmgofcnmaaGreatDoor
open Go.RowKit Go.Proofs.Tryz
structure FlS(H:HL)(LV:List Nat)(va:Option Addr)(ids:List Int)(ia:Option Addr)(F:List (Nat×Nat))(fa:Option Addr)(w wr:World):Prop where
 st:Step [] H w wr
 va:Aside H LV va wr
 ia:AsideV H (ids.map encZ) ia wr
 fa:AsideB H F fa wr
theorem FlS.step{H H':HL}{LV:List Nat}{va:Option Addr}{ids:List Int}{ia:Option Addr}{F:List (Nat×Nat)}{fa:Option Addr}{w wr w':World}(h:FlS H LV va ids ia F fa w wr)(st:Step H H' wr w'):FlS H' LV va ids ia F fa w w':=
 ⟨h.st.trans st,h.va.step st,h.ia.step st,h.fa.step st⟩
structure FreeIs(S:CO)(F:List (Nat×Nat)):Prop where
 perm:F.Perm (Q1o (fre (uOf S.P.d.ps) S.P.d.top) S.P.d.top (S.P.d.top+1))
 sort:F.Pairwise (fun a b=>a.1<=b.1)
 len:F.length<=33554432
theorem Z7y{S:CO}{fr:List Nat}{N K:Nat}{H:HL}{wr:World}(hs:Sep wr H)(h:Sep wr S.hl)(ok:S.Ok fr N K):Calls prog 17 #[.pointer (some ⟨S.P.d.b,0,none⟩)] wr fun r w'=>∃(a:Option Addr) (cap:Nat) (F:List (Nat×Nat)),r=.returned (.slice a F.length cap)/\FreeIs S F/\Below wr.heap.size wr w'/\AsideB H F a w':=by
 refine(Z7x (PL.sD (CO.sP h)) ok.inv.mem.pool.d.is).mono ?_;intro r w' hr;obtain⟨a,cap,L,rfl,hp,BJ,hb,JU,hn⟩:=hr.reads;refine⟨a,cap,L,rfl,⟨hp,BJ,?_⟩,hb,fun j x hj=>?_⟩
 ·rw[hp.length_eq];have ht:=ok.inv.mem.pool.d.is.top;have:=Q3q (fre (uOf S.P.d.ps) S.P.d.top) S.P.d.top ht (S.P.d.top+1);omega
 ·obtain⟨g,h1,h2,h3,h4⟩:=JU j x hj;refine⟨g,h1,fun hk=>?_,h2,h3,h4⟩;have:wr.heap.size<=g:=hn _ h1;have:=hs.lt hk;omega
def Q8w(E:List (En Fa))(id:Int):Int:=match find E id with
 | some e=>e.q.charged+e.q.given
 | none=>0
theorem J0r{S:CO}{fr:List Nat}{N K:Nat}{wr:World}(h:Sep wr S.hl)(ok:S.Ok fr N K)(id:Int):Calls prog 19 #[.pointer (some ⟨S.P.q.t,0,none⟩),.int .i64 id] wr (Told wr (.int .i64 (Q8w S.P.q.E id))):=by
 unfold Q8w;cases hf:find S.P.q.E id with
 | some e=>exact Z4S (PL.sQ (CO.sP h)) ok.inv.mem.pool.q hf
 | none =>
  refine(Z4T (PL.sQ (CO.sP h)) hf).mono ?_;rintro r w'⟨rfl,rfl⟩;exact⟨rfl,Below.refl _ _⟩
def Z9S(E:List (En Fa)):List Int:=(E.map (·.id)).mergeSort leI
structure AlikeZ(Z Z':SP):Prop where
 s:Z'.s=Z.s
 c:Z'.S.c=Z.S.c
 same:SameP Z.S.P Z'.S.P
 ids:Z9S Z'.S.P.q.E=Z9S Z.S.P.q.E
 use:∀id,Q8w Z'.S.P.q.E id=Q8w Z.S.P.q.E id
 ps:Z'.S.P.d.ps.Perm Z.S.P.d.ps
 en:Z'.av.en=Z.av.en
theorem AlikeZ.refl(Z:SP):AlikeZ Z Z:=⟨rfl,rfl,SameP.refl _,rfl,fun _=>rfl,J6v _,rfl⟩
theorem FreeIs.same2{S S':CO}{F F':List (Nat×Nat)}(h:FreeIs S F)(h':FreeIs S' F')(ht:S'.P.d.top=S.P.d.top)(G5:S'.P.d.ps.Perm S.P.d.ps):F'=F:=by
 have hp:=h'.perm;have hs:=h'.sort;rw[ht] at hp;refine Z6h (fun p=>?_) hp h.perm hs h.sort;unfold uOf;simp only[G5.mem_iff]
section
variable {S S':CO} {fr:List Nat} {N K N' K':Nat} {tb tb':Nat->TB}
theorem Z9T(ok:S.Ok fr N K)(ok':S'.Ok fr N' K')(hl:S'.l=S.l)(hx:∀id,S'.xc id=S.xc id)(acc:∀id e,find S.P.q.E id=some e->∃e',find S'.P.q.E id=some e'/\e'.q={e.q with charged:=e'.q.charged})(ids:S'.P.q.E.map En.id=S.P.q.E.map En.id)(id:Int):Q8w S'.P.q.E id=Q8w S.P.q.E id:=by
 unfold Q8w;cases h:find S.P.q.E id with
 | none =>
  cases h':find S'.P.q.E id with
  | none=>rfl
  | some e' =>
   obtain⟨hm,he⟩:=Q0d h';have hi:id∈S.P.q.E.map En.id:=by rw[<- ids,<- he];exact J3T hm
   obtain⟨e,Dw,DZ⟩:=J3n.1 hi;exact absurd DZ (Q5w h e Dw)
 | some e =>
  obtain⟨e',h1,h2⟩:=acc id e h;rw[h1];have c1:=ok.inv.tre.charged id e h;have c2:=ok'.inv.tre.charged id e' h1;rw[hl,hx,<- c1] at c2;have g:e'.q.given=e.q.given:=by
   have h3:=congrArg Fa.given h2;exact h3
  show e'.q.charged+e'.q.given=e.q.charged+e.q.given;rw[c2,g]
theorem Z7z(ok:S.Ok fr N K)(ok':S'.Ok fr N' K')(t:TPI S tb)(t':TPI S' tb')(hl:S'.l=S.l)(h7:Q1Z tb'=Q1Z tb)(h6:Q2r tb'=Q2r tb)(k:Nat):(S'.P.usedOf k).Perm (S.P.usedOf k):=by
 by_cases h0:k=0
 ·subst h0;exact J6v _
 by_cases h5:k<=5
 ·have a:=ok'.inv.mem.ats k (by omega) h5;rw[hl] at a;exact a.symm.trans (ok.inv.mem.ats k (by omega) h5)
 by_cases e6:k=6
 ·subst e6;have a:=t'.nds;rw[h6] at a;exact a.symm.trans t.nds
 by_cases e7:k=7
 ·subst e7;have a:=t'.lvs;rw[h7] at a;exact a.symm.trans t.lvs
 have hz:Q0e k=0:=by
  unfold Q0e;rw[J4Q (by simp;omega)];rfl
 rw[Q1K ok'.inv.mem.pool hz,Q1K ok.inv.mem.pool hz]
end
theorem Z9U{t t':TB}(h1:∀q,q<16->t'.lf q=t.lf q)(h2:∀s,t'.en s=t.en s):t'.lvs=t.lvs/\t'.nds=t.nds:=by
 constructor
 ·exact Q2q fun k hk=>by rw[h1 k (J3x.1 hk)]
 ·exact Q2q fun s _=>by rw[h2 s]
section
variable {Z:SP} {fr:List Nat} {N K:Nat} {M:Int} {w w':World}
end
theorem Z7A:∀(xs ys:List Nat),xs.length=ys.length->(∀b∈xs,b<256)->(∀b∈ys,b<256)->leN xs=leN ys->xs=ys
 | [],[],_,_,_,_=>rfl
 | x::xs,y::ys,hl,hx,hy,e=>by
  have h1:x+256*leN xs=y+256*leN ys:=e;have h2:=hx x (List.mem_cons_self ..);have h3:=hy y (List.mem_cons_self ..);have h4:x=y:=by omega
  have h5:leN xs=leN ys:=by omega
  rw[h4,Z7A xs ys (by simpa using hl) (fun b hb=>hx b (J7q _ hb)) (fun b hb=>hy b (J7q _ hb)) h5]
theorem Z4c{m m':List Nat}{a:Nat}(hm:∀b∈m,b<256)(By:∀b∈m',b<256)(hl:m'.length=m.length)(e:Q0m m' a=Q0m m a):Kept m m' a 8:=by
 unfold Q0m at e;have h:=Z7A _ _ (by simp[hl]) (fun b hb=>By b (J5E (J6y hb))) (fun b hb=>hm b (J5E (J6y hb))) e;intro i h1 h2;have:=congrArg (fun l=>l[i-a]?) h;simp only[J5e,J5D] at this;rw[if_pos (by omega),if_pos (by omega),show a+(i-a)=i by omega] at this;exact this
section
variable {Z:SP} {fr:List Nat} {N K:Nat} {M:Int} {w w':World}
def SameB(Z:SP)(m:List Nat):Prop:=∀p∈Z.S.l,p.is=true->Kept Z.S.P.a.mem m p.at_ (costK p.kind)
theorem SameB.refl(Z:SP):SameB Z Z.S.P.a.mem:=fun _ _ _=>Kept.refl _ _ _
theorem BackZ.bytes(ok:Z.Ok fr N K M)(nz:∀q∈Z.S.l,q.st≠2)(hm:Z.S.P.a.mem.length=65536){y:Nat}{own:Int}(h:BackZ Z fr N K y own w w'):∃Z',Z'.Ok fr N K M/\AlikeZ Z Z'/\KeepJ Z Z'/\Z'.S.l=Z.S.l/\Step Z.hl Z'.hl w w'/\SameB Z Z'.S.P.a.mem:=by
 obtain⟨S',t',h1,h2,h3,h4,h5,h6⟩:=h;have Dh:∀h s,Q0f S'.l (updT Z.tb (y%256) t') h s=Q0f Z.S.l Z.tb h s:=fun h s=>by
  unfold Q0f;rw[h3.l];split
  ·split
   ·by_cases e:h%256=y%256
    ·rw[e,updT_same,h5]
    ·rw[Q0x e]
   ·rfl
  ·rfl
 obtain⟨e1,e2⟩:=Z9U h4 h5;have el:∀i,(updT Z.tb (y%256) t' i).lvs=(Z.tb i).lvs:=fun i=>by
  by_cases e:i=y%256
  ·rw[e,updT_same,e1]
  ·rw[Q0x e]
 have en:∀i,(updT Z.tb (y%256) t' i).nds=(Z.tb i).nds:=fun i=>by
  by_cases e:i=y%256
  ·rw[e,updT_same,e2]
  ·rw[Q0x e]
 have h7:Q1Z (updT Z.tb (y%256) t')=Q1Z Z.tb:=by unfold Q1Z;simp only[el]
 have R8:Q2r (updT Z.tb (y%256) t')=Q2r Z.tb:=by unfold Q2r;simp only[en]
 have QD:∀id,S'.xc id=Z.S.xc id:=fun id=>by
  rw[h2.xc,ok.tpi.xc,h3.l];refine Q7h fun i hi=>?_
  unfold xcP TB.cost;simp only[el,en]
 have B9:(Z.setS S' (updT Z.tb (y%256) t')).Ok fr N K M:=⟨h1,h2,ok.fpi.same2 Dh fun h s e he q hq=>⟨q,by show pget S'.l 1 e.h=some q;rw[h3.l];exact hq,rfl⟩,ok.fo,ok.next⟩
 have sn:SameN Z (Z.setS S' (updT Z.tb (y%256) t')):=⟨rfl,h3.alt0,rfl⟩
 have EW:∀i q,q<16->(updT Z.tb (y%256) t' i).lf q=(Z.tb i).lf q:=fun i q hq=>by
  by_cases e:i=y%256
  ·rw[e,updT_same,h4 q hq]
  ·rw[Q0x e]
 have D3:S'.P.a.mem.length=Z.S.P.a.mem.length:=by
  rw[h1.inv.mem.pool.mem,ok.core.inv.mem.pool.mem,h3.same.top]
 refine⟨Z.setS S' (updT Z.tb (y%256) t'),B9,⟨rfl,h3.c,h3.same,?_,?_,?_,?_⟩,sn.keepJ,h3.l,h6,fun p hp hi=>?_⟩
 ·show Z9S S'.P.q.E=_;unfold Z9S;rw[show S'.P.q.E.map (·.id)=Z.S.P.q.E.map (·.id) from h3.ids]
 ·exact Z9T ok.core h1 h3.l QD (fun id e he=>by obtain⟨e',a,b,_⟩:=h3.acc id e he;exact⟨e',a,b⟩) h3.ids
 ·exact Z5n ok.core.inv.mem.pool h1.inv.mem.pool (Z7z ok.core h1 ok.tpi h2 h3.l h7 R8) (J6v _)
 ·show(fun h s=>(Q0f S'.l (updT Z.tb (y%256) t') h s).map Ent.c)=_;unfold SP.av avOf;funext h s;rw[Dh]
 ·by_cases hk:p.kind=2
  ·have Uh:p.st=1:=by
    rcases Pl.is_iff.1 hi with h|h
    ·exact h
    ·exact absurd h (nz p hp)
   obtain⟨i,FH⟩:=J5Q.1 hp;have a1:=(ok.tpi.tin i p FH Uh hk).root;have a2:=(h2.tin i p (by rw[h3.l];exact FH) Uh hk).root;have hw:∀q,q<16->Kept Z.S.P.a.mem S'.P.a.mem (p.at_+8*q) 8:=fun q hq=>Z4c ok.bytes h1.inv.mem.pool.bytes D3 (by rw[a2 q hq,a1 q hq,EW i q hq])
   rw[hk];intro b b1 b2;have b3:b<p.at_+128:=b2;exact hw ((b-p.at_)/8) (by omega) b (by omega) (by omega)
  ·exact h3.kept p hp hi hk
theorem MoveR.bytes(ok:Z.Ok fr N K M)(nz:∀q∈Z.S.l,q.st≠2)(hm:Z.S.P.a.mem.length=65536){x y n:Nat}{A:Nat->Mv}{er:Int}(h0:er≠0)(R:MoveR Z fr N K M x y n A w er w'):∃Z',Z'.Ok fr N K M/\AlikeZ Z Z'/\KeepJ Z Z'/\Z'.S.l=Z.S.l/\Step Z.hl Z'.hl w w'/\SameB Z Z'.S.P.a.mem:=by
 rcases R with ⟨_,_,own,h⟩|⟨p1,p2,_,_,_,_,_,⟨e,_⟩|⟨_,_,h⟩⟩
 ·exact h.bytes ok nz hm
 ·exact absurd e h0
 ·exact h.bytes ok nz hm
end
end Go.Proofs.YtfidemmgofcnmaaGreatDoor
namespace Go.Proofs.YtfidemmgofcnmaaGreatDoor
open Go.RowKit Go.Shelf Go.Proofs.Tryz
def obL(l:List Pl):List Nat:=allL l 1++allL l 2
def obP(l:List Pl)(x:Nat):Pl:=l[x%256]?.getD (noPl 0)
theorem J0s{l:List Pl}{x:Nat}{p:Pl}(h:l[x%256]?=some p):obP l x=p:=by unfold obP;rw[h];rfl
theorem J1X{l:List Pl}(hl:l.length<=256){x:Nat}(hx:x∈obL l):∃p,l[x%256]?=some p/\p.is=true/\obP l x=p/\(pget l 1 x=some p∨pget l 2 x=some p):=by
 rcases J3Q.1 hx with h|h
 ·obtain⟨p,hp⟩:=(Z4j hl).1 h;obtain⟨a1,_,a3⟩:=pget_some.1 hp;exact⟨p,a1,Pl.is_iff.2 (.inl a3),J0s a1,.inl hp⟩
 ·obtain⟨p,hp⟩:=(Z4j hl).1 h;obtain⟨a1,_,a3⟩:=pget_some.1 hp;exact⟨p,a1,Pl.is_iff.2 (.inr a3),J0s a1,.inr hp⟩
theorem J1Y{l:List Pl}(hl:l.length<=256):(obL l).length<=512:=by
 unfold obL;rw[J3N];have h1:=Q2N l 1 l.length;have h2:=Q2N l 2 l.length;unfold allL;omega
end Go.Proofs.YtfidemmgofcnmaaGreatDoor
namespace Go.Proofs.YtfidemmgofcnmaaGreatDoor
open Go.RowKit Go.Proofs.Tryz
section
variable {S:CO} {tb:Nat->TB} {fr:List Nat} {N K:Nat}
end
section
variable {Z:SP} {fr:List Nat} {N K:Nat} {M:Int} {ids:List Int} {ia:Option Addr} {oa:Option Addr} {F:List (Nat×Nat)} {fa:Option Addr} {w wr:World}
theorem J2O(ok:Z.Ok fr N K M)(h:FlS Z.hl (obL Z.S.l) oa ids ia F fa w wr){x:Nat}(hx:x∈obL Z.S.l):x<4294967296/\Calls prog 30 #[.pointer (some ⟨Z.S.c,0,none⟩),.int .u32 x] wr (Told wr (.tuple #[.agg #[.int .i64 ((obP Z.S.l x).kind:Int),.int .i64 ((obP Z.S.l x).at_:Int),.int .i64 ((obP Z.S.l x).fac:Int)],.bool true])):=by
 have Fi:Z.S.l.length<=256:=by rw[ok.core.inv.len];omega
 obtain⟨p,h1,h2,h3,h4⟩:=J1X Fi hx;have M5:x<4294967296:=by
  have hn:nm (x%256) p=x:=by rcases h4 with h4|h4 <;> exact(pget_some.1 h4).2.1
  have:=(ok.core.inv.lok.2 p (J5p h1)).2;unfold nm at hn;omega
 refine⟨M5,?_⟩;have:=Z8J (SP.sS h.st.sep) ok.core.inv.lok M5;rw[h3];unfold anyV at this;rcases h4 with h4|h4
 ·have hz:pget Z.S.l 2 x=none:=by
   cases hc:pget Z.S.l 2 x with
   | none=>rfl
   | some q =>
    obtain⟨a1,_,a3⟩:=pget_some.1 h4;obtain⟨b1,_,b3⟩:=pget_some.1 hc;rw[a1] at b1;cases b1;omega
  rw[hz,h4] at this;exact this
 ·rw[h4] at this;exact this
theorem J1Z(ok:Z.Ok fr N K M){x:Nat}(hx:x∈obL Z.S.l):((obP Z.S.l x).kind=8∨1<=(obP Z.S.l x).kind/\(obP Z.S.l x).kind<=5)/\((obP Z.S.l x).fac:Int)<1048576:=by
 have Fi:Z.S.l.length<=256:=by rw[ok.core.inv.len];omega
 obtain⟨p,h1,h2,h3,h4⟩:=J1X Fi hx;rw[h3];have hm:=J5p h1;refine⟨ok.core.inv.mem.kind p hm h2,?_⟩;obtain⟨e,he⟩:=ok.core.inv.tre.fac p hm h2;have hq:=ok.core.inv.mem.pool.q;have:=hq.fa _ e he;have:=hq.next1;omega
theorem Z2p{k:Nat}(h:k=8∨1<=k/\k<=5):32<=costK k/\costK k<=1024:=by
 rcases h with rfl|⟨h1,h2⟩
 ·decide
 ·obtain rfl|rfl|rfl|rfl|rfl:k=1∨k=2∨k=3∨k=4∨k=5:=by omega
  all_goals decide
theorem Z4d(w:World){k:Nat}(hk:1<=k/\k<=5):Calls prog 89 #[.int .i64 k] w fun r w'=>r=.returned (.int .i64 ((costK k:Nat):Int))/\w=w':=by
 obtain rfl|rfl|rfl|rfl|rfl:k=1∨k=2∨k=3∨k=4∨k=5:=by omega
 all_goals
  go_enter func89,ntmps89;go_wp2_with fail
  (try go_ret);exact⟨rfl,rfl⟩
theorem Q9Y(w:World){k:Nat}(hk:k=8∨1<=k/\k<=5):Calls prog 31 #[.int .i64 k] w fun r w'=>r=.returned (.int .i64 ((costK k:Nat):Int))/\w=w':=by
 by_cases h8:k=8
 ·subst h8;go_enter func31,ntmps31;go_wp2_with fail
  (try go_ret);exact⟨rfl,rfl⟩
 ·have h1:1<=k/\k<=5:=by omega
  have kc:=Z4d w h1;have h2:¬(k:Int)=8:=by omega
  have h3:((k:Int)==8)=false:=by simp;omega
  have h4:¬(5:Int)<(k:Int):=by omega
  have h5:decide ((5:Int)<(k:Int))=false:=decide_eq_false h4;generalize costK k=c at *
  go_enter func31,ntmps31;go_wp2_with fail;refine kc.mono ?_;rintro r w'⟨rfl,rfl⟩;go_wp2_with fail
  (try go_ret);exact⟨rfl,rfl⟩
end
structure CfS(Z:SP)(m:List Nat)(g:Nat)(O:List Nat)(oa:Option Addr)(F:List (Nat×Nat))(fa:Option Addr)(c kk ge:Nat)(f:Nat->Nat×Nat)(w0 wr:World):Prop where
 fl:FlS Z.hl O oa [] none F fa w0 wr
 rd:AsideN Z.hl m (some ⟨g,0,none⟩) wr
 car:CarC Z c kk wr
 ends:AsideV Z.hl (endC (endL f)) (some ⟨ge,0,none⟩) wr
section
variable {Z Z':SP} {fr:List Nat} {N K:Nat} {M:Int} {m:List Nat} {g:Nat} {O:List Nat} {oa fa:Option Addr} {F:List (Nat×Nat)} {c kk ge:Nat} {f:Nat->Nat×Nat} {w0 wr w':World}
theorem CfS.step(h:CfS Z m g O oa F fa c kk ge f w0 wr)(hs:Z'.s=Z.s)(st:Step Z.hl Z'.hl wr w'):CfS Z' m g O oa F fa c kk ge f w0 w':=⟨h.fl.step st,h.rd.step st,h.car.step hs st,AsideV.step h.ends st⟩
theorem CfS.sep(h:CfS Z m g O oa F fa c kk ge f w0 wr):Sep wr Z.hl:=h.fl.st.sep
theorem CfS.grown(h:CfS Z m g O oa F fa c kk ge f w0 wr)(hb:Below wr.heap.size wr w'):CfS Z m g O oa F fa c kk ge f w0 w':=h.step rfl (h.sep.grown hb)
theorem CfS.below(h:CfS Z m g O oa F fa c kk ge f w0 wr):Below w0.heap.size w0 wr:=h.fl.st.fresh
theorem CfS.end_(h:CfS Z m g O oa F fa c kk ge f w0 wr)(j:Nat)(v:Value)(hj:(endC (endL f))[j]?=some v):wr.cell? ⟨ge,j,none⟩=some v:=by
 obtain⟨g',e,_,_,z⟩:=h.ends j v hj;cases e;exact z
theorem Z9V(ok:Z.Ok fr N K M)(hm:Z.S.P.a.mem.length=65536)(hc:CarC Z c kk wr)(he:AsideV Z.hl (endC (endL f)) (some ⟨ge,0,none⟩) wr)(st:Step [] Z.hl w0 wr) :
  Calls prog 51 #[.pointer (some ⟨Z.S.P.a.a,0,none⟩),.int .i64 0,.int .i64 65536] wr fun r w1=>∃g cap:Nat,r=.returned (.tuple #[.slice (some ⟨g,0,none⟩) 65536 cap,.int .i64 0]) /\
   (Calls prog 16 #[.pointer (some ⟨Z.S.P.p,0,none⟩)] w1 fun r w'=>r=.returned (.pointer (some ⟨Z.S.P.d.b,0,none⟩))/\w1=w') /\
   Calls prog 17 #[.pointer (some ⟨Z.S.P.d.b,0,none⟩)] w1 fun r w2=>∃(fa:Option Addr) (fc:Nat) (F:List (Nat×Nat)),r=.returned (.slice fa F.length fc)/\FreeIs Z.S F /\
    (Calls prog 13 #[.pointer (some ⟨Z.S.P.p,0,none⟩)] w2 fun r w'=>r=.returned (.pointer (some ⟨Z.S.P.q.t,0,none⟩))/\w2=w') /\
    Calls prog 19 #[.pointer (some ⟨Z.S.P.q.t,0,none⟩),.int .i64 0] w2 fun r w3=>r=.returned (.int .i64 (Q8w Z.S.P.q.E 0)) /\
     (Calls prog 44 #[.pointer (some ⟨c,0,none⟩)] w3 fun r w'=>r=.returned (.pointer (some ⟨Z.s,0,none⟩))/\w3=w') /\
     (Calls prog 26 #[.pointer (some ⟨Z.s,0,none⟩)] w3 fun r w'=>r=.returned (.pointer (some ⟨Z.S.c,0,none⟩))/\w3=w') /\
     Calls prog 28 #[.pointer (some ⟨Z.S.c,0,none⟩)] w3 fun r w4=>∃v1,r=.returned v1 /\
      (Calls prog 44 #[.pointer (some ⟨c,0,none⟩)] w4 fun r w'=>r=.returned (.pointer (some ⟨Z.s,0,none⟩))/\w4=w') /\
      (Calls prog 26 #[.pointer (some ⟨Z.s,0,none⟩)] w4 fun r w'=>r=.returned (.pointer (some ⟨Z.S.c,0,none⟩))/\w4=w') /\
      Calls prog 29 #[.pointer (some ⟨Z.S.c,0,none⟩)] w4 fun r w5=>∃v2,r=.returned v2/\∃(oa:Option Addr) (oc:Nat) (w6:World),(Builtin.append_ #[51,51] 51 #[v1,v2]).run prog w5=.ok (.slice oa (obL Z.S.l).length oc) w6 /\
       CfS Z Z.S.P.a.mem g (obL Z.S.l) oa F fa c kk ge f w0 w6:=by
 have hs:=st.sep;refine(Z2o ok hs hm).mono ?_;rintro r w1⟨g,cap,rfl,Aq,hg⟩;have s1:=hs.grown Aq;refine⟨g,cap,rfl,Q5C (CO.sP (SP.sS s1.sep)),(Z7y s1.sep (SP.sS s1.sep) ok.core).mono ?_⟩;rintro r w2⟨fa,fc,F,rfl,hF,Ae,W7⟩;have s2:=s1.trans (s1.sep.grown Ae);refine⟨fa,fc,F,rfl,hF,Q6W (CO.sP (SP.sS s2.sep)),(J0r (SP.sS s2.sep) ok.core 0).mono ?_⟩;rintro r w3⟨rfl,Am⟩;have t3:=s2.sep.grown Am;have s3:=s2.trans t3;have p3:=Q3h s3.sep (hc.step rfl s3);refine⟨rfl,p3.1,p3.2.1,(Z5M (SP.sS s3.sep) ok.core.inv.lok).mono ?_⟩;rintro r w4⟨v1,rfl,G6,Av⟩;have s4:=s3.trans (s3.sep.grown Av);have p4:=Q3h s4.sep (hc.step rfl s4)
 refine⟨v1,rfl,p4.1,p4.2.1,(Q9a (SP.sS s4.sep) ok.core.inv.lok).mono ?_⟩;intro r w5 hr;obtain⟨a,Cn,rfl,As,A4,D0⟩:=hr.shape0;have FW:OutH w3 w5 v1 (allL Z.S.l 1):=OutH.below ⟨G6,Av⟩ As;have D7:=Q2N Z.S.l 1 Z.S.l.length;have D3:=Q2N Z.S.l 2 Z.S.l.length;have Fi:Z.S.l.length<=256:=by rw[ok.core.inv.len];omega
 obtain⟨v3,w6,e1,e2,e3,e4⟩:=J1o (ty:=51) (cap:=Cn) FW.1 A4 D0 (by unfold allL;omega) FW.2.size;have BW:Below w3.heap.size w3 w6:=FW.2.trans ((Below.refl _ _).mono FW.2.size |>.grown e3 FW.2.size (fun b hb=>(FW.1.lt b hb).1));have e2':w6.ownsRow w3.heap.size 58 1 v3 (obL Z.S.l).length (Q1R (obL Z.S.l)):=by
  unfold obL;rw[J3N,Q8U];exact e2
 obtain⟨oa,oc,h3,_,VX⟩:=NewHs.aside (H:=Z.hl) (r:=.returned v3) ⟨v3,rfl,e2',BW⟩ s3.sep;cases h3;have t6:=s3.sep.grown BW;have st6:=st.trans (s3.trans t6);exact⟨_,rfl,oa,oc,w6,e1,⟨st6,VX,fun j x hj=>by simp at hj,(W7.step (s2.sep.grown Am)).step t6⟩,((hg.step (s1.sep.grown Ae)).step t3).step t6,hc.step rfl (s3.trans t6),AsideV.step he (s3.trans t6)⟩
def CfT(Z:SP)(fr:List Nat)(N K:Nat)(M:Int)(m:List Nat)(g:Nat)(O:List Nat)(oa:Option Addr)(F:List (Nat×Nat))(fa:Option Addr)(c kk ge:Nat)(f:Nat->Nat×Nat)(w0:World)(er:Int)(w':World):Prop:=
 (er=0/\Below w0.heap.size w0 w'/\∀(j:Nat) (v:Value),(endC (endL f))[j]?=some v->w'.cell? ⟨ge,j,none⟩=some v)∨(er≠0/\∃Z',Z'.Ok fr N K M/\AlikeZ Z Z'/\Z'.S.l=Z.S.l/\SameB Z Z'.S.P.a.mem/\CfS Z' m g O oa F fa c kk ge f w0 w')
theorem Z9W(ok:Z.Ok fr N K M)(nz:∀q∈Z.S.l,q.st≠2)(hm:Z.S.P.a.mem.length=65536)(h:CfS Z m g O oa F fa c kk ge f w0 wr)(hM:M+256<1099511627776){t1 t2:Nat}(Id:t1<4294967296)(I8:t2<4294967296){a1 a2:Nat}(Lu:a1<=65536)(PI:a2<=65536){lb:Nat}(FG:lb<18446744073709551616) :
  Calls prog 54 #[.pointer (some ⟨c,0,none⟩),.agg #[.int .u32 t1,.int .i64 a1],.agg #[.int .u32 t2,.int .i64 a2],.int .u64 lb] wr fun r w'=>∃er:Int,r=.returned (.int .i64 er)/\CfT Z fr N K M m g O oa F fa c kk ge f w0 er w':=by
 refine(Q1X ok h.sep hM h.car Id I8 (a1:Int) (a2:Int) (by omega) (by omega) FG).mono ?_;rintro r w' (⟨er,h0,rfl,DP,_⟩|⟨p,p',hp,AG,CE,⟨er,w5,h0,rfl,As,RT⟩|⟨rfl,av,Z1,Af,AZ,Ca,sn,_,ok1,ok2,st⟩⟩)
 ·exact⟨er,rfl,.inr ⟨h0,Z,ok,AlikeZ.refl Z,rfl,SameB.refl Z,h.grown DP⟩⟩
 ·obtain⟨Z',b1,b2,b3,b4,b5,b6⟩:=RT.bytes ok nz hm h0;exact⟨er,rfl,.inr ⟨h0,Z',b1,b2,b4,b6,(h.grown As).step b2.s b5⟩⟩
 ·refine⟨0,rfl,.inl ⟨rfl,(h.fl.st.trans st).fresh,fun j v hj=>?_⟩⟩;obtain⟨g',e,_,_,z⟩:=AsideV.step h.ends st j v hj;cases e;exact z
theorem Z9X(ok:Z.Ok fr N K M)(h:CfS Z m g O oa F fa c kk ge f w0 wr){t:Nat}(ht:t<4294967296)(z off:Int)(Cs:I64 off){la:Option Addr}{L:List Nat}(lcp:Nat)(hL:IsU w0 la L)(hl:∀y∈L,y<18446744073709551616)(Ab:L.length<=200) :
  Calls prog 45 #[.pointer (some ⟨c,0,none⟩),.int .u32 t,.int .i64 z,.int .i64 off,.slice la L.length lcp] wr fun r w'=>∃er:Int,r=.returned (.int .i64 er)/\Below w0.heap.size w0 w'/\(er≠0->CfS Z m g O oa F fa c kk ge f w0 w'):=by
 refine(Q3T ok h.sep h.car ht z off Cs lcp (Q9T hL h.fl.st) hl (by omega)).mono ?_;rintro r w' (⟨h1,rfl,hb⟩|⟨_,p,q,hf,rfl,ok2,st⟩)
 ·exact⟨_,rfl,h.below.trans (hb.mono h.below.size),fun _=>h.grown hb⟩
 ·exact⟨0,rfl,(h.fl.st.trans st).fresh,fun e=>absurd rfl e⟩
theorem J0t{Z0:SP}{fr0:List Nat}{N0 K0:Nat}{M0:Int}(ok:Z.Ok fr N K M)(hm:Z.S.P.a.mem.length=65536)(al:AlikeZ Z0 Z)(h:CfS Z m g O oa F fa c kk ge f w0 wr)(hF:FreeIs Z0.S F)(_ok0:Z0.Ok fr0 N0 K0 M0)(fc:Nat) :
  (Calls prog 50 #[.pointer (some ⟨Z.S.P.p,0,none⟩)] wr fun r w'=>r=.returned (.pointer (some ⟨Z.S.P.a.a,0,none⟩))/\wr=w') /\
  Calls prog 51 #[.pointer (some ⟨Z.S.P.a.a,0,none⟩),.int .i64 0,.int .i64 65536] wr fun r w1=>∃g2 cap:Nat,r=.returned (.tuple #[.slice (some ⟨g2,0,none⟩) 65536 cap,.int .i64 0]) /\
   (Calls prog 16 #[.pointer (some ⟨Z.S.P.p,0,none⟩)] w1 fun r w'=>r=.returned (.pointer (some ⟨Z.S.P.d.b,0,none⟩))/\w1=w') /\
   Calls prog 17 #[.pointer (some ⟨Z.S.P.d.b,0,none⟩)] w1 fun r w2=>∃(fa2:Option Addr) (fc2:Nat),r=.returned (.slice fa2 F.length fc2) /\
    Calls prog 22 #[.slice fa F.length fc,.slice fa2 F.length fc2] w2 fun r w3=>r=.returned (.bool true) /\
     (Calls prog 13 #[.pointer (some ⟨Z.S.P.p,0,none⟩)] w3 fun r w'=>r=.returned (.pointer (some ⟨Z.S.P.q.t,0,none⟩))/\w3=w') /\
     Calls prog 19 #[.pointer (some ⟨Z.S.P.q.t,0,none⟩),.int .i64 0] w3 fun r w4=>r=.returned (.int .i64 (Q8w Z0.S.P.q.E 0)) /\
      CfS Z m g O oa F fa c kk ge f w0 w4/\AsideN Z.hl Z.S.P.a.mem (some ⟨g2,0,none⟩) w4:=by
 have hs:=h.sep;refine⟨Q0s (CO.sP (SP.sS hs)),(Z2o ok hs hm).mono ?_⟩;rintro r w1⟨g2,cap,rfl,Aq,hg⟩;have s1:=hs.grown Aq;refine⟨g2,cap,rfl,Q5C (CO.sP (SP.sS s1.sep)),(Z7y s1.sep (SP.sS s1.sep) ok.core).mono ?_⟩;rintro r w2⟨fa2,fc2,F2,rfl,S8,Ae,RC⟩;obtain rfl:F2=F:=hF.same2 S8 al.same.top al.ps;have t2:=s1.sep.grown Ae;have s2:=s1.trans t2;refine⟨fa2,fc2,rfl,(Z6i w2 fa fa2 fc fc2 F2 (h.fl.fa.step s2).reads RC.reads S8.len).mono ?_⟩;rintro r w3⟨rfl,Am⟩;have t3:=s2.sep.grown Am;have s3:=s2.trans t3;refine⟨rfl,Q6W (CO.sP (SP.sS s3.sep)),(J0r (SP.sS s3.sep) ok.core 0).mono ?_⟩;rintro r w4⟨rfl,Av⟩
 have t4:=s3.sep.grown Av;exact⟨by rw[al.use 0],h.step rfl (s3.trans t4),((hg.step t2).step t3).step t4⟩
theorem J3f{S:CO}(ok:S.Ok fr N K){p:Pl}(hp:p∈S.l)(hi:p.is=true):p.at_+costK p.kind<=S.P.a.mem.length:=by
 by_cases e:p.kind=8
 ·exact(Q0Z ok hp hi (.inr e)).1
 ·have hu:=ok.inv.mem.used hp hi e;rw[Q1d e];exact(Q0k ok.inv.mem.pool hu).1
theorem Z7B(ok:Z.Ok fr N K M)(hm:Z.S.P.a.mem.length=65536)(h:CfS Z m g (obL Z.S.l) oa F fa c kk ge f w0 wr){i x:Nat}(hx:(obL Z.S.l)[i]?=some x) :
  (∃go:Nat,oa=some ⟨go,0,none⟩/\wr.cell? ⟨go,i,none⟩=some (.int .u32 x))/\(((obP Z.S.l x).kind=8∨1<=(obP Z.S.l x).kind/\(obP Z.S.l x).kind<=5)/\(obP Z.S.l x).at_+costK (obP Z.S.l x).kind<=65536)/\(obP Z.S.l x∈Z.S.l/\(obP Z.S.l x).is=true) /\
   (Calls prog 44 #[.pointer (some ⟨c,0,none⟩)] wr fun r w'=>r=.returned (.pointer (some ⟨Z.s,0,none⟩))/\wr=w') /\
   (Calls prog 26 #[.pointer (some ⟨Z.s,0,none⟩)] wr fun r w'=>r=.returned (.pointer (some ⟨Z.S.c,0,none⟩))/\wr=w') /\
   Calls prog 30 #[.pointer (some ⟨Z.S.c,0,none⟩),.int .u32 x] wr (Told wr (.tuple #[.agg #[.int .i64 ((obP Z.S.l x).kind:Int),.int .i64 ((obP Z.S.l x).at_:Int),.int .i64 ((obP Z.S.l x).fac:Int)],.bool true])):=by
 obtain⟨go,e,_,_,hc⟩:=h.fl.va i x hx;have Mk:=J5p hx;have Fi:Z.S.l.length<=256:=by rw[ok.core.inv.len];omega
 obtain⟨p,h1,h2,h3,_⟩:=J1X Fi Mk;have F7:=J5p h1;have hk:=(J1Z ok Mk).1;have ha:=(J2O ok h.fl Mk).2;have Bj:=J3f ok.core F7 h2;rw[hm] at Bj;refine⟨⟨go,e,hc⟩,⟨hk,by rw[h3];exact Bj⟩,by rw[h3];exact⟨F7,h2⟩,(Q3h h.sep h.car).1,(Q3h h.sep h.car).2.1,ha⟩
end
end Go.Proofs.YtfidemmgofcnmaaGreatDoor
