/- PoolFails returns true at every input. No condition. Part of its proof. -/
import Derived.Deep.LoopGhost
import Derived.Shelf.SlSortCmp.WholeK
import Derived.Shelf.SlGeneric
import Derived.Ground.SlsfProg
import Derived.Test.YtfidemmgofcnmaaGreatDoorProg
import Derived.Shelf.SlSortCmp.NoneTotal
import Derived.Shelf.SlIterI.Nil
import Derived.Shelf.SortM.Plain
import Derived.Shelf.SortM.SortNone
import Derived.Ground.GgzProg
import Derived.Ground.SlgmProg
import Derived.Test.YtfidemmgofcnmaaGreatDoorPf08
set_option maxHeartbeats 4000000
set_option maxRecDepth 100000
set_option linter.unusedVariables false
namespace Go.Proofs.YtfidemmgofcnmaaGreatDoor
open Go.RowKit Go.Proofs.Tryz
def onTo(G:Nat->Nat->Bool)(top k s:Nat):List Nat:=((List.range (2 ^ (top-k))).filter (G k)).filter fun i=>decide (i<s)
def Q2n(G:Nat->Nat->Bool)(top k:Nat):List Nat:=(List.range (2 ^ (top-k))).filter (G k)
theorem Q6C(G:Nat->Nat->Bool)(top k:Nat):onTo G top k 0=[]:=by simp[onTo]
theorem mem_on{G:Nat->Nat->Bool}{top k i:Nat}:i∈Q2n G top k↔i<2 ^ (top-k)/\G k i=true:=by simp[Q2n]
theorem Q3U{l:List Nat}(hs:l.Pairwise (·<·)){s i:Nat}(hi:i∈l)(E4:s<=i)(Ar:∀j∈l,s<=j->i<=j):l.filter (fun j=>decide (j<i+1))=l.filter (fun j=>decide (j<s))++[i]:=by
 induction l with
 | nil=>cases hi
 | cons a r ih =>
  obtain⟨h1,h2⟩:=Z0p.1 hs;rcases Z0d.1 hi with rfl|E5
  ·have e1:r.filter (fun j=>decide (j<i+1))=[]:=by
    rw[Z1A];intro j hj;have:=h1 j hj;simp;omega
   have e2:r.filter (fun j=>decide (j<s))=[]:=by
    rw[Z1A];intro j hj;have:=h1 j hj;simp;omega
   rw[Z1M (by simp),Z1N (by simp;omega),e1,e2];rfl
  ·have IK:=h1 i E5;have Ae:a<s:=by
    rcases Z2h a s with e|e
    ·exact e
    ·have:=Ar a (by simp) e;omega
   rw[Z1M (by simp;omega),Z1M (by simp;omega),ih h2 E5 (fun j hj hsj=>Ar j (by simp[hj]) hsj)];rfl
theorem Q3V{G:Nat->Nat->Bool}{n k i:Nat}(hi:i<n):((List.range n).map (G k))[i]?.getD false=G k i:=by simp[hi]
theorem Q6D{G:Nat->Nat->Bool}{top k s i:Nat}(h:fstG G top k s=some i):onTo G top k (i+1)=onTo G top k s++[i]:=by
 obtain⟨h1,h2,h3,h4⟩:=Q0t h;have hl:i<2 ^ (top-k):=by simpa using h1
 rw[Q3V hl] at h3;refine Q3U (Z0l.filter _) (mem_on.2 ⟨hl,h3⟩) h2 fun j hj hsj=>?_
 rcases Z2h j i with e|e
 ·have Bw:=mem_on.1 hj;have:=h4 j hsj e;rw[Q3V Bw.1] at this;exact absurd Bw.2 this
 ·exact e
theorem Q7S{G:Nat->Nat->Bool}{top k s:Nat}(h:fstG G top k s=none):onTo G top k s=Q2n G top k:=by
 have h1:=Q2T h;unfold onTo;rw[show(List.range (2 ^ (top-k))).filter (G k)=Q2n G top k from rfl,List.filter_eq_self];intro j hj;have Bw:=mem_on.1 hj;rcases Z2h j s with e|e
 ·simpa using e
 ·have:=h1 j e (by simpa using Bw.1);rw[Q3V Bw.1] at this;exact absurd Bw.2 this
def blk(k i:Nat):Nat×Nat:=(1024*i*2 ^ k,k)
def Q0l(G:Nat->Nat->Bool)(top k:Nat):List (Nat×Nat):=(List.range k).flatMap fun j=>(Q2n G top j).map (blk j)
def Q0I(G:Nat->Nat->Bool)(top k s:Nat):List (Nat×Nat):=Q0l G top k++(onTo G top k s).map (blk k)
theorem Q3W(G:Nat->Nat->Bool)(top k:Nat):Q0I G top k 0=Q0l G top k:=by simp[Q0I,Q6C]
theorem Q2e{G:Nat->Nat->Bool}{top k s i:Nat}(h:fstG G top k s=some i):Q0I G top k (i+1)=Q0I G top k s++[blk k i]:=by
 unfold Q0I;rw[Q6D h];simp
theorem Q5g{G:Nat->Nat->Bool}{top k s:Nat}(h:fstG G top k s=none):Q0I G top k s=Q0l G top (k+1):=by
 unfold Q0I Q0l;rw[Q7S h,Z0i];simp
theorem Q8l(G:Nat->Nat->Bool)(top k:Nat)(ht:top<=20):(Q2n G top k).length<=1048576:=by
 unfold Q2n;exact Q9Z (Z1P _ _) (by rw[Z1n];exact Q0z ht)
theorem Q0S(G:Nat->Nat->Bool)(top:Nat)(ht:top<=20):∀k,(Q0l G top k).length<=1048576*k
 | 0=>by simp[Q0l]
 | k+1=>by
  have ih:=Q0S G top ht k;have h1:=Q8l G top k ht;have e:Q0l G top (k+1)=Q0l G top k++(Q2n G top k).map (blk k):=by
   unfold Q0l;rw[Z0i];simp
  rw[e,Z0s,Z1m];omega
theorem Q5h(G:Nat->Nat->Bool)(top k s:Nat)(ht:top<=20):(Q0I G top k s).length<=1048576*k+1048576:=by
 have h1:=Q0S G top ht k;have h2:=Q8l G top k ht;unfold Q0I onTo;rw[Z0s,Z1m];have h3:=Z1P (fun i=>decide (i<s)) (Q2n G top k);unfold Q2n at h2 h3;omega
def encB(x:Nat×Nat):List Value:=[.int .i64 (x.1:Int),.int .i64 (x.2:Int)]
def Q0p(l:List (Nat×Nat)):List Value:=l.flatMap encB
theorem infoblk:(prog.info? 161).map (fun i=>(i.zero,i.size,i.bytes))=some (some (.agg #[.int .i64 0,.int .i64 0]),2,16):=by kernel_rfl
def Q2f(B:Nat)(L:List (Nat×Nat))(v:Value)(w:World)(r:Ending)(w':World):Prop:=r=.returned v/\∃L':List (Nat×Nat),L'.Perm L/\L'.Pairwise (fun a b=>a.1<=b.1)/\w'.ownsRow B 161 2 v L'.length (Q0p L')/\Below B w w'
def NewBlks(w:World)(L:List (Nat×Nat))(r:Ending)(w':World):Prop:=∃v L',r=.returned v/\L'.Perm L/\L'.Pairwise (fun a b=>a.1<=b.1)/\w'.ownsRow w.heap.size 161 2 v L'.length (Q0p L')/\Below w.heap.size w w'
def OutB(w wr:World)(v:Value)(L:List (Nat×Nat)):Prop:=wr.ownsRow w.heap.size 161 2 v L.length (Q0p L)/\Below w.heap.size w wr
theorem Q6E{w w1:World}{d:BD}{G:Nat->Nat->Bool}(h:Sep w d.hl)(hi:d.Is G)(hb:Below w.heap.size w w1)(k:Nat)(hk:k<=d.top)(s:Nat)(hs:s<=1048576):∃b,w1.cell? ⟨d.b,1+k,none⟩=some (.pointer (some ⟨b,0,none⟩)) /\
  Calls prog 72 #[.pointer (some ⟨b,0,none⟩),.bool true,.int .i64 s] w1 fun r w'=>r=.returned (.int .i64 (optI (fstG G d.top k s)))/\w1=w':=Q1I (h.grown hb).sep hi k hk s hs
theorem Q9b(w:World)(T:TypeId)(v0 v1:Value):∀j u,[v0,v1][j]?=some u->(w.alloc (.cells #[v0,v1] T)).cell? ((⟨w.heap.size,0,none⟩:Addr).add j)=some u:=by
 intro j u hj;have hc:=Cells.new w T [v0,v1]
 match j,hj with
 | 0,hj=>cases hj;exact hc.cell 0 _ rfl
 | 1,hj=>cases hj;exact hc.cell 1 _ rfl
theorem Q6F{w wr w1:World}{o:Obj}{T:TypeId}{size n:Nat}{v:Value}{xs:List Value}(h:wr.ownsRow w.heap.size T size v n xs)(hb:Below w.heap.size w wr)(hg:(wr.alloc o).grownBy w1 v.ownBlock):Below w.heap.size w w1:=
 hb.trans (((Below.refl _ wr).alloc hb.size o).grown hg (by have:=hb.size;simp;omega) (fun k hk=>(h.lt k hk).1))
theorem Q6G{w:World}{d:BD}{G:Nat->Nat->Bool}(h:Sep w d.hl)(hi:d.Is G)
  (hsort:∀v w1 L,OutB w w1 v L->L.length<=22020096->(L=Q0l G d.top (d.top+1))->Calls prog 73 #[v] w1 (Q2f w.heap.size L v w1)) :
  Calls prog 17 #[.pointer (some ⟨d.b,0,none⟩)] w (NewBlks w (Q0l G d.top (d.top+1))):=by
 have ht:=hi.top;have Cn:Hid (∀w1,Below w.heap.size w w1->w1.cell? ⟨d.b,0,none⟩=some (.int .i64 d.top)):=fun w1 hb=>BD.c0 (h.grown hb).sep
 have AP:=Q0a (fun w1 hb k hk s hs=>Q6E h hi (w1:=w1) hb k hk s hs);have HS:=Q0a hsort;clear h hi hsort;generalize d.top=top at *
 generalize d.b=db at *
 obtain⟨i0,FQ,AZ,AF,Bd⟩:=info_parts infoblk;go_enter func17,ntmps17;go_wp2_with fail
 go_loopg [3,4] (top+1) (fun gk ov kv wr=>∃k:Nat,kv=.int .i64 k/\k+gk=top+1/\OutB w wr ov (Q0l G top k))
 case atStart=>exact⟨0,rfl,by omega,World.ownsRow_nil _ _ _ _,Below.refl _ _⟩
 case round =>
  obtain⟨k,rfl,BK,Bo⟩:=hrel;have HO:=Q0a Bo;have c0:=Cn.out wr Bo.2;have IA:=Q0a BK;clear Bo;by_cases Ae:k<=top
  ·obtain⟨b,B6,Aj⟩:=AP.out wr HO.out.2 k Ae 0 (by omega);have Av:=Q0a Aj;clear Aj BK;have Br:(0:Int)<=k:=by omega
   have DK:(k:Int)<21:=by omega
   go_wp2_with fail;refine Av.out.mono ?_;rintro r w'⟨rfl,rfl⟩;have IG:2 ^ (top-k)<=1048576:=Q0z ht;go_wp2_with fail;obtain⟨gko,FI⟩:∃g,g=gk:=⟨_,rfl⟩
   subst FI;obtain⟨wo,Fk⟩:∃wo,wo=wr:=⟨_,rfl⟩
   subst Fk
   go_loopg [3,5] 1048577 (fun gi ov iv wi=>∃s:Nat,iv=.int .i64 (optI (fstG G top k s))/\s+gi=1048577/\OutB w wi ov (Q0I G top k s))
   case atStart=>exact⟨0,rfl,rfl,by rw[Q3W];exact HO.out⟩
   case round =>
    clear HO B6 c0 Av;obtain⟨s,rfl,Gb,Bo⟩:=hrel;have HO:=Q0a Bo;have c0:=Cn.out wr Bo.2;have AB:=Bo.2.size;clear Bo;cases hfi:fstG G top k s with
    | none =>
     have CF:=Q0a hfi;clear hfi;rw[show optI none = -1 from rfl];go_wp2_with fail;go_roundg (top+1-(k+1))
     case measure=>have:=IA.out;omega
     case rel=>exact⟨k+1,by go_num,by omega,by rw[<- Q5g CF.out];exact HO.out⟩
    | some i =>
     obtain⟨AK,E4,_,_⟩:=Q0t hfi;have CF:=Q0a hfi;clear hfi;have FF:i<2 ^ (top-k):=by simpa using AK
     have AU:(0:Int)<=i:=by omega
     have CD:(i:Int)<1048576:=by omega
     have F5:=Q0a HO.out.1;have Ad:=Q5h G top k s ht;have hL:Hid (Q0p (Q0I G top k s)++[.int .i64 (((blk k i).1:Nat):Int),.int .i64 k]=Q0p (Q0I G top k (i+1))/\(Q0I G top k s).length+1=(Q0I G top k (i+1)).length):=by
      constructor
      ·rw[Q2e CF.out];simp[Q0p,encB,blk]
      ·rw[Q2e CF.out];simp
     have F2:=Q0a FF;have Ia:=Q0a Ad;have IM:=Q0a Gb;have IY:=Q0a E4;have hm:i*2 ^ k<1048576:=by
      have h1:i*2 ^ k<2 ^ (top-k)*2 ^ k:=Z2I FF (Z0U _);rw[<- Z1f,show top-k+k=top by omega] at h1;exact Z0a h1 (Q9Z (Z0T (by omega) ht) (by decide))
     have C7:wrap64 ((i:Int)*1024*2 ^ k)=(((blk k i).1:Nat):Int):=by
      have e:(i:Int)*1024*2 ^ k=((1024*i*2 ^ k:Nat):Int):=by
       rw[Z0J,Z0J,Z1w];show _=(1024:Int)*i*2 ^ k;rw[Int.mul_comm (i:Int) 1024]
      rw[e];have e2:1024*i*2 ^ k=1024*(i*2 ^ k):=Z2H _ _ _;exact Go.IntWalk.wrap64_in _ (by omega)
     have HM:=Q0a hm;clear AK FF Ad Gb IG E4 hm;rw[show optI (some i)=(i:Int) from rfl];generalize E0:(((blk k i).1:Nat):Int)=va at C7 hL;have IQ:=Q0a E0;clear E0
     iterate 41 go_step
     rw[C7];clear C7;have Jy:=Ia.out
     iterate 2 go_step
     refine wpList_append_own _ rfl _ _ 34 rfl w.heap.size 161 i0 (.agg #[.int .i64 0,.int .i64 0]) 2 16 underlying34 FQ AZ AF Bd rfl (by decide) _ _ _ rfl (F5.out.alloc _) ⟨wr.heap.size,0,none⟩ 1 1 [.int .i64 va,.int .i64 k] rfl rfl (Q9b wr _ _ _) (by simp[Value.oneCell']) (by unfold maxLen;omega) (by omega) (by simp;omega) ?_;intro v' w1 AV AD _;have Ch:=Q6F F5.out HO.out.2 AD;rw[hL.out.1,hL.out.2] at AV;have J1:Hid (OutB w w1 v' (Q0I G top k (i+1))):=⟨AV,Ch⟩
     have EM:=Q0a Ch;clear AV AD Ch Jy F5 HO IQ hL c0 AB;obtain⟨b2,Ay,B0⟩:=AP.out w1 EM.out k Ae (i+1) (by omega);rw[show((i+1:Nat):Int)=(i:Int)+1 by omega] at B0;have Em:=Q0a B0;clear B0;go_wp2_with fail;refine Em.out.mono ?_;rintro r w'⟨rfl,rfl⟩;go_wp2_with fail;go_roundg (1048577-(i+1))
     case measure=>have:=IM.out;have:=IY.out;omega
     case rel=>exact⟨i+1,rfl,by omega,J1.out⟩
  ·obtain rfl:k=top+1:=by omega
   have hS:=Q0a (HS.out u3 wr _ HO.out (Q9Z (Q0S G top ht (top+1)) (by omega)) rfl);go_wp2_with fail;refine hS.out.mono ?_;rintro r w'⟨rfl,L',p1,p2,p3,p4⟩;have HR:Hid (NewBlks w (Q0l G top (top+1)) (.returned u3) w'):=⟨u3,L',rfl,p1,p2,p3,HO.out.2.trans p4⟩
   clear p1 p2 p3 p4;go_wp2_with fail;go_ret;exact HR.out
end Go.Proofs.YtfidemmgofcnmaaGreatDoor
namespace Go.Proofs.YtfidemmgofcnmaaGreatDoor
open Go.Shelf Go.Proofs.Tryz
def Q3X:Go.Shelf.Ren:=⟨fun|6=>136|15=>196|14=>195|28=>228|29=>229|20=>220|21=>221|22=>222|23=>223|24=>224|25=>225|26=>226|27=>227|46=>243|47=>244|48=>245|49=>246|50=>247|57=>253|n=>n,fun|22=>34|24=>161|25=>248|3=>3|39=>123|0=>0|53=>57|55=>83|4=>4|46=>320|45=>319|50=>239|5=>5|9=>9|66=>334|70=>338|76=>343|77=>344|n=>n,fun|n=>n⟩
theorem Q6H:Go.Proofs.SlLaysF0.n6 prog Q3X:={
 mixed:=by kernel_rfl
 f6:=⟨f136.name,by decide,func136.trans (congrArg some (by kernel_rfl))⟩
 f14:=⟨f195.name,by decide,func195.trans (congrArg some (by kernel_rfl))⟩
 f15:=func196.trans (congrArg some (by kernel_rfl))
 f20:=⟨f220.name,by decide,func220.trans (congrArg some (by kernel_rfl))⟩
 f21:=⟨f221.name,by decide,func221.trans (congrArg some (by kernel_rfl))⟩
 f22:=⟨f222.name,by decide,func222.trans (congrArg some (by kernel_rfl))⟩
 f23:=⟨f223.name,by decide,func223.trans (congrArg some (by kernel_rfl))⟩
 f24:=⟨f224.name,by decide,func224.trans (congrArg some (by kernel_rfl))⟩
 f25:=⟨f225.name,by decide,func225.trans (congrArg some (by kernel_rfl))⟩
 f26:=⟨f226.name,by decide,func226.trans (congrArg some (by kernel_rfl))⟩
 f27:=⟨f227.name,by decide,func227.trans (congrArg some (by kernel_rfl))⟩
 f28:=func228.trans (congrArg some (by kernel_rfl))
 f29:=func229.trans (congrArg some (by kernel_rfl))
 f46:=⟨f243.name,by decide,func243.trans (congrArg some (by kernel_rfl))⟩
 f47:=func244.trans (congrArg some (by kernel_rfl))
 f48:=func245.trans (congrArg some (by kernel_rfl))
 f49:=⟨f246.name,by decide,func246.trans (congrArg some (by kernel_rfl))⟩
 f50:=⟨f247.name,by decide,func247.trans (congrArg some (by kernel_rfl))⟩
 f57:=⟨f253.name,by decide,func253.trans (congrArg some (by kernel_rfl))⟩
 t0:=underlying0
 a0:=isAgg0
 z0:=sizeOf0
 v0:=zeroValue0
 t3:=underlying3
 a3:=isAgg3
 z3:=sizeOf3
 v3:=zeroValue3
 t4:=underlying4
 a4:=isAgg4
 z4:=sizeOf4
 v4:=zeroValue4
 t5:=underlying5
 a5:=isAgg5
 z5:=sizeOf5
 v5:=zeroValue5
 t9:=underlying9
 a9:=isAgg9
 z9:=sizeOf9
 v9:=zeroValue9
 t22:=underlying34
 a22:=isAgg34
 z22:=sizeOf34
 v22:=zeroValue34
 t25:=underlying248
 a25:=isAgg248
 z25:=sizeOf248
 v25:=zeroValue248
 t39:=underlying123
 a39:=isAgg123
 z39:=sizeOf123
 v39:=zeroValue123
 t45:=underlying319
 a45:=isAgg319
 z45:=sizeOf319
 v45:=zeroValue319
 t46:=underlying320
 a46:=isAgg320
 z46:=sizeOf320
 v46:=zeroValue320
 t50:=underlying239
 a50:=isAgg239
 z50:=sizeOf239
 v50:=zeroValue239
 t53:=underlying57
 a53:=isAgg57
 z53:=sizeOf57
 v53:=zeroValue57
 t55:=underlying83
 a55:=isAgg83
 z55:=sizeOf83
 v55:=zeroValue83
 t66:=underlying334
 a66:=isAgg334
 z66:=sizeOf334
 v66:=zeroValue334
 t70:=underlying338
 a70:=isAgg338
 z70:=sizeOf338
 v70:=zeroValue338
 t76:=underlying343
 a76:=isAgg343
 z76:=sizeOf343
 v76:=zeroValue343
 t77:=underlying344
 a77:=isAgg344
 z77:=sizeOf344
 v77:=zeroValue344}
end Go.Proofs.YtfidemmgofcnmaaGreatDoor
namespace Go.Proofs.YtfidemmgofcnmaaGreatDoor
open Go.RowKit Go.Shelf Go.Proofs.Tryz
open Go.Sort (flatK HoldsK putRowK)
theorem Q3Y(x y:Nat×Nat)(W:World):Calls prog 137 #[.agg (encB x).toArray,.agg (encB y).toArray] W fun e w'=>e=.returned (.int .i64 (cmpI (x.1:Int) (y.1:Int)))/\∃q os',w'=Go.Sort.grow (W.drewN q) os':=by
 have hc:=fun w:World=>Q5B (w:=w) (x.1:Int) (y.1:Int)
 generalize cmpI (x.1:Int) (y.1:Int)=c at *
 unfold encB;go_enter func137,ntmps137;go_wp2_with (go_at_call 138;refine(hc _).mono ?_;rintro e w'⟨rfl,rfl⟩);go_ret;exact⟨rfl,0,_,by rw[Go.Sort.alloc_eq_grow,Go.Sort.alloc_eq_grow,Go.Sort.grow_grow];rfl⟩
def cfB(x y:Nat×Nat):Int:=cmpI (x.1:Int) (y.1:Int)
theorem ltB(x y:Nat×Nat):ltOf cfB x y=decide (x.1<y.1):=by
 unfold ltOf cfB cmpI;by_cases h1:(x.1:Int)<(y.1:Int)
 ·have:x.1<y.1:=by omega
  simp[h1,this]
 ·have Fj:¬x.1<y.1:=by omega
  by_cases h2:(y.1:Int)<(x.1:Int) <;> simp[h1,Fj,h2]
theorem swoB:Go.Sort.SWO (ltOf cfB) where
 irrefl x:=by rw[ltB];simp
 trans x y z h1 h2:=by rw[ltB] at *;simp at *;omega
 ntrans x y z h1 h2:=by rw[ltB] at *;simp at *;omega
theorem Q2g(l:List (Nat×Nat))(k:Nat)(x:Nat×Nat)(h:l[k]?=some x):(Q0p l)[k*2]?=some (.int .i64 (x.1:Int))/\(Q0p l)[k*2+1]?=some (.int .i64 (x.2:Int)):=by
 induction l generalizing k with
 | nil=>simp at h
 | cons y r ih =>
  cases k with
  | zero=>simp at h;subst h;exact⟨rfl,rfl⟩
  | succ k =>
   have:=ih k (by simpa using h);have e1:(k+1)*2=(k*2)+1+1:=by omega
   have e2:(k+1)*2+1=(k*2+1)+1+1:=by omega
   rw[e1];exact⟨this.1,this.2⟩
theorem Q2h(l:List (Nat×Nat)):(Q0p l).length=l.length*2:=by
 induction l with
 | nil=>rfl
 | cons y r ih =>
  show(_::_::Q0p r).length=_;simp[ih];omega
theorem Q3s(d:Array (Nat×Nat)):(flatK encB 2 d).toList=Q0p d.toList:=by
 apply Z1l
 intro t;rcases Z2h t (d.size*2) with h|h
 ·have hk:t/2<d.size:=by omega
  have hx:d.toList[t/2]?=some d[t/2]!:=by
   rw[getElem!_pos d (t/2) hk,Z2a,Array.getElem?_eq_getElem hk]
  obtain⟨e1,e2⟩:=Q2g d.toList (t/2) _ hx;have e0:(flatK encB 2 d).toList[t]?=some ((encB d[t/2]!)[t%2]!):=by
   simp[flatK,h]
  rw[e0];rcases Nat.mod_two_eq_zero_or_one t with hm|hm
  ·have ht:t=t/2*2:=by omega
   rw[hm]
   conv=>rhs;rw[ht]
   rw[e1];rfl
  ·have ht:t=t/2*2+1:=by omega
   rw[hm]
   conv=>rhs;rw[ht]
   rw[e2];rfl
 ·rw[Z1r (by simp;omega),Z1r (by rw[Q2h];simpa using h)]
theorem Q5i{d d':Array (Nat×Nat)}(h:Go.Sort.PermIn 0 d.size d d'):d'.toList.Perm d.toList/\d'.size=d.size:=by
 obtain⟨h1,_,h3⟩:=h;refine⟨?_,h1⟩;have e1:d'.extract 0 d.size=d':=by rw[<- h1];simp
 rw[e1] at h3
 simpa using h3
theorem Q3Z{d:Array (Nat×Nat)}{n:Nat}(hn:n=d.size)(h:Go.Sort.SortedIn (ltOf cfB) 0 n d):d.toList.Pairwise (fun a b=>a.1<=b.1):=by
 subst hn;rw[Z2v];intro i j hi hj F6;have:=h i j (Z1C _) F6 (by simpa using hj);rw[ltB] at this;simp only[decide_eq_false_iff_not,Nat.not_lt] at this;rw[getElem!_pos d i (by simpa using hi),getElem!_pos d j (by simpa using hj)] at this
 simpa using this
theorem Q3t{w:World}{g:Nat}{Ac:Array Value}{e:TypeId}{L:List (Nat×Nat)}(hb:w.heap[g]?=some (.cells Ac e (0,0)))(ht:Ac.toList.take (L.length*2)=Q0p L):HoldsK encB 2 w g 0 L.toArray:=by
 intro j hj;have Bw:j<L.length*2:=by simpa using hj
 refine⟨?_,by simp[World.frozen?,hb]⟩;have h1:(Ac.toList.take (L.length*2))[j]?=(flatK encB 2 L.toArray).toList[j]?:=by rw[ht,Q3s]
 rw[Z2Z Bw] at h1;simp only[World.cell?,hb,Z2e,Z2w,Z2U,if_false,id];rw[<- Z2a,h1,getElem!_pos _ j hj];simp[Bw]
theorem Q2o(Ac F:Array Value)(h:F.size<=Ac.size):(Go.Sort.putCells id 0 F Ac).toList.take F.size=F.toList:=by
 apply Z1l
 intro j;by_cases hj:j<F.size
 ·rw[Z2Z hj,Z2a];simp[Go.Sort.putCells,hj,show j<Ac.size by omega]
 ·rw[List.getElem?_take_eq_none (by omega),Z1r (by simp;omega)]
theorem Q3u{w:World}{g n:Nat}{os:Array Obj}{Ac:Array Value}{e:TypeId}(d:Array (Nat×Nat))(hb:w.heap[g]?=some (.cells Ac e (0,0))) :
  (sortWorldK encB 2 w g 0 n d os).heap[g]?=some (.cells (Go.Sort.putCells id 0 (flatK encB 2 d) Ac) e (0,0)):=by
 have hg:g<w.heap.size:=(Array.getElem?_eq_some_iff.1 hb).1;unfold sortWorldK putRowK;rw[Go.Sort.heap_grow_old _ _ (by simpa using hg)];simp[Go.Sort.putRow,Go.Sort.mapBlock,Go.Sort.ahead,Array.getElem?_modify,hb,Go.Sort.onCells]
theorem Q2P{w:World}{g n:Nat}{os:Array Obj}(d:Array (Nat×Nat)):w.grownBy (sortWorldK encB 2 w g 0 n d os) (some g):=by
 unfold sortWorldK putRowK;refine⟨rfl,rfl,rfl,by simp,fun k hk Ao=>?_⟩;rw[Go.Sort.heap_grow_old _ _ (by simpa using hk)];have:g≠k:=fun e=>Ao (by rw[e])
 simp[Go.Sort.putRow,Go.Sort.mapBlock,Go.Sort.ahead,Array.getElem?_modify,this]
theorem Q5j{w w1:World}{v:Value}{L:List (Nat×Nat)}(h:OutB w w1 v L)(hl:L.length<=22020096):Calls prog 73 #[v] w1 (Q2f w.heap.size L v w1):=by
 obtain⟨⟨Ad,Ai⟩,hb⟩:=h;rcases Ai with ⟨rfl,h0⟩|⟨g,Aa,Ac,rfl,hg,Bz,hn,hm,hs,ht⟩
 ·have hL:L=[]:=Z1Q h0;subst hL;have BE:=AnyF.slices_SortFunc_none Q6H none 0 (.func (.func 137) #[] #[]) w1
  change Calls prog 136 _ _ _ at BE
  have HR:Hid (Q2f w.heap.size [] (.slice none 0 0) w1 (.returned (.slice none 0 0)) w1):=⟨rfl,[],Z2K _,List.Pairwise.nil,⟨rfl,.inl ⟨rfl,rfl⟩⟩,Below.refl _ _⟩
  clear Ad hb h0 hl;go_enter func73,ntmps73;go_wp2_with (go_at_call 136;refine BE.mono ?_;rintro e w'⟨rfl,rfl⟩);go_ret;exact HR.out
 ·have eg:∀args w,(callFunc 137 args).run prog w=.ok (.enter 137 args) w:=enters_of func137 (by kernel_rfl) rfl;have Bu:CmpLays prog 137 #[] encB 2 cfB g 0 L.toArray.size w1:=fun _ _ _ _ x y=>Q3Y x y _
  have BE:=AnyQ.slices_SortFunc Q6H 2 isAgg161 sizeOf161 encB (fun _=>rfl) (fun x v hv=>by simp[encB] at hv;rcases hv with rfl|rfl <;> rfl) cfB swoB 137 #[] g 0 Aa L.toArray w1 eg Bu (Q3t Bz ht) (lt_of_block Bz) (by simp;omega)
  change Calls prog 136 _ _ _ at BE
  have HR:Hid (∀w2,(∃d' n os,Go.Sort.PermIn 0 L.toArray.size L.toArray d'/\Go.Sort.SortedIn (ltOf cfB) 0 L.toArray.size d'/\w2=sortWorldK encB 2 w1 g 0 n d' os)->Q2f w.heap.size L (.slice (some ⟨g,0,none⟩) L.length Aa) w1 (.returned (.slice (some ⟨g,0,none⟩) L.length Aa)) w2):=by
   rintro w2⟨d',n,os,hp,Dv,rfl⟩;obtain⟨p1,p2⟩:=Q5i hp;have p1':d'.toList.Perm L:=by simpa using p1
   have p3:d'.toList.length=L.length:=p1'.length_eq;refine⟨rfl,d'.toList,p1',Q3Z p2.symm Dv,⟨Q2h _,.inr ⟨g,Aa,_,by rw[p3],hg,Q3u d' Bz,by rw[p3];exact hn,hm,by simp[Go.Sort.putCells,hs],?_⟩⟩,?_⟩
   ·have e:d'.toList.length*2=(flatK encB 2 d').size:=by simp
    rw[e,Q2o _ _ (by rw[<- e,p3,hs];omega),Q3s]
   ·have BP:=Q2P (w:=w1) (g:=g) (n:=n) (os:=os) d';exact⟨BP.os,BP.tape,BP.output,BP.size,fun k hk=>by
     rcases Z2h k w1.heap.size with e|e
     ·exact BP.block k e (fun e'=>by cases e';omega)
     ·have:=hb.size;omega⟩
  rw[Z2f] at BE;have FH:Hid (∀(r:Ending) (w2:World),(r=.returned (.tuple #[])/\∃d' n os,Go.Sort.PermIn 0 L.length L.toArray d'/\Go.Sort.SortedIn (ltOf cfB) 0 L.length d'/\w2=sortWorldK encB 2 w1 g 0 n d' os)->r=.returned (.tuple #[])/\Q2f w.heap.size L (.slice (some ⟨g,0,none⟩) L.length Aa) w1 (.returned (.slice (some ⟨g,0,none⟩) L.length Aa)) w2):=fun r w2 ⟨e,hx⟩=>⟨e,HR.out w2 (by simpa using hx)⟩
  clear HR Ad Bz ht hs hn hm Bu eg hl hb hg;generalize L.length=ll at *
  go_enter func73,ntmps73;go_wp2_with fail;refine BE.mono ?_;intro r w2 hx;obtain⟨rfl,hy⟩:=FH.out _ _ hx;have HY:=Q0a hy;clear hx hy;go_wp2_with fail;go_ret;exact HY.out
theorem Q3v{w:World}{d:BD}{G:Nat->Nat->Bool}(h:Sep w d.hl)(hi:d.Is G):Calls prog 17 #[.pointer (some ⟨d.b,0,none⟩)] w (NewBlks w (Q0l G d.top (d.top+1))):=
 Q6G h hi fun _ _ _ ho hl _=>Q5j ho hl
end Go.Proofs.YtfidemmgofcnmaaGreatDoor
namespace Go.Proofs.YtfidemmgofcnmaaGreatDoor
open Go.RowKit Go.Proofs.Tryz
theorem mem_freeTo{G:Nat->Nat->Bool}{top n:Nat}{b:Nat×Nat}:b∈Q0l G top n↔∃k i,k<n/\i<2 ^ (top-k)/\G k i=true/\b=blk k i:=by
 unfold Q0l;simp only[Z0o,Z0j,Z0e]
 constructor
 ·rintro⟨k,hk,i,hi,rfl⟩;obtain⟨h1,h2⟩:=mem_on.1 hi;exact⟨k,i,hk,h1,h2,rfl⟩
 ·rintro⟨k,i,hk,h1,h2,rfl⟩;exact⟨k,hk,i,mem_on.2 ⟨h1,h2⟩,rfl⟩
theorem Q7T{u:Nat->Bool}{top k i k' i':Nat}(hk:k<=top)(hk':k'<=top)(h:fre u top k i=true)(h':fre u top k' i'=true)(e:i*2 ^ k=i'*2 ^ k'):k=k'/\i=i':=by
 have key:∀{a x b y:Nat},a<b->b<=top->fre u top a x=true->fre u top b y=true->x*2 ^ a=y*2 ^ b->False:=by
  intro a x b y Dl hb h1 h2 e;unfold fre at h1 h2;simp only[Z0m,Z2D,beq_iff_eq,Z2A] at h1 h2;rcases h1.2 with e1|e1
  ·omega
  ·have hc:clr u (a+1) (x/2)=true:=by
    rw[clr_iff];intro p hp;refine(clr_iff u b y).1 h2.1 p ?_;have e2:b=(a+1)+(b-(a+1)):=by omega
    have hx:x=y*2 ^ (b-a):=by
     have e3:2 ^ b=2 ^ (b-a)*2 ^ a:=by rw[<- Z1f];congr 1;omega
     rw[e3,<- Z2H] at e;exact Z2Y (Z0U a) e
    have EY:x/2=y*2 ^ (b-(a+1)):=by
     have e3:2 ^ (b-a)=2 ^ (b-(a+1))*2:=by rw[<- Z0N];congr 1;omega
     rw[hx,e3,<- Z2H,Z2t _ (by omega:0<2)]
    rw[e2,Z1f,<- Z1g,hp,EY,Z2t _ (Z0U _)]
   rw[hc] at e1;cases e1
 rcases Nat.lt_trichotomy k k' with Ae|rfl|Ae
 ·exact(key Ae hk' h h' e).elim
 ·exact⟨rfl,Z2Y (Z0U k) e⟩
 ·exact(key Ae hk h' h e.symm).elim
theorem Q2i:∀{L M:List (Nat×Nat)},L.Perm M->L.Pairwise (fun a b=>a.1<=b.1)->M.Pairwise (fun a b=>a.1<=b.1)->(∀a∈L,∀b∈L,a.1=b.1->a=b)->L=M
 | [],M,hp,_,_,_=>(List.nil_perm.1 hp).symm
 | x::L,M,hp,h1,h2,hi=>by
  cases M with
  | nil=>exact absurd hp.symm (List.not_perm_nil_cons _ _)
  | cons y M =>
   obtain⟨a1,a2⟩:=Z0p.1 h1;obtain⟨b1,b2⟩:=Z0p.1 h2;have hy:y∈x::L:=hp.mem_iff.2 (by simp);have hx:x∈y::M:=hp.mem_iff.1 (by simp);have Ju:x=y:=by
    refine hi x (by simp) y hy ?_;have l1:x.1<=y.1:=by
     rcases Z0d.1 hy with e|e
     ·rw[e];exact Q9Y _
     ·exact a1 y e
    have l2:y.1<=x.1:=by
     rcases Z0d.1 hx with e|e
     ·rw[e];exact Q9Y _
     ·exact b1 x e
    omega
   subst Ju;rw[Q2i (List.Perm.cons_inv hp) a2 b2 fun a ha b hb=>hi a (by simp[ha]) b (by simp[hb])]
theorem Q6I{u v:Nat->Bool}{top:Nat}(huv:∀p,u p=v p){L M:List (Nat×Nat)}(hL:L.Perm (Q0l (fre u top) top (top+1)))(hM:M.Perm (Q0l (fre v top) top (top+1)))(h1:L.Pairwise (fun a b=>a.1<=b.1))(h2:M.Pairwise (fun a b=>a.1<=b.1)):L=M:=by
 have e:u=v:=funext huv;subst e;refine Q2i (hL.trans hM.symm) h1 h2 fun a ha b hb Dl=>?_
 obtain⟨k,i,k1,_,k3,rfl⟩:=mem_freeTo.1 (hL.mem_iff.1 ha);obtain⟨k',i',JZ,_,Io,rfl⟩:=mem_freeTo.1 (hL.mem_iff.1 hb);unfold blk at Dl ⊢;simp only at Dl;have e1:i*2 ^ k=i'*2 ^ k':=by
  rw[Z2H,Z2H] at Dl;exact Nat.eq_of_mul_eq_mul_left (by omega:0<1024) Dl
 obtain⟨rfl,rfl⟩:=Q7T (by omega) (by omega) k3 Io e1;rfl
def Q4D(w:World)(a:Option Addr)(L:List (Nat×Nat)):Prop:=∀(j:Nat) (x:Nat×Nat),L[j]?=some x->∃g,a=some ⟨g,0,none⟩/\g<w.heap.size/\w.cell? ⟨g,j*2,none⟩=some (.int .i64 (x.1:Int))/\w.cell? ⟨g,j*2+1,none⟩=some (.int .i64 (x.2:Int))
theorem Q3w:∀{L:List (Nat×Nat)} {j:Nat} {x:Nat×Nat},L[j]?=some x->(Q0p L)[j*2]?=some (.int .i64 (x.1:Int))/\(Q0p L)[j*2+1]?=some (.int .i64 (x.2:Int))
 | [],j,x,h=>by simp at h
 | y::L,0,x,h=>by
  simp at h;subst h;exact⟨rfl,rfl⟩
 | y::L,j+1,x,h=>by
  rw[Z2E] at h;obtain⟨h1,h2⟩:=Q3w (L:=L) h;have e:Q0p (y::L)=[.int .i64 (y.1:Int),.int .i64 (y.2:Int)]++Q0p L:=rfl;rw[e,Z2G (by show 2<=(j+1)*2;omega),Z2G (by show 2<=(j+1)*2+1;omega)];have e1:(j+1)*2-[Value.int .i64 (y.1:Int),.int .i64 (y.2:Int)].length=j*2:=by show(j+1)*2-2=j*2;omega
  have e2:(j+1)*2+1-[Value.int .i64 (y.1:Int),.int .i64 (y.2:Int)].length=j*2+1:=by show(j+1)*2+1-2=j*2+1;omega
  rw[e1,e2];exact⟨h1,h2⟩
theorem NewBlks.reads{w w':World}{L:List (Nat×Nat)}{r:Ending}(h:NewBlks w L r w'):∃(a:Option Addr) (Aa:Nat) (L':List (Nat×Nat)),r=.returned (.slice a L'.length Aa)/\L'.Perm L/\L'.Pairwise (fun a b=>a.1<=b.1)/\Below w.heap.size w w'/\Q4D w' a L'/\∀b,a=some b->w.heap.size<=b.block:=by
 obtain⟨v,L',rfl,hp,hs,Ai,hb⟩:=h;rcases Ai.2 with ⟨rfl,h0⟩|⟨g,Aa,Ac,rfl,hg,Bz,hn,hm,AB,A6⟩
 ·refine⟨none,0,L',by rw[h0],hp,hs,hb,fun j x hj=>?_,fun b hb=>by cases hb⟩;have:=(Z0k.1 hj).1;omega
 ·refine⟨_,Aa,L',rfl,hp,hs,hb,fun j x hj=>?_,fun b hb=>by cases hb;exact hg⟩;obtain⟨c1,c2⟩:=Q3w hj;have key:∀(i:Nat) (v:Value),(Q0p L')[i]?=some v->w'.cell? ⟨g,i,none⟩=some v:=fun i v hv=>by
   rw[<- A6,Z1D] at hv;split at hv
   ·simp only[World.cell?,Bz,Z2w,Z2U,if_false];rw[<- Z2a];exact hv
   ·cases hv
  exact⟨g,rfl,lt_of_block Bz,key _ _ c1,key _ _ c2⟩
theorem Q6J(w:World)(a b:Option Addr)(ca cb:Nat)(xs:List (Nat×Nat))(ha:Q4D w a xs)(hb:Q4D w b xs)(hl:xs.length<=33554432) :
  Calls prog 22 #[.slice a xs.length ca,.slice b xs.length cb] w (Told w (.bool true)):=by
 have HX:=Q0a ha;have HY:=Q0a hb;clear ha hb;generalize hn:xs.length=n at hl;have HN:Hid (xs.length=n):=hn;clear hn;go_enter func22,ntmps22;go_wp2_with fail
 go_loopg [5] n (fun gk i wr=>∃k:Nat,k+gk=n/\i=.int .i64 k/\Below w.heap.size w wr)
 case atStart=>exact⟨0,Z2e _,rfl,Below.refl _ _⟩
 case round =>
  obtain⟨k,hk,rfl,Bv⟩:=hrel;by_cases Ae:k<n
  ·have ex:xs[k]?=some (xs[k]'(by rw[HN.out];exact Ae)):=Z1R _;generalize xs[k]'(by rw[HN.out];exact Ae)=x at ex;obtain⟨g1,rfl,Bn,Ho,G9⟩:=HX.out k x ex;obtain⟨g2,rfl,Bl,Gq,Gu⟩:=HY.out k x ex;have c0:=(World.cell?_of_block (w:=w) (Bv.block g1 Bn)).trans Ho;have c1:=(World.cell?_of_block (w:=w) (Bv.block g1 Bn)).trans G9;have d0:=(World.cell?_of_block (w:=w) (Bv.block g2 Bl)).trans Gq;have d1:=(World.cell?_of_block (w:=w) (Bv.block g2 Bl)).trans Gu;have AY:(k:Int)<(n:Int):=by omega
   have JP:(n:Int)<=33554432:=by omega
   clear ex Ho G9 Gq Gu Bn Bl
   go_wp2
   go_region
   all_goals go_wp2
   all_goals go_roundg (n-(k+1))
   all_goals first
    | omega
    | exact⟨k+1,by omega,by go_num,Bv.drew⟩
  ·go_wp2
   go_ret;exact⟨rfl,Bv⟩
end Go.Proofs.YtfidemmgofcnmaaGreatDoor
namespace Go.Proofs.YtfidemmgofcnmaaGreatDoor
open Go.Shelf Go.Proofs.Tryz
def Q3x:Go.Shelf.Ren:=⟨fun|7=>75|10=>141|n=>n,fun|23=>148|26=>3|3=>140|28=>165|0=>0|27=>164|33=>143|4=>4|n=>n,fun|n=>n⟩
theorem Q9C:Go.Proofs.SlLaysZI.n7 prog Q3x:={
 mixed:=by kernel_rfl
 f7:=⟨f75.name,by decide,func75.trans (congrArg some (by kernel_rfl))⟩
 f10:=⟨f141.name,by decide,func141.trans (congrArg some (by kernel_rfl))⟩
 t0:=underlying0
 a0:=isAgg0
 z0:=sizeOf0
 v0:=zeroValue0
 t4:=underlying4
 a4:=isAgg4
 z4:=sizeOf4
 v4:=zeroValue4
 t23:=underlying148
 a23:=isAgg148
 z23:=sizeOf148
 v23:=zeroValue148
 t26:=underlying3
 a26:=isAgg3
 z26:=sizeOf3
 v26:=zeroValue3
 t27:=underlying164
 a27:=isAgg164
 z27:=sizeOf164
 v27:=zeroValue164
 t28:=underlying165
 a28:=isAgg165
 z28:=sizeOf165
 v28:=zeroValue165
 t33:=underlying143
 a33:=isAgg143
 z33:=sizeOf143
 v33:=zeroValue143}
def Q2j:Go.Shelf.Ren:=⟨fun|6=>74|8=>139|9=>140|11=>198|13=>196|12=>199|23=>228|24=>229|14=>230|15=>231|16=>232|17=>233|18=>234|19=>235|20=>236|21=>237|22=>238|25=>248|26=>244|27=>245|28=>249|29=>250|30=>197|31=>254|n=>n,fun|26=>3|28=>165|24=>38|0=>0|3=>3|37=>123|48=>57|50=>83|4=>4|40=>320|39=>319|45=>239|5=>5|9=>9|51=>334|55=>338|57=>343|58=>344|33=>143|n=>n,fun|n=>n⟩
theorem Q9c:Go.Proofs.SlLaysZI.n6 prog Q2j:={
 mixed:=by kernel_rfl
 f6:=⟨f74.name,by decide,func74.trans (congrArg some (by kernel_rfl))⟩
 f8:=⟨f139.name,by decide,func139.trans (congrArg some (by kernel_rfl))⟩
 f11:=⟨f198.name,by decide,func198.trans (congrArg some (by kernel_rfl))⟩
 t0:=underlying0
 a0:=isAgg0
 z0:=sizeOf0
 v0:=zeroValue0
 t24:=underlying38
 a24:=isAgg38
 z24:=sizeOf38
 v24:=zeroValue38
 t26:=underlying3
 a26:=isAgg3
 z26:=sizeOf3
 v26:=zeroValue3
 t28:=underlying165
 a28:=isAgg165
 z28:=sizeOf165
 v28:=zeroValue165
 i26:=by kernel_rfl}
def Q6K:Go.Shelf.Ren:=⟨fun|5=>140|8=>196|7=>199|19=>228|20=>229|10=>230|11=>231|12=>232|13=>233|14=>234|15=>235|16=>236|17=>237|18=>238|30=>248|31=>244|32=>245|33=>249|34=>250|35=>197|40=>254|n=>n,fun|23=>38|25=>3|3=>3|32=>123|22=>38|0=>0|44=>57|46=>83|4=>4|36=>320|35=>319|41=>239|5=>5|9=>9|53=>334|57=>338|63=>343|64=>344|n=>n,fun|n=>n⟩
theorem Q9D:Go.Proofs.SlLaysM.n5 prog Q6K:={
 mixed:=by kernel_rfl
 f5:=⟨f140.name,by decide,func140.trans (congrArg some (by kernel_rfl))⟩
 f7:=⟨f199.name,by decide,func199.trans (congrArg some (by kernel_rfl))⟩
 f8:=func196.trans (congrArg some (by kernel_rfl))
 f10:=⟨f230.name,by decide,func230.trans (congrArg some (by kernel_rfl))⟩
 f11:=⟨f231.name,by decide,func231.trans (congrArg some (by kernel_rfl))⟩
 f12:=⟨f232.name,by decide,func232.trans (congrArg some (by kernel_rfl))⟩
 f13:=⟨f233.name,by decide,func233.trans (congrArg some (by kernel_rfl))⟩
 f14:=⟨f234.name,by decide,func234.trans (congrArg some (by kernel_rfl))⟩
 f15:=⟨f235.name,by decide,func235.trans (congrArg some (by kernel_rfl))⟩
 f16:=⟨f236.name,by decide,func236.trans (congrArg some (by kernel_rfl))⟩
 f17:=⟨f237.name,by decide,func237.trans (congrArg some (by kernel_rfl))⟩
 f18:=⟨f238.name,by decide,func238.trans (congrArg some (by kernel_rfl))⟩
 f19:=func228.trans (congrArg some (by kernel_rfl))
 f20:=func229.trans (congrArg some (by kernel_rfl))
 f30:=⟨f248.name,by decide,func248.trans (congrArg some (by kernel_rfl))⟩
 f31:=func244.trans (congrArg some (by kernel_rfl))
 f32:=func245.trans (congrArg some (by kernel_rfl))
 f33:=⟨f249.name,by decide,func249.trans (congrArg some (by kernel_rfl))⟩
 f34:=⟨f250.name,by decide,func250.trans (congrArg some (by kernel_rfl))⟩
 f35:=⟨f197.name,by decide,func197.trans (congrArg some (by kernel_rfl))⟩
 f40:=⟨f254.name,by decide,func254.trans (congrArg some (by kernel_rfl))⟩
 t0:=underlying0
 a0:=isAgg0
 z0:=sizeOf0
 v0:=zeroValue0
 t3:=underlying3
 a3:=isAgg3
 z3:=sizeOf3
 v3:=zeroValue3
 t4:=underlying4
 a4:=isAgg4
 z4:=sizeOf4
 v4:=zeroValue4
 t5:=underlying5
 a5:=isAgg5
 z5:=sizeOf5
 v5:=zeroValue5
 t9:=underlying9
 a9:=isAgg9
 z9:=sizeOf9
 v9:=zeroValue9
 t22:=underlying38
 a22:=isAgg38
 z22:=sizeOf38
 v22:=zeroValue38
 t23:=underlying38
 a23:=isAgg38
 z23:=sizeOf38
 v23:=zeroValue38
 t25:=underlying3
 a25:=isAgg3
 z25:=sizeOf3
 v25:=zeroValue3
 t32:=underlying123
 a32:=isAgg123
 z32:=sizeOf123
 v32:=zeroValue123
 t35:=underlying319
 a35:=isAgg319
 z35:=sizeOf319
 v35:=zeroValue319
 t36:=underlying320
 a36:=isAgg320
 z36:=sizeOf320
 v36:=zeroValue320
 t41:=underlying239
 a41:=isAgg239
 z41:=sizeOf239
 v41:=zeroValue239
 t44:=underlying57
 a44:=isAgg57
 z44:=sizeOf57
 v44:=zeroValue57
 t46:=underlying83
 a46:=isAgg83
 z46:=sizeOf83
 v46:=zeroValue83
 t53:=underlying334
 a53:=isAgg334
 z53:=sizeOf334
 v53:=zeroValue334
 t57:=underlying338
 a57:=isAgg338
 z57:=sizeOf338
 v57:=zeroValue338
 t63:=underlying343
 a63:=isAgg343
 z63:=sizeOf343
 v63:=zeroValue343
 t64:=underlying344
 a64:=isAgg344
 z64:=sizeOf344
 v64:=zeroValue344}
end Go.Proofs.YtfidemmgofcnmaaGreatDoor
namespace Go.Proofs.YtfidemmgofcnmaaGreatDoor
open Go.RowKit Go.Maps Go.Sort Go.Shelf Go.Proofs.Tryz
abbrev idR:Value->Option (DataW Unit×List MemPlace):=fun _=>some (.nil,[])
theorem Q4a{w:World}{m:Nat}{kv:List (Int×Value)}(h:Q0n w m kv){P:Program}{k:TypeId}(hk:P.underlying k=some (.int .i64))(AB:kv.length<=maxLen)(hid:∀p∈kv,(Lit.int .i64 p.1).wf=true) :
  ∃D:DataW Unit,w.ownsMap P k idR m kv.length D/\(intKeys D).Perm (kv.map (·.1))/\Maps.size D=kv.length:=by
 obtain⟨es,Ab,hb,hs,hr⟩:=h;have Ad:es.size=kv.length:=by
  have:=congrArg List.length hr
  simpa using this
 have C5:∀p∈kv,keyOf P k (.int .i64 p.1)=some (.int .i64 p.1):=fun p hp=>keyOf_int_mk hk (hid p hp)
 have DR:∀x∈es.toList,∃p∈kv,x.key=.int .i64 p.1:=by
  intro x hx;have hm:(x.key,x.val)∈kv.map (fun p=>(Value.int .i64 p.1,p.2)):=by
   rw[<- hr];exact Z0e.2 ⟨x,hx,rfl⟩
  obtain⟨p,hp,he⟩:=Z0e.1 hm;exact⟨p,hp,((Prod.mk.injEq _ _ _ _).mp he).1.symm⟩
 have hF:WideElems.Fit P k idR es Ab:=by
  refine⟨by omega,hs,fun x hx=>?_⟩;obtain⟨p,hp,he⟩:=DR x hx;exact⟨(.int .i64 p.1,.nil),by simp[WideElems.rd,he,C5 p hp]⟩
 have Hj:es.toList.map (WideElems.rg P k idR)=kv.map fun(p:Int×Value)=>(Lit.int .i64 p.1,(DataW.nil:DataW Unit)):=by
  have e1:es.toList.map (WideElems.rg P k idR)=(es.toList.map fun(e:MapEntry)=>(e.key,e.val)).map fun(z:Value×Value)=>((keyOf P k z.1).map fun(key:Lit)=>(key,(DataW.nil:DataW Unit))).getD (.bool false,.nil):=by
   rw[Z1I];refine Z1J fun x _=>?_
   cases hkx:keyOf P k x.key <;> simp[WideElems.rg,WideElems.rd,hkx]
  rw[e1,hr,Z1I];refine Z1J fun p hp=>?_
  simp[C5 p hp]
 refine⟨_,⟨es,Ab,hb,hF,by omega,rfl⟩,?_,?_⟩
 ·show(List.map (fun(p:Lit×DataW Unit)=>Go.intOf p.1) _).Perm _;refine((WideShapes.sorted_perm _).map _).trans ?_;rw[Hj,Z1I];exact List.Perm.of_eq rfl
 ·show(List.foldr DataW.insert [] _).length=_;rw[length_sorted,Hj];simp
theorem Q9E(m:Nat):AnyZI.SortsIn prog Q2j Fence.wide m:=
 ⟨fun blk off Aa ss W hH hblk AB=>callsIn_wide.2 (AnyM.slices_Sort_int Q9D blk off Aa ss W hH hblk AB),
  fun p Aa W=>callsIn_wide.2 (AnyM.slices_Sort_int_none Q9D p Aa W)⟩
def IdsQ(w:World)(q:QT)(e:Ending)(w':World):Prop:=
 ∃v,e=.returned v/\w'.ownsRow w.heap.size 3 1 v q.E.length (((q.E.map (·.id)).mergeSort leI).map encZ)/\Below w.heap.size w w'
theorem Q7U{w:World}{q:QT}(h:Sep w q.hl)(AB:q.E.length<=1000)(hid:∀e∈q.E,0<=e.id/\e.id<1048576) :
  Calls prog 18 #[ptr q.t] w (IdsQ w q):=by
 have hl:(kvs q.E).length=q.E.length:=by simp[kvs]
 obtain⟨D,AS,B1,hD⟩:=Q4a (QT.map h) (k:=3) underlying3 (by rw[hl];unfold maxLen;omega) (by
  intro p hp;obtain⟨e,he,rfl⟩:=Z0e.1 hp;have:=hid e he;have h1:IntKind.i64.min = -9223372036854775808:=rfl;have h2:IntKind.i64.max=9223372036854775807:=rfl;simp only[Lit.wf,Z0m,decide_eq_true_eq,h1,h2];omega)
 have Cb:(intKeys D).Perm (q.E.map (·.id)):=by
  unfold kvs at B1;rw[Z1I] at B1;exact B1
 have c0:=QT.c0 h;have Ch:=AS.lt;have DY:SeqGives Fence.wide 2 prog 141 #[.pointer (some ⟨w.heap.size,0,none⟩)] encZ (fun ss=>ss.Perm (intKeys D)) (Maps.size D) (w.alloc (.cells #[.map (some q.m)] 148)):=
  AnyZI.keys_gives (ρ:=Q3x) {Q9C with} Fence.wide _ trivial rfl (by omega) w.heap.size q.m (kvs q.E).length D _ (by simp) (by simp) (by
   obtain⟨es,Ab,hb,Ft,hs,hD⟩:=AS;exact⟨es,Ab,(Below.heap_alloc _ _ q.m Ch).trans hb,Ft,hs,hD⟩)
 have cK:∀mb W,Calls prog 75 #[.map mb] W fun e w'=>e=.returned (.func (.func 141) #[] #[.pointer (some ⟨W.heap.size,0,none⟩)])/\w'=W.alloc (.cells #[.map mb] 148):=fun mb W=>(callsIn_wide (n:=5)).1 (AnyZI.keys_in Q9C Fence.wide 5 trivial rfl mb W)
 have cS:=AnyZI.sorted_in Q9c Fence.wide 5 trivial trivial trivial trivial rfl (by omega) (Q9E _) (enters_of func140 (by kernel_rfl) rfl) 141 #[.pointer (some ⟨w.heap.size,0,none⟩)] trivial (enters_of func141 (by kernel_rfl) rfl) _ _ (by rw[hD,hl];unfold maxLen;omega) (by rw[hD,hl];omega) _ DY
 change CallsIn _ _ prog 74 _ _ _ at cS
 have cS:=callsIn_wide.1 cS;have Ap:∀e w',(∃(v:Value) (ss:List Int),e=.returned v/\ss.Perm (intKeys D) /\
   w'.ownsRow (w.alloc (.cells #[.map (some q.m)] 148)).heap.size 3 1 v ss.length ((ss.mergeSort (fun x y=>decide (x<=y))).map encZ)/\(v=.slice none 0 0↔ss=[])/\Below (w.alloc (.cells #[.map (some q.m)] 148)).heap.size (w.alloc (.cells #[.map (some q.m)] 148)) w')->IdsQ w q e w':=by
  rintro e w'⟨v,ss,rfl,hS,Ai,_,hb⟩;have hp:=hS.trans Cb;rw[mergeSort_of_perm_i hp,show ss.length=q.E.length by simpa using hp.length_eq] at Ai;exact⟨v,rfl,ownsRow_base_a Ai (by simp),((Below.refl _ w).alloc (Q9Y _) _).trans (hb.mono (by simp))⟩
 have HF:=Q0a Ap;generalize hQ:IdsQ w q=Q at *
 clear h hid AS B1 Cb DY hD Ap hQ hl AB;unfold ptr at *
 go_enter func18,ntmps18;go_wp2_with (first
  | (go_at_call 75;refine(cK _ _).mono ?_;rintro e w'⟨rfl,rfl⟩)
  | (go_at_call 74;refine cS.mono ?_;intro e w' Ck;have HR:=Q0a Ck;obtain⟨v,ss,rfl,hS,Ai,Fz,hb⟩:=Ck;clear hS Ai Fz hb))
 exact HF.out _ _ HR.out
end Go.Proofs.YtfidemmgofcnmaaGreatDoor
namespace Go.Proofs.YtfidemmgofcnmaaGreatDoor
open Go.RowKit Go.Proofs.Tryz
theorem Step.fresh{w w':World}{H':HL}(h:Step [] H' w w'):Below w.heap.size w w':=h.below (Q9Y _) (by simp)
theorem Q2C{P:PL}{k a:Nat}(h:a∈P.usedOf k):∃c,P.Cls k c/\a∈c.used:=by
 unfold PL.usedOf at h;split at h
 ·rename_i h1;split at h
  ·rename_i c hc;exact⟨c,⟨h1,hc⟩,h⟩
  ·cases h
 ·cases h
end Go.Proofs.YtfidemmgofcnmaaGreatDoor
