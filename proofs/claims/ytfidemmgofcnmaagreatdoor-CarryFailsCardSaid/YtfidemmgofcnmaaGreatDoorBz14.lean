/- What the laws of spaces share is proved. No condition. Part of a proof. -/
import Derived.Test.YtfidemmgofcnmaaGreatDoorBz13
set_option maxHeartbeats 4000000
set_option maxRecDepth 100000
set_option linter.unusedVariables false
namespace Go.Proofs.YtfidemmgofcnmaaGreatDoor
open Go.RowKit Go.Proofs.Tryz
def onTo(G:Nat->Nat->Bool)(top k s:Nat):List Nat:=((List.range (2 ^ (top-k))).filter (G k)).filter fun i=>decide (i<s)
def Q6E(G:Nat->Nat->Bool)(top k:Nat):List Nat:=(List.range (2 ^ (top-k))).filter (G k)
theorem Z6c(G:Nat->Nat->Bool)(top k:Nat):onTo G top k 0=[]:=by simp[onTo]
theorem mem_on{G:Nat->Nat->Bool}{top k i:Nat}:i∈Q6E G top k↔i<2 ^ (top-k)/\G k i=true:=by simp[Q6E]
theorem Z0y{l:List Nat}(hs:l.Pairwise (·<·)){s i:Nat}(hi:i∈l)(Rv:s<=i)(Aw:∀j∈l,s<=j->i<=j):l.filter (fun j=>decide (j<i+1))=l.filter (fun j=>decide (j<s))++[i]:=by
 induction l with
 | nil=>cases hi
 | cons a r ih =>
  obtain⟨h1,h2⟩:=J3H.1 hs;rcases J3m.1 hi with rfl|Kr
  ·have e1:r.filter (fun j=>decide (j<i+1))=[]:=by
    rw[J5b];intro j hj;have:=h1 j hj;simp;omega
   have e2:r.filter (fun j=>decide (j<s))=[]:=by
    rw[J5b];intro j hj;have:=h1 j hj;simp;omega
   rw[J5n (by simp),J5o (by simp;omega),e1,e2];rfl
  ·have XA:=h1 i Kr;have Aa:a<s:=by
    rcases J5K a s with e|e
    ·exact e
    ·have:=Aw a (by simp) e;omega
   rw[J5n (by simp;omega),J5n (by simp;omega),ih h2 Kr (fun j hj hsj=>Aw j (by simp[hj]) hsj)];rfl
theorem Z0z{G:Nat->Nat->Bool}{n k i:Nat}(hi:i<n):((List.range n).map (G k))[i]?.getD false=G k i:=by simp[hi]
theorem Z6d{G:Nat->Nat->Bool}{top k s i:Nat}(h:fstG G top k s=some i):onTo G top k (i+1)=onTo G top k s++[i]:=by
 obtain⟨h1,h2,h3,h4⟩:=Q1s h;have hl:i<2 ^ (top-k):=by simpa using h1
 rw[Z0z hl] at h3;refine Z0y (J3A.filter _) (mem_on.2 ⟨hl,h3⟩) h2 fun j hj hsj=>?_
 rcases J5K j i with e|e
 ·have Bn:=mem_on.1 hj;have:=h4 j hsj e;rw[Z0z Bn.1] at this;exact absurd Bn.2 this
 ·exact e
theorem Z8R{G:Nat->Nat->Bool}{top k s:Nat}(h:fstG G top k s=none):onTo G top k s=Q6E G top k:=by
 have h1:=Q8A h;unfold onTo;rw[show(List.range (2 ^ (top-k))).filter (G k)=Q6E G top k from rfl,J7e];intro j hj;have Bn:=mem_on.1 hj;rcases J5K j s with e|e
 ·simpa using e
 ·have:=h1 j e (by simpa using Bn.1);rw[Z0z Bn.1] at this;exact absurd Bn.2 this
def blk(k i:Nat):Nat×Nat:=(1024*i*2 ^ k,k)
def Q1o(G:Nat->Nat->Bool)(top k:Nat):List (Nat×Nat):=(List.range k).flatMap fun j=>(Q6E G top j).map (blk j)
def Q1T(G:Nat->Nat->Bool)(top k s:Nat):List (Nat×Nat):=Q1o G top k++(onTo G top k s).map (blk k)
theorem Z0A(G:Nat->Nat->Bool)(top k:Nat):Q1T G top k 0=Q1o G top k:=by simp[Q1T,Z6c]
theorem Q5V{G:Nat->Nat->Bool}{top k s i:Nat}(h:fstG G top k s=some i):Q1T G top k (i+1)=Q1T G top k s++[blk k i]:=by
 unfold Q1T;rw[Z6d h];simp
theorem Z3i{G:Nat->Nat->Bool}{top k s:Nat}(h:fstG G top k s=none):Q1T G top k s=Q1o G top (k+1):=by
 unfold Q1T Q1o;rw[Z8R h,J3s];simp
theorem J0i(G:Nat->Nat->Bool)(top k:Nat)(ht:top<=20):(Q6E G top k).length<=1048576:=by
 unfold Q6E;exact J3i (J5q _ _) (by rw[J4L];exact Q1v ht)
theorem Q3q(G:Nat->Nat->Bool)(top:Nat)(ht:top<=20):∀k,(Q1o G top k).length<=1048576*k
 | 0=>by simp[Q1o]
 | k+1=>by
  have ih:=Q3q G top ht k;have h1:=J0i G top k ht;have e:Q1o G top (k+1)=Q1o G top k++(Q6E G top k).map (blk k):=by
   unfold Q1o;rw[J3s];simp
  rw[e,J3N,J4K];omega
theorem Z3j(G:Nat->Nat->Bool)(top k s:Nat)(ht:top<=20):(Q1T G top k s).length<=1048576*k+1048576:=by
 have h1:=Q3q G top ht k;have h2:=J0i G top k ht;unfold Q1T onTo;rw[J3N,J4K];have h3:=J5q (fun i=>decide (i<s)) (Q6E G top k);unfold Q6E at h2 h3;omega
def encB(x:Nat×Nat):List Value:=[.int .i64 (x.1:Int),.int .i64 (x.2:Int)]
def Q0U(l:List (Nat×Nat)):List Value:=l.flatMap encB
theorem infoblk:(prog.info? 161).map (fun i=>(i.zero,i.size,i.bytes))=some (some (.agg #[.int .i64 0,.int .i64 0]),2,16):=by kernel_rfl
def Q5W(B:Nat)(L:List (Nat×Nat))(v:Value)(w:World)(r:Ending)(w':World):Prop:=r=.returned v/\∃L':List (Nat×Nat),L'.Perm L/\L'.Pairwise (fun a b=>a.1<=b.1)/\w'.ownsRow B 161 2 v L'.length (Q0U L')/\Below B w w'
def NewBlks(w:World)(L:List (Nat×Nat))(r:Ending)(w':World):Prop:=∃v L',r=.returned v/\L'.Perm L/\L'.Pairwise (fun a b=>a.1<=b.1)/\w'.ownsRow w.heap.size 161 2 v L'.length (Q0U L')/\Below w.heap.size w w'
def OutB(w wr:World)(v:Value)(L:List (Nat×Nat)):Prop:=wr.ownsRow w.heap.size 161 2 v L.length (Q0U L)/\Below w.heap.size w wr
theorem Z6e{w w1:World}{d:BD}{G:Nat->Nat->Bool}(h:Sep w d.hl)(hi:d.Is G)(hb:Below w.heap.size w w1)(k:Nat)(hk:k<=d.top)(s:Nat)(hs:s<=1048576):∃b,w1.cell? ⟨d.b,1+k,none⟩=some (.pointer (some ⟨b,0,none⟩)) /\
  Calls prog 72 #[.pointer (some ⟨b,0,none⟩),.bool true,.int .i64 s] w1 fun r w'=>r=.returned (.int .i64 (optI (fstG G d.top k s)))/\w1=w':=Q5h (h.grown hb).sep hi k hk s hs
theorem J1q(w:World)(T:TypeId)(v0 v1:Value):∀j u,[v0,v1][j]?=some u->(w.alloc (.cells #[v0,v1] T)).cell? ((⟨w.heap.size,0,none⟩:Addr).add j)=some u:=by
 intro j u hj;have hc:=Cells.new w T [v0,v1]
 match j,hj with
 | 0,hj=>cases hj;exact hc.cell 0 _ rfl
 | 1,hj=>cases hj;exact hc.cell 1 _ rfl
theorem Z6f{w wr w1:World}{o:Obj}{T:TypeId}{size n:Nat}{v:Value}{xs:List Value}(h:wr.ownsRow w.heap.size T size v n xs)(hb:Below w.heap.size w wr)(hg:(wr.alloc o).grownBy w1 v.ownBlock):Below w.heap.size w w1:=
 hb.trans (((Below.refl _ wr).alloc hb.size o).grown hg (by have:=hb.size;simp;omega) (fun k hk=>(h.lt k hk).1))
theorem Z6g{w:World}{d:BD}{G:Nat->Nat->Bool}(h:Sep w d.hl)(hi:d.Is G)
  (hsort:∀v w1 L,OutB w w1 v L->L.length<=22020096->(L=Q1o G d.top (d.top+1))->Calls prog 73 #[v] w1 (Q5W w.heap.size L v w1)) :
  Calls prog 17 #[.pointer (some ⟨d.b,0,none⟩)] w (NewBlks w (Q1o G d.top (d.top+1))):=by
 have ht:=hi.top;have IS:Hid (∀w1,Below w.heap.size w w1->w1.cell? ⟨d.b,0,none⟩=some (.int .i64 d.top)):=fun w1 hb=>BD.c0 (h.grown hb).sep
 have Dv:=Q0a (fun w1 hb k hk s hs=>Z6e h hi (w1:=w1) hb k hk s hs);have HS:=Q0a hsort;clear h hi hsort;generalize d.top=top at *
 generalize d.b=db at *
 obtain⟨i0,DN,Bu,AT,Bk⟩:=info_parts infoblk;go_enter func17,ntmps17;go_wp2_with fail
 go_loopg [3,4] (top+1) (fun gk ov kv wr=>∃k:Nat,kv=.int .i64 k/\k+gk=top+1/\OutB w wr ov (Q1o G top k))
 case atStart=>exact⟨0,rfl,by omega,World.ownsRow_nil _ _ _ _,Below.refl _ _⟩
 case round =>
  obtain⟨k,rfl,BR,AS⟩:=hrel;have HO:=Q0a AS;have c0:=IS.out wr AS.2;have Dz:=Q0a BR;clear AS;by_cases Aa:k<=top
  ·obtain⟨b,Cd,AI⟩:=Dv.out wr HO.out.2 k Aa 0 (by omega);have Co:=Q0a AI;clear AI BR;have BE:(0:Int)<=k:=by omega
   have Oi:(k:Int)<21:=by omega
   go_wp2_with fail;refine Co.out.mono ?_;rintro r w'⟨rfl,rfl⟩;have Vs:2 ^ (top-k)<=1048576:=Q1v ht;go_wp2_with fail;obtain⟨gko,Eu⟩:∃g,g=gk:=⟨_,rfl⟩
   subst Eu;obtain⟨wo,Kv⟩:∃wo,wo=wr:=⟨_,rfl⟩
   subst Kv
   go_loopg [3,5] 1048577 (fun gi ov iv wi=>∃s:Nat,iv=.int .i64 (optI (fstG G top k s))/\s+gi=1048577/\OutB w wi ov (Q1T G top k s))
   case atStart=>exact⟨0,rfl,rfl,by rw[Z0A];exact HO.out⟩
   case round =>
    clear HO Cd c0 Co;obtain⟨s,rfl,Tt,AS⟩:=hrel;have HO:=Q0a AS;have c0:=IS.out wr AS.2;have Br:=AS.2.size;clear AS;cases CE:fstG G top k s with
    | none =>
     have OH:=Q0a CE;clear CE;rw[show optI none = -1 from rfl];go_wp2_with fail;go_roundg (top+1-(k+1))
     case measure=>have:=Dz.out;omega
     case rel=>exact⟨k+1,by go_num,by omega,by rw[<- Z3i OH.out];exact HO.out⟩
    | some i =>
     obtain⟨CC,Rv,_,_⟩:=Q1s CE;have OH:=Q0a CE;clear CE;have DQ:i<2 ^ (top-k):=by simpa using CC
     have BH:(0:Int)<=i:=by omega
     have K4:(i:Int)<1048576:=by omega
     have Rd:=Q0a HO.out.1;have Ab:=Z3j G top k s ht;have hL:Hid (Q0U (Q1T G top k s)++[.int .i64 (((blk k i).1:Nat):Int),.int .i64 k]=Q0U (Q1T G top k (i+1))/\(Q1T G top k s).length+1=(Q1T G top k (i+1)).length):=by
      constructor
      ·rw[Q5V OH.out];simp[Q0U,encB,blk]
      ·rw[Q5V OH.out];simp
     have BN:=Q0a DQ;have EE:=Q0a Ab;have DC:=Q0a Tt;have WB:=Q0a Rv;have hm:i*2 ^ k<1048576:=by
      have h1:i*2 ^ k<2 ^ (top-k)*2 ^ k:=J6s DQ (J4q _);rw[<- J4C,show top-k+k=top by omega] at h1;exact J3j h1 (J3i (J4p (by omega) ht) (by decide))
     have JB:wrap64 ((i:Int)*1024*2 ^ k)=(((blk k i).1:Nat):Int):=by
      have e:(i:Int)*1024*2 ^ k=((1024*i*2 ^ k:Nat):Int):=by
       rw[J4f,J4f,J4W];show _=(1024:Int)*i*2 ^ k;rw[Int.mul_comm (i:Int) 1024]
      rw[e];have e2:1024*i*2 ^ k=1024*(i*2 ^ k):=J6r _ _ _;exact Go.IntWalk.wrap64_in _ (by omega)
     have HM:=Q0a hm;clear CC DQ Ab Tt Vs Rv hm;rw[show optI (some i)=(i:Int) from rfl];generalize hva:(((blk k i).1:Nat):Int)=va at JB hL;have U9:=Q0a hva;clear hva
     iterate 41 go_step
     rw[JB];clear JB;have E6:=EE.out
     iterate 2 go_step
     refine wpList_append_own _ rfl _ _ 34 rfl w.heap.size 161 i0 (.agg #[.int .i64 0,.int .i64 0]) 2 16 underlying34 DN Bu AT Bk rfl (by decide) _ _ _ rfl (Rd.out.alloc _) ⟨wr.heap.size,0,none⟩ 1 1 [.int .i64 va,.int .i64 k] rfl rfl (J1q wr _ _ _) (by simp[Value.oneCell']) (by unfold maxLen;omega) (by omega) (by simp;omega) ?_;intro v' w1 Bc Dk _;have FF:=Z6f Rd.out HO.out.2 Dk;rw[hL.out.1,hL.out.2] at Bc;have V8:Hid (OutB w w1 v' (Q1T G top k (i+1))):=⟨Bc,FF⟩
     have FV:=Q0a FF;clear Bc Dk FF E6 Rd HO U9 hL c0 Br;obtain⟨b2,B5,Fl⟩:=Dv.out w1 FV.out k Aa (i+1) (by omega);rw[show((i+1:Nat):Int)=(i:Int)+1 by omega] at Fl;have DA:=Q0a Fl;clear Fl;go_wp2_with fail;refine DA.out.mono ?_;rintro r w'⟨rfl,rfl⟩;go_wp2_with fail;go_roundg (1048577-(i+1))
     case measure=>have:=DC.out;have:=WB.out;omega
     case rel=>exact⟨i+1,rfl,by omega,V8.out⟩
  ·obtain rfl:k=top+1:=by omega
   have hS:=Q0a (HS.out u3 wr _ HO.out (J3i (Q3q G top ht (top+1)) (by omega)) rfl);go_wp2_with fail;refine hS.out.mono ?_;rintro r w'⟨rfl,L',p1,p2,p3,p4⟩;have HR:Hid (NewBlks w (Q1o G top (top+1)) (.returned u3) w'):=⟨u3,L',rfl,p1,p2,p3,HO.out.2.trans p4⟩
   clear p1 p2 p3 p4;go_wp2_with fail;go_ret;exact HR.out
theorem mem_freeTo{G:Nat->Nat->Bool}{top n:Nat}{b:Nat×Nat}:b∈Q1o G top n↔∃k i,k<n/\i<2 ^ (top-k)/\G k i=true/\b=blk k i:=by
 unfold Q1o;simp only[J3G,J3x,J3n]
 constructor
 ·rintro⟨k,hk,i,hi,rfl⟩;obtain⟨h1,h2⟩:=mem_on.1 hi;exact⟨k,i,hk,h1,h2,rfl⟩
 ·rintro⟨k,i,hk,h1,h2,rfl⟩;exact⟨k,hk,i,mem_on.2 ⟨h1,h2⟩,rfl⟩
theorem Z8S{u:Nat->Bool}{top k i k' i':Nat}(hk:k<=top)(BC:k'<=top)(h:fre u top k i=true)(h':fre u top k' i'=true)(e:i*2 ^ k=i'*2 ^ k'):k=k'/\i=i':=by
 have key:∀{a x b y:Nat},a<b->b<=top->fre u top a x=true->fre u top b y=true->x*2 ^ a=y*2 ^ b->False:=by
  intro a x b y Dx hb h1 h2 e;unfold fre at h1 h2;simp only[J3C,J6n,beq_iff_eq,J6k] at h1 h2;rcases h1.2 with e1|e1
  ·omega
  ·have hc:clr u (a+1) (x/2)=true:=by
    rw[clr_iff];intro p hp;refine(clr_iff u b y).1 h2.1 p ?_;have e2:b=(a+1)+(b-(a+1)):=by omega
    have hx:x=y*2 ^ (b-a):=by
     have e3:2 ^ b=2 ^ (b-a)*2 ^ a:=by rw[<- J4C];congr 1;omega
     rw[e3,<- J6r] at e;exact J7i (J4q a) e
    have EZ:x/2=y*2 ^ (b-(a+1)):=by
     have e3:2 ^ (b-a)=2 ^ (b-(a+1))*2:=by rw[<- J4j];congr 1;omega
     rw[hx,e3,<- J6r,J6a _ (by omega:0<2)]
    rw[e2,J4C,<- J4D,hp,EZ,J6a _ (J4q _)]
   rw[hc] at e1;cases e1
 rcases J6c k k' with Aa|rfl|Aa
 ·exact(key Aa BC h h' e).elim
 ·exact⟨rfl,J7i (J4q k) e⟩
 ·exact(key Aa hk h' h e.symm).elim
theorem Q5X:∀{L M:List (Nat×Nat)},L.Perm M->L.Pairwise (fun a b=>a.1<=b.1)->M.Pairwise (fun a b=>a.1<=b.1)->(∀a∈L,∀b∈L,a.1=b.1->a=b)->L=M
 | [],M,hp,_,_,_=>(List.nil_perm.1 hp).symm
 | x::L,M,hp,h1,h2,hi=>by
  cases M with
  | nil=>exact absurd hp.symm (List.not_perm_nil_cons _ _)
  | cons y M =>
   obtain⟨a1,a2⟩:=J3H.1 h1;obtain⟨b1,b2⟩:=J3H.1 h2;have hy:y∈x::L:=hp.mem_iff.2 (by simp);have hx:x∈y::M:=hp.mem_iff.1 (by simp);have HU:x=y:=by
    refine hi x (by simp) y hy ?_;have l1:x.1<=y.1:=by
     rcases J3m.1 hy with e|e
     ·rw[e];exact J3h _
     ·exact a1 y e
    have l2:y.1<=x.1:=by
     rcases J3m.1 hx with e|e
     ·rw[e];exact J3h _
     ·exact b1 x e
    omega
   subst HU;rw[Q5X (J6N hp) a2 b2 fun a ha b hb=>hi a (by simp[ha]) b (by simp[hb])]
theorem Z6h{u v:Nat->Bool}{top:Nat}(huv:∀p,u p=v p){L M:List (Nat×Nat)}(hL:L.Perm (Q1o (fre u top) top (top+1)))(hM:M.Perm (Q1o (fre v top) top (top+1)))(h1:L.Pairwise (fun a b=>a.1<=b.1))(h2:M.Pairwise (fun a b=>a.1<=b.1)):L=M:=by
 have e:u=v:=funext huv;subst e;refine Q5X (hL.trans hM.symm) h1 h2 fun a ha b hb Dx=>?_
 obtain⟨k,i,k1,_,k3,rfl⟩:=mem_freeTo.1 (hL.mem_iff.1 ha);obtain⟨k',i',Xz,_,QU,rfl⟩:=mem_freeTo.1 (hL.mem_iff.1 hb);unfold blk at Dx ⊢;simp only at Dx;have e1:i*2 ^ k=i'*2 ^ k':=by
  rw[J6r,J6r] at Dx;exact Nat.eq_of_mul_eq_mul_left (by omega:0<1024) Dx
 obtain⟨rfl,rfl⟩:=Z8S (by omega) (by omega) k3 QU e1;rfl
def Z1P(w:World)(a:Option Addr)(L:List (Nat×Nat)):Prop:=∀(j:Nat) (x:Nat×Nat),L[j]?=some x->∃g,a=some ⟨g,0,none⟩/\g<w.heap.size/\w.cell? ⟨g,j*2,none⟩=some (.int .i64 (x.1:Int))/\w.cell? ⟨g,j*2+1,none⟩=some (.int .i64 (x.2:Int))
theorem Q9k:∀{L:List (Nat×Nat)} {j:Nat} {x:Nat×Nat},L[j]?=some x->(Q0U L)[j*2]?=some (.int .i64 (x.1:Int))/\(Q0U L)[j*2+1]?=some (.int .i64 (x.2:Int))
 | [],j,x,h=>by simp at h
 | y::L,0,x,h=>by
  simp at h;subst h;exact⟨rfl,rfl⟩
 | y::L,j+1,x,h=>by
  rw[J6o] at h;obtain⟨h1,h2⟩:=Q9k (L:=L) h;have e:Q0U (y::L)=[.int .i64 (y.1:Int),.int .i64 (y.2:Int)]++Q0U L:=rfl;rw[e,J6q (by show 2<=(j+1)*2;omega),J6q (by show 2<=(j+1)*2+1;omega)];have e1:(j+1)*2-[Value.int .i64 (y.1:Int),.int .i64 (y.2:Int)].length=j*2:=by show(j+1)*2-2=j*2;omega
  have e2:(j+1)*2+1-[Value.int .i64 (y.1:Int),.int .i64 (y.2:Int)].length=j*2+1:=by show(j+1)*2+1-2=j*2+1;omega
  rw[e1,e2];exact⟨h1,h2⟩
theorem NewBlks.reads{w w':World}{L:List (Nat×Nat)}{r:Ending}(h:NewBlks w L r w'):∃(a:Option Addr) (cap:Nat) (L':List (Nat×Nat)),r=.returned (.slice a L'.length cap)/\L'.Perm L/\L'.Pairwise (fun a b=>a.1<=b.1)/\Below w.heap.size w w'/\Z1P w' a L'/\∀b,a=some b->w.heap.size<=b.block:=by
 obtain⟨v,L',rfl,hp,hs,AL,hb⟩:=h;rcases AL.2 with ⟨rfl,h0⟩|⟨g,cap,Ak,rfl,hg,CR,hn,hm,Br,AU⟩
 ·refine⟨none,0,L',by rw[h0],hp,hs,hb,fun j x hj=>?_,fun b hb=>by cases hb⟩;have:=(J3y.1 hj).1;omega
 ·refine⟨_,cap,L',rfl,hp,hs,hb,fun j x hj=>?_,fun b hb=>by cases hb;exact hg⟩;obtain⟨c1,c2⟩:=Q9k hj;have key:∀(i:Nat) (v:Value),(Q0U L')[i]?=some v->w'.cell? ⟨g,i,none⟩=some v:=fun i v hv=>by
   rw[<- AU,J5e] at hv;split at hv
   ·simp only[World.cell?,CR,J6e,J6S,if_false];rw[<- J5B];exact hv
   ·cases hv
  exact⟨g,rfl,lt_of_block CR,key _ _ c1,key _ _ c2⟩
theorem Z6i(w:World)(a b:Option Addr)(ca cb:Nat)(xs:List (Nat×Nat))(ha:Z1P w a xs)(hb:Z1P w b xs)(hl:xs.length<=33554432) :
  Calls prog 22 #[.slice a xs.length ca,.slice b xs.length cb] w (Told w (.bool true)):=by
 have HX:=Q0a ha;have HY:=Q0a hb;clear ha hb;generalize hn:xs.length=n at hl;have HN:Hid (xs.length=n):=hn;clear hn;go_enter func22,ntmps22;go_wp2_with fail
 go_loopg [5] n (fun gk i wr=>∃k:Nat,k+gk=n/\i=.int .i64 k/\Below w.heap.size w wr)
 case atStart=>exact⟨0,J5F _,rfl,Below.refl _ _⟩
 case round =>
  obtain⟨k,hk,rfl,BY⟩:=hrel;by_cases Aa:k<n
  ·have ex:xs[k]?=some (xs[k]'(by rw[HN.out];exact Aa)):=J5s _;generalize xs[k]'(by rw[HN.out];exact Aa)=x at ex;obtain⟨g1,rfl,BS,MC,SN⟩:=HX.out k x ex;obtain⟨g2,rfl,BB,MD,Tn⟩:=HY.out k x ex;have c0:=(World.cell?_of_block (w:=w) (BY.block g1 BS)).trans MC;have c1:=(World.cell?_of_block (w:=w) (BY.block g1 BS)).trans SN;have d0:=(World.cell?_of_block (w:=w) (BY.block g2 BB)).trans MD;have d1:=(World.cell?_of_block (w:=w) (BY.block g2 BB)).trans Tn;have CG:(k:Int)<(n:Int):=by omega
   have R8:(n:Int)<=33554432:=by omega
   clear ex MC SN MD Tn BS BB
   go_wp2
   go_region
   all_goals go_wp2
   all_goals go_roundg (n-(k+1))
   all_goals first
    | omega
    | exact⟨k+1,by omega,by go_num,BY.drew⟩
  ·go_wp2
   go_ret;exact⟨rfl,BY⟩
abbrev encI(x:Int):Value:=.int .i64 x
theorem Z0B:(prog.info? 3).map (fun i=>(i.zero,i.size,i.bytes))=some (some (.int .i64 0),1,8):=by kernel_rfl
def AsideV(H:HL)(cs:List Value)(a:Option Addr)(w:World):Prop:=∀(j:Nat) (v:Value),cs[j]?=some v->∃g,a=some ⟨g,0,none⟩/\g∉keys H/\g<w.heap.size/\w.cell? ⟨g,j,none⟩=some v
theorem AsideV.step{H H':HL}{cs:List Value}{a:Option Addr}{w w':World}(h:AsideV H cs a w)(st:Step H H' w w'):AsideV H' cs a w':=fun j x hj=>by
 obtain⟨g,h1,h2,h3,h4⟩:=h j x hj;refine⟨g,h1,fun hk=>?_,J3j h3 st.chg.size,(World.cell?_of_block (w:=w) (st.chg.block g h3 h2)).trans h4⟩;rcases st.new g hk with h'|h'
 ·exact h2 h'
 ·omega
theorem Q7m{w w':World}{H:HL}{T:TypeId}{size n:Nat}{v:Value}{cs:List Value}(hs:Sep w H)(h:w'.ownsRow w.heap.size T size v n cs):∃(a:Option Addr) (cap:Nat),v=.slice a n cap/\AsideV H cs a w':=by
 obtain⟨hl,h2⟩:=h;rcases h2 with ⟨rfl,h0⟩|⟨g,cap,Ak,rfl,hg,CR,hn,hm,Br,AU⟩
 ·refine⟨none,0,by rw[h0],fun j x hj=>?_⟩;have:=(J3y.1 hj).1;rw[hl,h0,J6Q] at this;omega
 ·refine⟨_,cap,rfl,fun j x hj=>⟨g,rfl,fun hk=>by have:=hs.lt hk;omega,lt_of_block CR,?_⟩⟩;rw[<- hl] at AU;rw[<- AU,J5e] at hj;split at hj
  ·simp only[World.cell?,CR,J6e,J6S,if_false];rw[<- J5B];exact hj
  ·cases hj
def AsideB(H:HL)(L:List (Nat×Nat))(a:Option Addr)(w:World):Prop:=∀(j:Nat) (x:Nat×Nat),L[j]?=some x->∃g,a=some ⟨g,0,none⟩/\g∉keys H/\g<w.heap.size/\w.cell? ⟨g,j*2,none⟩=some (.int .i64 (x.1:Int))/\w.cell? ⟨g,j*2+1,none⟩=some (.int .i64 (x.2:Int))
theorem AsideB.step{H H':HL}{L:List (Nat×Nat)}{a:Option Addr}{w w':World}(h:AsideB H L a w)(st:Step H H' w w'):AsideB H' L a w':=fun j x hj=>by
 obtain⟨g,h1,h2,h3,h4,h5⟩:=h j x hj;have e:=st.chg.block g h3 h2;refine⟨g,h1,fun hk=>?_,J3j h3 st.chg.size,(World.cell?_of_block (w:=w) e).trans h4,(World.cell?_of_block (w:=w) e).trans h5⟩;rcases st.new g hk with h'|h'
 ·exact h2 h'
 ·omega
theorem AsideB.reads{H:HL}{L:List (Nat×Nat)}{a:Option Addr}{w:World}(h:AsideB H L a w):Z1P w a L:=fun j x hj=>by
 obtain⟨g,h1,_,h3,h4,h5⟩:=h j x hj;exact⟨g,h1,h3,h4,h5⟩
theorem Z6j{w:World}{a:AN}(h:Sep w a.hl)(at_:Nat)(h8:at_%8=0)(hl:at_+16<=a.mem.length)(hm:a.mem.length<=1073741824) :
  Calls prog 121 #[.pointer (some ⟨a.a,0,none⟩),.int .i64 at_,.int .i64 2] w fun r w'=>r=.returned (.tuple #[.slice (some ⟨a.mb,at_,none⟩) 16 (a.mem.length-at_),.int .i64 0])/\w=w':=by
 have k1:=Q5A h at_ 16 (by omega) hl hm;have h1:(at_:Int)%8=0:=by omega
 have h2:((at_:Int)%8 != 0)=false:=by simp;omega
 have h3:((0:Int) != 0)=false:=by simp
 clear h h8;generalize a.mem.length=l at *
 go_enter func121,ntmps121;go_wp2_with (go_at_call 113;refine k1.mono ?_;rintro e w'⟨rfl,rfl⟩);go_ret2;exact⟨rfl,rfl⟩
theorem Z0C(x y k:Nat)(hk:k<16):(Q0c x++Q0c y)[k]?.getD 0=(if k<8 then x else y)/2 ^ (8*(k%8))%256:=by
 have hl:(Q0c x).length=8:=rfl;by_cases h:k<8
 ·rw[J6p (by rw[hl];exact h),Q3j x k h,if_pos h,J4w h]
 ·rw[J6q (by rw[hl];omega),hl,Q3j y (k-8) (by omega),if_neg h,show k%8=k-8 by omega]
theorem Z6k{w:World}{a:AN}(h:Sep w a.hl)(at_ x y:Nat)(h8:at_%8=0)(hl:at_+16<=a.mem.length)(hm:a.mem.length<=1073741824)(hx:x<18446744073709551616)(hy:y<18446744073709551616)(g:Nat)(hg:w.cell? ⟨g,0,none⟩=some (.int .u64 x))(BS:w.cell? ⟨g,1,none⟩=some (.int .u64 y))(Iz:g<w.heap.size)(G1:g∉keys a.hl) :
  Calls prog 57 #[.pointer (some ⟨a.a,0,none⟩),.int .i64 at_,.slice (some ⟨g,0,none⟩) 2 2] w fun r w'=>r=.returned (.int .i64 0)/\Step a.hl ({a with mem:=put_ a.mem at_ (Q0c x++Q0c y)}:AN).hl w w':=by
 have k1:=Z6j h at_ h8 hl hm;have FF:(Q0c x++Q0c y).length=16:=rfl;have IG:Hid (Step a.hl ({a with mem:=put_ a.mem at_ ((Q0c x++Q0c y).take 0)}:AN).hl w w):=by
  show Step _ _ _ _;rw[J6C,Q7P];exact Step.refl h
 have HN:Hid (∀k wr,k<16->Step a.hl ({a with mem:=put_ a.mem at_ ((Q0c x++Q0c y).take k)}:AN).hl w wr->(∃old,wr.cell? ⟨a.mb,at_+k,none⟩=some old)/\wr.frozen? ⟨a.mb,at_+k,none⟩=false/\wr.cell? ⟨g,0,none⟩=some (.int .u64 x)/\wr.cell? ⟨g,1,none⟩=some (.int .u64 y)/\Step a.hl ({a with mem:=put_ a.mem at_ ((Q0c x++Q0c y).take (k+1))}:AN).hl w (wr.setCell ⟨a.mb,at_+k,none⟩ (.int .u8 ((Q0c x++Q0c y)[k]?.getD 0:Nat)))):=by
  intro k wr hk hs;have eb:=hs.chg.block g Iz G1;refine⟨⟨_,AN.bcell hs.sep (at_+k) (by show at_+k<(put_ _ _ _).length;rw[Q1t _ _ _ (by rw[J5u,FF];omega)];omega)⟩,AN.bfree hs.sep (at_+k),(World.cell?_of_block (w:=w) eb).trans hg,(World.cell?_of_block (w:=w) eb).trans BS,?_⟩;have h1:=AN.setB hs.sep (at_+k) ((Q0c x++Q0c y)[k]?.getD 0);have h2:=Q5j a.mem at_ (Q0c x++Q0c y) k (by rw[FF];exact hk) (by rw[FF];exact hl);have:=hs.trans h1
  simpa[h2] using this
 have AX:Hid ((Q0c x++Q0c y).take 16=Q0c x++Q0c y):=J4Z (by rw[FF];exact J3h _);have HV:=Q0a (fun k hk=>Z0C x y k hk);generalize hbs:Q0c x++Q0c y=bs at *
 clear h h8 hg BS G1 Iz hbs FF;generalize a.hl=H at *
 generalize a.mem.length=l at *
 go_enter func57,ntmps57;go_wp2_with fail;refine k1.mono ?_;rintro e w'⟨rfl,rfl⟩;go_wp2_with fail
 go_loopw [20] (fun iv wr=>∃k:Nat,k<=16/\iv=.int .i64 k/\Step H ({a with mem:=put_ a.mem at_ (bs.take k)}:AN).hl w wr) (fun iv _=>16-(intOf iv).toNat)
 case atStart=>exact⟨0,by omega,rfl,IG.out⟩
 case round =>
  obtain⟨k,hk,rfl,hs⟩:=hrel;by_cases Aa:k<16
  ·obtain⟨⟨old,LR⟩,hf,Sx,WH,AC⟩:=HN.out k wr Aa hs;have hv:=HV.out k Aa;clear hs;obtain⟨j,hj⟩:∃j,j=k%8:=⟨_,rfl⟩
   have X0:j<8:=by omega
   have A5:(k:Int)%8=(j:Int):=by omega
   have Ax:k%8=j:=hj.symm;rw[Ax] at hv;by_cases h8:k<8
   ·have BE:(k:Int)/8=0:=by omega
    rw[if_pos h8] at hv;have QW:IntKind.u8.wrap ((x:Int)/2 ^ (8*j))=((bs[k]?.getD 0:Nat):Int):=by
     rw[hv,IntKind.wrap_u8,show((x:Int)/2 ^ (8*j))=((x/2 ^ (8*j):Nat):Int) from by rw[J4V,J4W];rfl];omega
    clear hv hj;generalize bs[k]?.getD 0=v at *
    go_wp2_with fail;go_roundw
    case rel=>exact⟨k+1,by omega,by go_num,AC⟩
    case measure=>simp[intOf];omega
   ·have BE:(k:Int)/8=1:=by omega
    rw[if_neg h8] at hv;have QW:IntKind.u8.wrap ((y:Int)/2 ^ (8*j))=((bs[k]?.getD 0:Nat):Int):=by
     rw[hv,IntKind.wrap_u8,show((y:Int)/2 ^ (8*j))=((y/2 ^ (8*j):Nat):Int) from by rw[J4V,J4W];rfl];omega
    clear hv hj;generalize bs[k]?.getD 0=v at *
    go_wp2_with fail;go_roundw
    case rel=>exact⟨k+1,by omega,by go_num,AC⟩
    case measure=>simp[intOf];omega
  ·obtain rfl:k=16:=by omega
   go_wp2_with fail;go_ret;exact⟨rfl,by have:=hs;rw[AX.out] at this;exact this⟩
def TblC(S:CO)(p:Pl)(g:Nat)(w:World):Prop:=AsideV S.hl [ptr S.P.p,.int .i64 (p.fac:Int),.int .i64 (p.at_:Int)] (some ⟨g,0,none⟩) w
theorem TblC.c0{S:CO}{p:Pl}{g:Nat}{w:World}(h:TblC S p g w):w.cell? ⟨g,0,none⟩=some (.pointer (some ⟨S.P.p,0,none⟩)):=by
 obtain⟨g',e,_,_,c⟩:=h 0 _ rfl;cases e;exact c
theorem TblC.c1{S:CO}{p:Pl}{g:Nat}{w:World}(h:TblC S p g w):w.cell? ⟨g,1,none⟩=some (.int .i64 (p.fac:Int)):=by
 obtain⟨g',e,_,_,c⟩:=h 1 _ rfl;cases e;exact c
theorem TblC.c2{S:CO}{p:Pl}{g:Nat}{w:World}(h:TblC S p g w):w.cell? ⟨g,2,none⟩=some (.int .i64 (p.at_:Int)):=by
 obtain⟨g',e,_,_,c⟩:=h 2 _ rfl;cases e;exact c
structure TT(S:CO)(t:TB)(p:Pl)(g:Nat)(w:World):Prop where
 sep:Sep w S.hl
 pool:∃fr,S.P.Ok fr
 tab:TblC S p g w
 tin:t.In S.P.a.mem p.at_
 al:p.at_%8=0/\p.at_+128<=S.P.a.mem.length
 lv:∀k,k<16->t.lf k≠0->t.lf k%8=0/\t.lf k+256<=S.P.a.mem.length
theorem TT.grown{S:CO}{t:TB}{p:Pl}{g:Nat}{w w':World}(h:TT S t p g w)(hb:Below w.heap.size w w'):TT S t p g w':=
 ⟨(h.sep.grown hb).sep,h.pool,h.tab.step (h.sep.grown hb),h.tin,h.al,h.lv⟩
theorem TPX.tt{S:CO}{fr:List Nat}{N K:Nat}{tb:Nat->TB}{own:Int}{xl xn:List Nat}(ok:S.Ok fr N K)(t:TPX S tb own xl xn){i:Nat}{p:Pl}{g:Nat}{w:World}(hi:S.l[i]?=some p)(h1:p.st=1)(h2:p.kind=2)(hs:Sep w S.hl)(hg:TblC S p g w):TT S (tb i) p g w:=by
 have Ar:=Q1C ok.inv.len hi;have hu:=Q1m ok hi h1 h2;have hm:=Q0k ok.inv.mem.pool hu;have Nj:Q0e 2=128:=rfl;refine⟨hs,⟨fr,ok.inv.mem.pool⟩,hg,t.tin i p hi h1 h2,⟨Q2e ok.inv.mem.pool hu,by omega⟩,fun k hk h0=>?_⟩;have hl:=t.leaf Ar hk h0;have hm:=Q0k ok.inv.mem.pool hl;rw[Q2C] at hm;exact⟨Q2e ok.inv.mem.pool hl,hm.1⟩
section
variable {w:World} {S:CO} {t:TB} {p:Pl} {g:Nat}
theorem Q4m(h:TT S t p g w)(a:Nat)(h8:a%8=0)(hl:a+8<=S.P.a.mem.length):Calls prog 178 #[.pointer (some ⟨g,0,none⟩),.int .i64 a] w fun r w'=>r=.returned (.int .u64 (Q0m S.P.a.mem a:Nat))/\w=w':=by
 obtain⟨fr,hp⟩:=h.pool;have c0:=h.tab.c0;have ka:=Q0s (CO.sP h.sep);have kl:=Z0j (PL.sA (CO.sP h.sep)) hp.bytes a h8 hl (Q0g hp);clear h hp h8 hl;unfold ptr at *
 generalize Q0m S.P.a.mem a=x at *
 go_enter func178,ntmps178;go_wp2_with (first|(go_at_call 50;refine ka.mono ?_;rintro e w'⟨rfl,rfl⟩)|(go_at_call 58;refine kl.mono ?_;rintro e w'⟨rfl,rfl⟩));go_ret;exact⟨rfl,rfl⟩
theorem Q5Y(h:TT S t p g w)(s:Nat)(hs:s<256):Calls prog 179 #[.pointer (some ⟨g,0,none⟩),.int .i64 s] w fun r w'=>r=.returned (.int .i64 ((p.at_+8*(s/16):Nat):Int))/\w=w':=by
 have c2:=h.tab.c2;obtain⟨fr,hp⟩:=h.pool;have hm:=Q0g hp;have AQ:=h.al.2;have h1:(s:Int).tdiv 16=((s/16:Nat):Int):=by
  rw[J4R (by omega)];omega
 have h2:(s:Int)/16=((s/16:Nat):Int):=by omega
 have hk:s/16<16:=by omega
 have e:((p.at_+8*(s/16):Nat):Int)=(p.at_:Int)+((s/16:Nat):Int)*8:=by omega
 rw[e];generalize s/16=k at *
 generalize p.at_=a at *
 have ha:(a:Int)<=1073741824:=by omega
 have Ax:(k:Int)<16:=by omega
 clear h hp hm AQ hk e;go_enter func179,ntmps179
 go_wp2
 go_ret;exact⟨by first|rfl|(simp only[h1,h2])|(rw[h2]),rfl⟩
theorem Q5p(w:World)(z:Int):Calls prog 175 #[.int .i64 z] w fun r w'=>r=.returned (.bool (decide (0<=z/\z<256)))/\w=w':=by
 by_cases h0:0<=z
 ·by_cases h1:z<256
  ·rw[decide_eq_true (show 0<=z/\z<256 from⟨h0,h1⟩)];go_enter func175,ntmps175
   go_wp2
   go_ret;exact⟨rfl,rfl⟩
  ·rw[decide_eq_false (show ¬(0<=z/\z<256) from fun h=>h1 h.2)];have hd:decide (z<256)=false:=by simpa using h1
   go_enter func175,ntmps175
   go_wp2
   go_ret;exact⟨rfl,rfl⟩
 ·rw[decide_eq_false (show ¬(0<=z/\z<256) from fun h=>h0 h.1)];have hd:decide (0<=z)=false:=by simpa using h0
  go_enter func175,ntmps175
  go_wp2
  go_ret;exact⟨rfl,rfl⟩
theorem Q3b(w:World)(L s:Nat)(hL:L<=1073741824)(hs:s<256):Calls prog 177 #[.int .i64 L,.int .i64 s] w fun r w'=>r=.returned (.int .i64 ((L+16*(s%16):Nat):Int))/\w=w':=by
 have h1:(s:Int).tmod 16=((s%16:Nat):Int):=by
  rw[J4S (by omega)];omega
 have h2:(s:Int)%16=((s%16:Nat):Int):=by omega
 have hk:s%16<16:=by omega
 have e:((L+16*(s%16):Nat):Int)=(L:Int)+((s%16:Nat):Int)*16:=by omega
 rw[e];generalize s%16=k at *
 have ha:(L:Int)<=1073741824:=by omega
 have Ax:(k:Int)<16:=by omega
 clear hk e hL;go_enter func177,ntmps177
 go_wp2
 go_ret;exact⟨by first|rfl|(simp only[h1,h2])|(rw[h2]),rfl⟩
theorem Q4n(h:TT S t p g w)(s:Nat)(hs:s<256):Calls prog 176 #[.pointer (some ⟨g,0,none⟩),.int .i64 s] w fun r w'=>r=.returned (.int .i64 ((t.lf (s/16):Nat):Int))/\w=w':=by
 have hk:s/16<16:=by omega
 have kr:=Q5Y h s hs;have AQ:=h.al;have kw:=Q4m h (p.at_+8*(s/16)) (by omega) (by omega);rw[h.tin.root (s/16) hk] at kw;obtain⟨fr,hp⟩:=h.pool;have hm:=Q0g hp;have EW:((t.lf (s/16):Nat):Int)<=1073741824:=by
  by_cases h0:t.lf (s/16)=0
  ·omega
  ·have:=(h.lv _ hk h0).2;omega
 clear h hp hm AQ hk;generalize t.lf (s/16)=x at *
 generalize (p.at_+8*(s/16):Nat)=y at *
 go_enter func176,ntmps176;go_wp2_with (first|(go_at_call 179;refine kr.mono ?_;rintro e w'⟨rfl,rfl⟩)|(go_at_call 178;refine kw.mono ?_;rintro e w'⟨rfl,rfl⟩));go_ret;exact⟨rfl,rfl⟩
end
def TB.at'(t:TB)(z:Int):Option Ent:=if 0<=z/\z<256 then t.en z.toNat else none
def getV(o:Option Ent):Ending:=.returned (.tuple #[.int .u64 (Q0t o:Nat),.int .u64 (Q0T o:Nat)])
section
variable {w:World} {S:CO} {t:TB} {p:Pl} {g:Nat}
theorem Q4o(h:TT S t p g w)(z:Int):Calls prog 102 #[.pointer (some ⟨g,0,none⟩),.int .i64 z] w fun r w'=>r=getV (t.at' z)/\w=w':=by
 have km:=Q5p w z;by_cases hz:0<=z/\z<256
 ·obtain⟨s,rfl⟩:=J4F hz.1;have hs:s<256:=by omega
  rw[decide_eq_true hz] at km;have ho:t.at' (s:Int)=t.en s:=by unfold TB.at';rw[if_pos hz,J4g]
  rw[ho];have kl:=Q4n h s hs;by_cases h0:t.lf (s/16)=0
  ·rw[h.tin.hole s hs h0];rw[h0] at kl;unfold getV Q0t Q0T;clear h h0 ho hz;go_enter func102,ntmps102;go_wp2_with (first|(go_at_call 175;refine km.mono ?_;rintro e w'⟨rfl,rfl⟩)|(go_at_call 176;refine kl.mono ?_;rintro e w'⟨rfl,rfl⟩));go_ret2;exact⟨rfl,rfl⟩
  ·obtain⟨e1,e2⟩:=h.tin.ent s hs h0;obtain⟨l8,ll⟩:=h.lv (s/16) (by omega) h0;obtain⟨fr,hp⟩:=h.pool;have hm:=Q0g hp;have ks:=Q3b w (t.lf (s/16)) s (by omega) hs;have k0:=Q4m h (t.lf (s/16)+16*(s%16)) (by omega) (by omega);have k1:=Q4m h (t.lf (s/16)+16*(s%16)+8) (by omega) (by omega);rw[e1] at k0;rw[e2] at k1;have hx:t.lf (s/16)+16*(s%16)<=1073741824:=by omega
   have Ac:(((t.lf (s/16):Nat):Int)==0)=false:=by simpa using h0
   have hc:((t.lf (s/16)+16*(s%16)+8:Nat):Int)=((t.lf (s/16)+16*(s%16):Nat):Int)+8:=by omega
   rw[hc] at k1;unfold getV;generalize Q0t (t.en s)=ca at *
   generalize Q0T (t.en s)=cb at *
   generalize (t.lf (s/16)+16*(s%16):Nat)=x at *
   generalize t.lf (s/16)=L at *
   have XI:(x:Int)<=1073741824:=by omega
   clear h h0 ho hz e1 e2 l8 ll hp hm hc hx;go_enter func102,ntmps102;go_wp2_with fail;refine km.mono ?_;rintro e w'⟨rfl,rfl⟩;go_wp2_with fail;refine kl.mono ?_;rintro e w'⟨rfl,rfl⟩;go_wp2_with fail;refine kl.mono ?_;rintro e w'⟨rfl,rfl⟩;go_wp2_with fail;refine ks.mono ?_;rintro e w'⟨rfl,rfl⟩;go_wp2_with fail;refine k0.mono ?_;rintro e w'⟨rfl,rfl⟩;go_wp2_with fail;refine k1.mono ?_;rintro e w'⟨rfl,rfl⟩;go_wp2_with fail
   (try go_ret2);exact⟨rfl,rfl⟩
 ·rw[decide_eq_false hz] at km;have ho:t.at' z=none:=by unfold TB.at';rw[if_neg hz]
  rw[ho];unfold getV Q0t Q0T;clear h ho hz;go_enter func102,ntmps102;go_wp2_with (go_at_call 175;refine km.mono ?_;rintro e w'⟨rfl,rfl⟩);go_ret2;exact⟨rfl,rfl⟩
def TB.noneIn(t:TB)(k:Nat):Bool:=(List.range 16).all fun j=>(t.en (16*k+j)).isNone
theorem Z3k(h:TT S t p g w)(k:Nat)(hk:k<16)(h0:t.lf k≠0):Calls prog 215 #[.pointer (some ⟨g,0,none⟩),.int .i64 ((t.lf k:Nat):Int)] w fun r w'=>r=.returned (.bool (t.noneIn k))/\w=w':=by
 obtain⟨fr,hp⟩:=h.pool;have hm:=Q0g hp;obtain⟨l8,ll⟩:=h.lv k hk h0;have HC:Hid (∀j:Nat,j<16->(Calls prog 177 #[.int .i64 ((t.lf k:Nat):Int),.int .i64 j] w fun r w'=>r=.returned (.int .i64 ((t.lf k+16*j:Nat):Int))/\w=w')/\Calls prog 178 #[.pointer (some ⟨g,0,none⟩),.int .i64 ((t.lf k+16*j:Nat):Int)] w fun r w'=>r=.returned (.int .u64 (Q0t (t.en (16*k+j)):Nat))/\w=w'):=fun j hj=>by
  have hd:(16*k+j)/16=k:=by omega
  have Ui:(16*k+j)%16=j:=by omega
  have e:=(h.tin.ent (16*k+j) (by omega) (by rw[hd];exact h0)).1;rw[hd,Ui] at e;have k1:=Q3b w (t.lf k) j (by omega) (by omega);rw[J4w hj] at k1;have k2:=Q4m h (t.lf k+16*j) (by omega) (by omega);rw[e] at k2;exact⟨k1,k2⟩
 have HT:Hid (∀j:Nat,(∀i:Nat,i<j->t.en (16*k+i)=none)->j=16->t.noneIn k=true):=fun j hj e=>by
  subst e;unfold TB.noneIn;rw[J6g];intro i hi;rw[hj i (J3x.1 hi)];rfl
 have HF:Hid (∀j:Nat,j<16->t.en (16*k+j)≠none->t.noneIn k=false):=fun j hj Ac=>by
  unfold TB.noneIn;rw[List.all_eq_false];exact⟨j,J3x.2 hj,by cases hx:t.en (16*k+j) with|none=>exact absurd hx Ac|some e=>simp⟩
 clear h hp hm l8 ll h0;go_enter func215,ntmps215;go_wp2_with fail
 go_loopg [6] 16 (fun gk iv wr=>∃j:Nat,iv=.int .i64 j/\j+gk=16/\(∀i,i<j->t.en (16*k+i)=none)/\w=wr)
 case atStart=>exact⟨0,rfl,rfl,fun i hi=>by omega,rfl⟩
 case round =>
  obtain⟨j,rfl,EN,A9,rfl⟩:=hrel;have Gf:=Q0a A9;have Jw:=Q0a EN;clear A9 EN;by_cases hj:j<16
  ·obtain⟨k1,k2⟩:=HC.out j hj;have NM:(j:Int)<16:=by omega
   cases he:t.en (16*k+j) with
   | none =>
    rw[he] at k2;have HE:=Q0a he;unfold Q0t at k2;generalize (t.lf k+16*j:Nat)=x at *
    generalize t.lf k=L at *
    clear he;go_wp2_with fail;refine k1.mono ?_;rintro e w'⟨rfl,rfl⟩;go_wp2_with fail;refine k2.mono ?_;rintro e w'⟨rfl,rfl⟩;go_wp2_with fail;go_roundg (16-(j+1))
    case measure=>have:=Jw.out;omega
    case rel=>exact⟨j+1,by go_num,by have:=Jw.out;omega,fun i hi=>by
     by_cases e:i=j
     ·subst e;exact HE.out
     ·exact Gf.out i (by omega),rfl⟩
   | some e =>
    rw[he] at k2;have Ac:Q0t (some e)≠0:=fun hz=>by cases codeA_zero.1 hz
    have Ib:(((Q0t (some e):Nat):Int) != 0)=true:=by simpa using Ac
    have RP:(((Q0t (some e):Nat):Int)==0)=false:=by simpa using Ac
    have HR:=Q0a (HF.out j hj (by rw[he];simp));generalize Q0t (some e)=ca at *
    generalize (t.lf k+16*j:Nat)=x at *
    generalize t.lf k=L at *
    clear he Ac;go_wp2_with fail;refine k1.mono ?_;rintro e w'⟨rfl,rfl⟩;go_wp2_with fail;refine k2.mono ?_;rintro e w'⟨rfl,rfl⟩;go_wp2_with fail
    (try go_ret);exact⟨by first|(rw[HR.out];done)|(rw[HR.out];rfl),rfl⟩
  ·have Mx:j=16:=by have:=Jw.out;omega
   have HR:=Q0a (HT.out j Gf.out Mx);subst Mx;go_wp2_with fail;go_ret;exact⟨by first|(rw[HR.out];done)|(rw[HR.out];rfl),rfl⟩
end
theorem Q4p{w:World}{H:HL}(h:Sep w H):w.heap.size∉keys H:=fun hk=>by have:=h.lt hk;omega
section
variable {S:CO} {fr:List Nat} {N K:Nat} {tb:Nat->TB} {own:Int} {xl xn:List Nat}
theorem Q3N(ok:S.Ok fr N K)(t:TPX S tb own xl xn){i s:Nat}{p:Pl}(hi:S.l[i]?=some p)(h1:p.st=1)(h2:p.kind=2)(An:(p.fac:Int)=own)(hs:s<256)(hl:(tb i).lf (s/16)≠0){o:Option Ent}{xn':List Nat}(hn:(xn'++((tb i).setE s o).nds).Perm (xn++(tb i).nds))
  (hA:Q0t o<18446744073709551616) (hB:Q0T o<18446744073709551616) {w:World} (A6:Sep w S.hl) :
  Calls prog 57 #[.pointer (some ⟨S.P.a.a,0,none⟩),.int .i64 (((tb i).lf (s/16)+16*(s%16):Nat):Int),.slice (some ⟨w.heap.size,0,none⟩) 2 2] (w.alloc (.cells #[.int .u64 (Q0t o:Nat),.int .u64 (Q0T o:Nat)] 83)) fun r w' =>
   r=.returned (.int .i64 0)/\∃S':CO,S'.Ok fr N K/\TPX S' (updT tb i ((tb i).setE s o)) own xl xn'/\Alt S S' own/\Step S.hl S'.hl w w':=by
 have Ar:=Q1C ok.inv.len hi;have hL:=t.leaf Ar (by omega:s/16<16) hl;have hm:=Q0k ok.inv.mem.pool hL;rw[Q2C] at hm;have h8:=Q2e ok.inv.mem.pool hL;have hb:=Q0g ok.inv.mem.pool;have sa:=A6.alloc (.cells #[.int .u64 (Q0t o:Nat),.int .u64 (Q0T o:Nat)] 83);have cn:=Cells.new w 83 [.int .u64 (Q0t o:Nat),.int .u64 (Q0T o:Nat)];have k:=Z6k (PL.sA (CO.sP sa)) ((tb i).lf (s/16)+16*(s%16)) (Q0t o) (Q0T o) (by omega) (by omega) hb hA hB w.heap.size (cn.cell 0 _ rfl) (cn.cell 1 _ rfl) (by simp) (Q4p (PL.sA (CO.sP A6)));refine k.mono ?_;rintro r w'⟨rfl,st⟩;obtain⟨m,If⟩:∃m,m=put_ S.P.a.mem ((tb i).lf (s/16)+16*(s%16)) (Q0c (Q0t o)++Q0c (Q0T o)):=⟨_,rfl⟩
 rw[<- If] at st;have Ab:m.length=S.P.a.mem.length:=by rw[If];exact Q1t _ _ _ (by rw[Q1e];omega)
 have JZ:∀b∈m,b<256:=by
  rw[If];refine Q9j ok.inv.mem.pool.bytes fun b Al=>?_
  rcases J3Q.1 Al with Al|Al
  ·exact Q2Y _ b Al
  ·exact Q2Y _ b Al
 have hk:Q2Z S.P.a.mem m ((tb i).lf (s/16)+16*(s%16)) 16:=by
  rw[If];have:=Q2E (m:=S.P.a.mem) (bs:=Q0c (Q0t o)++Q0c (Q0T o)) (a:=(tb i).lf (s/16)+16*(s%16)) (by rw[Q1e];omega)
  rwa [Q1e] at this
 obtain⟨ha,Ae⟩:=Z3h (m:=S.P.a.mem) (a:=(tb i).lf (s/16)+16*(s%16)) (x:=Q0t o) (y:=Q0T o) (by omega) hA hB;rw[<- If] at ha Ae;obtain⟨ok',t'⟩:=t.entry ok hi h1 h2 An hs hl Ab JZ hk ha Ae hn;have st':Step S.hl (S.setP (S.P.setA m)).hl (w.alloc (.cells #[.int .u64 (Q0t o:Nat),.int .u64 (Q0T o:Nat)] 83)) w':=CO.stepMem sa m st;exact⟨rfl,_,ok',t',Alt.mem ok own (.inr rfl) hL (by omega) (by rw[Q2C];omega) Ab hk,st'.from_alloc⟩
theorem Q7n(ok:S.Ok fr N K)(t:TPX S tb own xl xn){i k:Nat}{p:Pl}(hi:S.l[i]?=some p)(h1:p.st=1)(h2:p.kind=2)(An:(p.fac:Int)=own)(CP:k<16){L:Nat}{xl':List Nat}(hL64:L<18446744073709551616)(hn:(xl'++((tb i).setL k L).lvs).Perm (xl++(tb i).lvs))
  (Ay:((tb i).lf k=0/\L≠0/\L∈S.P.usedOf 7/\∀j,L<=j->j<L+256->S.P.a.mem[j]?=some 0)∨(L=0/\∀s,s<256->s/16=k->(tb i).en s=none)) {w:World} (A6:Sep w S.hl) :
  Calls prog 57 #[.pointer (some ⟨S.P.a.a,0,none⟩),.int .i64 ((p.at_+8*k:Nat):Int),.slice (some ⟨w.heap.size,0,none⟩) 1 1] (w.alloc (.cells #[.int .u64 (L:Nat)] 83)) fun r w' =>
   r=.returned (.int .i64 0)/\∃S':CO,S'.Ok fr N K/\TPX S' (updT tb i ((tb i).setL k L)) own xl' xn/\Alt S S' own/\Step S.hl S'.hl w w':=by
 have Ar:=Q1C ok.inv.len hi;have hT:=Q1m ok hi h1 h2;have Nj:Q0e 2=128:=rfl;have hm:=Q0k ok.inv.mem.pool hT;rw[Nj] at hm;have h8:=Q2e ok.inv.mem.pool hT;have hb:=Q0g ok.inv.mem.pool;have sa:=A6.alloc (.cells #[.int .u64 (L:Nat)] 83);have cn:=Cells.new w 83 [.int .u64 (L:Nat)];have kk:=Z1A (PL.sA (CO.sP sa)) (p.at_+8*k) L (by omega) (by omega) hb hL64 w.heap.size (cn.cell 0 _ rfl) (by simp) (Q4p (PL.sA (CO.sP A6)));refine kk.mono ?_;rintro r w'⟨rfl,st⟩;obtain⟨m,If⟩:∃m,m=put_ S.P.a.mem (p.at_+8*k) (Q0c L):=⟨_,rfl⟩
 rw[<- If] at st;have Ab:m.length=S.P.a.mem.length:=by rw[If];exact Q1t _ _ _ (by rw[bytes8_len];omega)
 have JZ:∀b∈m,b<256:=by
  rw[If];exact Q9j ok.inv.mem.pool.bytes (Q2Y _)
 have hk:Q2Z S.P.a.mem m (p.at_+8*k) 8:=by
  rw[If];exact Q2E (m:=S.P.a.mem) (bs:=Q0c L) (a:=p.at_+8*k) (by rw[bytes8_len];omega)
 have B6:Q0m m (p.at_+8*k)=L:=by rw[If];exact Z3g (by omega) hL64
 have hr:∀x,x<16->x≠k->Kept S.P.a.mem m (p.at_+8*x) 8:=fun x hx Ac=>hk _ _ (by omega)
 have Bl:∀a,a∈S.P.usedOf 7->Kept S.P.a.mem m a 256:=fun a ha=>Q3a ok hT (b:=p.at_+8*k) (n:=8) (by omega) (by omega) hk ha (by omega)
 have Bj:((tb i).setL k L).In m p.at_:=by
  rcases Ay with ⟨c1,c2,c3,c4⟩|⟨c1,c2⟩
  ·refine(t.tin i p hi h1 h2).grow CP c1 c2 B6 (fun j j1 j2=>?_) hr (fun x hx h0=>Bl _ (t.leaf Ar hx h0));rw[Bl L c3 j j1 j2];exact c4 j j1 j2
  ·subst c1;exact(t.tin i p hi h1 h2).drop CP c2 B6 hr (fun x hx Ac h0=>Bl _ (t.leaf Ar hx h0))
 obtain⟨ok',t'⟩:=t.rootw ok hi h1 h2 An CP Ab JZ hk Bj hn;have st':Step S.hl (S.setP (S.P.setA m)).hl (w.alloc (.cells #[.int .u64 (L:Nat)] 83)) w':=CO.stepMem sa m st;exact⟨rfl,_,ok',t',Alt.mem ok own (.inl rfl) hT (by omega) (by omega) Ab hk,st'.from_alloc⟩
end
end Go.Proofs.YtfidemmgofcnmaaGreatDoor
