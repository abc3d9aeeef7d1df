/- What the laws of spaces share is proved. No condition. Part of a proof. -/
import Derived.Test.YtfidemmgofcnmaaGreatDoorBz04
import Derived.Deep.RegionWith
import Derived.Deep.RegionLaw
import Derived.RangeFuncNested
import Derived.RangeFuncBound
import Derived.RangeFuncCalls
import Derived.RangeFuncLeaves
import Derived.RangeFuncOne
import Derived.RangeFuncBox
import Derived.Shelf.Abstract
import Derived.Shelf.RegionOpen
import Derived.OwnWalkIn
import Derived.TacticsInMore
import Derived.LoopNIn
import Derived.LoopIn
import Derived.Sort.LoopGhostIn
set_option maxHeartbeats 4000000
set_option maxRecDepth 100000
set_option linter.unusedVariables false
namespace Go.Proofs.YtfidemmgofcnmaaGreatDoor
open Go.RowKit Go.Proofs.Tryz
theorem Q6T{w:World}{d:BD}{G:Nat->Nat->Bool}(h:Sep w d.hl)(hi:d.Is G)(hn:∀k,k<=d.top->fstG G d.top k 0=none) :
  Calls prog 129 #[.pointer (some ⟨d.b,0,none⟩),.int .i64 0] w fun r w'=>r=.returned (.tuple #[.int .i64 0,.int .i64 4])/\w=w':=by
 have c0:=BD.c0 h;have HF:=Q0a (show ∀k,k<=d.top->∃b,w.cell? ⟨d.b,1+k,none⟩=some (.pointer (some ⟨b,0,none⟩))/\Calls prog 72 #[.pointer (some ⟨b,0,none⟩),.bool true,.int .i64 0] w fun r w'=>r=.returned (.int .i64 (-1))/\w=w' from fun k hk=>by
  obtain⟨b,h1,h2⟩:=Q5h h hi k hk 0 (by omega);rw[hn k hk] at h2;exact⟨b,h1,h2⟩)
 have ht:=hi.top;clear h hi hn;generalize d.top=top at *
 go_enter func129,ntmps129;go_wp2_with fail
 go_loop [6,7] (fun kv iv=>∃k:Nat,kv=.int .i64 k/\iv=.int .i64 (-1)/\k<=top+1) (fun kv _=>top+1-(intOf kv).toNat)
 case atStart=>exact⟨0,rfl,rfl,by omega⟩
 case round =>
  obtain⟨k,rfl,rfl,hk⟩:=hrel;by_cases Aa:k<=top
  ·obtain⟨b,hc,AI⟩:=HF.out k Aa;go_wp2_with (go_at_call 72;refine AI.mono ?_;rintro e w'⟨rfl,rfl⟩)
   go_round
   case rel=>exact⟨k+1,by go_num,rfl,by omega⟩
   case measure=>simp[intOf];omega
  ·go_wp2_with fail;go_ret2;exact⟨rfl,rfl⟩
def spl(G:Nat->Nat->Bool)(k0 i0 j:Nat):Nat->Nat->Bool:=fun l x=>if l<j then G l x else if l<k0 then(G l x||(x==i0*2 ^ (k0-l)+1)) else if l=k0 then(G l x&&!(x==i0)) else G l x
theorem J0S(G:Nat->Nat->Bool)(k0 i0:Nat):upG G k0 i0 false=spl G k0 i0 k0:=by
 funext l x;unfold upG spl;by_cases h:l=k0
 ·subst h;by_cases h2:x=i0 <;> simp[h2]
 ·by_cases h2:l<k0
  ·simp[h,h2]
  ·simp[h,h2]
theorem Z8c(G:Nat->Nat->Bool)(k0 i0 j:Nat)(hj:j<k0):upG (spl G k0 i0 (j+1)) j (i0*2 ^ (k0-j)+1) true=spl G k0 i0 j:=by
 funext l x;unfold upG spl;by_cases h:l=j
 ·subst h;have h1:¬l<l:=by omega
  have h2:l<l+1:=by omega
  by_cases hx:x=i0*2 ^ (k0-l)+1
  ·simp[hj,h1,hx]
  ·have e:(x==i0*2 ^ (k0-l)+1)=false:=by simpa using hx
   simp[hj,h1,h2,hx,e]
 ·have e:(l<j+1)=(l<j):=by apply propext;omega
  simp[h,e]
theorem J0T(ps:List Nat)(top k0 i0:Nat)(hk:k0<=top)(hf:fre (uOf ps) top k0 i0=true)(l x:Nat)(hl:l<=top):spl (fre (uOf ps) top) k0 i0 0 l x=fre (uOf (ps++[i0*2 ^ k0])) top l x:=by
 have hp:i0*2 ^ k0/2 ^ k0=i0:=J6a _ (J4q k0);rw[Z8b,Z1r _ top k0 (i0*2 ^ k0) hk (by rw[hp];exact hf) l x hl,hp];unfold spl;rw[if_neg (by omega)];by_cases h1:l<k0
 ·rw[if_pos h1,if_pos h1];have e:i0*2 ^ k0/2 ^ l=i0*2 ^ (k0-l):=by
   rw[show(2:Nat) ^ k0=2 ^ (k0-l)*2 ^ l from by rw[<- J4C];congr 1;omega,<- J6r];exact J6a _ (J4q l)
  have e2:sib (i0*2 ^ (k0-l))=i0*2 ^ (k0-l)+1:=by
   unfold sib;rw[if_pos];rw[show k0-l=(k0-l-1)+1 from by omega,J4j,<- J6r];omega
  rw[e,e2]
 ·rw[if_neg h1,if_neg h1]
theorem Z4M{ps:List Nat}{top k0 i0:Nat}(hk:k0<=top)(hf:fre (uOf ps) top k0 i0=true)(j:Nat)(hj:j<k0):fre (uOf ps) top j (i0*2 ^ (k0-j)+1)=false:=by
 cases h:fre (uOf ps) top j (i0*2 ^ (k0-j)+1) with
 | false=>rfl
 | true =>
  have e1:(i0*2 ^ (k0-j)+1)*2 ^ j/2 ^ j=i0*2 ^ (k0-j)+1:=J6a _ (J4q j);have e2:(i0*2 ^ (k0-j)+1)*2 ^ j/2 ^ k0=i0:=by
   rw[show(2:Nat) ^ k0=2 ^ j*2 ^ (k0-j) from by rw[<- J4C];congr 1;omega,<- J4D,e1,J4k,J6i _ _ (J4q _),Nat.div_eq_of_lt (Nat.one_lt_two_pow (by omega)),J5F]
  have:=Q8H (by omega) hk h hf e1 e2;omega
def J2h(d:BD)(p:Nat)(w:World)(r:Ending)(w':World):Prop:=r=.returned (.tuple #[.int .i64 ((1024*p:Nat):Int),.int .i64 0]) /\
 ∃d':BD,d'.b=d.b/\d'.top=d.top/\d'.ps=d.ps++[p]/\d'.At/\Step d.hl d'.hl w w'
theorem BD.putMap{w w':World}{d:BD}(h:Sep w d.hl)(ps':List Nat)(hm:Q0H w' d.mb (upk ps'))(hg:w.grownBy w' (some d.mb)):Step d.hl ({d with ps:=ps'}:BD).hl w w':=by
 obtain⟨es,Ah,ho,hr⟩:=hm;exact Sep.turn (A:=[(d.b,isC 158 d.cells)]) (B:=d.bms.flatMap BM.hl) h hg ⟨_,ho,es,Ah,rfl,hr⟩
theorem Q6U{w:World}{d:BD}(h:Sep w d.hl)(ha:d.At)(k0 i0:Nat)(BE:k0<=d.top)(hf:fstG (fre (uOf d.ps) d.top) d.top k0 0=some i0)(hp:∀k,k<k0->fstG (fre (uOf d.ps) d.top) d.top k 0=none) :
  Calls prog 129 #[.pointer (some ⟨d.b,0,none⟩),.int .i64 0] w (J2h d (i0*2 ^ k0) w):=by
 obtain⟨s1,s2,s3,s4⟩:=Q1s hf;have BH:i0<2 ^ (d.top-k0):=by simpa using s1
 have A8:fre (uOf d.ps) d.top k0 i0=true:=by simpa[BH] using s3
 have ht:=ha.is.top;have F6:i0*2 ^ k0<2 ^ d.top:=by
  have:i0*2 ^ k0<2 ^ (d.top-k0)*2 ^ k0:=J6s BH (J4q _)
  rwa [<- J4C,show d.top-k0+k0=d.top from by omega] at this
 have Fz:i0*2 ^ k0∉d.ps:=by
  have:=Q8G A8 (p:=i0*2 ^ k0) (J6a _ (J4q k0))
  simpa[uOf] using this
 have K4:∀j,j<=k0->i0*2 ^ (k0-j)+1<=1048576/\i0*2 ^ (k0-j)<2 ^ (d.top-j):=by
  intro j hj;have h1:i0*2 ^ (k0-j)<2 ^ (d.top-k0)*2 ^ (k0-j):=J6s BH (J4q _);rw[<- J4C,show d.top-k0+(k0-j)=d.top-j from by omega] at h1;have:=Q1v (k:=j) ht;omega
 have c0:=BD.c0 h;have hi:=ha.is;have HF:=Q0a (show ∀k,k<k0->∃b,w.cell? ⟨d.b,1+k,none⟩=some (.pointer (some ⟨b,0,none⟩))/\Calls prog 72 #[.pointer (some ⟨b,0,none⟩),.bool true,.int .i64 0] w fun r w'=>r=.returned (.int .i64 (-1))/\w=w' from fun k hk=>by
  obtain⟨b,h1,h2⟩:=Q5h h hi k (by omega) 0 (by omega);rw[hp k hk] at h2;exact⟨b,h1,h2⟩)
 have VP:Hid (∃b,w.cell? ⟨d.b,1+k0,none⟩=some (.pointer (some ⟨b,0,none⟩))/\(Calls prog 72 #[.pointer (some ⟨b,0,none⟩),.bool true,.int .i64 0] w fun r w'=>r=.returned (.int .i64 i0)/\w=w') /\
   Calls prog 127 #[.pointer (some ⟨b,0,none⟩),.bool false,.slice (some ⟨w.heap.size,0,none⟩) 1 1] (w.alloc (.cells #[.int .i64 i0] 3)) (SetG d w 1 (spl (fre (uOf d.ps) d.top) k0 i0 k0))):=by
  obtain⟨b,h1,h2⟩:=Q5h h hi k0 BE 0 (by omega);rw[hf] at h2;obtain⟨b',h3,h4⟩:=Q8I h hi k0 i0 false BE BH (by rw[A8];decide);rw[h1] at h3;cases h3;rw[J0S] at h4;exact⟨b,h1,h2,h4⟩
 have N8:=Q0a (show ∀j wr d1,j<k0->d.To d1 w wr->d1.Is (spl (fre (uOf d.ps) d.top) k0 i0 (j+1))->∃b,wr.cell? ⟨d.b,1+j,none⟩=some (.pointer (some ⟨b,0,none⟩)) /\
   Calls prog 127 #[.pointer (some ⟨b,0,none⟩),.bool true,.slice (some ⟨wr.heap.size,0,none⟩) 1 1] (wr.alloc (.cells #[.int .i64 ((i0*2 ^ (k0-j)+1:Nat):Int)] 3)) fun r w'=>r=.returned (.int .i64 1)/\∃d2,d.To d2 w w'/\d2.Is (spl (fre (uOf d.ps) d.top) k0 i0 j) from fun j wr d1 hj AB A4=>by
  obtain⟨b1,b2⟩:=K4 j (by omega);have Qh:i0*2 ^ (k0-j)+1<2 ^ (d.top-j):=by
   have e1:i0*2 ^ (k0-j)=2*(i0*2 ^ (k0-j-1)):=by
    rw[show k0-j=(k0-j-1)+1 from by omega,J4j,Nat.add_sub_cancel];simp only[J6b,Nat.mul_left_comm]
   have e2:2 ^ (d.top-j)=2*2 ^ (d.top-j-1):=by
    rw[<- J6m];congr 1;omega
   omega
  have Ac:spl (fre (uOf d.ps) d.top) k0 i0 (j+1) j (i0*2 ^ (k0-j)+1)≠true:=by
   unfold spl;rw[if_pos (by omega),Z4M BE A8 j hj];decide
  obtain⟨b,h3,h4⟩:=Q8I AB.step.sep A4 j (i0*2 ^ (k0-j)+1) true (by rw[AB.top];omega) (by rw[AB.top];exact Qh) Ac;rw[AB.b] at h3;refine⟨b,h3,h4.mono ?_⟩;rintro r w'⟨rfl,d2,CF,BL⟩;rw[Z8c _ _ _ _ hj] at BL;exact⟨rfl,d2,AB.trans CF,BL⟩)
 have Fh:=Q0a (show ∀wr d1,d.To d1 w wr->d1.Is (spl (fre (uOf d.ps) d.top) k0 i0 0)->wr.cell? ⟨d.b,22,none⟩=some (.map (some d.mb))/\Q0H wr d.mb (upk d.ps)/\∀w2,Q0H w2 d.mb (put (upk d.ps) ((1024*(i0*2 ^ k0):Nat):Int) (.int .i64 0))->wr.grownBy w2 (some d.mb)->J2h d (i0*2 ^ k0) w (.returned (.tuple #[.int .i64 ((1024*(i0*2 ^ k0):Nat):Int),.int .i64 0])) w2 from fun wr d1 AB A4=>by
  have hs:=AB.step.sep;have hc:=BD.cm hs (by rw[A4.len,AB.top];omega);have K5:=BD.map hs;rw[AB.b,AB.mb] at hc;rw[AB.mb,AB.ps] at K5;refine⟨hc,K5,fun w2 Dw BB=>⟨rfl,{d1 with ps:=d.ps++[i0*2 ^ k0]},AB.b,AB.top,rfl,⟨⟨A4.len,A4.top,?_⟩,?_,?_⟩,?_⟩⟩
  ·intro k m hm;rw[A4.bits k m hm];have F1:k<=d1.top:=by
    have h1:k<d1.bms.length:=(J3y.1 hm).1;have h2:d1.bms.length=d1.top+1:=A4.len;omega
   apply J5k
   intro x _;show spl (fre (uOf d.ps) d.top) k0 i0 0 k x=fre (uOf (d.ps++[i0*2 ^ k0])) d1.top k x;rw[AB.top];exact J0T _ _ _ _ BE A8 k x (by rw[<- AB.top];exact F1)
  ·rw[J3U];refine⟨ha.nd,by simp,?_⟩;intro a Gu b hb e;simp at hb;subst hb;subst e;exact Fz Gu
  ·intro p AG;show p<2 ^ d1.top;rw[AB.top];rcases J3Q.1 AG with h1|h1
   ·exact ha.lt p h1
   ·simp at h1;subst h1;exact F6
  ·rw[J0P _ _ Fz] at Dw;have Uc:Q0H w2 d1.mb (upk (d.ps++[i0*2 ^ k0])):=by rw[AB.mb];exact Dw
   rw[<- AB.mb] at BB;exact AB.step.trans (BD.putMap hs _ Uc BB))
 have JW:=Q0a (show ∀wr d1,d.To d1 w wr->wr.cell? ⟨d.b,0,none⟩=some (.int .i64 d.top) from fun wr d1 AB=>by
  have:=BD.c0 AB.step.sep;rw[AB.b,AB.top] at this;exact this)
 have QV:=Q0a K4;clear h ha hi hf hp s1 s2 s3 s4 A8 Fz K4;generalize hG:spl (fre (uOf d.ps) d.top) k0 i0=S at *
 clear hG;generalize d.top=top at *
 go_enter func129,ntmps129;go_wp2_with fail
 go_loop [6,7] (fun kv iv=>∃k:Nat,kv=.int .i64 k/\iv=.int .i64 (-1)/\k<=k0) (fun kv _=>k0+1-(intOf kv).toNat)
 case atStart=>exact⟨0,rfl,rfl,by omega⟩
 case round =>
  obtain⟨k,rfl,rfl,hk⟩:=hrel;have F1:k<=top:=by omega
  by_cases Aa:k<k0
  ·obtain⟨b,hc,AI⟩:=HF.out k Aa;go_wp2_with (go_at_call 72;refine AI.mono ?_;rintro e w'⟨rfl,rfl⟩)
   go_round
   case rel=>exact⟨k+1,by go_num,rfl,by omega⟩
   case measure=>simp[intOf];omega
  ·obtain rfl:k=k0:=by omega
   obtain⟨b,hc,AI,AR⟩:=VP.out;obtain⟨Aq,Ae⟩:=QV.out k (J3h _);rw[J6t,Nat.pow_zero,J4h] at Aq;clear Ae;go_wp2_with fail;refine AI.mono ?_;rintro e w'⟨rfl,rfl⟩;go_wp2_with fail;refine AR.mono ?_;rintro e w1⟨rfl,d1,AB,A4⟩;have VQ:=Q0a AB;have Wd:=Q0a A4;clear AB A4 AR AI hc;go_wp2_with fail
   go_loopw [6,7] (fun jv iv wr=>∃(j:Nat) (d2:BD),jv=.int .i64 j/\iv=.int .i64 ((i0*2 ^ (k-j):Nat):Int)/\j<=k/\d.To d2 w wr/\d2.Is (S j)) (fun jv _ _=>(intOf jv).toNat)
   case atStart=>exact⟨k,d1,rfl,by simp,J3h _,VQ.out,Wd.out⟩
   case round =>
    obtain⟨j,d2,rfl,rfl,hj,AB,A4⟩:=hrel;have OX:=JW.out _ _ AB;by_cases Gz:j=0
    ·subst Gz;obtain⟨Cp,K5,B3⟩:=Fh.out _ _ AB A4;have AX:=Q0a B3;clear B3;have hv:((1024*(i0*2 ^ k):Nat):Int)=((i0*2 ^ (k-0):Nat):Int)*1024:=by rw[Nat.sub_zero];omega
     have hb:i0*2 ^ (k-0)<1048576:=by
      have:=(QV.out 0 (by omega)).1;omega
     rw[hv] at AX;generalize i0*2 ^ (k-0)=p at *
     clear hv;go_wp2_with (refine Q1G _ rfl _ _ _ 156 3 3 rfl underlying156 underlying3 d.mb (upk d.ps) K5 _ _ rfl rfl rfl ?_;intro w2 Dw BB);go_ret2;exact AX.out _ Dw BB
    ·obtain⟨l,rfl⟩:∃l,j=l+1:=⟨j-1,by omega⟩
     obtain⟨b2,B5,C6⟩:=N8.out l wr d2 (by omega) AB A4;have hI:i0*2 ^ (k-l)=i0*2 ^ (k-(l+1))*2:=by
      rw[show k-l=k-(l+1)+1 from by omega,J4j,J6r]
     have hb:=(QV.out l (by omega)).1;have Ut:((i0*2 ^ (k-l)+1:Nat):Int)=((i0*2 ^ (k-(l+1)):Nat):Int)*2+1:=by rw[hI];omega
     have RM:=Q0a (show((i0*2 ^ (k-l):Nat):Int)=((i0*2 ^ (k-(l+1)):Nat):Int)*2 from by rw[hI];omega);rw[Ut] at C6;rw[hI] at hb;clear Ut hI AB A4;generalize i0*2 ^ (k-(l+1))=p at *
     have D7:((l+1:Nat):Int)=(l:Int)+1:=by omega
     go_wp2_with fail;refine C6.mono ?_;rintro e w2⟨rfl,d3,FR,Re⟩;go_wp2_with fail;go_roundw
     case rel=>exact⟨l,d3,by go_num,by rw[RM.out],by omega,FR,Re⟩
     case measure=>simp[intOf]
def Z8d(c:CA)(d:BD)(p:Nat)(w:World)(r:Ending)(w':World):Prop:=r=.returned (.tuple #[.int .i64 ((addr c.size p 0:Nat):Int),.int .i64 0]) /\
 ∃(d':BD) (m:BM) (rv':RV),d'.b=d.b/\d'.top=d.top/\d'.ps=d.ps++[p]/\d'.At/\m.bits=(List.replicate (960/c.size) false).set 0 true/\(c.insert rv' (m,p)).Ok/\Step (c.hl++d.hl) ((c.insert rv' (m,p)).hl++d'.hl) w w'
theorem Z8e{w w5:World}{c:CA}{d d':BD}{m:BM}(p g:Nat)(ok:c.Ok)(hn:∀x∈c.pg,x.2≠p)(hp:p<1048576)(Fb:c.pg.length<1048576)(hm:m.bits=(List.replicate (960/c.size) false).set 0 true)(b1:d'.b=d.b)(b2:d'.top=d.top)(b3:d'.ps=d.ps++[p])(b4:d'.At)
  (Ao:Step (c.hl++d.hl) (c.hl++(m.hl++d'.hl)) w w5) (hg:g<w5.heap.size) (G1:g∉keys (c.hl++(m.hl++d'.hl))) :
  Calls prog 132 #[lvOf c.rv c.pg.length,.int .i64 (Q0p c.pg p),.slice (some ⟨w5.heap.size,0,none⟩) 1 1] (w5.drew.alloc (.cells #[ptr m.b,.int .i64 ((1024*p:Nat):Int)] 236)) fun r w6=>∃(g6 CK:Nat) (v6:Value),v6=.slice (some ⟨g6,0,none⟩) (c.pg.length+1) CK/\r=.returned v6 /\
   w6.heap[g]?=w5.heap[g]?/\w6.cell? ⟨c.c,2,none⟩=some (lvOf c.rv c.pg.length)/\w6.frozen? ⟨c.c,2,none⟩=false /\
   Calls prog 128 #[.pointer (some ⟨c.c,0,none⟩),.agg #[ptr m.b,.int .i64 ((1024*p:Nat):Int)],.int .i64 0] (w6.setCell ⟨c.c,2,none⟩ v6) fun r w7=>r=.returned (.int .i64 ((addr c.size p 0:Nat):Int))/\Z8d c d p w (.returned (.tuple #[.int .i64 ((addr c.size p 0:Nat):Int),.int .i64 0])) w7:=by
 have s5:=Ao.sep;have s6:=(s5.drew.alloc (.cells #[ptr m.b,.int .i64 ((1024*p:Nat):Int)] 236))
 have CW:(Q0i c.pg).length=c.pg.length*2:=Q6P _;have ox:∀v∈Q0i c.pg,v.oneCell'=true:=by
  intro v hv;unfold Q0i at hv;obtain⟨y,_,hy⟩:=J3G.1 hv;simp at hy;rcases hy with rfl|rfl <;> rfl
 have e0:c.hl++(m.hl++d'.hl)=[(c.c,isC 233 [ptr c.bb,.int .i64 c.size,lvOf c.rv c.pg.length])]++rowH c.rv 236 2 (Q0i c.pg)++(pgH c.pg++(m.hl++d'.hl)):=by unfold CA.hl;simp
 have s6':=s6;rw[e0] at s6';have hv:Cells (w5.drew.alloc (.cells #[ptr m.b,.int .i64 ((1024*p:Nat):Int)] 236)) w5.heap.size 236 [ptr m.b,.int .i64 ((1024*p:Nat):Int)]:=Cells.new w5.drew 236 [ptr m.b,.int .i64 ((1024*p:Nat):Int)];have LB:w5.heap.size∉keys (c.hl++(m.hl++d'.hl)):=fun hm=>by have:=s5.lt hm;omega
 refine(J0K s6' ok.rv CW (Q7L c.pg p) (by omega) hv (by rw[<- e0];exact LB) ox rfl rfl).mono ?_;rintro r w6⟨rv',rfl,CL,Lm⟩;have AJ:w6.heap[g]?=w5.heap[g]?:=by
  have h1:=Lm.chg.block g (by simp;omega) (by rw[<- e0];exact G1);rw[h1];exact heap_alloc_old w5.drew _ hg
 have AO:=(Lm.sep).cells (b:=c.c) (T:=233) (cs:=[ptr c.bb,.int .i64 c.size,lvOf c.rv c.pg.length]) (by simp);have Ra:Step (c.hl++(m.hl++d'.hl)) ((c.insert rv' (m,p)).hl++d'.hl) w5 (w6.setCell ⟨c.c,2,none⟩ (lvOf rv' (c.pg.length+1))):=
  (CA.insStep (c:=c) (K:=d'.hl) (m,p) rv' s6 Lm).from_alloc.from_drew
 have okN:=CA.ok_ins ok rv' (m,p) hn CL Fb hp (by rw[hm];simp);have A9:=Ao.trans Ra;obtain⟨g6,CK,e6⟩:∃g6 CK:Nat,rv'=some (g6,CK):=by
  cases rv' with
  | none=>have:c.pg.length+1=0:=CL;omega
  | some p=>exact⟨p.1,p.2,rfl⟩
 refine⟨g6,CK,_,by rw[e6];rfl,rfl,AJ,AO.cell 2 _ rfl,AO.free 2,?_⟩;have CI:=Q8C A9.sep.left okN m.b p 0 hp (by omega);refine CI.mono ?_;rintro r w7⟨rfl,Ge⟩;exact⟨rfl,rfl,d',m,rv',b1,b2,b3,b4,hm,okN,A9.trans (A9.sep.grown Ge)⟩
theorem Z2C(a b:Nat)(ha:a<2 ^ 63)(hb:b<2 ^ 63):bits BinOp.xor IntKind.i64 (a:Int) (b:Int)=((a ^^^ b:Nat):Int):=by
 have h:(a ^^^ b)<2 ^ 63:=J4s ha hb;have e:((BitVec.ofInt 64 (a:Int)) ^^^ (BitVec.ofInt 64 (b:Int))).toNat=a ^^^ b:=by
  rw[BitVec.ofInt_natCast,BitVec.ofInt_natCast,BitVec.toNat_xor,BitVec.toNat_ofNat,BitVec.toNat_ofNat,J4w (by omega),J4w (by omega)]
 unfold bits;show IntKind.i64.wrap (((BitVec.ofInt 64 (a:Int)) ^^^ (BitVec.ofInt 64 (b:Int))).toNat:Int)=_;rw[e,IntKind.wrap_i64];omega
theorem J0U(i:Nat):i ^^^ 1=sib i:=by
 have h:(i ^^^ 1)/2=i/2:=by
  have:=Nat.xor_div_two_pow (a:=i) (b:=1) (n:=1)
  simpa using this
 have h2:(i ^^^ 1)%2=(i+1)%2:=by
  have:=J4u i 1 0;rw[J4y,J4y,J4y] at this;have h3:i%2=0∨i%2=1:=by omega
  have h4:(i ^^^ 1)%2=0∨(i ^^^ 1)%2=1:=by omega
  rcases h3 with h3|h3 <;> rcases h4 with h4|h4 <;> simp[h3,h4] at this <;> omega
 unfold sib;split <;> omega
theorem J0V(u:Nat->Bool)(top p:Nat):∃k,k<=top/\(k<top->clr u k (sib (p/2 ^ k))=false)/\∀j,j<k->clr u j (sib (p/2 ^ j))=true:=by
 rcases J2d (fun k=>decide (k=top)||!clr u k (sib (p/2 ^ k))) (top+1) with h|⟨k,h1,h2,h3⟩
 ·have:=h top (by omega);simp at this
 ·refine⟨k,by omega,fun hk=>?_,fun j hj=>?_⟩
  ·simp only[J6n,decide_eq_true_eq,J6k] at h2;rcases h2 with h2|h2
   ·omega
   ·exact h2
  ·have:=h3 j hj;simp only[Bool.or_eq_false_iff,Bool.not_eq_false'] at this;exact this.2
theorem Z8f(u:Nat->Bool)(p k:Nat)(hs:∀j,j<k->clr u j (sib (p/2 ^ j))=true):clr (setU u p false) k (p/2 ^ k)=true:=by
 induction k with
 | zero=>rw[Nat.pow_zero,Nat.div_one,Z1q];simp[setU]
 | succ k ih =>
  obtain⟨s1,s2⟩:=Q4b (p/2 ^ k);have h1:=ih (fun j hj=>hs j (by omega));have h2:=hs k (by omega);rw[<- Q4a u p k (sib (p/2 ^ k)) (fun e=>s2 e.symm)] at h2;rw[div_succ,clr_half,J3C];have:(p/2 ^ k=2*(p/2 ^ k/2)/\sib (p/2 ^ k)=2*(p/2 ^ k/2)+1)∨(sib (p/2 ^ k)=2*(p/2 ^ k/2)/\p/2 ^ k=2*(p/2 ^ k/2)+1):=by omega
  rcases this with ⟨e1,e2⟩|⟨e1,e2⟩
  ·exact⟨by rw[e1] at h1;exact h1,by rw[e2] at h2;exact h2⟩
  ·exact⟨by rw[e1] at h2;exact h2,by rw[e2] at h1;exact h1⟩
theorem Q3F{u:Nat->Bool}{p:Nat}(hu:u p=true)(k:Nat):clr u k (p/2 ^ k)=false:=by
 cases h:clr u k (p/2 ^ k) with
 | false=>rfl
 | true=>rw[clr_iff] at h;rw[h p rfl] at hu;cases hu
theorem Z1s{u:Nat->Bool}{top p k:Nat}(hu:u p=true)(hk:k<top):fre u top k (sib (p/2 ^ k))=clr u k (sib (p/2 ^ k)):=by
 unfold fre;rw[(Q4b (p/2 ^ k)).1,<- div_succ,Q3F hu];simp
def mrg(G:Nat->Nat->Bool)(p k:Nat):Nat->Nat->Bool:=fun l x=>if l<k then(G l x&&!(x==sib (p/2 ^ l))) else G l x
theorem Z8g(G:Nat->Nat->Bool)(p:Nat):mrg G p 0=G:=by funext l x;simp[mrg]
theorem Z8h(G:Nat->Nat->Bool)(p k:Nat):upG (mrg G p k) k (sib (p/2 ^ k)) false=mrg G p (k+1):=by
 funext l x;unfold upG mrg;by_cases h:l=k
 ·subst h;by_cases hx:x=sib (p/2 ^ l)
  ·simp[hx]
  ·have e:(x==sib (p/2 ^ l))=false:=by simpa using hx
   simp[hx,e]
 ·have e:(l<k+1)=(l<k):=by apply propext;omega
  simp[h,e]
theorem J0W(u:Nat->Bool)(top p k:Nat)(hk:k<=top)(hu:u p=true)(hn:k<top->clr u k (sib (p/2 ^ k))=false)(hs:∀j,j<k->clr u j (sib (p/2 ^ j))=true)(l x:Nat)(hl:l<=top) :
  upG (mrg (fre u top) p k) k (p/2 ^ k) true l x=fre (setU u p false) top l x:=by
 rw[Z7Y u top p k hk hu (Z8f u p k hs) hn l x hl];unfold upG mrg;by_cases h:l=k
 ·subst h;by_cases hx:x=p/2 ^ l
  ·simp[hx]
  ·have e:(x==p/2 ^ l)=false:=by simpa using hx
   simp[hx,e]
 ·simp[h]
theorem Z0h{top p k:Nat}(hp:p<2 ^ top)(hk:k<=top):p/2 ^ k<2 ^ (top-k):=by
 rw[J6u (J4q k),<- J4C,show top-k+k=top from by omega];exact hp
theorem J0e{n i:Nat}(hi:i<2 ^ (n+1)):sib i<2 ^ (n+1):=by
 rw[J4j] at *
 unfold sib;split <;> omega
def J2i(d:BD)(p:Nat)(w:World)(r:Ending)(w':World):Prop:=r=.returned (.int .i64 0) /\
 ∃d':BD,d'.b=d.b/\d'.top=d.top/\d'.ps=d.ps.erase p/\d'.At/\Step d.hl d'.hl w w'
theorem Z1t(w:World):(zeroValue 3).run prog w=.ok (.int .i64 0) w:=by kernel_rfl
theorem Z1u{w:World}{d:BD}(h:Sep w d.hl)(ha:d.At)(p:Nat)(hp:p∈d.ps) :
  Calls prog 145 #[.pointer (some ⟨d.b,0,none⟩),.int .i64 (1024*(p:Int))] w (J2i d p w):=by
 have hx:((1024*p:Nat):Int)=1024*(p:Int):=by omega
 have hu:uOf d.ps p=true:=by simpa[uOf] using hp
 obtain⟨k1,A5,hn,hs⟩:=J0V (uOf d.ps) d.top p;have F6:=ha.lt p hp;have ht:=ha.is.top;have Eo:=Q1b (P:=prog) (BD.map h) ((1024*p:Nat):Int) true (.int .i64 0) underlying156 underlying3 (Z1t w);rw[Z8a,if_pos hp,hx] at Eo;simp only[if_true,Option.getD_some,Option.isSome_some] at Eo;have K5:=BD.map h;have VT:=BD.cm h (by rw[ha.is.len];omega);have Hm:=Q0a (show ∀w2,Q0H w2 d.mb (del (upk d.ps) (1024*(p:Int)))->w.grownBy w2 (some d.mb)->({d with ps:=d.ps.erase p}:BD).To {d with ps:=d.ps.erase p} w2 w2/\Step d.hl ({d with ps:=d.ps.erase p}:BD).hl w w2 from fun w2 Dw BB=>by
  rw[<- hx,J0Q] at Dw;have:=BD.putMap h _ Dw BB;exact⟨BD.To.refl this.sep,this⟩)
 have Rm:Hid (({d with ps:=d.ps.erase p}:BD).Is (mrg (fre (uOf d.ps) d.top) p 0)):=by
  show BD.Is _ _;rw[Z8g];exact⟨ha.is.len,ha.is.top,ha.is.bits⟩
 have JW:=Q0a (show ∀w2 wr d1,({d with ps:=d.ps.erase p}:BD).To d1 w2 wr->wr.cell? ⟨d.b,0,none⟩=some (.int .i64 d.top) from fun w2 wr d1 AB=>by
  have:=BD.c0 AB.step.sep;rw[AB.b,AB.top] at this;exact this)
 have N3:=Q0a (show ∀k w2 wr d1,k<k1->({d with ps:=d.ps.erase p}:BD).To d1 w2 wr->d1.Is (mrg (fre (uOf d.ps) d.top) p k)->∃b,wr.cell? ⟨d.b,1+k,none⟩=some (.pointer (some ⟨b,0,none⟩)) /\
   Calls prog 127 #[.pointer (some ⟨b,0,none⟩),.bool false,.slice (some ⟨wr.heap.size,0,none⟩) 1 1] (wr.alloc (.cells #[.int .i64 ((sib (p/2 ^ k):Nat):Int)] 3)) fun r w'=>r=.returned (.int .i64 1)/\∃d2,({d with ps:=d.ps.erase p}:BD).To d2 w2 w'/\d2.Is (mrg (fre (uOf d.ps) d.top) p (k+1)) from fun k w2 wr d1 hk AB A4=>by
  have F1:k<d.top:=by omega
  have e0:d.top-k=(d.top-k-1)+1:=by omega
  have Aa:sib (p/2 ^ k)<2 ^ (d.top-k):=by
   have:=Z0h F6 (show k<=d.top by omega);rw[e0] at this ⊢;exact J0e this
  have Ac:mrg (fre (uOf d.ps) d.top) p k k (sib (p/2 ^ k))≠false:=by
   unfold mrg;rw[if_neg (by omega),Z1s hu F1,hs k hk];decide
  have et:d1.top=d.top:=AB.top;obtain⟨b,h3,h4⟩:=Q8I AB.step.sep A4 k (sib (p/2 ^ k)) false (by omega) (by rw[et];exact Aa) Ac;rw[AB.b] at h3;refine⟨b,h3,h4.mono ?_⟩;rintro r w'⟨rfl,d2,CF,BL⟩;rw[Z8h] at BL;exact⟨rfl,d2,AB.trans CF,BL⟩)
 have Mp:=Q0a (show ∀w2 wr d1,k1<d.top->({d with ps:=d.ps.erase p}:BD).To d1 w2 wr->d1.Is (mrg (fre (uOf d.ps) d.top) p k1)->∃b,wr.cell? ⟨d.b,1+k1,none⟩=some (.pointer (some ⟨b,0,none⟩)) /\
   Calls prog 127 #[.pointer (some ⟨b,0,none⟩),.bool false,.slice (some ⟨wr.heap.size,0,none⟩) 1 1] (wr.alloc (.cells #[.int .i64 ((sib (p/2 ^ k1):Nat):Int)] 3)) fun r w'=>r=.returned (.int .i64 0)/\∃d2,({d with ps:=d.ps.erase p}:BD).To d2 w2 w'/\d2.Is (mrg (fre (uOf d.ps) d.top) p k1) from fun w2 wr d1 F1 AB A4=>by
  have e0:d.top-k1=(d.top-k1-1)+1:=by omega
  have Aa:sib (p/2 ^ k1)<2 ^ (d.top-k1):=by
   have:=Z0h F6 (show k1<=d.top by omega);rw[e0] at this ⊢;exact J0e this
  have Ac:mrg (fre (uOf d.ps) d.top) p k1 k1 (sib (p/2 ^ k1))=false:=by
   unfold mrg;rw[if_neg (by omega),Z1s hu F1,hn F1]
  have et:d1.top=d.top:=AB.top;obtain⟨b,h3,h4⟩:=J0R AB.step.sep A4 k1 (sib (p/2 ^ k1)) false (by omega) (by rw[et];exact Aa) Ac;rw[AB.b] at h3;refine⟨b,h3,h4.mono ?_⟩;rintro r w'⟨rfl,d2,CF,BL⟩;exact⟨rfl,d2,AB.trans CF,BL⟩)
 have AX:=Q0a (show ∀w2 wr d1,Step d.hl ({d with ps:=d.ps.erase p}:BD).hl w w2->({d with ps:=d.ps.erase p}:BD).To d1 w2 wr->d1.Is (mrg (fre (uOf d.ps) d.top) p k1)->∃b,wr.cell? ⟨d.b,1+k1,none⟩=some (.pointer (some ⟨b,0,none⟩)) /\
   Calls prog 127 #[.pointer (some ⟨b,0,none⟩),.bool true,.slice (some ⟨wr.heap.size,0,none⟩) 1 1] (wr.alloc (.cells #[.int .i64 ((p/2 ^ k1:Nat):Int)] 3)) fun r w'=>r=.returned (.int .i64 1)/\J2i d p w (.returned (.int .i64 0)) w' from fun w2 wr d1 Ao AB A4=>by
  have Ac:mrg (fre (uOf d.ps) d.top) p k1 k1 (p/2 ^ k1)≠true:=by
   unfold mrg;rw[if_neg (by omega)];unfold fre;rw[Q3F hu];simp
  have et:d1.top=d.top:=AB.top;obtain⟨b,h3,h4⟩:=Q8I AB.step.sep A4 k1 (p/2 ^ k1) true (by omega) (by rw[et];exact Z0h F6 A5) Ac;rw[AB.b] at h3;refine⟨b,h3,h4.mono ?_⟩;rintro r w'⟨rfl,d2,CF,BL⟩;have FR:=AB.trans CF;have et2:d2.top=d.top:=FR.top;have ep2:d2.ps=d.ps.erase p:=FR.ps;refine⟨rfl,rfl,d2,FR.b,et2,ep2,⟨⟨BL.len,BL.top,?_⟩,?_,?_⟩,Ao.trans FR.step⟩
  ·intro k m hm;rw[BL.bits k m hm];have F1:k<=d2.top:=by
    have h1:k<d2.bms.length:=(J3y.1 hm).1;have h2:d2.bms.length=d2.top+1:=BL.len;omega
   apply J5k
   intro x _;rw[ep2,Z4K ha.nd,et2];exact J0W _ _ _ _ A5 hu hn hs k x (by omega)
  ·rw[ep2];exact ha.nd.erase p
  ·intro x hx;rw[ep2] at hx;rw[et2];exact ha.lt x (J3K hx))
 have Ro:p<1048576:=J3j F6 (by have:=Q1v (k:=0) ht;simpa using this);clear h ha hu hn hs;generalize mrg (fre (uOf d.ps) d.top) p=M at *
 generalize O8:({d with ps:=d.ps.erase p}:BD)=d0 at *
 clear O8;generalize d.top=top at *
 go_enter func145,ntmps145;go_wp2_with (refine Q4y _ rfl _ _ 156 3 3 3 rfl underlying156 underlying3 d.mb (upk d.ps) K5 _ rfl rfl ?_;intro w2 Dw BB);obtain⟨Mf,NW⟩:=Hm.out w2 Dw BB;clear Dw BB K5 VT Eo Hm;go_wp2_with fail
 go_loopw [5,7] (fun kv iv wr=>∃(k:Nat) (d1:BD),kv=.int .i64 k/\iv=.int .i64 ((p/2 ^ k:Nat):Int)/\k<=k1/\d0.To d1 w2 wr/\d1.Is (M k)) (fun kv _ _=>k1-(intOf kv).toNat)
 case atStart=>exact⟨0,d0,rfl,by simp,J5d _,Mf,Rm.out⟩
 case round =>
  clear Mf;obtain⟨k,d1,rfl,rfl,hk,AB,A4⟩:=hrel;have OX:=JW.out _ _ _ AB;have UJ:p/2 ^ k<1048576:=J4n (J4H _ _) Ro;have Jh:bits BinOp.xor IntKind.i64 ((p/2 ^ k:Nat):Int) 1=((sib (p/2 ^ k):Nat):Int):=by
   rw[show(1:Int)=((1:Nat):Int) from rfl,Z2C _ _ (by omega) (by omega),J0U]
  have Ix:=Q0a (show((p/2 ^ (k+1):Nat):Int)=((p/2 ^ k:Nat):Int)/2 from by rw[div_succ];omega);by_cases Aa:k<k1
  ·obtain⟨b,hc,AR⟩:=N3.out k w2 wr d1 Aa AB A4;have F1:k<top:=by omega
   clear AB A4;generalize p/2 ^ k=i at *
   generalize sib i=s at *
   go_wp2_with fail;refine AR.mono ?_;rintro e w3⟨rfl,d2,CF,BL⟩;clear AR hc Jh;go_wp2_with fail;go_roundw
   case rel=>exact⟨k+1,d2,by go_num,by rw[Ix.out],by omega,CF,BL⟩
   case measure=>simp[intOf];omega
  ·obtain rfl:k=k1:=by omega
   by_cases F1:k<top
   ·obtain⟨b,hc,AR⟩:=Mp.out w2 wr d1 F1 AB A4;have Le:=Q0a (show ∀w3 d2,d0.To d2 w2 w3->d2.Is (M k)->_ from fun w3 d2 h1 h2=>AX.out w2 w3 d2 NW h1 h2);clear AB A4 Ix;generalize p/2 ^ k=i at *
    generalize sib i=s at *
    go_wp2_with fail;refine AR.mono ?_;rintro e w3⟨rfl,d2,CF,BL⟩;obtain⟨b2,B5,C6⟩:=Le.out w3 d2 CF BL;clear AR hc Jh CF BL;go_wp2_with fail;refine C6.mono ?_;rintro e w4⟨rfl,B3⟩;have Q7:=Q0a B3;clear B3 C6;go_wp2_with fail;go_ret;exact Q7.out
   ·obtain⟨b2,B5,C6⟩:=AX.out w2 wr d1 NW AB A4;clear AB A4 Ix Jh;have QH:¬((k:Int)<top):=by omega
    have UN:decide ((k:Int)<top)=false:=by simpa using QH
    generalize p/2 ^ k=i at *
    go_wp2_with fail;refine C6.mono ?_;rintro e w4⟨rfl,B3⟩;have Q7:=Q0a B3;clear B3 C6;go_wp2_with fail;go_ret;exact Q7.out
def Z8i(c:CA)(d:BD)(k p:Nat)(w:World)(r:Ending)(w':World):Prop:=r=.returned (.int .i64 0) /\
 ∃d':BD,d'.b=d.b/\d'.top=d.top/\d'.ps=d.ps.erase p/\d'.At/\Step (c.hl++d.hl) ((c.dropPg k).hl++d'.hl) w w'
theorem Q0N{w w':World}{b:Nat}(h:w'.heap[b]?=w.heap[b]?)(j:Nat):w'.cell? ⟨b,j,none⟩=w.cell? ⟨b,j,none⟩:=by simp only[World.cell?,h]
theorem Z4N{w:World}{c:CA}{d:BD}{w4:World}{rb cap n:Nat}(k:Nat)(x:BM×Nat)(m':BM)(hx:c.pg[k]?=some x)(hb:m'.b=x.1.b)(AA:c.rv=some (rb,cap))(hn:c.pg.length=n+1)(ok:c.Ok)(ha:d.At)(hp:x.2∈d.ps)(g:Nat)(G1:g∉keys d.hl)(Oo:g<w4.heap.size)
  (Ao:Step (c.hl++d.hl) ((c.pageTo k x m').hl++d.hl) w w4) :
  Calls prog 145 #[ptr d.b,.int .i64 ((1024*x.2:Nat):Int)] w4.drew fun r w5=>r=.returned (.int .i64 0)/\(w5.cell? ⟨c.c,0,none⟩=some (ptr c.bb)/\w5.cell? ⟨g,1,none⟩=w4.cell? ⟨g,1,none⟩) /\
   w5.cell? ⟨c.c,2,none⟩=some (.slice (some ⟨rb,0,none⟩) (n+1) cap) /\
   Calls prog 146 #[.slice (some ⟨rb,0,none⟩) (n+1) cap,.int .i64 k,.int .i64 ((k:Int)+1)] w5 fun r w6=>r=.returned (.slice (some ⟨rb,0,none⟩) n cap) /\
    (∃v,w6.cell? ⟨c.c,2,none⟩=some v)/\w6.frozen? ⟨c.c,2,none⟩=false/\Z8i c d k x.2 w (.returned (.int .i64 0)) (w6.setCell ⟨c.c,2,none⟩ (.slice (some ⟨rb,0,none⟩) n cap)):=by
 have hk:=(J3y.1 hx).1;have s4:=Ao.sep.drew;have Ly:((1024*x.2:Nat):Int)=1024*(x.2:Int):=by omega
 rw[Ly];refine(Z1u s4.right ha x.2 hp).mono ?_;rintro r w5⟨rfl,d',b1,b2,b3,b4,b5⟩;have f5:Step ((c.pageTo k x m').hl++d.hl) ((c.pageTo k x m').hl++d'.hl) w4 w5:=by
  have:=Step.frame (c.pageTo k x m').hl [] (by simpa using s4) b5
  simpa using this.from_drew
 have s5:=f5.sep;have ec:Q0i (c.pageTo k x m').pg=Q0i c.pg:=Q6Q _ _ _ _ hx hb;have el:(c.pageTo k x m').pg.length=n+1:=by simp[CA.pageTo,hn]
 have ed:(c.pageTo k x m').dropPg k=c.dropPg k:=by simp[CA.pageTo,CA.dropPg,List.eraseIdx_set_eq]
 have hC:=CA.sepC s5.left;have A7:(c.pageTo k x m').c=c.c:=rfl;have hR:=CA.sepR s5.left;have Cr:(c.pageTo k x m').rv=some (rb,cap):=AA;rw[Cr,ec] at hR;obtain⟨o,ho,Ak,rfl,AO,AU⟩:=hR.get (b:=rb) (q:=isR 236 (cap*2) (Q0i c.pg)) (by simp[rowH]);have B9:=ok.rv;rw[AA,hn] at B9;have Fb:=ok.len;have CW:(Q0i c.pg).length=(n+1)*2:=by rw[Q6P,hn]
 have ox:∀v∈Q0i c.pg,v.oneCell'=true:=by
  intro v hv;unfold Q0i at hv;obtain⟨y,_,hy⟩:=J3G.1 hv;simp at hy;rcases hy with rfl|rfl <;> rfl
 refine⟨rfl,⟨hC.cell 0 _ rfl,?_⟩,?_,?_⟩
 ·exact Q0N ((b5.chg.block g Oo G1)) 1
 ·have:=hC.cell 2 _ rfl;rw[Cr,el] at this;exact this
 ·refine(J0L ho AO AU CW (by omega) (by omega) B9.1 B9.2 ox).mono ?_;rintro r w6⟨rfl,q1,q2⟩;have Ac:c.c≠rb:=fun e=>by
   have AP:=s5.left.nd;unfold CA.hl at AP;rw[Cr] at AP;simp[rowH] at AP;exact AP.1.1 (by simpa[CA.pageTo] using e)
  have AJ:=q2.block c.c (s5.lt (by simp[CA.hl,CA.pageTo])) (fun e=>Ac (J3Y e));refine⟨rfl,⟨_,(Q0N AJ 2).trans (hC.cell 2 _ rfl)⟩,?_,rfl,d',b1,b2,b3,b4,?_⟩
  ·have:=hC.free 2;rw[A7] at this
   simpa only[World.frozen?,AJ] using this
  ·have hd:=CA.dropStep s5.left Cr k n (by rw[el];omega) el (by rw[ec];exact⟨rfl,q1,q2⟩);rw[ed,A7] at hd;have:=Step.frame [] d'.hl (by simpa using s5) hd;exact(Ao.trans f5).trans (by simpa using this)
theorem Z4O{w:World}{c:CA}{d:BD}(h:Sep w (c.hl++d.hl))(ok:c.Ok)(hd:d.At)(D5:c.bb=d.b)(a:Nat)(ha:a<9223372036854775808)(k i:Nat)(x:BM×Nat)(hs:Q5a c a=some (k,i))(hx:c.pg[k]?=some x)(hi:x.1.bits[i]?.getD false=true)(Ck:cntB (x.1.bits.set i false)=0)(hp:x.2∈d.ps) :
  Calls prog 77 #[.pointer (some ⟨c.c,0,none⟩),.int .i64 a] w (Z8i c d k x.2 w):=by
 have k1:=Q7M h.left ok a ha;rw[hs] at k1;have hk:=(J3y.1 hx).1;have CC:i<x.1.bits.length:=by
  rcases J5K i x.1.bits.length with e|e
  ·exact e
  ·rw[J4Q e] at hi;cases hi
 have GW:=ok.many x (J5p hx);have Hn:x.1.bits.length<=1048576:=by rw[GW];have:=J4H 960 c.size;omega
 have Fb:=ok.len;obtain⟨rb,cap,AA⟩:∃rb cap,c.rv=some (rb,cap):=by
  cases e:c.rv with
  | none=>have:=ok.rv;rw[e] at this;have:c.pg.length=0:=this;omega
  | some p=>exact⟨p.1,p.2,rfl⟩
 obtain⟨n,hn⟩:∃n,c.pg.length=n+1:=⟨c.pg.length-1,by omega⟩
 have Ev:Hid (∀w1,Below w.heap.size w w1->w1.cell? ⟨c.c,2,none⟩=some (.slice (some ⟨rb,0,none⟩) (n+1) cap)/\w1.cell? ⟨rb,k*2,none⟩=some (.pointer (some ⟨x.1.b,0,none⟩))/\w1.cell? ⟨rb,k*2+1,none⟩=some (.int .i64 ((1024*x.2:Nat):Int)) /\
   Calls prog 127 #[.pointer (some ⟨x.1.b,0,none⟩),.bool false,.slice (some ⟨w1.heap.size+1,0,none⟩) 1 1] ((w1.alloc (.cells #[.pointer (some ⟨x.1.b,0,none⟩),.int .i64 ((1024*x.2:Nat):Int)] 236)).alloc (.cells #[.int .i64 i] 3)) fun r w4=>r=.returned (.int .i64 1) /\
    w4.cell? ⟨w1.heap.size,0,none⟩=some (.pointer (some ⟨x.1.b,0,none⟩))/\w4.cell? ⟨w1.heap.size,1,none⟩=some (.int .i64 ((1024*x.2:Nat):Int))/\w4.cell? ⟨c.c,0,none⟩=some (.pointer (some ⟨d.b,0,none⟩)) /\
    Calls prog 144 #[.pointer (some ⟨x.1.b,0,none⟩)] w4 (fun r w5=>r=.returned (.int .i64 0)/\w4=w5) /\
    Calls prog 145 #[.pointer (some ⟨d.b,0,none⟩),.int .i64 ((1024*x.2:Nat):Int)] w4.drew fun r w5=>r=.returned (.int .i64 0)/\(w5.cell? ⟨c.c,0,none⟩=some (.pointer (some ⟨d.b,0,none⟩))/\w5.cell? ⟨w1.heap.size,1,none⟩=some (.int .i64 ((1024*x.2:Nat):Int))) /\
     w5.cell? ⟨c.c,2,none⟩=some (.slice (some ⟨rb,0,none⟩) (n+1) cap) /\
     Calls prog 146 #[.slice (some ⟨rb,0,none⟩) (n+1) cap,.int .i64 k,.int .i64 ((k:Int)+1)] w5 fun r w6=>r=.returned (.slice (some ⟨rb,0,none⟩) n cap) /\
      (∃v,w6.cell? ⟨c.c,2,none⟩=some v)/\w6.frozen? ⟨c.c,2,none⟩=false/\Z8i c d k x.2 w (.returned (.int .i64 0)) (w6.setCell ⟨c.c,2,none⟩ (.slice (some ⟨rb,0,none⟩) n cap))):=fun w1 hb=>by
  have s1:=(h.grown hb).sep;have BJ:=CA.sepR s1.left;rw[AA] at BJ;obtain⟨e1,e2⟩:=Q1J _ _ _ hx;have B5:=(CA.sepC s1.left).cell 2 _ rfl;rw[AA,hn] at B5;refine⟨B5,Q0w BJ _ _ e1,Q0w BJ _ _ e2,?_⟩;have s3:=(s1.alloc (.cells #[.pointer (some ⟨x.1.b,0,none⟩),.int .i64 ((1024*x.2:Nat):Int)] 236)).alloc (.cells #[.int .i64 i] 3);have sb:=CA.sepB s3.left k x hx;have Aa:∀b∈keys x.1.hl,b<w1.heap.size:=fun b AJ=>(CA.sepB s1.left k x hx).lt AJ
  have hz:((w1.alloc (.cells #[.pointer (some ⟨x.1.b,0,none⟩),.int .i64 ((1024*x.2:Nat):Int)] 236))).heap.size=w1.heap.size+1:=by simp
  have AR:=Q2l sb false i CC Hn (by rw[hi];simp) (w1.heap.size+1) (by
   have:=(Cells.new (w1.alloc (.cells #[.pointer (some ⟨x.1.b,0,none⟩),.int .i64 ((1024*x.2:Nat):Int)] 236)) 3 [.int .i64 i]).cell 0 _ rfl;rw[hz] at this;exact this) (fun hm=>by have:=Aa _ hm;omega)
  refine AR.mono ?_;rintro r w4⟨rfl,Ao⟩;have Bo:=CA.turnB s3.left k x hx {x.1 with bits:=x.1.bits.set i false} rfl Ao;have A9:Step (c.hl++d.hl) ((c.pageTo k x {x.1 with bits:=x.1.bits.set i false}).hl++d.hl) w w4:=by
   have:=Step.frame [] d.hl (by simpa using s3) Bo;exact(h.grown hb).trans (Step.from_alloc (Step.from_alloc (by simpa using this)))
  have G0:w1.heap.size∉keys x.1.hl:=fun hm=>by have:=Aa _ hm;omega
  have AJ:=Ao.chg.block w1.heap.size (by simp;omega) G0;have AY:=((Cells.new w1 236 [.pointer (some ⟨x.1.b,0,none⟩),.int .i64 ((1024*x.2:Nat):Int)]).alloc (.cells #[.int .i64 i] 3))
  have g4:w1.heap.size<w4.heap.size:=by
   have:=Ao.chg.size;simp at this;omega
  have Gn:w1.heap.size∉keys d.hl:=fun hm=>by have:=s1.right.lt hm;omega
  have d1:=(Q0N AJ 1).trans (AY.cell 1 _ rfl);have d0:=(CA.sepC A9.sep.left).cell 0 _ rfl;have d0':w4.cell? ⟨c.c,0,none⟩=some (.pointer (some ⟨d.b,0,none⟩)):=by rw[<- D5];exact d0
  refine⟨rfl,(Q0N AJ 0).trans (AY.cell 0 _ rfl),d1,d0',?_,?_⟩
  ·have:=Q5v Ao.sep (by simpa using Hn);rw[Ck] at this;exact this
  ·have ht:=Z4N k x {x.1 with bits:=x.1.bits.set i false} hx rfl AA hn ok hd hp w1.heap.size Gn g4 A9;rw[d1,D5] at ht;exact ht
 have HQ:Hid (∀r w',Told w (Q4A (some (k,i))) r w'->r=.returned (.tuple #[.int .i64 k,.int .i64 i,.bool true])/\Below w.heap.size w w'):=fun r w' ⟨e,hb⟩=>⟨e,hb⟩
 have BE:(0:Int)<=k:=by omega
 have Do:(k:Int)<(n:Int)+1:=by omega
 have Cf:(k:Int)<1048576:=by omega
 have BH:(0:Int)<=i:=by omega
 have K4:(i:Int)<1048576:=by omega
 have hw:IntKind.i64.wrap ((k:Int)+1)=(k:Int)+1:=Go.IntWalk.i64_in _ (by omega);clear h ok hs hx hi CC GW Hn AA Ck hd D5 hp hk Fb;obtain⟨GL,LZ⟩:∃GL:Ending->World->Prop,GL=Z8i c d k x.2 w:=⟨_,rfl⟩
 rw[<- LZ] at Ev ⊢;clear LZ hn;generalize 1024*x.2=pv at *
 generalize x.1.b=b at *
 generalize c.c=cc at *
 generalize d.b=db at *
 go_enter func77,ntmps77;go_wp2_with fail;refine k1.mono ?_;rintro r w1 hf;obtain⟨rfl,hb⟩:=HQ.out _ _ hf;obtain⟨c1,c2,c3,AR⟩:=Ev.out _ hb;have CQ:=Q0a AR;clear AR hf hb;go_wp2_with fail;refine CQ.out.mono ?_;rintro r w4⟨rfl,d1,d2,d3,d4,d5⟩;have HG:=Q0a d5;have HC:=Q0a d4;clear d4 d5;go_wp2_with fail;refine HC.out.mono ?_;rintro r w5⟨rfl,rfl⟩;have d2':w4.drew.cell? ⟨w1.heap.size,1,none⟩=some (.int .i64 pv):=d2;have d3':w4.drew.cell? ⟨cc,0,none⟩=some (.pointer (some ⟨db,0,none⟩)):=d3;go_wp2_with fail
 go_region_held3 (fun w'=>w'.cell? ⟨cc,0,none⟩=some (.pointer (some ⟨db,0,none⟩))/\w'.cell? ⟨w1.heap.size,1,none⟩=some (.int .i64 pv))
  (first|exact⟨d3,d2⟩|exact⟨d3',d2'⟩|exact⟨e0,e1⟩)
  (first|(go_at_call 145;refine HG.out.mono ?_;rintro r w6⟨rfl,⟨e0,e1⟩,e2,e3⟩;have HD:=Q0a e3;clear e3))
 go_wp2_with fail;refine HD.out.mono ?_;rintro r w7⟨rfl,⟨v,f1⟩,f2,f3⟩;have HF:=Q0a f3;clear f3;go_wp2_with fail;exact HF.out
theorem Z1v{rv:RV}{n:Nat}(h:rvOk rv n):∃a cp,lvOf rv n=.slice a n cp/\(∀rb cap,rv=some (rb,cap)->a=some ⟨rb,0,none⟩):=by
 cases rv with
 | none=>exact⟨none,0,by show Value.slice none 0 0=_;rw[show n=0 from h],fun _ _ e=>by cases e⟩
 | some p=>exact⟨_,_,rfl,fun _ _ e=>by cases e;rfl⟩
theorem J0X{rv:RV}{n j:Nat}(h:rvOk rv n)(hj:j<n):∃rb cap,rv=some (rb,cap):=by
 cases rv with
 | none=>have:n=0:=h;omega
 | some p=>exact⟨p.1,p.2,rfl⟩
def Z4P(c:CA)(w:World)(a:Option Addr):Prop:=∀j w1,j<c.pg.length->Below w.heap.size w w1->∃rb b p,a=some ⟨rb,0,none⟩/\w1.cell? ⟨rb,j*2,none⟩=some (.pointer (some ⟨b,0,none⟩))/\w1.cell? ⟨rb,j*2+1,none⟩=some (.int .i64 p) /\
   Calls prog 72 #[.pointer (some ⟨b,0,none⟩),.bool false,.int .i64 0] (w1.alloc (.cells #[.pointer (some ⟨b,0,none⟩),.int .i64 p] 236)) fun r w'=>r=.returned (.int .i64 (-1))/\(w1.alloc (.cells #[.pointer (some ⟨b,0,none⟩),.int .i64 p] 236))=w'
theorem Z4Q{w:World}{c:CA}(h:Sep w c.hl)(ok:c.Ok)(A1:∀y∈c.pg,Q3A y=none)(a:Option Addr)(ha:∀rb cap,c.rv=some (rb,cap)->a=some ⟨rb,0,none⟩):Z4P c w a:=by
 intro j w1 hj hb;obtain⟨rb,cap,AA⟩:=J0X ok.rv hj;have hy:c.pg[j]?=some c.pg[j]:=J5s hj;have s1:=(h.grown hb).sep;have BJ:=CA.sepR s1;rw[AA] at BJ;obtain⟨e1,e2⟩:=Q1J _ _ _ hy;have Er:c.pg[j].1.bits.length<=60:=by
  rw[ok.many _ (J5p hy)];have:=ok.s0;exact J3i (J6f this (by omega)) (by omega)
 refine⟨rb,_,_,ha _ _ AA,Q0w BJ _ _ e1,Q0w BJ _ _ e2,?_⟩;have:=Q3K (CA.sepB (s1.alloc (.cells #[.pointer (some ⟨c.pg[j].1.b,0,none⟩),.int .i64 ((1024*c.pg[j].2:Nat):Int)] 236)) j _ hy) false 0 (by omega) (by omega);have e:=A1 _ (J5p hy);unfold Q3A at e;rw[e] at this;exact this
theorem Z0i{w:World}{c:CA}(h:Sep w c.hl)(ok:c.Ok)(A1:∀y∈c.pg,Q3A y=none)(db:Nat)(D5:c.bb=db)(Q:Ending->World->Prop)
  (Aw:∀w1,Below w.heap.size w w1->Calls prog 129 #[.pointer (some ⟨db,0,none⟩),.int .i64 0] w1 fun r w2=>r=.returned (.tuple #[.int .i64 0,.int .i64 4])/\Q (.returned (.tuple #[.int .i64 0,.int .i64 4])) w2) :
  Calls prog 69 #[.pointer (some ⟨c.c,0,none⟩)] w Q:=by
 obtain⟨a,cp,hv,ha⟩:=Z1v ok.rv;have Bt:=Z4Q h ok A1 a ha;have B5:w.cell? ⟨c.c,2,none⟩=some (.slice a c.pg.length cp):=by
  have:=(CA.sepC h).cell 2 _ rfl;rw[hv] at this;exact this
 have IS:Hid (∀w1,Below w.heap.size w w1->w1.cell? ⟨c.c,0,none⟩=some (.pointer (some ⟨db,0,none⟩))):=fun w1 hb=>by
  have:=(CA.sepC ((h.grown hb).sep)).cell 0 _ rfl;rw[D5] at this;exact this
 have Fb:=ok.len;have HF:=Q0a Bt;have Ga:=Q0a Aw;clear h ok Bt A1 Aw D5 ha hv;unfold Z4P at HF;generalize c.pg.length=np at *
 generalize c.c=cc at *
 go_enter func69,ntmps69;go_wp2_with fail
 go_loopw [19] (fun jv wr=>∃j:Nat,jv=.int .i64 j/\j<=np/\Below w.heap.size w wr) (fun jv _=>np+1-(intOf jv).toNat)
 case atStart=>exact⟨0,rfl,J5d _,Below.refl _ _⟩
 case round =>
  obtain⟨j,rfl,hj,hb⟩:=hrel;by_cases Aa:j<np
  ·obtain⟨rb,b,p,rfl,c1,c2,AE⟩:=HF.out j wr Aa hb;have Dv:=Q0a AE;have HB:=Q0a (((hb.alloc (by exact hb.size) (.cells #[.pointer (some ⟨b,0,none⟩),.int .i64 p] 236))));clear AE;go_wp2_with (go_at_call 72;refine Dv.out.mono ?_;rintro e w'⟨rfl,rfl⟩);go_roundw
   case rel=>exact⟨j+1,by go_num,by omega,HB.out⟩
   case measure=>simp[intOf];omega
  ·obtain rfl:j=np:=by omega
   have c0:=IS.out _ hb;have HN:=Q0a (Ga.out _ hb);go_wp2_with fail;refine HN.out.mono ?_;rintro r w2⟨rfl,hq⟩;have HQ:=Q0a hq;clear hq;go_wp2_with fail;exact HQ.out
theorem Z4R{w:World}{c:CA}{d:BD}{G:Nat->Nat->Bool}(h:Sep w (c.hl++d.hl))(ok:c.Ok)(A1:∀y∈c.pg,Q3A y=none)(D5:c.bb=d.b)(hi:d.Is G)(hn:∀k,k<=d.top->fstG G d.top k 0=none) :
  Calls prog 69 #[.pointer (some ⟨c.c,0,none⟩)] w (Told w (.tuple #[.int .i64 0,.int .i64 4])):=
 Z0i h.left ok A1 d.b D5 _ fun w1 hb=>(Q6T ((h.grown hb).sep).right hi hn).mono fun _ _ ⟨e,e'⟩=>⟨e,rfl,by rw[<- e'];exact hb⟩
def NewT(c:CA)(d:BD)(p:Nat)(w w1:World):Prop:=
 Calls prog 129 #[.pointer (some ⟨d.b,0,none⟩),.int .i64 0] w1 fun r w2=>r=.returned (.tuple #[.int .i64 ((1024*p:Nat):Int),.int .i64 0]) /\
  Calls prog 130 #[.pointer (some ⟨c.c,0,none⟩)] w2 fun r w'=>r=.returned (.int .i64 ((960/c.size:Nat):Int))/\w2=w' /\
  Calls prog 126 #[.int .i64 ((960/c.size:Nat):Int)] w2 fun r w3=>∃mb,r=.returned (.pointer (some ⟨mb,0,none⟩)) /\
  Calls prog 127 #[.pointer (some ⟨mb,0,none⟩),.bool true,.slice (some ⟨w3.heap.size+1,0,none⟩) 1 1] ((w3.alloc (.cells #[.pointer (some ⟨mb,0,none⟩),.int .i64 ((1024*p:Nat):Int)] 236)).alloc (.cells #[.int .i64 0] 3)) fun r w4=>r=.returned (.int .i64 1) /\
  Calls prog 131 #[.pointer (some ⟨c.c,0,none⟩),.int .i64 ((1024*p:Nat):Int)] w4 fun r w5=>r=.returned (.tuple #[.int .i64 (Q0p c.pg p),.bool (Q3z c.pg p)]) /\
   w5.cell? ⟨w3.heap.size,0,none⟩=some (.pointer (some ⟨mb,0,none⟩))/\w5.cell? ⟨w3.heap.size,1,none⟩=some (.int .i64 ((1024*p:Nat):Int))/\w5.cell? ⟨c.c,2,none⟩=some (lvOf c.rv c.pg.length) /\
  Calls prog 132 #[lvOf c.rv c.pg.length,.int .i64 (Q0p c.pg p),.slice (some ⟨w5.heap.size,0,none⟩) 1 1] (w5.drew.alloc (.cells #[.pointer (some ⟨mb,0,none⟩),.int .i64 ((1024*p:Nat):Int)] 236)) fun r w6=>∃(g6 CK:Nat) (v6:Value),v6=.slice (some ⟨g6,0,none⟩) (c.pg.length+1) CK/\r=.returned v6 /\
   w6.cell? ⟨w3.heap.size,0,none⟩=some (.pointer (some ⟨mb,0,none⟩))/\w6.cell? ⟨w3.heap.size,1,none⟩=some (.int .i64 ((1024*p:Nat):Int))/\c.c≠w3.heap.size/\w6.cell? ⟨c.c,2,none⟩=some (lvOf c.rv c.pg.length)/\w6.frozen? ⟨c.c,2,none⟩=false /\
   Calls prog 128 #[.pointer (some ⟨c.c,0,none⟩),.agg #[.pointer (some ⟨mb,0,none⟩),.int .i64 ((1024*p:Nat):Int)],.int .i64 0] (w6.setCell ⟨c.c,2,none⟩ v6) fun r w7=>r=.returned (.int .i64 ((addr c.size p 0:Nat):Int))/\Z8d c d p w (.returned (.tuple #[.int .i64 ((addr c.size p 0:Nat):Int),.int .i64 0])) w7
theorem J2U{w w1:World}{c:CA}{d:BD}(h:Sep w (c.hl++d.hl))(hb:Below w.heap.size w w1)(ok:c.Ok)(ha:d.At)(Fb:c.pg.length<1048576)(k0 i0:Nat)(BE:k0<=d.top)(hf:fstG (fre (uOf d.ps) d.top) d.top k0 0=some i0)(hp:∀k,k<k0->fstG (fre (uOf d.ps) d.top) d.top k 0=none)(hn:∀x∈c.pg,x.2≠i0*2 ^ k0)(CI:i0*2 ^ k0<1048576) :
  NewT c d (i0*2 ^ k0) w w1:=by
 have s1:=(h.grown hb)
 unfold NewT;have FX:=ok.s0;have CN:=ok.s1;have D9:960/c.size<=60:=J3i (J6f FX (by omega)) (by omega);have E0:0<960/c.size:=Nat.div_pos (by omega) (by omega);refine(Q6U s1.sep.right ha k0 i0 BE hf hp).mono ?_;rintro r w2⟨rfl,d',b1,b2,b3,b4,st2⟩;generalize i0*2 ^ k0=p at *
 have s2:Step (c.hl++d.hl) (c.hl++d'.hl) w w2:=by
  have:=Step.frame c.hl [] (by simpa using s1.sep) st2;exact s1.trans (by simpa using this)
 refine⟨rfl,(Z7P s2.sep.left ok).mono ?_⟩;rintro r w'⟨rfl,rfl⟩;refine⟨rfl,rfl,(Q8B s2.sep (960/c.size) (by omega)).mono ?_⟩;rintro r w3⟨m,rfl,hm,st3⟩;have s3:=s2.trans st3;refine⟨m.b,rfl,?_⟩;have a3:=(s3.sep.alloc (.cells #[.pointer (some ⟨m.b,0,none⟩),.int .i64 ((1024*p:Nat):Int)] 236)).alloc (.cells #[.int .i64 0] 3);have hz:((w3.alloc (.cells #[.pointer (some ⟨m.b,0,none⟩),.int .i64 ((1024*p:Nat):Int)] 236))).heap.size=w3.heap.size+1:=by simp
 have Aa:∀b∈keys (m.hl++(c.hl++d'.hl)),b<w3.heap.size:=fun b AJ=>s3.sep.lt AJ
 have AR:=Q2l a3.left true 0 (by rw[hm];simpa using E0) (by rw[hm];simp;omega) (by rw[hm];rw[J5c,if_pos E0];simp) (w3.heap.size+1) (by
   have:=(Cells.new (w3.alloc (.cells #[.pointer (some ⟨m.b,0,none⟩),.int .i64 ((1024*p:Nat):Int)] 236)) 3 [.int .i64 0]).cell 0 _ rfl;rw[hz] at this;exact this) (fun By=>by have:=Aa (w3.heap.size+1) (by simp only[keys_append,J3Q];exact .inl By);omega)
 refine AR.mono ?_;rintro r w4⟨rfl,st4⟩;have f4:Step (m.hl++(c.hl++d'.hl)) (({m with bits:=m.bits.set 0 true}:BM).hl++(c.hl++d'.hl)) w3 w4:=by
  have:=Step.frame [] (c.hl++d'.hl) (by simpa using a3) st4;exact Step.from_alloc (Step.from_alloc (by simpa using this))
 have s4:=s3.trans f4;have g4:w3.heap.size<w4.heap.size:=by
  have:=st4.chg.size;simp at this;omega
 have G0:w3.heap.size∉keys m.hl:=fun By=>by have:=Aa _ (by simp only[keys_append,J3Q];exact .inl By);omega
 have AJ:=st4.chg.block w3.heap.size (by simp;omega) G0;have AY:=((Cells.new w3 236 [.pointer (some ⟨m.b,0,none⟩),.int .i64 ((1024*p:Nat):Int)]).alloc (.cells #[.int .i64 0] 3))
 refine⟨rfl,(Z1o s4.sep.right.left ok p).mono ?_⟩;rintro r w5⟨rfl,As⟩;have s5:=s4.trans (s4.sep.grown As);have Md:w5.heap[w3.heap.size]?=w4.heap[w3.heap.size]?:=As.block _ g4;have x0:=(Q0N Md 0).trans ((Q0N AJ 0).trans (AY.cell 0 _ rfl));have x1:=(Q0N Md 1).trans ((Q0N AJ 1).trans (AY.cell 1 _ rfl));refine⟨rfl,x0,x1,(CA.sepC s5.sep.right.left).cell 2 _ rfl,?_⟩;have g5:w3.heap.size<w5.heap.size:=by have:=As.size;omega
 have EF:w3.heap.size∉keys (c.hl++(({m with bits:=m.bits.set 0 true}:BM).hl++d'.hl)):=fun By=>by
  have:=Aa w3.heap.size (by simp only[keys_append,J3Q] at By ⊢;rcases By with h1|h1|h1;exact .inr (.inl h1);exact .inl h1;exact .inr (.inr h1));omega
 have s5':Step (c.hl++d.hl) (c.hl++(({m with bits:=m.bits.set 0 true}:BM).hl++d'.hl)) w w5:=s5.perm (J6v _) (by
  rw[<- J4b,<- J4b];exact J5O _ J5P)
 refine(Z8e p w3.heap.size ok hn CI Fb (by show m.bits.set 0 true=_;rw[hm]) b1 b2 b3 b4 s5' g5 EF).mono ?_;rintro r w6⟨g6,CK,v6,h6,rfl,e1,e2,e3,e4⟩;refine⟨g6,CK,v6,h6,rfl,(Q0N e1 0).trans x0,(Q0N e1 1).trans x1,?_,e2,e3,e4⟩;rintro e;exact EF (by rw[<- e];simp[CA.hl])
theorem Q0O{w:World}{p:Addr}{v:Value}{o:Obj}(h:w.cell? p=some v):(w.alloc o).cell? p=some v:=by
 have hl:p.block<w.heap.size:=by
  rcases J5K p.block w.heap.size with e|e
  ·exact e
  ·unfold World.cell? at h;rw[Array.getElem?_eq_none e] at h;cases h
 exact(World.cell?_of_block (w:=w) (Below.heap_alloc _ _ _ hl)).trans h
theorem Z8j{w:World}{c:CA}{d:BD}(h:Sep w (c.hl++d.hl))(ok:c.Ok)(ha:d.At)(A1:∀y∈c.pg,Q3A y=none)(D5:c.bb=d.b)(Fb:c.pg.length<1048576)(k0 i0:Nat)(BE:k0<=d.top)(hf:fstG (fre (uOf d.ps) d.top) d.top k0 0=some i0)(hp:∀k,k<k0->fstG (fre (uOf d.ps) d.top) d.top k 0=none)(hn:∀x∈c.pg,x.2≠i0*2 ^ k0)(CI:i0*2 ^ k0<1048576) :
  Calls prog 69 #[.pointer (some ⟨c.c,0,none⟩)] w (Z8d c d (i0*2 ^ k0) w):=by
 obtain⟨a,cp,hv,Oa⟩:=Z1v ok.rv;have Bt:=Z4Q h.left ok A1 a Oa;have B5:w.cell? ⟨c.c,2,none⟩=some (.slice a c.pg.length cp):=by
  have:=(CA.sepC h.left).cell 2 _ rfl;rw[hv] at this;exact this
 have IS:Hid (∀w1,Below w.heap.size w w1->w1.cell? ⟨c.c,0,none⟩=some (.pointer (some ⟨d.b,0,none⟩))/\NewT c d (i0*2 ^ k0) w w1):=fun w1 hb=>by
  have:=(CA.sepC ((h.left.grown hb).sep)).cell 0 _ rfl;rw[D5] at this;exact⟨this,J2U h hb ok ha Fb k0 i0 BE hf hp hn CI⟩
 have HF:=Q0a Bt;clear h ok Bt A1 D5 Oa hf hp hn CI ha BE;unfold Z4P at HF;unfold NewT at IS;rw[hv] at IS;clear hv;obtain⟨TN,TE⟩:∃TN:Ending->World->Prop,TN=Z8d c d (i0*2 ^ k0) w:=⟨_,rfl⟩
 rw[<- TE] at IS ⊢;clear TE;generalize addr c.size (i0*2 ^ k0) 0=ad at *
 generalize 1024*(i0*2 ^ k0)=q at *
 generalize 960/c.size=n at *
 generalize Q0p c.pg (i0*2 ^ k0)=bl at *
 generalize Q3z c.pg (i0*2 ^ k0)=hp at *
 generalize c.pg.length=np at *
 generalize c.c=cc at *
 generalize d.b=db at *
 go_enter func69,ntmps69;go_wp2_with fail
 go_loopw [19] (fun jv wr=>∃j:Nat,jv=.int .i64 j/\j<=np/\Below w.heap.size w wr) (fun jv _=>np+1-(intOf jv).toNat)
 case atStart=>exact⟨0,rfl,J5d _,Below.refl _ _⟩
 case round =>
  obtain⟨j,rfl,hj,hb⟩:=hrel;by_cases Aa:j<np
  ·obtain⟨rb,b,p,rfl,c1,c2,AE⟩:=HF.out j wr Aa hb;have Dv:=Q0a AE;have HB:=Q0a (((hb.alloc (by exact hb.size) (.cells #[.pointer (some ⟨b,0,none⟩),.int .i64 p] 236))));clear AE;go_wp2_with (go_at_call 72;refine Dv.out.mono ?_;rintro e w'⟨rfl,rfl⟩);go_roundw
   case rel=>exact⟨j+1,by go_num,by omega,HB.out⟩
   case measure=>simp[intOf];omega
  ·obtain rfl:j=np:=by omega
   obtain⟨c0,Sw⟩:=IS.out _ hb;have HN:=Q0a Sw;clear Sw;go_wp2_with fail;refine HN.out.mono ?_;rintro r w2⟨rfl,hq⟩;have H2:=Q0a hq;clear hq;go_wp2_with fail;refine H2.out.mono ?_;rintro r w2'⟨rfl,rfl,hq⟩;have H3:=Q0a hq;clear hq;go_wp2_with fail;refine H3.out.mono ?_;rintro r w3⟨mb,rfl,hq⟩;have H4:=Q0a hq;clear hq;go_wp2_with fail;refine H4.out.mono ?_;rintro r w4⟨rfl,hq⟩;have H5:=Q0a hq;clear hq;go_wp2_with fail;refine H5.out.mono ?_;rintro r w5⟨rfl,x0,x1,x2,hq⟩;have H6:=Q0a hq;clear hq;have y0:w5.drew.cell? ⟨w3.heap.size,0,none⟩=some (.pointer (some ⟨mb,0,none⟩)):=x0;have y1:w5.drew.cell? ⟨w3.heap.size,1,none⟩=some (.int .i64 q):=x1
   have y2:w5.drew.cell? ⟨cc,2,none⟩=some (.slice a j cp):=x2;go_wp2_with fail;have HX:=Q0a (show _/\_/\_ from⟨x2,x0,x1⟩);have u0:(w5.alloc (.cells #[.pointer (some ⟨mb,0,none⟩),.int .i64 q] 236)).cell? ⟨w3.heap.size,0,none⟩=some (.pointer (some ⟨mb,0,none⟩)):=Q0O HX.out.2.1;have u1:(w5.alloc (.cells #[.pointer (some ⟨mb,0,none⟩),.int .i64 q] 236)).cell? ⟨w3.heap.size,1,none⟩=some (.int .i64 q):=Q0O HX.out.2.2;have u2:(w5.alloc (.cells #[.pointer (some ⟨mb,0,none⟩),.int .i64 q] 236)).cell? ⟨cc,2,none⟩=some (.slice a j cp):=Q0O HX.out.1
   go_region_law (first|(go_simp;go_at_call 132;refine H6.out.mono ?_;rintro r w6⟨g6,CK,v6,rfl,rfl,z0,z1,Ac,z2,Kx,hq⟩;have H7:=Q0a hq;clear hq))
   all_goals
    have p0:(w6.setCell ⟨cc,2,none⟩ (.slice (some ⟨g6,0,none⟩) (j+1) CK)).cell? ⟨w3.heap.size,0,none⟩=some (.pointer (some ⟨mb,0,none⟩)):=(World.cell?_of_block (w:=w6) (Below.heap_setCell _ _ _ _ (fun e=>Ac e.symm))).trans z0;have p1:(w6.setCell ⟨cc,2,none⟩ (.slice (some ⟨g6,0,none⟩) (j+1) CK)).cell? ⟨w3.heap.size,1,none⟩=some (.int .i64 q):=(World.cell?_of_block (w:=w6) (Below.heap_setCell _ _ _ _ (fun e=>Ac e.symm))).trans z1;clear z0 z1 z2 Kx x0 x1 x2 y0 y1 y2 u0 u1 u2;go_wp2_with fail;refine H7.out.mono ?_;rintro r w7⟨rfl,LF⟩;have Qb:=Q0a LF;clear LF;go_wp2_with fail;exact Qb.out
end Go.Proofs.YtfidemmgofcnmaaGreatDoor
namespace Go.Proofs.YtfidemmgofcnmaaGreatDoor
open Go.RowKit Go.Shelf Go.Proofs.Tryz
attribute [local go_sem] Oper.semAt_some
end Go.Proofs.YtfidemmgofcnmaaGreatDoor
