/- CarryPages returns true at every input. No condition. Part of its proof. -/
import Derived.Test.YtfidemmgofcnmaaGreatDoorCg25
set_option maxHeartbeats 16000000
set_option maxRecDepth 100000
set_option linter.unusedVariables false
namespace Go.Proofs.YtfidemmgofcnmaaGreatDoor
open Go.RowKit Go.Proofs.Tryz
section
variable {Z:SP} {L M:Int} {f:Nat->Nat×Nat} {fr:List Nat} {w w':World} {r:Ending}
def CaN(Z:SP)(L M:Int)(f:Nat->Nat×Nat)(fr:List Nat)(C:SP->Prop)(w w':World):Prop:=∃Z',CaI Z' L M f fr/\Z'.s=Z.s/\Step Z.hl Z'.hl w w'/\C Z'
theorem Q8J(h:CaI Z L M f fr){t i:Nat}(ht:t=1∨t=2)(hi:i<7)(hk:Q0w i=3){x:Msg}(hx:¬PutE x.ws x.its)(R:Z3R Z fr 8 0 M t ((f i).1:Int) x w r w') :
  r=.returned (.int .i64 0)/\x.May/\CaN Z L M f fr (fun Z'=>Z'.av=Z.av/\Z'.S.P.a.mem=putM Z.S.P.a.mem (f i).1 x) w w':=by
 have hb:=h.blk ht hi hk;rcases R with ⟨h0,_⟩|⟨p,hp,⟨h1,_⟩|⟨hm,rfl,ok,st⟩⟩
 ·exact(h0 hb).elim
 ·exact(hx h1).elim
 ·have ha:=hp.at_;rw[ha] at ok st;exact⟨rfl,hm,_,h.poke ok,rfl,st,rfl,rfl⟩
theorem Q7T(h:CaI Z L M f fr){t i:Nat}(ht:t=1∨t=2)(hi:i<7)(hk:Q0w i=3){v:Wi}(hv:Q0u v.base v.order=true)(R:Z3S Z fr 8 0 M t ((f i).1:Int) v w r w') :
  r=.returned (.int .i64 0)/\CaN Z L M f fr (fun Z'=>Z'.av=Z.av/\Z'.S.P.a.mem=Q4r Z.S.P.a.mem (f i).1 v) w w':=by
 have hb:=h.blk ht hi hk;rcases R with ⟨h0,_⟩|⟨p,hp,⟨h1,_⟩|⟨hm,rfl,ok,st⟩⟩
 ·exact(h0 hb).elim
 ·rw[hv] at h1;cases h1
 ·have ha:=hp.at_;rw[ha] at ok st;exact⟨rfl,_,h.poke ok,rfl,st,rfl,rfl⟩
def it0:It:=⟨0,0,3,0,false⟩
def wi0:Wi:=⟨8,1⟩
def mv0:Mv:=⟨0,8,3,false⟩
theorem Q9I(h:CaI Z L M f fr){c:Nat×Nat}(he:Z.av.en 1 0=some c):Q2l Z 1 wi0 [it0]=[mv0]:=by
 have hf:Q1H Z 1 it0 0=true:=by
  have AR:(Q0k Z.S.l Z.tb 1 0).map Ent.c=some c:=he;unfold Q1H;cases hx:Q0k Z.S.l Z.tb 1 0 with
  | none=>rw[hx] at AR;cases AR
  | some e =>
   show(Q0k Z.S.l Z.tb 1 (0+0)).isSome=true;rw[J1N,hx];rfl
 have e:Q2l Z 1 wi0 [it0]=movV (Q1H Z 1 it0) it0 wi0 1:=by
  show movV (Q1H Z 1 it0) it0 wi0 (2 ^ (0:Int).toNat)++[]=_;rw[J1p];rfl
 rw[e,movV_succ,hf,if_pos rfl];rfl
theorem Q6Q(h:CaI Z L M f fr)(hL:4500<=L){ws:List Nat}{lb0 lb:Nat}(I1:lb<18446744073709551616)(hm:msgV Z.S.P.a.mem (f 2).1=⟨lb0,ws,[it0]⟩)(hw:winV Z.S.P.a.mem (f 3).1=wi0)(hE:∀h t,Z.av.en h t=enR 2 h t)(R:Q6P Z fr 8 0 M 1 ((f 2).1:Int) 2 ((f 3).1:Int) lb w r w') :
  r=.returned (.int .i64 0)/\CaN Z L (M+1) f fr (fun Z'=>(∀h t,Z'.av.en h t=setA (enR 2) 2 8 (some (6,3)) h t)/\msgV Z'.S.P.a.mem (f 3).1=⟨lb,ws,[]⟩/\msgV Z'.S.P.a.mem (f 2).1=⟨lb0,ws,[it0]⟩/\winV Z'.S.P.a.mem (f 3).1=wi0) w w':=by
 have Au:=h.blk (t:=1) (.inl rfl) (i:=2) (by omega) rfl;have Ae:=h.blk (t:=2) (.inr rfl) (i:=3) (by omega) rfl;have DP:Z.av.en 1 0=some (6,15):=by rw[hE];rfl
 have A1:Z.av.en 2 8=none:=by rw[hE];rfl
 have B3:=Q9I h DP;rcases R with ⟨er,h0,rfl,_,hc⟩|⟨p,p',hp,AC,Ey,hR⟩
 ·exfalso;rcases hc with e|⟨_,e⟩|⟨p,p',hp,AC,i,hi,he⟩
  ·rw[Au] at e;exact h0 e.symm
  ·rw[Ae] at e;exact h0 e.symm
  ·rw[hp.at_,hm] at hi;rw[AC.at_,hw] at he;rw[J1q.1 hi] at he;rcases he with ⟨h1,_⟩|⟨q,h1,h2⟩
   ·rw[h.at' (i:=0) (by omega)] at h1;cases h1
   ·rw[h.at' (i:=0) (by omega)] at h1;cases h1;rcases h2 with ⟨h3,_⟩|⟨_,⟨h3,_⟩|⟨_,h3,_⟩⟩
    ·exact h3 rfl
    ·revert h3;decide
    ·exact h3 (by decide)
 ·have AS:carL Z 1 p p'=[mv0]:=by unfold carL;rw[hp.at_,AC.at_,hm,hw];exact B3
  have E0:carA Z 1 p p' 0=mv0:=by unfold carA;rw[AS];rfl
  have Cw:(carL Z 1 p p').length=1:=by rw[AS];rfl
  have Ah:AllFit Z.av.en 1 2 1 (carA Z 1 p p'):=fun i hi=>by
   obtain rfl:i=0:=by omega
   rw[E0];exact⟨⟨by decide,by decide,by decide,by decide,⟨_,DP,by decide,by decide⟩,A1⟩,rfl⟩
  have AB:=h.at' (i:=0) (by omega);have Aw:=h.at' (i:=1) (by omega);have room:∀er,¬WhyM Z fr 8 0 1 2 1 (plB f 1).fac (carA Z 1 p p') er:=fun er hw=>by
   obtain⟨k,S',t',hk,_,h0,hw⟩:=hw;obtain rfl:k=0:=by omega
   obtain⟨rfl,rfl⟩:=h0 rfl;rw[Q1E] at hw;refine h.m.room [(1,0),(1,128)] [(1,0),(1,8)] (fun x s c hc=>?_) (fun x s hx=>?_) (o:=8) (by rw[Z6c];omega) (by simp) (Q6M f) (by simp;omega) hw
   ·rw[hE] at hc;unfold enR at hc;by_cases h1:x=1/\s=0
    ·obtain⟨rfl,rfl⟩:=h1;simp
    ·by_cases h2:x=1/\s=128
     ·obtain⟨rfl,rfl⟩:=h2;simp
     ·rw[if_neg (by omega),if_neg (by omega)] at hc;cases hc
   ·simp at hx ⊢;omega
  rw[Cw] at hR;rcases hR with ⟨er,w5,h0,rfl,_,Ne⟩|⟨rfl,a,Z1,_,B9,Dr,sm,AW,ok1,ok2,st⟩
  ·exact(h0 (Ne.fine AB rfl Aw rfl Ah room).1).elim
  ·have h1:CaI Z1 L (M+1) f fr:=h.same sm ok1 (by rw[AW,h.nx];rfl);have An:=h.kept sm (i:=2) (by omega) rfl;have F5:=h.kept sm (i:=3) (by omega) rfl;rw[hp.at_,AC.at_,An.1,hm] at ok2 st;have GA:=h1.room (i:=3) (by omega) rfl;have CS:=h1.room (i:=2) (by omega) rfl;have M7:=Z3Q h.m.ok.core.inv.mem.pool.bytes (f 2).1;rw[hm] at M7;have Io:(⟨lb,ws,[]⟩:Msg).May:=⟨I1,M7.2,by simp,M7.1,by simp⟩
   have Bx:=h.two (i:=2) (j:=3) (by omega) (by omega) (by omega);have ek2:costK (Q0w 2)=256:=rfl;have ek3:costK (Q0w 3)=256:=rfl;rw[ek2,ek3] at Bx;refine⟨rfl,_,h1.poke ok2,sm.s,st,fun u s=>?_,Z3E Io GA.1 GA.2,?_,?_⟩
   ·show Z1.av.en u s=_;have e0:=(Z8l (by decide:(1:Nat)≠2) B9)
    have ea:a=Z1.av:=by
     generalize Z1.av=az at Dr;cases Dr with
     | skip k a' h2 hg=>cases h2;rfl
     | lift k a' a'' h2 hg _=>rw[E0] at hg;cases hg
    rw[<- ea];unfold setA;by_cases Mq:u=2/\s=8
    ·obtain⟨rfl,rfl⟩:=Mq;obtain⟨c,q1,q2⟩:=e0.2 0 (by omega);rw[E0] at q1 q2;have Np:Z.av.en 1 0=some c:=q1;rw[DP] at Np;cases Np;rw[if_pos ⟨rfl,rfl⟩];exact q2
    ·rw[if_neg Mq,e0.1 u s fun e j hj=>?_,hE];obtain rfl:j=0:=by omega
     rw[E0];intro hs;exact Mq ⟨e,hs⟩
   ·show msgV (putM Z1.S.P.a.mem (f 3).1 ⟨lb,ws,[]⟩) (f 2).1=_;rw[(Z3F Io GA.1 GA.2 CS.1 CS.2 (by omega)).1,An.1,hm]
   ·show winV (putM Z1.S.P.a.mem (f 3).1 ⟨lb,ws,[]⟩) (f 3).1=_;rw[Z7X Io GA.1 GA.2,F5.2,hw]
theorem Q5x(h:CaI Z L M f fr){ws:List Nat}{lb0 lb:Nat}{c1 c2:Nat×Nat}(hm:msgV Z.S.P.a.mem (f 2).1=⟨lb0,ws,[it0]⟩)(hw:winV Z.S.P.a.mem (f 3).1=wi0)(DP:Z.av.en 1 0=some c1)(Dv:c1.2&&&4≠0/\c1.2&&&3≠0)(CB:Z.av.en 2 8=some c2)(hs:Sep w Z.hl)(R:Q6P Z fr 8 0 M 1 ((f 2).1:Int) 2 ((f 3).1:Int) lb w r w') :
  r=.returned (.int .i64 7)/\CaN Z L M f fr (fun _=>True) w w':=by
 have Au:=h.blk (t:=1) (.inl rfl) (i:=2) (by omega) rfl;have Ae:=h.blk (t:=2) (.inr rfl) (i:=3) (by omega) rfl;have B3:=Q9I h DP;have AB:=h.at' (i:=0) (by omega);have Aw:=h.at' (i:=1) (by omega);rcases R with ⟨er,h0,rfl,_,hc⟩|⟨p,p',hp,AC,Ey,hR⟩
 ·exfalso;rcases hc with e|⟨_,e⟩|⟨p,p',hp,AC,i,hi,he⟩
  ·rw[Au] at e;exact h0 e.symm
  ·rw[Ae] at e;exact h0 e.symm
  ·rw[hp.at_,hm] at hi;rw[AC.at_,hw] at he;rw[J1q.1 hi] at he;rcases he with ⟨h1,_⟩|⟨q,h1,h2⟩
   ·rw[AB] at h1;cases h1
   ·rw[AB] at h1;cases h1;rcases h2 with ⟨h3,_⟩|⟨_,⟨h3,_⟩|⟨_,h3,_⟩⟩
    ·exact h3 rfl
    ·revert h3;decide
    ·exact h3 (by decide)
 ·have AS:carL Z 1 p p'=[mv0]:=by unfold carL;rw[hp.at_,AC.at_,hm,hw];exact B3
  have E0:carA Z 1 p p' 0=mv0:=by unfold carA;rw[AS];rfl
  have Cw:(carL Z 1 p p').length=1:=by rw[AS];rfl
  have Aq:¬AllFit Z.av.en 1 2 1 (carA Z 1 p p'):=fun hf=>by
   have h1:=(hf 0 (by omega)).1;rw[E0] at h1;have h2:Z.av.en 2 8=none:=h1.free;rw[CB] at h2;cases h2
  rw[Cw] at hR;rcases hR with ⟨er,w5,h0,rfl,Ay,Ne⟩|⟨_,a,Z1,Ah,_⟩
  ·rcases Ne with ⟨_,hE,own,hB⟩|⟨_,_,_,_,_,_,Ah,_⟩
   ·have BW:er=7:=by
     rcases hE with ⟨h1,_⟩|⟨q1,h1,h2⟩
     ·rw[AB] at h1;cases h1
     ·rw[AB] at h1;cases h1;rcases h2 with ⟨h3,_⟩|⟨_,⟨h3,_⟩|⟨q2,h3,h4⟩⟩
      ·exact(h3 rfl).elim
      ·rw[Aw] at h3;cases h3
      ·rw[Aw] at h3;cases h3;rcases h4 with ⟨h5,_⟩|⟨_,i,hi,_,hv⟩
       ·exact(h5 rfl).elim
       ·obtain rfl:i=0:=by omega
        have a1:=Z5N (N:=Z.F.N) (tb:=Z.tb) AB rfl (z:=0) (by decide);have a2:=Z5N (N:=Z.F.N) (tb:=Z.tb) Aw rfl (z:=8) (by decide);have a1':((Z.tb (1%256)).at' 0).map Ent.c=some c1:=a1.trans DP;have a2':((Z.tb (2%256)).at' 8).map Ent.c=some c2:=a2.trans CB;unfold fitV at hv;rw[E0] at hv;unfold Q8z at hv;rw[if_neg (by decide),if_neg (by decide)] at hv;have Kf:(match (Z.tb (1%256)).at' 0 with
         | none=>(6:Int)
         | some e=>if e.r&&&4=0∨e.r&&&3=0 then 9 else if ((Z.tb (2%256)).at' 8).isSome=true∨Q0U (carA Z 1 p p') 0 mv0=true then 7 else 0)=er:=hv
        cases hx:(Z.tb (1%256)).at' 0 with
        | none=>rw[hx] at a1';cases a1'
        | some e =>
         cases hy:(Z.tb (2%256)).at' 8 with
         | none=>rw[hy] at a2';cases a2'
         | some e2 =>
          rw[hx] at a1' Kf;rw[hy] at Kf;have KQ:e.c=c1:=J0g a1';have hr:e.r=c1.2:=by rw[<- KQ];rfl
          simp only at Kf;rw[hr,if_neg (by omega),if_pos (.inl rfl)] at Kf;exact Kf.symm
    subst BW;obtain⟨Z',ok,Dq,sz,st⟩:=hB.ok h.m.ok;exact⟨rfl,Z',h.same sz.toSameN ok (by rw[sz.nx];exact h.nx),sz.s,(hs.grown Ay).trans st,trivial⟩
   ·exact(Aq Ah).elim
  ·exact(Aq Ah).elim
end
def CaS(L:Int)(c k ge:Nat)(M:Int)(f:Nat->Nat×Nat)(C:SP->Prop)(B:List (Nat×List Value))(w0 wr:World):Prop:=∃(Z:SP) (fr:List Nat),CaI Z L M f fr/\C Z/\CarC Z c k wr/\AsideV Z.hl (endC (endL f)) (some ⟨ge,0,none⟩) wr/\Step [] Z.hl w0 wr/\∀q∈B,AsideV Z.hl q.2 (some ⟨q.1,0,none⟩) wr
def C0(Z:SP):Prop:=∀h t,Z.av.en h t=enR 2 h t
section
variable {L:Int} {c k ge:Nat} {M M':Int} {f:Nat->Nat×Nat} {C C':SP->Prop} {B:List (Nat×List Value)} {w0 wr w':World}
theorem CaS.begin(h:CarB L c k ge f w0 wr):CaS L c k ge 2 f C0 [] w0 wr:=by
 obtain⟨Z,fr,m,hE,AW,hc,he,st⟩:=h;exact⟨Z,fr,⟨m,AW.1⟩,hE,hc,he,st,fun q hq=>by cases hq⟩
theorem CaS.grown(h:CaS L c k ge M f C B w0 wr)(hb:Below wr.heap.size wr w'):CaS L c k ge M f C B w0 w':=by
 obtain⟨Z,fr,i,hC,hc,he,st,hB⟩:=h;have s1:=st.sep.grown hb;exact⟨Z,fr,i,hC,hc.step rfl s1,AsideV.step he s1,st.trans s1,fun q hq=>AsideV.step (hB q hq) s1⟩
theorem CaS.below(h:CaS L c k ge M f C B w0 wr):Below w0.heap.size w0 wr:=by
 obtain⟨Z,fr,i,hC,hc,he,st,hB⟩:=h;exact st.fresh
theorem CaS.mono(h:CaS L c k ge M f C B w0 wr)(hi:∀Z,C Z->C' Z):CaS L c k ge M f C' B w0 wr:=by
 obtain⟨Z,fr,i,hC,r⟩:=h;exact⟨Z,fr,i,hi Z hC,r⟩
theorem CaS.sub{B':List (Nat×List Value)}(h:CaS L c k ge M f C B w0 wr)(hs:∀q∈B',q∈B):CaS L c k ge M f C B' w0 wr:=by
 obtain⟨Z,fr,i,hC,hc,he,st,hB⟩:=h;exact⟨Z,fr,i,hC,hc,he,st,fun q hq=>hB q (hs q hq)⟩
theorem CaS.box(h:CaS L c k ge M f C B w0 wr)(T:TypeId)(cs:List Value):CaS L c k ge M f C ((wr.heap.size,cs)::B) w0 (wr.alloc (.cells cs.toArray T)):=by
 obtain⟨Z,fr,i,hC,hc,he,st,hB⟩:=h;have hb:Below wr.heap.size wr (wr.alloc (.cells cs.toArray T)):=(Below.refl _ _).alloc (Z9s _) _;have s1:=st.sep.grown hb;refine⟨Z,fr,i,hC,hc.step rfl s1,AsideV.step he s1,st.trans s1,fun q hq=>?_⟩;rcases Z9x.1 hq with rfl|hq
 ·exact fun j v hj=>⟨_,rfl,fun hk=>by have:=st.sep.lt hk;dsimp only at this;omega,by simp,(Cells.new wr T cs).cell j v hj⟩
 ·exact AsideV.step (hB q hq) s1
theorem CaS.cells(h:CaS L c k ge M f C B w0 wr)(j:Nat)(v:Value)(hj:(endC (endL f))[j]?=some v):wr.cell? ⟨ge,j,none⟩=some v:=by
 obtain⟨Z,fr,i,hC,hc,he,st,hB⟩:=h;obtain⟨g,e,_,_,z⟩:=he j v hj;cases e;exact z
theorem CaS.bx(h:CaS L c k ge M f C B w0 wr){q:Nat×List Value}(hq:q∈B)(j:Nat)(v:Value)(hj:q.2[j]?=some v):wr.cell? ⟨q.1,j,none⟩=some v:=by
 obtain⟨Z,fr,i,hC,hc,he,st,hB⟩:=h;obtain⟨g,e,_,_,z⟩:=hB q hq j v hj;cases e;exact z
theorem CaS.ends(h:CaS L c k ge M f C B w0 wr):(wr.cell? ⟨ge,0,none⟩=some (.int .u32 1)/\wr.cell? ⟨ge,1,none⟩=some (.int .i64 ((f 2).1:Int)))/\(wr.cell? ⟨ge,2,none⟩=some (.int .u32 2)/\wr.cell? ⟨ge,3,none⟩=some (.int .i64 ((f 3).1:Int))) /\
  (wr.cell? ⟨ge,6,none⟩=some (.int .u32 0)/\wr.cell? ⟨ge,7,none⟩=some (.int .i64 ((f 2).1:Int)))/\wr.cell? ⟨ge,8,none⟩=some (.int .u32 1)/\wr.cell? ⟨ge,9,none⟩=some (.int .i64 (((f 2).1+8:Nat):Int)):=
 ⟨⟨h.cells 0 _ rfl,h.cells 1 _ rfl⟩,⟨h.cells 2 _ rfl,h.cells 3 _ rfl⟩,⟨h.cells 6 _ rfl,h.cells 7 _ rfl⟩,h.cells 8 _ rfl,h.cells 9 _ rfl⟩
theorem CaS.go{Z:SP}{fr:List Nat}(i:CaI Z L M f fr)(hc:CarC Z c k wr)(he:AsideV Z.hl (endC (endL f)) (some ⟨ge,0,none⟩) wr)(st:Step [] Z.hl w0 wr)(hB:∀q∈B,AsideV Z.hl q.2 (some ⟨q.1,0,none⟩) wr)(n:CaN Z L M' f fr C' wr w'):CaS L c k ge M' f C' B w0 w':=by
 obtain⟨Z',i',hs,s1,Qe⟩:=n;exact⟨Z',fr,i',Qe,hc.step hs s1,AsideV.step he s1,st.trans s1,fun q hq=>AsideV.step (hB q hq) s1⟩
def ms0:Msg:=⟨0,[5,6],[it0]⟩
def C1(f:Nat->Nat×Nat)(Z:SP):Prop:=C0 Z/\msgV Z.S.P.a.mem (f 2).1=ms0
def C2(f:Nat->Nat×Nat)(Z:SP):Prop:=C0 Z/\msgV Z.S.P.a.mem (f 2).1=ms0/\winV Z.S.P.a.mem (f 3).1=wi0
def C3(f:Nat->Nat×Nat)(Z:SP):Prop:=(∀h t,Z.av.en h t=setA (enR 2) 2 8 (some (6,3)) h t)/\msgV Z.S.P.a.mem (f 3).1=⟨9,[5,6],[]⟩/\msgV Z.S.P.a.mem (f 2).1=ms0/\winV Z.S.P.a.mem (f 3).1=wi0
def C4(f:Nat->Nat×Nat)(Z:SP):Prop:=(∀h t,Z.av.en h t=setA (enR 2) 2 8 (some (6,3)) h t)/\msgV Z.S.P.a.mem (f 2).1=ms0/\winV Z.S.P.a.mem (f 3).1=wi0/\Q0j Z.S.P.a.mem ((f 6).1+1016)=7
theorem Z8m(h:CaS L c k ge M f C0 B w0 wr){wa ia:Option Addr}(hu:IsU wr wa [5,6])(hi:IsI wr ia [it0])(wc ic:Nat) :
  Calls prog 107 #[.pointer (some ⟨c,0,none⟩),.agg #[.int .u32 1,.int .i64 ((f 2).1:Int)],.agg #[.int .u64 0,.slice wa 2 wc,.slice ia 1 ic]] wr fun r w'=>r=.returned (.int .i64 0)/\CaS L c k ge M f (C1 f) B w0 w':=by
 obtain⟨Z,fr,i,hC,hc,he,st,hB⟩:=h;have hr:=i.room (i:=2) (by omega) rfl;have Cr:=Q0f i.m.ok.core.inv.mem.pool;refine(Q7S i.m.ok st.sep hc (t:=1) (by omega) ((f 2).1:Int) (by omega) ms0 (by decide) (by decide) wc ic hu hi (by decide) (by decide)).mono ?_;intro r w' R;obtain⟨rfl,hm,n⟩:=Q8J i (.inl rfl) (by omega) rfl (by unfold PutE;decide) R;refine⟨rfl,CaS.go i hc he st hB ?_⟩;obtain⟨Z',i',hs,s1,Dq,A2⟩:=n;refine⟨Z',i',hs,s1,fun h t=>by rw[Dq];exact hC h t,?_⟩;rw[A2];exact Z3E hm hr.1 hr.2
theorem Z6p(h:CaS L c k ge M f (C1 f) B w0 wr) :
  Calls prog 108 #[.pointer (some ⟨c,0,none⟩),.agg #[.int .u32 2,.int .i64 ((f 3).1:Int)],.agg #[.int .i64 8,.int .i64 1]] wr fun r w'=>r=.returned (.int .i64 0)/\CaS L c k ge M f (C2 f) B w0 w':=by
 obtain⟨Z,fr,i,hC,hc,he,st,hB⟩:=h;have hr:=i.room (i:=3) (by omega) rfl;have CS:=i.room (i:=2) (by omega) rfl;have Cr:=Q0f i.m.ok.core.inv.mem.pool;have Bx:=i.two (i:=2) (j:=3) (by omega) (by omega) (by omega);have ek2:costK (Q0w 2)=256:=rfl;have ek3:costK (Q0w 3)=256:=rfl;rw[ek2,ek3] at Bx;refine(Z1f i.m.ok st.sep hc (t:=2) (by omega) ((f 3).1:Int) (by omega) wi0).mono ?_;intro r w' R;obtain⟨rfl,n⟩:=Q7T i (.inr rfl) (by omega) rfl (by decide) R;refine⟨rfl,CaS.go i hc he st hB ?_⟩;obtain⟨Z',i',hs,s1,Dq,A2⟩:=n;refine⟨Z',i',hs,s1,fun h t=>by rw[Dq];exact hC.1 h t,?_,?_⟩
 ·rw[A2,(Z0Z (by decide) hr.1 hr.2 CS.1 CS.2 (by omega)).1];exact hC.2
 ·rw[A2];exact Z5Z (by decide) hr.1 hr.2
theorem Z3X(h:CaS L c k ge M f (C2 f) B w0 wr)(hL:4500<=L)(hM:M+256<1099511627776) :
  Calls prog 54 #[.pointer (some ⟨c,0,none⟩),.agg #[.int .u32 1,.int .i64 ((f 2).1:Int)],.agg #[.int .u32 2,.int .i64 ((f 3).1:Int)],.int .u64 9] wr fun r w'=>r=.returned (.int .i64 0)/\CaS L c k ge (M+1) f (C3 f) B w0 w':=by
 obtain⟨Z,fr,i,hC,hc,he,st,hB⟩:=h;have hr:=i.room (i:=3) (by omega) rfl;have CS:=i.room (i:=2) (by omega) rfl;have Cr:=Q0f i.m.ok.core.inv.mem.pool;refine(Q5t i.m.ok st.sep hM hc (tf:=1) (tt:=2) (by omega) (by omega) ((f 2).1:Int) ((f 3).1:Int) (by omega) (by omega) (lb:=9) (by omega)).mono ?_;intro r w' R;obtain⟨rfl,n⟩:=Q6Q i hL (by decide) hC.2.1 hC.2.2 hC.1 R;refine⟨rfl,CaS.go i hc he st hB ?_⟩;obtain⟨Z',i',hs,s1,q1,q2,q3,q4⟩:=n;exact⟨Z',i',hs,s1,q1,q2,q3,q4⟩
theorem Z1h(h:CaS L c k ge M f (C4 f) B w0 wr)(hM:M+256<1099511627776) :
  Calls prog 54 #[.pointer (some ⟨c,0,none⟩),.agg #[.int .u32 1,.int .i64 ((f 2).1:Int)],.agg #[.int .u32 2,.int .i64 ((f 3).1:Int)],.int .u64 9] wr fun r w'=>r=.returned (.int .i64 7)/\CaS L c k ge M f (fun _=>True) B w0 w':=by
 obtain⟨Z,fr,i,hC,hc,he,st,hB⟩:=h;have hr:=i.room (i:=3) (by omega) rfl;have CS:=i.room (i:=2) (by omega) rfl;have Cr:=Q0f i.m.ok.core.inv.mem.pool;refine(Q5t i.m.ok st.sep hM hc (tf:=1) (tt:=2) (by omega) (by omega) ((f 2).1:Int) ((f 3).1:Int) (by omega) (by omega) (lb:=9) (by omega)).mono ?_;intro r w' R;obtain⟨rfl,n⟩:=Q5x i hC.2.1 hC.2.2.1 (c1:=(6,15)) (c2:=(6,3)) (by rw[hC.1];rfl) (by decide) (by rw[hC.1];rfl) st.sep R;exact⟨rfl,CaS.go i hc he st hB n⟩
theorem Q9J{t:Nat}{a:Nat}{e:Int}(D3:e≠0)(ht:t<2)(ha:a<=4294967296)(h:CaS L c k ge M f C B w0 wr)(hb:∀Z fr,CaI Z L M f fr->blkE Z t (a:Int)=e) :
  Calls prog 107 #[.pointer (some ⟨c,0,none⟩),.agg #[.int .u32 t,.int .i64 a],.agg #[.int .u64 0,.slice none 0 0,.slice none 0 0]] wr fun r w'=>r=.returned (.int .i64 e)/\CaS L c k ge M f C B w0 w':=by
 obtain⟨Z,fr,i,hC,hc,he,st,hB⟩:=h;refine(Q7S i.m.ok st.sep hc (t:=t) (by omega) (a:Int) (by omega) Msg.none (by decide) (by decide) 0 0 (fun j y hj=>by simp[Msg.none] at hj) (fun j y hj=>by simp[Msg.none] at hj) (by decide) (by decide)).mono ?_;intro r w' R;have IK:=hb Z fr i;rcases R with ⟨_,rfl,F8⟩|⟨p,hp,_⟩
 ·rw[IK];exact⟨rfl,CaS.grown ⟨Z,fr,i,hC,hc,he,st,hB⟩ F8⟩
 ·exact absurd (IK.symm.trans hp.1) D3
theorem Z8n(h:CaS L c k ge M f (C3 f) B w0 wr) :
  Calls prog 52 #[.pointer (some ⟨c,0,none⟩),.agg #[.int .u32 2,.int .i64 ((f 3).1:Int)]] wr fun r w'=>∃(g cap:Nat) (xa:Option Addr) (xc:Nat),r=.returned (.tuple #[.agg #[.int .u64 9,.slice (some ⟨g,0,none⟩) 2 cap,.slice xa 0 xc],.int .i64 0])/\CaS L c k ge M f (C3 f) ((g,[.int .u64 5,.int .u64 6])::B) w0 w':=by
 obtain⟨Z,fr,i,hC,hc,he,st,hB⟩:=h;have hr:=i.room (i:=3) (by omega) rfl;have Cr:=Q0f i.m.ok.core.inv.mem.pool;refine(Z3U i.m.ok st.sep hc (t:=2) (by omega) ((f 3).1:Int) (by omega)).mono ?_;intro r w' R;have hb:=i.blk (t:=2) (.inr rfl) (i:=3) (by omega) rfl;rcases R with ⟨h0,_⟩|⟨p,v,hp,rfl,hm⟩
 ·exact(h0 hb).elim
 ·rw[hp.at_,hC.2.1] at hm;obtain⟨rw_,ri,hv,o1,o2,s1⟩:=hm;cases rw_ with
  | none=>cases o1
  | some q =>
   obtain⟨g,cap⟩:=q;obtain⟨xa,xc,ex⟩:∃xa xc,lvOf ri (⟨9,[5,6],[]⟩:Msg).its.length=.slice xa 0 xc:=by
    cases ri with
    | none=>exact⟨_,_,rfl⟩
    | some q=>exact⟨_,_,rfl⟩
   have ev:=Ending.returned.inj hv;rw[ex] at ev;subst ev;have s2:=CaS.grown ⟨Z,fr,i,hC,hc,he,st,hB⟩ s1.fresh;obtain⟨Z2,fr2,i2,JR,Br,CB,st2,Pr⟩:=CaS.grown (B:=B) ⟨Z,fr,i,hC,hc,he,st,hB⟩ s1.fresh;have sg:=st.sep.grown s1.fresh;refine⟨g,cap,xa,xc,rfl,Z,fr,i,hC,hc.step rfl sg,AsideV.step he sg,st.trans sg,fun q hq=>?_⟩;rcases Z9x.1 hq with rfl|hq
   ·intro j v hj;have hg:g∈keys (rowH (some (g,cap)) 83 1 ((⟨9,[5,6],[]⟩:Msg).ws.map encU)++rowH ri 63 5 ((⟨9,[5,6],[]⟩:Msg).its.flatMap It.cells)):=by simp[rowH]
    refine⟨g,rfl,fun hk=>?_,s1.sep.lt hg,Q0A s1.sep.left j v hj⟩;rcases s1.new g hg with h1|h1
    ·cases h1
    ·have:=st.sep.lt hk;omega
   ·exact AsideV.step (hB q hq) sg
theorem Z6q(h:CaS L c k ge M f (C3 f) B w0 wr):Calls prog 44 #[.pointer (some ⟨c,0,none⟩)] wr fun r w1=>∃s,r=.returned (.pointer (some ⟨s,0,none⟩)) /\
  Calls prog 37 #[.pointer (some ⟨s,0,none⟩),.int .u32 2,.int .i64 8] w1 fun r w'=>r=.returned (.tuple #[.agg #[.int .u32 6,.int .i64 3],.int .i64 0])/\CaS L c k ge M f (C3 f) B w0 w':=by
 obtain⟨Z,fr,i,hC,hc,he,st,hB⟩:=h;refine(Q4l hc).mono ?_;rintro r w1⟨rfl,rfl⟩;refine⟨Z.s,rfl,(Q7G st.sep i.m.ok (x:=2) (by omega) 8).mono ?_⟩;rintro r w'⟨rfl,hb⟩;rw[Z5U (i.at' (i:=1) (by omega)) rfl (by decide),hC.1];exact⟨rfl,CaS.grown ⟨Z,fr,i,hC,hc,he,st,hB⟩ hb⟩
end
theorem CaI.frm{Z:SP}{L M:Int}{f:Nat->Nat×Nat}{fr:List Nat}(h:CaI Z L M f fr){t:Nat}(ht:t=1∨t=2){z i rr:Nat}(hz:z<256)(hi:i<7)(he:Z.av.en t z=some (i+1,rr))(right:Nat)(off n:Int) :
  frmE Z t (z:Int) right off n=frE (if Q0w i=8 then 0 else 10) ((rr&&&right:Nat):Int) off n/\∀p g,FrmAt Z t (z:Int) right off n p g->p=plB f i:=by
 have AR:(Q0k Z.S.l Z.tb t z).map Ent.c=some (i+1,rr):=he;cases hx:Q0k Z.S.l Z.tb t z with
 | none=>rw[hx] at AR;cases AR
 | some e =>
  rw[hx] at AR;have KQ:e.c=(i+1,rr):=J0g AR;have eh:e.h=i+1:=congrArg Prod.fst KQ;have er:e.r=rr:=congrArg Prod.snd KQ;have hp:pget Z.S.l 1 t=some (plB f (t-1)):=by
   have:=h.at' (i:=t-1) (by omega)
   rwa [show t-1+1=t by omega] at this
  have An:(plB f (t-1)).kind=2:=by rcases ht with rfl|rfl <;> rfl
  constructor
  ·unfold frmE;rw[hp];simp only;rw[if_pos An,if_pos (by omega),J0o,hx];simp only;rw[eh,h.at' hi,er];rfl
  ·intro p g ha;obtain⟨e2,h1,h2,_⟩:=ha.ent;rw[J0o,hx] at h1;cases h1;rw[eh,h.at' hi] at h2;exact(J0g h2).symm
theorem Z6J{q off n:Int}(hq:q≠0)(h:0<=off/\off<=1024/\n<=1024-off/\off%8=0):frE 0 q off n=0:=by
 unfold frE;rw[if_neg (by decide),if_neg hq,if_neg (by omega),if_neg (by omega)]
section
variable {Z:SP} {L:Int} {c k ge:Nat} {M:Int} {f:Nat->Nat×Nat} {fr:List Nat} {w w':World} {r:Ending}
theorem Q3O(h:CaI Z L M f fr){t:Nat}(ht:t=1∨t=2){z rr:Nat}(hz:z<256)(he:Z.av.en t z=some (7,rr))(hr:rr&&&2≠0){o:Nat}{ws:List Nat}(ho:o%8=0)(hl:o+8*ws.length<=1024)(R:StoR Z fr 8 0 M t (z:Int) (o:Int) ws w r w') :
  r=.returned (.int .i64 0)/\CaN Z L M f fr (fun Z'=>Z'=Z.stored (plB f 6) o ws) w w':=by
 obtain⟨q1,q2⟩:=h.frm ht hz (i:=6) (by omega) he 2 (o:Int) (8*(ws.length:Int));have h0:frmE Z t (z:Int) 2 (o:Int) (8*(ws.length:Int))=0:=by
  rw[q1,if_pos (show Q0w 6=8 from rfl)];exact Z6J (by omega) ⟨by omega,by omega,by omega,by omega⟩
 rcases R with ⟨h1,_⟩|⟨_,p,g,ha,rfl,ok,st⟩
 ·exact(h1 h0).elim
 ·have hp:=q2 p g ha;have hg:g=o:=by have:=ha.off;omega
  subst hp;subst hg;exact⟨rfl,_,h.poke ok,rfl,st,rfl⟩
theorem Q4m(h:CaI Z L M f fr){t:Nat}(ht:t=1∨t=2){z rr:Nat}(hz:z<256)(he:Z.av.en t z=some (7,rr))(hr:rr&&&1≠0){o:Nat}(ho:o%8=0)(hl:o+8<=1024)(R:LodR Z t (z:Int) (o:Int) w r w') :
  r=.returned (.tuple #[.int .u64 (Q0j Z.S.P.a.mem ((f 6).1+o):Nat),.int .i64 0])/\Below w.heap.size w w':=by
 obtain⟨q1,q2⟩:=h.frm ht hz (i:=6) (by omega) he 1 (o:Int) 8;have h0:frmE Z t (z:Int) 1 (o:Int) 8=0:=by
  rw[q1,if_pos (show Q0w 6=8 from rfl)];exact Z6J (by omega) ⟨by omega,by omega,by omega,by omega⟩
 obtain⟨hb,hc⟩:=R;rcases hc with ⟨h1,_⟩|⟨_,p,g,ha,rfl⟩
 ·exact(h1 h0).elim
 ·have hp:=q2 p g ha;have hg:g=o:=by have:=ha.off;omega
  subst hp;subst hg;exact⟨rfl,hb⟩
theorem Q2L{E:Int}(hE:E≠0){t:Nat}{z off:Int}(h0:frmE Z t z 1 off 8=E)(R:LodR Z t z off w r w') :
  r=.returned (.tuple #[.int .u64 0,.int .i64 E])/\Below w.heap.size w w':=by
 obtain⟨hb,hc⟩:=R;rcases hc with ⟨_,rfl⟩|⟨h1,_⟩
 ·rw[h0];exact⟨rfl,hb⟩
 ·rw[h0] at h1;exact(hE h1).elim
theorem CaI.keptS(h:CaI Z L M f fr){o:Nat}{ws:List Nat}(hl:o+8*ws.length<=1024){i:Nat}(hi:i<6)(hk:Q0w i=3):msgV (Z.stored (plB f 6) o ws).S.P.a.mem (f i).1=msgV Z.S.P.a.mem (f i).1/\winV (Z.stored (plB f 6) o ws).S.P.a.mem (f i).1=winV Z.S.P.a.mem (f i).1:=by
 have CZ:=Q8D h.m.ok (h.idx (i:=6) (by omega)) (h.idx (i:=i) (by omega)) (by omega) rfl rfl (.inr rfl) (o:=o) (ws:=ws) hl;have e:costK (plB f i).kind=256:=by show costK (Q0w i)=256;rw[hk];rfl
 rw[e] at CZ;exact Q6d CZ
theorem CaI.frame(h:CaI Z L M f fr):(f 6).1+1024<=Z.S.P.a.mem.length/\(f 6).1%8=0:=Q1c h.m.ok.core (h.mem (i:=6) (by omega)).1 (h.mem (i:=6) (by omega)).2 (.inr rfl)
end
section
variable {L:Int} {c k ge:Nat} {M M':Int} {f:Nat->Nat×Nat} {C C':SP->Prop} {B:List (Nat×List Value)} {w0 wr w':World}
theorem Z6K(h:CaS L c k ge M f C B w0 wr):(f 2).1<=1073741824:=by
 obtain⟨Z,fr,i,_⟩:=h;have h1:=i.room (i:=2) (by omega) rfl;have h2:=Q0f i.m.ok.core.inv.mem.pool;omega
theorem Z3Y(h:CaS L c k ge M f (C3 f) B w0 wr){wa:Option Addr}(cap:Nat)(hA:∀H:HL,Step [] H w0 wr->(∀q∈B,AsideV H q.2 (some ⟨q.1,0,none⟩) wr)->AsideU H [7] wa wr) :
  Calls prog 45 #[.pointer (some ⟨c,0,none⟩),.int .u32 1,.int .i64 128,.int .i64 1016,.slice wa 1 cap] wr fun r w'=>r=.returned (.int .i64 0)/\CaS L c k ge M f (C4 f) B w0 w':=by
 obtain⟨Z,fr,i,hC,hc,he,st,hB⟩:=h;refine(Q3r i.m.ok st.sep hc (t:=1) (by omega) 128 1016 (by decide) cap (hA _ st hB) (by decide) (by decide)).mono ?_;intro r w' R;obtain⟨rfl,n⟩:=Q3O i (.inl rfl) (z:=128) (by omega) (rr:=15) (by rw[hC.1];rfl) (by decide) (o:=1016) (by decide) (by decide) R;refine⟨rfl,CaS.go i hc he st hB ?_⟩;obtain⟨Z',i',hs,s1,rfl⟩:=n;refine⟨_,i',hs,s1,hC.1,?_,?_,?_⟩
 ·rw[(i.keptS (o:=1016) (ws:=[7]) (by decide) (i:=2) (by omega) rfl).1];exact hC.2.2.1
 ·rw[(i.keptS (o:=1016) (ws:=[7]) (by decide) (i:=3) (by omega) rfl).2];exact hC.2.2.2
 ·have hf:=i.frame;show Q0j (put_ Z.S.P.a.mem ((f 6).1+1016) ([7].flatMap Q0c)) ((f 6).1+1016)=7;rw[Q2I _ _ _ (by simp;omega) (by decide) _ (by omega) (by omega) (by omega),if_pos (by simp)];rw[J2y];rfl
theorem Q6R(h:CaS L c k ge M f (C4 f) B w0 wr)(z off:Int)(x e:Nat)(hx:(z=128/\off=1016/\x=7/\e=0)∨(z=128/\off=1017/\x=0/\e=2)∨(z=0/\off=0/\x=0/\e=10)) :
  Calls prog 46 #[.pointer (some ⟨c,0,none⟩),.int .u32 1,.int .i64 z,.int .i64 off] wr fun r w'=>r=.returned (.tuple #[.int .u64 x,.int .i64 e])/\CaS L c k ge M f (C4 f) B w0 w':=by
 obtain⟨Z,fr,i,hC,hc,he,st,hB⟩:=h;refine(Q6j i.m.ok st.sep hc (t:=1) (by omega) z off (by rcases hx with ⟨_,rfl,_⟩|⟨_,rfl,_⟩|⟨_,rfl,_⟩ <;> decide)).mono ?_;intro r w' R;rcases hx with ⟨rfl,rfl,rfl,rfl⟩|⟨rfl,rfl,rfl,rfl⟩|⟨rfl,rfl,rfl,rfl⟩
 ·obtain⟨rfl,hb⟩:=Q4m i (.inl rfl) (z:=128) (by omega) (rr:=15) (by rw[hC.1];rfl) (by decide) (o:=1016) (by decide) (by decide) R;rw[hC.2.2.2];exact⟨rfl,CaS.grown ⟨Z,fr,i,hC,hc,he,st,hB⟩ hb⟩
 ·have q:=(i.frm (t:=1) (.inl rfl) (z:=128) (by omega) (i:=6) (by omega) (rr:=15) (by rw[hC.1];rfl) 1 1017 8).1;obtain⟨rfl,hb⟩:=Q2L (E:=2) (by decide) (q.trans (by decide)) R;exact⟨rfl,CaS.grown ⟨Z,fr,i,hC,hc,he,st,hB⟩ hb⟩
 ·have q:=(i.frm (t:=1) (.inl rfl) (z:=0) (by omega) (i:=5) (by omega) (rr:=15) (by rw[hC.1];rfl) 1 0 8).1;obtain⟨rfl,hb⟩:=Q2L (E:=10) (by decide) (q.trans (by decide)) R;exact⟨rfl,CaS.grown ⟨Z,fr,i,hC,hc,he,st,hB⟩ hb⟩
theorem Z6r(h:CaS L c k ge M f C B w0 wr):Calls prog 107 #[.pointer (some ⟨c,0,none⟩),.agg #[.int .u32 0,.int .i64 ((f 2).1:Int)],.agg #[.int .u64 0,.slice none 0 0,.slice none 0 0]] wr fun r w'=>r=.returned (.int .i64 10)/\CaS L c k ge M f C B w0 w':=
 Q9J (t:=0) (a:=(f 2).1) (e:=10) (by decide) (by decide) (by have:=Z6K h;omega) h (fun Z fr i=>i.blk0 _)
theorem Z6s(h:CaS L c k ge M f C B w0 wr):Calls prog 107 #[.pointer (some ⟨c,0,none⟩),.agg #[.int .u32 1,.int .i64 (((f 2).1+8:Nat):Int)],.agg #[.int .u64 0,.slice none 0 0,.slice none 0 0]] wr fun r w'=>r=.returned (.int .i64 1)/\CaS L c k ge M f C B w0 w':=
 Q9J (t:=1) (a:=(f 2).1+8) (e:=1) (by decide) (by decide) (by have:=Z6K h;omega) h (fun Z fr i=>i.blk8)
end
theorem Q8K(w:World)(a b:Option Addr)(ca cb:Nat)(xs ys:List Nat)(ha:IsU w a xs)(hb:IsU w b ys)(hl:xs.length<=65536)(Iq:ys.length<=65536) :
  Calls prog 120 #[.slice a xs.length ca,.slice b ys.length cb] w (Told w (.bool (decide (xs=ys)))):=by
 by_cases Ac:xs.length=ys.length
 ·have HX:=Q0a ha;have HY:=Q0a hb;have HL:Hid (xs.length=ys.length):=Ac;rw[<- Ac];clear ha hb Ac Iq;generalize hn:xs.length=n at hl;have HN:Hid (xs.length=n):=hn;clear hn;go_enter func120,ntmps120;go_wp2_with fail
  go_loopg [5] n (fun gk i wr=>∃k:Nat,k+gk=n/\i=.int .i64 k/\(∀j,j<k->xs[j]?=ys[j]?)/\Below w.heap.size w wr)
  case atStart=>exact⟨0,J1N _,rfl,by intro j hj;omega,Below.refl _ _⟩
  case round =>
   obtain⟨k,hk,rfl,Ar,Cp⟩:=hrel;have Hp:Hid (∀j,j<k->xs[j]?=ys[j]?):=Ar;clear Ar;by_cases Aa:k<n
   ·have ex:xs[k]?=some (xs[k]'(by rw[HN.out];exact Aa)):=J1A _;have ey:ys[k]?=some (ys[k]'(by rw[<- HL.out,HN.out];exact Aa)):=J1A _;generalize xs[k]'(by rw[HN.out];exact Aa)=x at ex;generalize ys[k]'(by rw[<- HL.out,HN.out];exact Aa)=y at ey;obtain⟨g1,o1,rfl,BN,NQ⟩:=HX.out k x ex;obtain⟨g2,o2,rfl,BA,Pg⟩:=HY.out k y ey;have cx:=(World.cell?_of_block (w:=w) (Cp.block g1 BN)).trans NQ;have cy:=(World.cell?_of_block (w:=w) (Cp.block g2 BA)).trans Pg;have O0:=Q0a ex;have Ot:=Q0a ey;have Cu:(k:Int)<(n:Int):=by omega
    have R9:(n:Int)<=65536:=by omega
    clear ex ey NQ Pg BN BA;by_cases FH:x=y
    ·subst FH;have Au:(((x:Nat):Int) != ((x:Nat):Int))=false:=by simp
     go_wp2
     go_region
     all_goals go_wp2
     all_goals go_roundg (n-(k+1))
     all_goals first
      | omega
      | (refine⟨k+1,by omega,by go_num,fun j hj=>?_,Cp.drew⟩;rcases Nat.lt_or_ge j k with e|e;exact Hp.out j e;(obtain rfl:j=k:=by omega);rw[O0.out,Ot.out])
    ·have Au:(((x:Nat):Int) != ((y:Nat):Int))=true:=by simp;omega
     have P3:=Q0a FH;clear FH
     go_wp2
     go_region
     all_goals go_wp2
     all_goals go_ret
     all_goals
      have Ab:¬(xs=ys):=by
       rintro rfl;have:=O0.out.symm.trans Ot.out;exact P3.out (J0g this)
      exact⟨by simp[Ab],Cp.drew⟩
   ·have MJ:Hid (xs=ys):=by
     refine J0R fun j=>?_
     by_cases hj:j<k
     ·exact Hp.out j hj
     ·rw[J0Y (by have:=HN.out;omega),J0Y (by have:=HN.out;have:=HL.out;omega)]
    go_wp2
    go_ret;exact⟨by simp[MJ.out],Cp⟩
 ·have Ab:¬(xs=ys):=fun e=>Ac (by rw[e])
  have Au:((xs.length:Int) != ys.length)=true:=by simp;omega
  clear ha hb;have HR:Hid (Told w (.bool (decide (xs=ys))) (.returned (.bool false)) w):=⟨by simp[Ab],Below.refl _ _⟩
  clear Ac Ab;generalize xs.length=n1 at *
  generalize ys.length=n2 at *
  go_enter func120,ntmps120;go_wp2_with fail;go_ret;exact HR.out
theorem Q8L(w:World)(l:Nat)(a b xa xb:Option Addr)(ca cb xc yc:Nat)(xs:List Nat)(ha:IsU w a xs)(hb:IsU w b xs)(hl:xs.length<=65536) :
  Calls prog 55 #[.agg #[.int .u64 l,.slice a xs.length ca,.slice xa 0 xc],.agg #[.int .u64 l,.slice b xs.length cb,.slice xb 0 yc]] w (Told w (.bool true)):=by
 have b1:Below w.heap.size w ((w.alloc (.cells #[.int .u64 l,.slice a xs.length ca,.slice xa 0 xc] 100)).alloc (.cells #[.int .u64 l,.slice b xs.length cb,.slice xb 0 yc] 100)):=((Below.refl _ _).alloc (Z9s _) _).alloc (by simp) _;have kw:=Q8K _ a b ca cb xs xs (ha.below b1) (hb.below b1) hl hl;rw[decide_eq_true rfl] at kw;have HB:=Q0a b1;have Ab:(((l:Nat):Int) != ((l:Nat):Int))=false:=by simp
 have c1:=(Cells.new w 100 [.int .u64 l,.slice a xs.length ca,.slice xa 0 xc]).alloc (.cells #[.int .u64 l,.slice b xs.length cb,.slice xb 0 yc] 100);have c2:=Cells.new (w.alloc (.cells #[.int .u64 l,.slice a xs.length ca,.slice xa 0 xc] 100)) 100 [.int .u64 l,.slice b xs.length cb,.slice xb 0 yc];have hz:(w.alloc (.cells #[.int .u64 l,.slice a xs.length ca,.slice xa 0 xc] 100)).heap.size=w.heap.size+1:=by simp
 rw[hz] at c2;have HC:Hid (∀V,Below ((w.alloc (.cells #[.int .u64 l,.slice a xs.length ca,.slice xa 0 xc] 100)).alloc (.cells #[.int .u64 l,.slice b xs.length cb,.slice xb 0 yc] 100)).heap.size ((w.alloc (.cells #[.int .u64 l,.slice a xs.length ca,.slice xa 0 xc] 100)).alloc (.cells #[.int .u64 l,.slice b xs.length cb,.slice xb 0 yc] 100)) V->V.cell? ⟨w.heap.size,2,none⟩=some (.slice xa 0 xc)/\V.cell? ⟨w.heap.size+1,2,none⟩=some (.slice xb 0 yc)/\Told w (.bool true) (.returned (.bool true)) V):=fun V hV=>⟨(c1.same (hV.block _ c1.lt)).cell 2 _ rfl,(c2.same (hV.block _ c2.lt)).cell 2 _ rfl,rfl,Q0b (Q0b hV)⟩
 generalize xs.length=n at *
 clear ha hb b1 c1 c2 hz;go_enter func55,ntmps55;go_wp2_with fail;refine kw.mono ?_;rintro r w2⟨rfl,Ae⟩;obtain⟨x2,y2,hq⟩:=HC.out w2 Ae;have HQ:=Q0a hq;clear Ae HC kw hq;go_wp2_with fail;obtain⟨wq,rfl⟩:∃wq:World,wq=w2:=⟨_,rfl⟩
 go_loopg [5] 0 (fun gk i wr=>gk=0/\i=.int .i64 0/\wr=wq)
 case atStart=>exact⟨rfl,rfl,rfl⟩
 case round =>
  obtain⟨rfl,rfl,rfl⟩:=hrel;go_wp2_with fail
  (try go_ret);exact HQ.out
theorem Z3Z(w:World)(x y:Nat):IsU (w.alloc (.cells #[.int .u64 x,.int .u64 y] 83)) (some ⟨w.heap.size,0,none⟩) [x,y]:=fun j v hj=>by
 have c:=Cells.new w 83 [.int .u64 x,.int .u64 y]
 match j,hj with
 | 0,hj=>cases hj;exact⟨_,0,rfl,by simp,c.cell 0 _ rfl⟩
 | 1,hj=>cases hj;exact⟨_,0,rfl,by simp,c.cell 1 _ rfl⟩
theorem Z8o(w:World)(i:It):IsI (w.alloc (.cells #[.int .i64 i.base,.int .i64 i.order,.int .i64 i.r,.int .i64 i.off,.bool i.g] 63)) (some ⟨w.heap.size,0,none⟩) [i]:=fun j v hj=>by
 have c:=Cells.new w 63 [.int .i64 i.base,.int .i64 i.order,.int .i64 i.r,.int .i64 i.off,.bool i.g]
 match j,hj with
 | 0,hj =>
  cases hj
  refine⟨_,0,rfl,by simp,fun t u hu=>?_⟩;have e:0+0*5+t=t:=by omega
  rw[e];exact c.cell t u hu
abbrev Al9S(f:Nat->Nat×Nat)(ge bk bm g gc:Nat)(xa:Option Addr)(xc:Nat)(V:World):Prop:=
 ((V.cell? ⟨ge,0,none⟩=some (.int .u32 1)/\V.cell? ⟨ge,1,none⟩=some (.int .i64 ((f 2).1:Int)))/\(V.cell? ⟨ge,2,none⟩=some (.int .u32 2)/\V.cell? ⟨ge,3,none⟩=some (.int .i64 ((f 3).1:Int))) /\
  (V.cell? ⟨ge,6,none⟩=some (.int .u32 0)/\V.cell? ⟨ge,7,none⟩=some (.int .i64 ((f 2).1:Int)))/\V.cell? ⟨ge,8,none⟩=some (.int .u32 1)/\V.cell? ⟨ge,9,none⟩=some (.int .i64 (((f 2).1:Int)+8))) /\
 (V.cell? ⟨bm,0,none⟩=some (.int .u64 9)/\V.cell? ⟨bm,1,none⟩=some (.slice (some ⟨g,0,none⟩) 2 gc)/\V.cell? ⟨bm,2,none⟩=some (.slice xa 0 xc))/\V.cell? ⟨bk,0,none⟩=some (.int .u32 6)/\V.cell? ⟨bk,1,none⟩=some (.int .i64 3)
theorem al9c(n:Nat):((n+8:Nat):Int)=(n:Int)+8:=by omega
theorem al9S{L:Int}{c k ge:Nat}{M:Int}{f:Nat->Nat×Nat}{C:SP->Prop}{bk bm g gc xc:Nat}{xa:Option Addr}{w0 V:World}(h:CaS L c k ge M f C [(bk,[.int .u32 6,.int .i64 3]),(bm,[.int .u64 9,.slice (some ⟨g,0,none⟩) 2 gc,.slice xa 0 xc]),(g,[.int .u64 5,.int .u64 6])] w0 V):Al9S f ge bk bm g gc xa xc V:=
 ⟨by have e:=h.ends;rw[al9c] at e;exact e,⟨h.bx (q:=(bm,[.int .u64 9,.slice (some ⟨g,0,none⟩) 2 gc,.slice xa 0 xc])) (by simp) 0 _ rfl,h.bx (q:=(bm,[.int .u64 9,.slice (some ⟨g,0,none⟩) 2 gc,.slice xa 0 xc])) (by simp) 1 _ rfl,h.bx (q:=(bm,[.int .u64 9,.slice (some ⟨g,0,none⟩) 2 gc,.slice xa 0 xc])) (by simp) 2 _ rfl⟩,
  h.bx (q:=(bk,[.int .u32 6,.int .i64 3])) (by simp) 0 _ rfl,h.bx (q:=(bk,[.int .u32 6,.int .i64 3])) (by simp) 1 _ rfl⟩
theorem Q8M{w:World}(AJ:Env w):Calls prog 42 #[] w (Told w (.bool true)):=by
 have kb:=Q5n AJ 65536 (by omega);clear AJ;go_enter func42,ntmps42;go_wp2_with fail;refine kb.mono ?_;rintro r w1⟨c,k,ge,cap,f,rfl,hB⟩;clear kb;have h1:=CaS.begin hB;have q1:=(h1.grown ((Below.refl w1.heap.size w1).alloc (Z9s _) (.cells #[.int .u64 5,.int .u64 6] 83))).grown ((Below.refl _ _).alloc (Z9s _) (.cells #[.int .i64 0,.int .i64 0,.int .i64 3,.int .i64 0,.bool false] 63));have kp:=Z8m q1 ((Z3Z w1 5 6).below ((Below.refl _ _).alloc (Z9s _) (.cells #[.int .i64 0,.int .i64 0,.int .i64 3,.int .i64 0,.bool false] 63))) (Z8o (w1.alloc (.cells #[.int .u64 5,.int .u64 6] 83)) it0) 2 1;have AM:(w1.alloc (.cells #[.int .u64 5,.int .u64 6] 83)).heap.size=w1.heap.size+1:=by simp
 rw[AM] at kp;obtain⟨⟨e0,e1⟩,⟨e2,e3⟩,⟨e6,e7⟩,e8,e9⟩:=h1.ends;have Bd:(5:Int)<=5:=by omega
 have H1:=Q0a kp;clear hB h1 q1 kp AM;go_wp2_with fail;refine H1.out.mono ?_;rintro r w2⟨rfl,hq⟩;have H2:=Q0a (Z6p hq);clear e0 e1 e2 e3 e6 e7 e8 e9 H1;obtain⟨⟨e0,e1⟩,⟨e2,e3⟩,⟨e6,e7⟩,e8,e9⟩:=hq.ends;clear hq;go_wp2_with fail;refine H2.out.mono ?_;rintro r w3⟨rfl,hq⟩;have H3:=Q0a (Z3X (hq.grown (Below.refl _ _).drew) (by omega) (by omega));clear e0 e1 e2 e3 e6 e7 e8 e9 H2;obtain⟨⟨e0,e1⟩,⟨e2,e3⟩,⟨e6,e7⟩,e8,e9⟩:=hq.ends;obtain⟨⟨d0,d1⟩,⟨d2,d3⟩,-,-,-⟩:=(hq.grown (Below.refl w3.heap.size w3).drew).ends;clear hq;go_upto_region 6 with fail
 go_region_held3 (fun V=>(V.cell? ⟨ge,0,none⟩=some (.int .u32 1)/\V.cell? ⟨ge,1,none⟩=some (.int .i64 ((f 2).1:Int)))/\V.cell? ⟨ge,2,none⟩=some (.int .u32 2)/\V.cell? ⟨ge,3,none⟩=some (.int .i64 ((f 3).1:Int))) (first|exact⟨⟨e0,e1⟩,e2,e3⟩|exact⟨⟨d0,d1⟩,d2,d3⟩|exact x4) (first|(go_at_call 54;refine H3.out.mono ?_;rintro r w4⟨rfl,hq⟩;have x4:=(⟨hq.ends.1,hq.ends.2.1⟩:_/\_);have JH:=Q0a hq;clear hq))
 all_goals
  clear e0 e1 e2 e3 e6 e7 e8 e9 d0 d1 d2 d3 x4 H3;have hq:=JH.out;have H4:=Q0a (Z8n hq);obtain⟨⟨e0,e1⟩,⟨e2,e3⟩,⟨e6,e7⟩,e8,e9⟩:=hq.ends;clear hq JH;go_wp2_with fail;refine H4.out.mono ?_;rintro r w5⟨g,gc,xa,xc,rfl,hq⟩;have Dj:=hq.box 100 [.int .u64 9,.slice (some ⟨g,0,none⟩) 2 gc,.slice xa 0 xc];have H5:=Q0a (Z6q Dj);clear e0 e1 e2 e3 e6 e7 e8 e9 H4 hq Dj;go_wp2_with fail;refine H5.out.mono ?_;rintro r w6⟨s,rfl,kl⟩;have H6:=Q0a kl;clear kl H5;go_wp2_with fail;refine H6.out.mono ?_;rintro r w7⟨rfl,hq⟩;have Dj:=hq.box 72 [.int .u32 6,.int .i64 3];have Oj:(w7.alloc (.cells #[.int .u32 6,.int .i64 3] 72)).heap.size=w7.heap.size+1:=by simp
  have IM:=Dj.box 83 [.int .u64 7];rw[Oj] at IM;have H7:=Q0a (Z3Y IM (wa:=some ⟨w7.heap.size+1,0,none⟩) 1 (fun H st Kx j y hj=>by
   match j,hj with
   | 0,hj =>
    cases hj
    obtain⟨g',e,hk,hl,z⟩:=Kx (w7.heap.size+1,[.int .u64 7]) (by simp) 0 _ rfl;cases e;exact⟨_,0,rfl,hk,hl,z⟩))
  clear IM;clear H6 hq Dj Oj;go_wp2_with fail;refine H7.out.mono ?_;rintro r w8⟨rfl,IM⟩;have hq:=IM.sub (B':=[(w7.heap.size,[.int .u32 6,.int .i64 3]),(w5.heap.size,[.int .u64 9,.slice (some ⟨g,0,none⟩) 2 gc,.slice xa 0 xc]),(g,[.int .u64 5,.int .u64 6])]) (fun q hq=>J3t _ hq);clear IM;have H8:=Q0a (Q6R hq 128 1016 7 0 (.inl ⟨rfl,rfl,rfl,rfl⟩));clear H7 hq;go_wp2_with fail;refine H8.out.mono ?_;rintro r w9⟨rfl,hq⟩;have H9:=Q0a (Q6R hq 128 1017 0 2 (.inr (.inl ⟨rfl,rfl,rfl,rfl⟩)));clear H8 hq;go_wp2_with fail;refine H9.out.mono ?_;rintro r w10⟨rfl,hq⟩;have Nn:=Q0a (Q6R hq 0 0 0 10 (.inr (.inr ⟨rfl,rfl,rfl,rfl⟩)))
  clear H9 hq;go_wp2_with fail;refine Nn.out.mono ?_;rintro r w11⟨rfl,hq⟩;have KY:=hq.grown ((Below.refl w11.heap.size w11).alloc (Z9s _) (.cells #[.int .u64 5,.int .u64 6] 83)).drew;have Od:IsU (w11.alloc (.cells #[.int .u64 5,.int .u64 6] 83)).drew (some ⟨g,0,none⟩) [5,6]:=fun j y hj=>by
   obtain⟨Z,fr,_,_,_,_,_,Kx⟩:=KY
   match j,hj with
   | 0,hj =>
    cases hj
    obtain⟨g',e,_,hl,z⟩:=Kx (g,[.int .u64 5,.int .u64 6]) (by simp) 0 _ rfl;cases e;exact⟨_,0,rfl,hl,z⟩
   | 1,hj =>
    cases hj
    obtain⟨g',e,_,hl,z⟩:=Kx (g,[.int .u64 5,.int .u64 6]) (by simp) 1 _ rfl;cases e;exact⟨_,0,rfl,hl,z⟩
  have Oo:Hid (Calls prog 55 #[.agg #[.int .u64 9,.slice (some ⟨g,0,none⟩) 2 gc,.slice xa 0 xc],.agg #[.int .u64 9,.slice (some ⟨w11.heap.size,0,none⟩) 2 2,.slice none 0 0]] ((w11.alloc (.cells #[.int .u64 5,.int .u64 6] 83)).drew) (Told ((w11.alloc (.cells #[.int .u64 5,.int .u64 6] 83)).drew) (.bool true))):=(Q8L _ 9 (some ⟨g,0,none⟩) (some ⟨w11.heap.size,0,none⟩) xa none gc 2 xc 0 [5,6] Od ((Z3Z w11 5 6).below (Below.refl _ _).drew) (by simp))
  have ML:=Q0a KY;have s0:=Q0a (al9S hq);have s1:=Q0a (al9S (hq.grown (Below.refl w11.heap.size w11).drew));have s2:=Q0a (al9S KY);clear Nn hq Od KY;generalize w5.heap.size=bm at *
  generalize w7.heap.size=bk at *
  go_upto_region 13 with fail;simp only[List.append_eq,J1u,J1t]
  go_region_held3 (fun V=>Al9S f ge bk bm g gc xa xc V) (first|exact s0.out|exact s1.out|exact s2.out|exact s12.out|exact s13.out|exact s14.out|exact s15.out)
   (first|(go_at_call 55;refine Oo.out.mono ?_;clear Oo;rintro r w12⟨rfl,EO⟩;have hq:=ML.out.grown EO;have s12:=Q0a (al9S hq);have No:=Q0a (Z1h hq (by omega));clear hq EO)|(go_at_call 54;refine No.out.mono ?_;clear No;rintro r w13⟨rfl,hq⟩;have s13:=Q0a (al9S hq);have Oa:=Q0a (Z6r hq);clear hq)|(go_at_call 107;refine Oa.out.mono ?_;clear Oa;rintro r w14⟨rfl,hq⟩;have s14:=Q0a (al9S hq);have kq:=Z6s hq;rw[al9c] at kq;have OJ:=Q0a kq;clear hq kq)|(go_at_call 107;refine OJ.out.mono ?_;clear OJ;rintro r w15⟨rfl,hq⟩;have s15:=Q0a (al9S hq);have HR:Hid (Told w (.bool true) (.returned (.bool true)) w15):=⟨rfl,hq.below⟩;clear hq))
  all_goals
   go_wp2_with fail
   (try go_ret);exact HR.out
def CE(E:Nat->Nat->Option (Nat×Nat))(s:Nat)(Z:SP):Prop:=(∀h t,Z.av.en h t=E h t)/\Z.s=s
def CW(f:Nat->Nat×Nat)(E:Nat->Nat->Option (Nat×Nat))(m:Nat->Nat)(Z:SP):Prop:=(∀h t,Z.av.en h t=E h t)/\∀i,i<128->Q0j Z.S.P.a.mem ((f 6).1+8*i)=m i
def enP1(r:Nat):Nat->Nat->Option (Nat×Nat):=setA (enR 2) 2 200 (some (7,r))
def enP(r:Nat):Nat->Nat->Option (Nat×Nat):=setA (enP1 r) 1 130 (some (7,3))
def putW(m:Nat->Nat)(o:Nat)(ws:List Nat)(i:Nat):Nat:=if o<=8*i/\8*i<o+8*ws.length then ws[(8*i-o)/8]?.getD 0 else m i
section
variable {L:Int} {c k ge s:Nat} {M M':Int} {f:Nat->Nat×Nat} {C C':SP->Prop} {B:List (Nat×List Value)} {w0 wr w':World}
theorem Z4a(h:CaS L c k ge M f C0 B w0 wr):Calls prog 44 #[.pointer (some ⟨c,0,none⟩)] wr fun r w'=>∃s,r=.returned (.pointer (some ⟨s,0,none⟩))/\CaS L c k ge M f (CE (enR 2) s) B w0 w'/\wr=w':=by
 obtain⟨Z,fr,i,hC,hc,he,st,hB⟩:=h;refine(Q4l hc).mono ?_;rintro r w1⟨rfl,rfl⟩;exact⟨Z.s,rfl,⟨Z,fr,i,⟨hC,rfl⟩,hc,he,st,hB⟩,rfl⟩
theorem Z8p{r:Nat}(hr:0<r/\r<=15)(hL:4500<=L)(h:CaS L c k ge 2 f (CE (enR 2) s) B w0 wr) :
  Calls prog 39 #[.pointer (some ⟨s,0,none⟩),.int .u32 1,.int .u32 2,.slice (some ⟨wr.heap.size,0,none⟩) 1 1] (wr.alloc (.cells #[.int .i64 128,.int .i64 200,.int .i64 r,.bool false] 90)) fun rv w'=>rv=.returned (.int .i64 0)/\CaS L c k ge 3 f (CE (enP1 r) s) B w0 w':=by
 obtain⟨Z,fr,i,⟨hC,rfl⟩,hc,he,st,hB⟩:=h;have hb:=(Below.refl wr.heap.size wr).alloc (Z9s _) (.cells #[.int .i64 128,.int .i64 200,.int .i64 r,.bool false] 90);have st2:=st.sep.grown hb;have B3:=Z0U st.sep ⟨128,200,(r:Int),false⟩ ⟨⟨by dsimp only;omega,by dsimp only;omega⟩,⟨by dsimp only;omega,by dsimp only;omega⟩,⟨by dsimp only;omega,by dsimp only;omega⟩⟩;have g1:=i.at' (i:=0) (by omega);have g2:=i.at' (i:=1) (by omega);have Ah:FitM Z.av.en 1 2 ⟨128,200,(r:Int),false⟩:=by
  refine⟨by dsimp only;omega,by dsimp only;omega,by dsimp only;omega,rfl,⟨(7,15),by rw[hC];rfl,by decide,?_⟩,by rw[hC];rfl⟩;show 15&&&((r:Int).toNat)≠0;rw[J0o];obtain⟨h1,h2⟩:=hr;have:∀r,r<16->0<r->15&&&r≠0:=by decide
  exact this r (by omega) h1
 have Mg:AsideM Z.hl 1 (fun _=>⟨128,200,(r:Int),false⟩) (some ⟨wr.heap.size,0,none⟩) (wr.alloc (.cells #[.int .i64 128,.int .i64 200,.int .i64 r,.bool false] 90)):=B3;have km:=Q7M (n:=1) (cap:=1) (A:=fun _=>⟨128,200,(r:Int),false⟩) st2.sep i.m.ok (by omega) (x:=1) (y:=2) (by omega) (by omega) (by omega) (by omega) Mg;refine km.mono ?_;rintro rv w'⟨er,rfl,R⟩;obtain⟨rfl,hz⟩:=R.fine g1 rfl g2 rfl (Z0T Ah) fun er hw=>by
  refine i.m.room [(1,0),(1,128)] [(1,0),(1,8)] (fun x s c hc=>?_) (fun x s hx=>?_) (o:=8) (by rw[Z6c];omega) (by simp) (Q6M f) (by simp;omega) (Z5T hw)
  ·rw[hC] at hc;unfold enR at hc;by_cases h1:x=1/\s=0
   ·obtain⟨rfl,rfl⟩:=h1;simp
   ·by_cases h2:x=1/\s=128
    ·obtain⟨rfl,rfl⟩:=h2;simp
    ·rw[if_neg (by omega),if_neg (by omega)] at hc;cases hc
  ·simp at hx ⊢;omega
 obtain⟨Z',c1,b2,k1,k2,k3,k4,k5,k6⟩:=hz.one rfl;have N3:Z.av.en 1 128=some c1:=k1;rw[hC] at N3;have Dv:(7,15)=c1:=J0g N3;subst Dv;have PX:15&&&(r:Int).toNat=r:=by
  rw[J0o];have:∀r,r<16->15&&&r=r:=by decide
  exact this r (by omega)
 refine⟨rfl,Z',fr,i.same k4 k3 (by rw[k5,i.nx];rfl),⟨fun h t=>?_,k4.s⟩,(hc.step rfl st2).step k4.s k6,AsideV.step (AsideV.step he st2) k6,(st.trans st2).trans k6,fun q hq=>AsideV.step (AsideV.step (hB q hq) st2) k6⟩;have e:Z'.av.en=setA Z.av.en 2 200 (some (7,15&&&(r:Int).toNat)):=congrArg AV.en k2;rw[e,PX];unfold enP1 setA;split
 ·rfl
 ·exact hC h t
theorem Z8q{r:Nat}(hL:4500<=L)(h:CaS L c k ge 3 f (CE (enP1 r) s) B w0 wr) :
  Calls prog 41 #[.pointer (some ⟨s,0,none⟩),.int .u32 1,.int .i64 130,.agg #[.int .u32 7,.int .i64 3]] wr fun rv w'=>rv=.returned (.int .i64 0)/\CaS L c k ge 4 f (CE (enP r) s) B w0 w':=by
 obtain⟨Z,fr,i,⟨hC,rfl⟩,hc,he,st,hB⟩:=h;refine(Q7J st.sep i.m.ok (by omega) (x:=1) (h:=7) (by omega) (by omega) 130 3).mono ?_;rintro rv w'⟨er,rfl,Rr⟩;have g1:=i.at' (i:=0) (by omega);have g2:=i.at' (i:=6) (by omega);have room:∀er,¬WhyL Z fr 0 (1%256) (130:Int).toNat er:=fun er=>by
  refine i.m.room [(1,0),(1,128),(2,200)] [(1,0),(1,8),(2,12)] (fun x s c hc=>?_) (fun x s hx=>?_) (o:=8) (by rw[Z6c];omega) (by simp) (Q6M f) (by simp;omega)
  ·rw[hC] at hc;unfold enP1 setA enR at hc;by_cases h0:x=2/\s=200
   ·obtain⟨rfl,rfl⟩:=h0;simp
   ·by_cases h1:x=1/\s=0
    ·obtain⟨rfl,rfl⟩:=h1;simp
    ·by_cases h2:x=1/\s=128
     ·obtain⟨rfl,rfl⟩:=h2;simp
     ·rw[if_neg h0,if_neg (by omega),if_neg (by omega)] at hc;cases hc
  ·simp at hx ⊢;omega
 have h0:Z.av.en 1 (130:Int).toNat=none:=by rw[hC];rfl
 obtain⟨rfl,Z',k1,k2,k3,⟨b1,k4⟩,k5,k6⟩:=Rr.fine g1 rfl (by omega) g2 (by omega) (by show Q0w 6=8↔(128:Int)<=130;decide) h0 room;refine⟨rfl,Z',fr,i.same k2 k1 (by rw[k5,i.nx];rfl),⟨fun h t=>?_,k2.s⟩,hc.step k2.s k6,AsideV.step he k6,st.trans k6,fun q hq=>AsideV.step (hB q hq) k6⟩;have e:Z'.av.en=setA Z.av.en 1 130 (some (7,3)):=k3;rw[e];unfold enP setA;split
 ·rfl
 ·exact hC h t
theorem Q6S{E:Nat->Nat->Option (Nat×Nat)}{m:Nat->Nat}(IE:∀Z,C Z->(∀h t,Z.av.en h t=E h t))(h:CaS L c k ge M f C B w0 wr){t:Nat}(ht:t=1∨t=2){z rr:Nat}(hz:z<256)(hE:E t z=some (7,rr))(hr:rr&&&2≠0){o:Nat}{ws:List Nat}(ho:o%8=0)(hl:o+8*ws.length<=1024)(Ed:∀y∈ws,y<18446744073709551616)(wa:Option Addr)(cap:Nat)(hu:∀H:HL,Step [] H w0 wr->(∀q∈B,AsideV H q.2 (some ⟨q.1,0,none⟩) wr)->AsideU H ws wa wr)
  (hm:∀Z,C Z->∀i,i<128->¬(o<=8*i/\8*i<o+8*ws.length)->Q0j Z.S.P.a.mem ((f 6).1+8*i)=m i) :
  Calls prog 45 #[.pointer (some ⟨c,0,none⟩),.int .u32 t,.int .i64 z,.int .i64 o,.slice wa ws.length cap] wr fun r w'=>r=.returned (.int .i64 0)/\CaS L c k ge M f (CW f E (putW m o ws)) B w0 w':=by
 obtain⟨Z,fr,i,hC,hc,he,st,hB⟩:=h;have Cl:=i.frame;have N9:=IE Z hC;refine(Q3r i.m.ok st.sep hc (t:=t) (by omega) (z:Int) (o:Int) (by omega) cap (hu _ st hB) Ed (by omega)).mono ?_;intro r w' R;obtain⟨rfl,n⟩:=Q3O i ht hz (rr:=rr) (by rw[N9];exact hE) hr ho hl R;refine⟨rfl,CaS.go i hc he st hB ?_⟩;obtain⟨Z',i',hs,s1,rfl⟩:=n;refine⟨_,i',hs,s1,N9,fun j hj=>?_⟩;show Q0j (put_ Z.S.P.a.mem ((f 6).1+o) (ws.flatMap Q0c)) ((f 6).1+8*j)=_;rw[Q2I _ _ _ (by omega) Ed _ (by omega) (by omega) (by omega)];unfold putW;by_cases Bg:o<=8*j/\8*j<o+8*ws.length
 ·rw[if_pos (by omega),if_pos Bg,show(f 6).1+8*j-((f 6).1+o)=8*j-o by omega]
 ·rw[if_neg (by omega),if_neg Bg];exact hm Z hC j hj Bg
theorem Q7U{E:Nat->Nat->Option (Nat×Nat)}{m:Nat->Nat}(h:CaS L c k ge M f (CW f E m) B w0 wr){t:Nat}(ht:t=1∨t=2){z rr:Nat}(hz:z<256)(hE:E t z=some (7,rr)){o:Nat}(ho:o<=4096){ws:List Nat}(Ac:ws.length<=1048576)(Ed:∀y∈ws,y<18446744073709551616)(Fs:frE 0 ((rr&&&2:Nat):Int) (o:Int) (8*(ws.length:Int))≠0)(wa:Option Addr)(cap:Nat)(hu:∀H:HL,Step [] H w0 wr->(∀q∈B,AsideV H q.2 (some ⟨q.1,0,none⟩) wr)->AsideU H ws wa wr) :
  Calls prog 45 #[.pointer (some ⟨c,0,none⟩),.int .u32 t,.int .i64 z,.int .i64 o,.slice wa ws.length cap] wr fun r w'=>(∃er:Int,er≠0/\r=.returned (.int .i64 er))/\CaS L c k ge M f (CW f E m) B w0 w':=by
 obtain⟨Z,fr,i,hC,hc,he,st,hB⟩:=h;refine(Q3r i.m.ok st.sep hc (t:=t) (by omega) (z:Int) (o:Int) (by omega) cap (hu _ st hB) Ed Ac).mono ?_;intro r w' R;have q:=(i.frm ht hz (i:=6) (by omega) (rr:=rr) (by rw[hC.1];exact hE) 2 (o:Int) (8*(ws.length:Int))).1;rw[if_pos (show Q0w 6=8 from rfl)] at q;rcases R with ⟨h1,rfl,hb⟩|⟨h1,_⟩
 ·exact⟨⟨_,h1,rfl⟩,CaS.grown ⟨Z,fr,i,hC,hc,he,st,hB⟩ hb⟩
 ·rw[q] at h1;exact(Fs h1).elim
theorem Q2m{E:Nat->Nat->Option (Nat×Nat)}{m:Nat->Nat}(h:CaS L c k ge M f (CW f E m) B w0 wr){t:Nat}(ht:t=1∨t=2){z rr:Nat}(hz:z<256)(hE:E t z=some (7,rr)){j:Nat}(hj:j<128) :
  Calls prog 46 #[.pointer (some ⟨c,0,none⟩),.int .u32 t,.int .i64 z,.int .i64 (8*(j:Int))] wr fun r w'=>r=.returned (.tuple #[.int .u64 (if rr&&&1=0 then 0 else(m j:Int)),.int .i64 (if rr&&&1=0 then 9 else 0)])/\CaS L c k ge M f (CW f E m) B w0 w':=by
 obtain⟨Z,fr,i,hC,hc,he,st,hB⟩:=h;refine(Q6j i.m.ok st.sep hc (t:=t) (by omega) (z:Int) (8*(j:Int)) (by omega)).mono ?_;intro r w' R;have N4:Z.av.en t z=some (7,rr):=by rw[hC.1];exact hE
 by_cases FE:rr&&&1=0
 ·have q:=(i.frm ht hz (i:=6) (by omega) N4 1 (8*(j:Int)) 8).1;rw[if_pos (show Q0w 6=8 from rfl),FE] at q;have q':frmE Z t (z:Int) 1 (8*(j:Int)) 8=9:=q;obtain⟨rfl,hb⟩:=Q2L (E:=9) (by decide) q' R;rw[if_pos FE,if_pos FE];exact⟨rfl,CaS.grown ⟨Z,fr,i,hC,hc,he,st,hB⟩ hb⟩
 ·have R':LodR Z t (z:Int) ((8*j:Nat):Int) wr r w':=by rw[show((8*j:Nat):Int)=8*(j:Int) by omega];exact R
  obtain⟨rfl,hb⟩:=Q4m i ht hz N4 FE (o:=8*j) (by omega) (by omega) R';rw[hC.2 j hj,if_neg FE,if_neg FE];exact⟨rfl,CaS.grown ⟨Z,fr,i,hC,hc,he,st,hB⟩ hb⟩
end
end Go.Proofs.YtfidemmgofcnmaaGreatDoor
namespace Go.Proofs.YtfidemmgofcnmaaGreatDoor
open Go.ChangeShapes Go.WideShapes Go.ChangeAt Go.RowKit Go.Deep Go.Proofs.Tryz
def IsW8(w:World)(a0:Option Addr)(len:Nat)(A:Nat->Nat):Prop:=∀j,j<len->∃g off,a0=some ⟨g,off,none⟩/\g<w.heap.size/\w.cell? ⟨g,off+j,none⟩=some (.int .u64 (A j:Int))/\A j<18446744073709551616
theorem IsW8.read{w wr:World}{a0:Option Addr}{len:Nat}{A:Nat->Nat}(h:IsW8 w a0 len A)(hb:Below w.heap.size w wr){j:Nat}(hj:j<len):∃g off,a0=some ⟨g,off,none⟩/\(∀wr',Below w.heap.size w wr'->wr'.cell? ⟨g,off+j,none⟩=some (.int .u64 (A j:Int)))/\A j<18446744073709551616:=by
 obtain⟨g,off,h1,h2,h3,h4⟩:=h j hj;exact⟨g,off,h1,fun wr' Al=>(World.cell?_of_block (w:=w) (Al.block g h2)).trans h3,h4⟩
theorem Z8r:prog.cellsOf 83=1:=by kernel_rfl
theorem Z6t{H:Type}{enc:TypeId×Value->H}{w:World}{fuel:Nat}{a0:Option Addr}{len cap:Nat}{x:DataW H×List MemPlace}
  (h:DataW.trod enc prog w 0 (fun _=>true) true fuel 82 [.slice a0 len cap]=some x):∃A,IsW8 w a0 len A:=by
 rcases open_slice underlying82 h with ⟨Bu,_⟩|⟨a,len',Gp,m,n,D,Pl,Bu,_,hl,_,Kz,_,hi⟩
 ·simp only[Z9w,Value.slice.injEq,and_true] at Bu;obtain⟨rfl,rfl,rfl⟩:=Bu;exact⟨fun _=>0,fun j hj=>absurd hj (J2I _)⟩
 ·simp only[Z9w,Value.slice.injEq,and_true] at Bu;obtain⟨rfl,rfl,rfl⟩:=Bu;have hm:len<=m:=by rw[Kz];simp;exact hl
  have each:∀j,j<len->∃x:Nat,w.cell? (a.add j)=some (.int .u64 x)/\x<18446744073709551616:=by
   intro j hj;obtain⟨R5,hc,ht⟩:=hi j (by omega);rw[Z8r,J0p] at hc;obtain⟨_,AS,BL⟩:=World.cells?_some hc;obtain⟨v,e0,_,hw⟩:=DataW.trod_int underlying83 ht;have hb:=bounds_u64 (n:=v) (by simp_all);obtain⟨y,rfl⟩:=J0N hb.1;refine⟨y,?_,by omega⟩;have:=BL 0 (by omega);simp only[e0] at this
   simpa[Addr.add] using this
  by_cases h0:len=0
  ·exact⟨fun _=>0,fun j hj=>by omega⟩
  ·obtain⟨x0,c0,_⟩:=each 0 (by omega);have hp:=Q8y (x:=a) (by simpa[Addr.add] using c0);refine⟨fun j=>if hj:j<len then(each j hj).choose else 0,fun j hj=>?_⟩;obtain⟨h1,h2⟩:=(each j hj).choose_spec;simp only[hj,dif_pos];generalize (each j hj).choose=y at h1 h2;rw[hp,Z0N] at h1;exact⟨a.block,a.off,congrArg some hp,World.block_lt_of_cell? w ⟨a.block,a.off+j,none⟩ h1,h1,h2⟩
end Go.Proofs.YtfidemmgofcnmaaGreatDoor
