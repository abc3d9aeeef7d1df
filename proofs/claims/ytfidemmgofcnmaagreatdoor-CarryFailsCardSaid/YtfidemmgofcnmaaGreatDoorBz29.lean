/- What the laws of spaces share is proved. No condition. Part of a proof. -/
import Derived.Test.YtfidemmgofcnmaaGreatDoorBz28
set_option maxHeartbeats 16000000
set_option maxRecDepth 100000
set_option linter.unusedVariables false
namespace Go.Proofs.YtfidemmgofcnmaaGreatDoor
open Go.RowKit Go.Proofs.Tryz
section
variable {Z:SP} {L M:Int} {f:Nat->Nat×Nat} {fr:List Nat} {w w':World} {r:Ending}
def CaN(Z:SP)(L M:Int)(f:Nat->Nat×Nat)(fr:List Nat)(C:SP->Prop)(w w':World):Prop:=∃Z',CaI Z' L M f fr/\Z'.s=Z.s/\Step Z.hl Z'.hl w w'/\C Z'
theorem Z0Y(h:CaI Z L M f fr){t i:Nat}(ht:t=1∨t=2)(hi:i<7)(hk:Q0z i=3){x:Msg}(hx:¬PutE x.ws x.its)(R:CPutR Z fr 8 0 M t ((f i).1:Int) x w r w') :
  r=.returned (.int .i64 0)/\x.May/\CaN Z L M f fr (fun Z'=>Z'.av=Z.av/\Z'.S.P.a.mem=putM Z.S.P.a.mem (f i).1 x) w w':=by
 have hb:=h.blk ht hi hk;rcases R with ⟨h0,_⟩|⟨p,hp,⟨h1,_⟩|⟨hm,rfl,ok,st⟩⟩
 ·exact(h0 hb).elim
 ·exact(hx h1).elim
 ·have ha:=hp.at_;rw[ha] at ok st;exact⟨rfl,hm,_,h.poke ok,rfl,st,rfl,rfl⟩
theorem Q9P(h:CaI Z L M f fr){t i:Nat}(ht:t=1∨t=2)(hi:i<7)(hk:Q0z i=3){v:Wi}(hv:Q0v v.base v.order=true)(R:COpnR Z fr 8 0 M t ((f i).1:Int) v w r w') :
  r=.returned (.int .i64 0)/\CaN Z L M f fr (fun Z'=>Z'.av=Z.av/\Z'.S.P.a.mem=Q5d Z.S.P.a.mem (f i).1 v) w w':=by
 have hb:=h.blk ht hi hk;rcases R with ⟨h0,_⟩|⟨p,hp,⟨h1,_⟩|⟨hm,rfl,ok,st⟩⟩
 ·exact(h0 hb).elim
 ·rw[hv] at h1;cases h1
 ·have ha:=hp.at_;rw[ha] at ok st;exact⟨rfl,_,h.poke ok,rfl,st,rfl,rfl⟩
def it0:It:=⟨0,0,3,0,false⟩
def wi0:Wi:=⟨8,1⟩
def mv0:Mv:=⟨0,8,3,false⟩
theorem Z2k(h:CaI Z L M f fr){c:Nat×Nat}(he:Z.av.en 1 0=some c):Q1g Z 1 wi0 [it0]=[mv0]:=by
 have hf:Q1W Z 1 it0 0=true:=by
  have AD:(Q0f Z.S.l Z.tb 1 0).map Ent.c=some c:=he;unfold Q1W;cases hx:Q0f Z.S.l Z.tb 1 0 with
  | none=>rw[hx] at AD;cases AD
  | some e =>
   show(Q0f Z.S.l Z.tb 1 (0+0)).isSome=true;rw[J5F,hx];rfl
 have e:Q1g Z 1 wi0 [it0]=movV (Q1W Z 1 it0) it0 wi0 1:=by
  show movV (Q1W Z 1 it0) it0 wi0 (2 ^ (0:Int).toNat)++[]=_;rw[J5h];rfl
 rw[e,movV_succ,hf,if_pos rfl];rfl
theorem Q8q(h:CaI Z L M f fr)(hL:4500<=L){ws:List Nat}{lb0 lb:Nat}(FG:lb<18446744073709551616)(hm:msgV Z.S.P.a.mem (f 2).1=⟨lb0,ws,[it0]⟩)(hw:winV Z.S.P.a.mem (f 3).1=wi0)(hE:∀h t,Z.av.en h t=enR 2 h t)(R:CCarR Z fr 8 0 M 1 ((f 2).1:Int) 2 ((f 3).1:Int) lb w r w') :
  r=.returned (.int .i64 0)/\CaN Z L (M+1) f fr (fun Z'=>(∀h t,Z'.av.en h t=setA (enR 2) 2 8 (some (6,3)) h t)/\msgV Z'.S.P.a.mem (f 3).1=⟨lb,ws,[]⟩/\msgV Z'.S.P.a.mem (f 2).1=⟨lb0,ws,[it0]⟩/\winV Z'.S.P.a.mem (f 3).1=wi0) w w':=by
 have Aq:=h.blk (t:=1) (.inl rfl) (i:=2) (by omega) rfl;have Ae:=h.blk (t:=2) (.inr rfl) (i:=3) (by omega) rfl;have Eh:Z.av.en 1 0=some (6,15):=by rw[hE];rfl
 have A8:Z.av.en 2 8=none:=by rw[hE];rfl
 have BI:=Z2k h Eh;rcases R with ⟨er,h0,rfl,_,hc⟩|⟨p,p',hp,AG,CE,hR⟩
 ·exfalso;rcases hc with e|⟨_,e⟩|⟨p,p',hp,AG,i,hi,he⟩
  ·rw[Aq] at e;exact h0 e.symm
  ·rw[Ae] at e;exact h0 e.symm
  ·rw[hp.at_,hm] at hi;rw[AG.at_,hw] at he;rw[J5i.1 hi] at he;rcases he with ⟨h1,_⟩|⟨q,h1,h2⟩
   ·rw[h.at' (i:=0) (by omega)] at h1;cases h1
   ·rw[h.at' (i:=0) (by omega)] at h1;cases h1;rcases h2 with ⟨h3,_⟩|⟨_,⟨h3,_⟩|⟨_,h3,_⟩⟩
    ·exact h3 rfl
    ·revert h3;decide
    ·exact h3 (by decide)
 ·have Bi:carL Z 1 p p'=[mv0]:=by unfold carL;rw[hp.at_,AG.at_,hm,hw];exact BI
  have Gx:carA Z 1 p p' 0=mv0:=by unfold carA;rw[Bi];rfl
  have D8:(carL Z 1 p p').length=1:=by rw[Bi];rfl
  have Af:AllFit Z.av.en 1 2 1 (carA Z 1 p p'):=fun i hi=>by
   obtain rfl:i=0:=by omega
   rw[Gx];exact⟨⟨by decide,by decide,by decide,by decide,⟨_,Eh,by decide,by decide⟩,A8⟩,rfl⟩
  have A3:=h.at' (i:=0) (by omega);have Az:=h.at' (i:=1) (by omega);have room:∀er,¬WhyM Z fr 8 0 1 2 1 (plB f 1).fac (carA Z 1 p p') er:=fun er hw=>by
   obtain⟨k,S',t',hk,_,h0,hw⟩:=hw;obtain rfl:k=0:=by omega
   obtain⟨rfl,rfl⟩:=h0 rfl;rw[Q1c] at hw;refine h.m.room [(1,0),(1,128)] [(1,0),(1,8)] (fun x s c hc=>?_) (fun x s hx=>?_) (o:=8) (by rw[J2G];omega) (by simp) (Z6W f) (by simp;omega) hw
   ·rw[hE] at hc;unfold enR at hc;by_cases h1:x=1/\s=0
    ·obtain⟨rfl,rfl⟩:=h1;simp
    ·by_cases h2:x=1/\s=128
     ·obtain⟨rfl,rfl⟩:=h2;simp
     ·rw[if_neg (by omega),if_neg (by omega)] at hc;cases hc
   ·simp at hx ⊢;omega
  rw[D8] at hR;rcases hR with ⟨er,w5,h0,rfl,_,QG⟩|⟨rfl,a,Z1,_,AZ,Ca,sm,Bs,ok1,ok2,st⟩
  ·exact(h0 (QG.fine A3 rfl Az rfl Af room).1).elim
  ·have h1:CaI Z1 L (M+1) f fr:=h.same sm ok1 (by rw[Bs,h.nx];rfl);have Ax:=h.kept sm (i:=2) (by omega) rfl;have G4:=h.kept sm (i:=3) (by omega) rfl;rw[hp.at_,AG.at_,Ax.1,hm] at ok2 st;have Jx:=h1.room (i:=3) (by omega) rfl;have Ei:=h1.room (i:=2) (by omega) rfl;have Qr:=Z7h h.m.ok.core.inv.mem.pool.bytes (f 2).1;rw[hm] at Qr;have Kt:(⟨lb,ws,[]⟩:Msg).May:=⟨FG,Qr.2,by simp,Qr.1,by simp⟩
   have BG:=h.two (i:=2) (j:=3) (by omega) (by omega) (by omega);have ek2:costK (Q0z 2)=256:=rfl;have ek3:costK (Q0z 3)=256:=rfl;rw[ek2,ek3] at BG;refine⟨rfl,_,h1.poke ok2,sm.s,st,fun u s=>?_,Z6T Kt Jx.1 Jx.2,?_,?_⟩
   ·show Z1.av.en u s=_;have e0:=(J1Q (by decide:(1:Nat)≠2) AZ)
    have ea:a=Z1.av:=by
     generalize Z1.av=az at Ca;cases Ca with
     | skip k a' h2 hg=>cases h2;rfl
     | lift k a' a'' h2 hg _=>rw[Gx] at hg;cases hg
    rw[<- ea];unfold setA;by_cases Q8:u=2/\s=8
    ·obtain⟨rfl,rfl⟩:=Q8;obtain⟨c,q1,q2⟩:=e0.2 0 (by omega);rw[Gx] at q1 q2;have Tu:Z.av.en 1 0=some c:=q1;rw[Eh] at Tu;cases Tu;rw[if_pos ⟨rfl,rfl⟩];exact q2
    ·rw[if_neg Q8,e0.1 u s fun e j hj=>?_,hE];obtain rfl:j=0:=by omega
     rw[Gx];intro hs;exact Q8 ⟨e,hs⟩
   ·show msgV (putM Z1.S.P.a.mem (f 3).1 ⟨lb,ws,[]⟩) (f 2).1=_;rw[(Z6U Kt Jx.1 Jx.2 Ei.1 Ei.2 (by omega)).1,Ax.1,hm]
   ·show winV (putM Z1.S.P.a.mem (f 3).1 ⟨lb,ws,[]⟩) (f 3).1=_;rw[J1D Kt Jx.1 Jx.2,G4.2,hw]
theorem Q6I(h:CaI Z L M f fr){ws:List Nat}{lb0 lb:Nat}{c1 c2:Nat×Nat}(hm:msgV Z.S.P.a.mem (f 2).1=⟨lb0,ws,[it0]⟩)(hw:winV Z.S.P.a.mem (f 3).1=wi0)(Eh:Z.av.en 1 0=some c1)(Cd:c1.2&&&4≠0/\c1.2&&&3≠0)(DZ:Z.av.en 2 8=some c2)(hs:Sep w Z.hl)(R:CCarR Z fr 8 0 M 1 ((f 2).1:Int) 2 ((f 3).1:Int) lb w r w') :
  r=.returned (.int .i64 7)/\CaN Z L M f fr (fun _=>True) w w':=by
 have Aq:=h.blk (t:=1) (.inl rfl) (i:=2) (by omega) rfl;have Ae:=h.blk (t:=2) (.inr rfl) (i:=3) (by omega) rfl;have BI:=Z2k h Eh;have A3:=h.at' (i:=0) (by omega);have Az:=h.at' (i:=1) (by omega);rcases R with ⟨er,h0,rfl,_,hc⟩|⟨p,p',hp,AG,CE,hR⟩
 ·exfalso;rcases hc with e|⟨_,e⟩|⟨p,p',hp,AG,i,hi,he⟩
  ·rw[Aq] at e;exact h0 e.symm
  ·rw[Ae] at e;exact h0 e.symm
  ·rw[hp.at_,hm] at hi;rw[AG.at_,hw] at he;rw[J5i.1 hi] at he;rcases he with ⟨h1,_⟩|⟨q,h1,h2⟩
   ·rw[A3] at h1;cases h1
   ·rw[A3] at h1;cases h1;rcases h2 with ⟨h3,_⟩|⟨_,⟨h3,_⟩|⟨_,h3,_⟩⟩
    ·exact h3 rfl
    ·revert h3;decide
    ·exact h3 (by decide)
 ·have Bi:carL Z 1 p p'=[mv0]:=by unfold carL;rw[hp.at_,AG.at_,hm,hw];exact BI
  have Gx:carA Z 1 p p' 0=mv0:=by unfold carA;rw[Bi];rfl
  have D8:(carL Z 1 p p').length=1:=by rw[Bi];rfl
  have Aw:¬AllFit Z.av.en 1 2 1 (carA Z 1 p p'):=fun hf=>by
   have h1:=(hf 0 (by omega)).1;rw[Gx] at h1;have h2:Z.av.en 2 8=none:=h1.free;rw[DZ] at h2;cases h2
  rw[D8] at hR;rcases hR with ⟨er,w5,h0,rfl,As,QG⟩|⟨_,a,Z1,Af,_⟩
  ·rcases QG with ⟨_,hE,own,hB⟩|⟨_,_,_,_,_,_,Af,_⟩
   ·have Cv:er=7:=by
     rcases hE with ⟨h1,_⟩|⟨q1,h1,h2⟩
     ·rw[A3] at h1;cases h1
     ·rw[A3] at h1;cases h1;rcases h2 with ⟨h3,_⟩|⟨_,⟨h3,_⟩|⟨q2,h3,h4⟩⟩
      ·exact(h3 rfl).elim
      ·rw[Az] at h3;cases h3
      ·rw[Az] at h3;cases h3;rcases h4 with ⟨h5,_⟩|⟨_,i,hi,_,hv⟩
       ·exact(h5 rfl).elim
       ·obtain rfl:i=0:=by omega
        have a1:=Z9n (N:=Z.F.N) (tb:=Z.tb) A3 rfl (z:=0) (by decide);have a2:=Z9n (N:=Z.F.N) (tb:=Z.tb) Az rfl (z:=8) (by decide);have a1':((Z.tb (1%256)).at' 0).map Ent.c=some c1:=a1.trans Eh;have a2':((Z.tb (2%256)).at' 8).map Ent.c=some c2:=a2.trans DZ;unfold fitV at hv;rw[Gx] at hv;unfold Z0O at hv;rw[if_neg (by decide),if_neg (by decide)] at hv;have NE:(match (Z.tb (1%256)).at' 0 with
         | none=>(6:Int)
         | some e=>if e.r&&&4=0∨e.r&&&3=0 then 9 else if ((Z.tb (2%256)).at' 8).isSome=true∨Q1f (carA Z 1 p p') 0 mv0=true then 7 else 0)=er:=hv
        cases hx:(Z.tb (1%256)).at' 0 with
        | none=>rw[hx] at a1';cases a1'
        | some e =>
         cases hy:(Z.tb (2%256)).at' 8 with
         | none=>rw[hy] at a2';cases a2'
         | some e2 =>
          rw[hx] at a1' NE;rw[hy] at NE;have ON:e.c=c1:=J3Y a1';have hr:e.r=c1.2:=by rw[<- ON];rfl
          simp only at NE;rw[hr,if_neg (by omega),if_pos (.inl rfl)] at NE;exact NE.symm
    subst Cv;obtain⟨Z',ok,Dd,sz,st⟩:=hB.ok h.m.ok;exact⟨rfl,Z',h.same sz.toSameN ok (by rw[sz.nx];exact h.nx),sz.s,(hs.grown As).trans st,trivial⟩
   ·exact(Aw Af).elim
  ·exact(Aw Af).elim
end
def CaS(L:Int)(c k ge:Nat)(M:Int)(f:Nat->Nat×Nat)(C:SP->Prop)(B:List (Nat×List Value))(w0 wr:World):Prop:=∃(Z:SP) (fr:List Nat),CaI Z L M f fr/\C Z/\CarC Z c k wr/\AsideV Z.hl (endC (endL f)) (some ⟨ge,0,none⟩) wr/\Step [] Z.hl w0 wr/\∀q∈B,AsideV Z.hl q.2 (some ⟨q.1,0,none⟩) wr
def C0(Z:SP):Prop:=∀h t,Z.av.en h t=enR 2 h t
section
variable {L:Int} {c k ge:Nat} {M M':Int} {f:Nat->Nat×Nat} {C C':SP->Prop} {B:List (Nat×List Value)} {w0 wr w':World}
theorem CaS.begin(h:CarB L c k ge f w0 wr):CaS L c k ge 2 f C0 [] w0 wr:=by
 obtain⟨Z,fr,m,hE,Bs,hc,he,st⟩:=h;exact⟨Z,fr,⟨m,Bs.1⟩,hE,hc,he,st,fun q hq=>by cases hq⟩
theorem CaS.grown(h:CaS L c k ge M f C B w0 wr)(hb:Below wr.heap.size wr w'):CaS L c k ge M f C B w0 w':=by
 obtain⟨Z,fr,i,hC,hc,he,st,hB⟩:=h;have s1:=st.sep.grown hb;exact⟨Z,fr,i,hC,hc.step rfl s1,AsideV.step he s1,st.trans s1,fun q hq=>AsideV.step (hB q hq) s1⟩
theorem CaS.below(h:CaS L c k ge M f C B w0 wr):Below w0.heap.size w0 wr:=by
 obtain⟨Z,fr,i,hC,hc,he,st,hB⟩:=h;exact st.fresh
theorem CaS.sub{B':List (Nat×List Value)}(h:CaS L c k ge M f C B w0 wr)(hs:∀q∈B',q∈B):CaS L c k ge M f C B' w0 wr:=by
 obtain⟨Z,fr,i,hC,hc,he,st,hB⟩:=h;exact⟨Z,fr,i,hC,hc,he,st,fun q hq=>hB q (hs q hq)⟩
theorem CaS.box(h:CaS L c k ge M f C B w0 wr)(T:TypeId)(cs:List Value):CaS L c k ge M f C ((wr.heap.size,cs)::B) w0 (wr.alloc (.cells cs.toArray T)):=by
 obtain⟨Z,fr,i,hC,hc,he,st,hB⟩:=h;have hb:Below wr.heap.size wr (wr.alloc (.cells cs.toArray T)):=(Below.refl _ _).alloc (J3h _) _;have s1:=st.sep.grown hb;refine⟨Z,fr,i,hC,hc.step rfl s1,AsideV.step he s1,st.trans s1,fun q hq=>?_⟩;rcases J3m.1 hq with rfl|hq
 ·exact fun j v hj=>⟨_,rfl,fun hk=>by have:=st.sep.lt hk;dsimp only at this;omega,by simp,(Cells.new wr T cs).cell j v hj⟩
 ·exact AsideV.step (hB q hq) s1
theorem CaS.cells(h:CaS L c k ge M f C B w0 wr)(j:Nat)(v:Value)(hj:(endC (endL f))[j]?=some v):wr.cell? ⟨ge,j,none⟩=some v:=by
 obtain⟨Z,fr,i,hC,hc,he,st,hB⟩:=h;obtain⟨g,e,_,_,z⟩:=he j v hj;cases e;exact z
theorem CaS.bx(h:CaS L c k ge M f C B w0 wr){q:Nat×List Value}(hq:q∈B)(j:Nat)(v:Value)(hj:q.2[j]?=some v):wr.cell? ⟨q.1,j,none⟩=some v:=by
 obtain⟨Z,fr,i,hC,hc,he,st,hB⟩:=h;obtain⟨g,e,_,_,z⟩:=hB q hq j v hj;cases e;exact z
theorem CaS.ends(h:CaS L c k ge M f C B w0 wr):(wr.cell? ⟨ge,0,none⟩=some (.int .u32 1)/\wr.cell? ⟨ge,1,none⟩=some (.int .i64 ((f 2).1:Int)))/\(wr.cell? ⟨ge,2,none⟩=some (.int .u32 2)/\wr.cell? ⟨ge,3,none⟩=some (.int .i64 ((f 3).1:Int))) /\
  (wr.cell? ⟨ge,6,none⟩=some (.int .u32 0)/\wr.cell? ⟨ge,7,none⟩=some (.int .i64 ((f 2).1:Int)))/\wr.cell? ⟨ge,8,none⟩=some (.int .u32 1)/\wr.cell? ⟨ge,9,none⟩=some (.int .i64 (((f 2).1+8:Nat):Int)):=
 ⟨⟨h.cells 0 _ rfl,h.cells 1 _ rfl⟩,⟨h.cells 2 _ rfl,h.cells 3 _ rfl⟩,⟨h.cells 6 _ rfl,h.cells 7 _ rfl⟩,h.cells 8 _ rfl,h.cells 9 _ rfl⟩
theorem CaS.go{Z:SP}{fr:List Nat}(i:CaI Z L M f fr)(hc:CarC Z c k wr)(he:AsideV Z.hl (endC (endL f)) (some ⟨ge,0,none⟩) wr)(st:Step [] Z.hl w0 wr)(hB:∀q∈B,AsideV Z.hl q.2 (some ⟨q.1,0,none⟩) wr)(n:CaN Z L M' f fr C' wr w'):CaS L c k ge M' f C' B w0 w':=by
 obtain⟨Z',i',hs,s1,VB⟩:=n;exact⟨Z',fr,i',VB,hc.step hs s1,AsideV.step he s1,st.trans s1,fun q hq=>AsideV.step (hB q hq) s1⟩
def ms0:Msg:=⟨0,[5,6],[it0]⟩
def C1(f:Nat->Nat×Nat)(Z:SP):Prop:=C0 Z/\msgV Z.S.P.a.mem (f 2).1=ms0
def C2(f:Nat->Nat×Nat)(Z:SP):Prop:=C0 Z/\msgV Z.S.P.a.mem (f 2).1=ms0/\winV Z.S.P.a.mem (f 3).1=wi0
def C3(f:Nat->Nat×Nat)(Z:SP):Prop:=(∀h t,Z.av.en h t=setA (enR 2) 2 8 (some (6,3)) h t)/\msgV Z.S.P.a.mem (f 3).1=⟨9,[5,6],[]⟩/\msgV Z.S.P.a.mem (f 2).1=ms0/\winV Z.S.P.a.mem (f 3).1=wi0
def C4(f:Nat->Nat×Nat)(Z:SP):Prop:=(∀h t,Z.av.en h t=setA (enR 2) 2 8 (some (6,3)) h t)/\msgV Z.S.P.a.mem (f 2).1=ms0/\winV Z.S.P.a.mem (f 3).1=wi0/\Q0m Z.S.P.a.mem ((f 6).1+1016)=7
theorem J1R(h:CaS L c k ge M f C0 B w0 wr){wa ia:Option Addr}(hu:IsU wr wa [5,6])(hi:IsI wr ia [it0])(wc ic:Nat) :
  Calls prog 107 #[.pointer (some ⟨c,0,none⟩),.agg #[.int .u32 1,.int .i64 ((f 2).1:Int)],.agg #[.int .u64 0,.slice wa 2 wc,.slice ia 1 ic]] wr fun r w'=>r=.returned (.int .i64 0)/\CaS L c k ge M f (C1 f) B w0 w':=by
 obtain⟨Z,fr,i,hC,hc,he,st,hB⟩:=h;have hr:=i.room (i:=2) (by omega) rfl;have Dt:=Q0g i.m.ok.core.inv.mem.pool;refine(Q6t i.m.ok st.sep hc (t:=1) (by omega) ((f 2).1:Int) (by omega) ms0 (by decide) (by decide) wc ic hu hi (by decide) (by decide)).mono ?_;intro r w' R;obtain⟨rfl,hm,n⟩:=Z0Y i (.inl rfl) (by omega) rfl (by unfold PutE;decide) R;refine⟨rfl,CaS.go i hc he st hB ?_⟩;obtain⟨Z',i',hs,s1,Dd,A2⟩:=n;refine⟨Z',i',hs,s1,fun h t=>by rw[Dd];exact hC h t,?_⟩;rw[A2];exact Z6T hm hr.1 hr.2
theorem Z9L(h:CaS L c k ge M f (C1 f) B w0 wr) :
  Calls prog 108 #[.pointer (some ⟨c,0,none⟩),.agg #[.int .u32 2,.int .i64 ((f 3).1:Int)],.agg #[.int .i64 8,.int .i64 1]] wr fun r w'=>r=.returned (.int .i64 0)/\CaS L c k ge M f (C2 f) B w0 w':=by
 obtain⟨Z,fr,i,hC,hc,he,st,hB⟩:=h;have hr:=i.room (i:=3) (by omega) rfl;have Ei:=i.room (i:=2) (by omega) rfl;have Dt:=Q0g i.m.ok.core.inv.mem.pool;have BG:=i.two (i:=2) (j:=3) (by omega) (by omega) (by omega);have ek2:costK (Q0z 2)=256:=rfl;have ek3:costK (Q0z 3)=256:=rfl;rw[ek2,ek3] at BG;refine(Q7E i.m.ok st.sep hc (t:=2) (by omega) ((f 3).1:Int) (by omega) wi0).mono ?_;intro r w' R;obtain⟨rfl,n⟩:=Q9P i (.inr rfl) (by omega) rfl (by decide) R;refine⟨rfl,CaS.go i hc he st hB ?_⟩;obtain⟨Z',i',hs,s1,Dd,A2⟩:=n;refine⟨Z',i',hs,s1,fun h t=>by rw[Dd];exact hC.1 h t,?_,?_⟩
 ·rw[A2,(Z3M (by decide) hr.1 hr.2 Ei.1 Ei.2 (by omega)).1];exact hC.2
 ·rw[A2];exact Z9x (by decide) hr.1 hr.2
theorem Z7p(h:CaS L c k ge M f (C2 f) B w0 wr)(hL:4500<=L)(hM:M+256<1099511627776) :
  Calls prog 54 #[.pointer (some ⟨c,0,none⟩),.agg #[.int .u32 1,.int .i64 ((f 2).1:Int)],.agg #[.int .u32 2,.int .i64 ((f 3).1:Int)],.int .u64 9] wr fun r w'=>r=.returned (.int .i64 0)/\CaS L c k ge (M+1) f (C3 f) B w0 w':=by
 obtain⟨Z,fr,i,hC,hc,he,st,hB⟩:=h;have hr:=i.room (i:=3) (by omega) rfl;have Ei:=i.room (i:=2) (by omega) rfl;have Dt:=Q0g i.m.ok.core.inv.mem.pool;refine(Q1X i.m.ok st.sep hM hc (tf:=1) (tt:=2) (by omega) (by omega) ((f 2).1:Int) ((f 3).1:Int) (by omega) (by omega) (lb:=9) (by omega)).mono ?_;intro r w' R;obtain⟨rfl,n⟩:=Q8q i hL (by decide) hC.2.1 hC.2.2 hC.1 R;refine⟨rfl,CaS.go i hc he st hB ?_⟩;obtain⟨Z',i',hs,s1,q1,q2,q3,q4⟩:=n;exact⟨Z',i',hs,s1,q1,q2,q3,q4⟩
theorem Z3U(h:CaS L c k ge M f (C4 f) B w0 wr)(hM:M+256<1099511627776) :
  Calls prog 54 #[.pointer (some ⟨c,0,none⟩),.agg #[.int .u32 1,.int .i64 ((f 2).1:Int)],.agg #[.int .u32 2,.int .i64 ((f 3).1:Int)],.int .u64 9] wr fun r w'=>r=.returned (.int .i64 7)/\CaS L c k ge M f (fun _=>True) B w0 w':=by
 obtain⟨Z,fr,i,hC,hc,he,st,hB⟩:=h;have hr:=i.room (i:=3) (by omega) rfl;have Ei:=i.room (i:=2) (by omega) rfl;have Dt:=Q0g i.m.ok.core.inv.mem.pool;refine(Q1X i.m.ok st.sep hM hc (tf:=1) (tt:=2) (by omega) (by omega) ((f 2).1:Int) ((f 3).1:Int) (by omega) (by omega) (lb:=9) (by omega)).mono ?_;intro r w' R;obtain⟨rfl,n⟩:=Q6I i hC.2.1 hC.2.2.1 (c1:=(6,15)) (c2:=(6,3)) (by rw[hC.1];rfl) (by decide) (by rw[hC.1];rfl) st.sep R;exact⟨rfl,CaS.go i hc he st hB n⟩
theorem Z2l{t:Nat}{a:Nat}{e:Int}(Cu:e≠0)(ht:t<2)(ha:a<=4294967296)(h:CaS L c k ge M f C B w0 wr)(hb:∀Z fr,CaI Z L M f fr->blkE Z t (a:Int)=e) :
  Calls prog 107 #[.pointer (some ⟨c,0,none⟩),.agg #[.int .u32 t,.int .i64 a],.agg #[.int .u64 0,.slice none 0 0,.slice none 0 0]] wr fun r w'=>r=.returned (.int .i64 e)/\CaS L c k ge M f C B w0 w':=by
 obtain⟨Z,fr,i,hC,hc,he,st,hB⟩:=h;refine(Q6t i.m.ok st.sep hc (t:=t) (by omega) (a:Int) (by omega) Msg.none (by decide) (by decide) 0 0 (fun j y hj=>by simp[Msg.none] at hj) (fun j y hj=>by simp[Msg.none] at hj) (by decide) (by decide)).mono ?_;intro r w' R;have TC:=hb Z fr i;rcases R with ⟨_,rfl,FF⟩|⟨p,hp,_⟩
 ·rw[TC];exact⟨rfl,CaS.grown ⟨Z,fr,i,hC,hc,he,st,hB⟩ FF⟩
 ·exact absurd (TC.symm.trans hp.1) Cu
theorem J1S(h:CaS L c k ge M f (C3 f) B w0 wr) :
  Calls prog 52 #[.pointer (some ⟨c,0,none⟩),.agg #[.int .u32 2,.int .i64 ((f 3).1:Int)]] wr fun r w'=>∃(g cap:Nat) (xa:Option Addr) (xc:Nat),r=.returned (.tuple #[.agg #[.int .u64 9,.slice (some ⟨g,0,none⟩) 2 cap,.slice xa 0 xc],.int .i64 0])/\CaS L c k ge M f (C3 f) ((g,[.int .u64 5,.int .u64 6])::B) w0 w':=by
 obtain⟨Z,fr,i,hC,hc,he,st,hB⟩:=h;have hr:=i.room (i:=3) (by omega) rfl;have Dt:=Q0g i.m.ok.core.inv.mem.pool;refine(Q9O i.m.ok st.sep hc (t:=2) (by omega) ((f 3).1:Int) (by omega)).mono ?_;intro r w' R;have hb:=i.blk (t:=2) (.inr rfl) (i:=3) (by omega) rfl;rcases R with ⟨h0,_⟩|⟨p,v,hp,rfl,hm⟩
 ·exact(h0 hb).elim
 ·rw[hp.at_,hC.2.1] at hm;obtain⟨rw_,ri,hv,o1,o2,s1⟩:=hm;cases rw_ with
  | none=>cases o1
  | some q =>
   obtain⟨g,cap⟩:=q;obtain⟨xa,xc,ex⟩:∃xa xc,lvOf ri (⟨9,[5,6],[]⟩:Msg).its.length=.slice xa 0 xc:=by
    cases ri with
    | none=>exact⟨_,_,rfl⟩
    | some q=>exact⟨_,_,rfl⟩
   have ev:=Ending.returned.inj hv;rw[ex] at ev;subst ev;have s2:=CaS.grown ⟨Z,fr,i,hC,hc,he,st,hB⟩ s1.fresh;obtain⟨Z2,fr2,i2,Mi,B5,DZ,st2,E6⟩:=CaS.grown (B:=B) ⟨Z,fr,i,hC,hc,he,st,hB⟩ s1.fresh;have sg:=st.sep.grown s1.fresh;refine⟨g,cap,xa,xc,rfl,Z,fr,i,hC,hc.step rfl sg,AsideV.step he sg,st.trans sg,fun q hq=>?_⟩;rcases J3m.1 hq with rfl|hq
   ·intro j v hj;have hg:g∈keys (rowH (some (g,cap)) 83 1 ((⟨9,[5,6],[]⟩:Msg).ws.map encU)++rowH ri 63 5 ((⟨9,[5,6],[]⟩:Msg).its.flatMap It.cells)):=by simp[rowH]
    refine⟨g,rfl,fun hk=>?_,s1.sep.lt hg,Q0w s1.sep.left j v hj⟩;rcases s1.new g hg with h1|h1
    ·cases h1
    ·have:=st.sep.lt hk;omega
   ·exact AsideV.step (hB q hq) sg
theorem Z9M(h:CaS L c k ge M f (C3 f) B w0 wr):Calls prog 44 #[.pointer (some ⟨c,0,none⟩)] wr fun r w1=>∃s,r=.returned (.pointer (some ⟨s,0,none⟩)) /\
  Calls prog 37 #[.pointer (some ⟨s,0,none⟩),.int .u32 2,.int .i64 8] w1 fun r w'=>r=.returned (.tuple #[.agg #[.int .u32 6,.int .i64 3],.int .i64 0])/\CaS L c k ge M f (C3 f) B w0 w':=by
 obtain⟨Z,fr,i,hC,hc,he,st,hB⟩:=h;refine(Q2f hc).mono ?_;rintro r w1⟨rfl,rfl⟩;refine⟨Z.s,rfl,(Q6g st.sep i.m.ok (x:=2) (by omega) 8).mono ?_⟩;rintro r w'⟨rfl,hb⟩;rw[Z2c (i.at' (i:=1) (by omega)) rfl (by decide),hC.1];exact⟨rfl,CaS.grown ⟨Z,fr,i,hC,hc,he,st,hB⟩ hb⟩
end
theorem CaI.frm{Z:SP}{L M:Int}{f:Nat->Nat×Nat}{fr:List Nat}(h:CaI Z L M f fr){t:Nat}(ht:t=1∨t=2){z i rr:Nat}(hz:z<256)(hi:i<7)(he:Z.av.en t z=some (i+1,rr))(right:Nat)(off n:Int) :
  frmE Z t (z:Int) right off n=frE (if Q0z i=8 then 0 else 10) ((rr&&&right:Nat):Int) off n/\∀p g,FrmAt Z t (z:Int) right off n p g->p=plB f i:=by
 have AD:(Q0f Z.S.l Z.tb t z).map Ent.c=some (i+1,rr):=he;cases hx:Q0f Z.S.l Z.tb t z with
 | none=>rw[hx] at AD;cases AD
 | some e =>
  rw[hx] at AD;have ON:e.c=(i+1,rr):=J3Y AD;have eh:e.h=i+1:=congrArg Prod.fst ON;have er:e.r=rr:=congrArg Prod.snd ON;have hp:pget Z.S.l 1 t=some (plB f (t-1)):=by
   have:=h.at' (i:=t-1) (by omega)
   rwa [show t-1+1=t by omega] at this
  have Ax:(plB f (t-1)).kind=2:=by rcases ht with rfl|rfl <;> rfl
  constructor
  ·unfold frmE;rw[hp];simp only;rw[if_pos Ax,if_pos (by omega),J4g,hx];simp only;rw[eh,h.at' hi,er];rfl
  ·intro p g ha;obtain⟨e2,h1,h2,_⟩:=ha.ent;rw[J4g,hx] at h1;cases h1;rw[eh,h.at' hi] at h2;exact(J3Y h2).symm
theorem J0p{q off n:Int}(hq:q≠0)(h:0<=off/\off<=1024/\n<=1024-off/\off%8=0):frE 0 q off n=0:=by
 unfold frE;rw[if_neg (by decide),if_neg hq,if_neg (by omega),if_neg (by omega)]
section
variable {Z:SP} {L:Int} {c k ge:Nat} {M:Int} {f:Nat->Nat×Nat} {fr:List Nat} {w w':World} {r:Ending}
theorem Q8r(h:CaI Z L M f fr){t:Nat}(ht:t=1∨t=2){z rr:Nat}(hz:z<256)(he:Z.av.en t z=some (7,rr))(hr:rr&&&2≠0){o:Nat}{ws:List Nat}(ho:o%8=0)(hl:o+8*ws.length<=1024)(R:StoR Z fr 8 0 M t (z:Int) (o:Int) ws w r w') :
  r=.returned (.int .i64 0)/\CaN Z L M f fr (fun Z'=>Z'=Z.stored (plB f 6) o ws) w w':=by
 obtain⟨q1,q2⟩:=h.frm ht hz (i:=6) (by omega) he 2 (o:Int) (8*(ws.length:Int));have h0:frmE Z t (z:Int) 2 (o:Int) (8*(ws.length:Int))=0:=by
  rw[q1,if_pos (show Q0z 6=8 from rfl)];exact J0p (by omega) ⟨by omega,by omega,by omega,by omega⟩
 rcases R with ⟨h1,_⟩|⟨_,p,g,ha,rfl,ok,st⟩
 ·exact(h1 h0).elim
 ·have hp:=q2 p g ha;have hg:g=o:=by have:=ha.off;omega
  subst hp;subst hg;exact⟨rfl,_,h.poke ok,rfl,st,rfl⟩
theorem Q9Q(h:CaI Z L M f fr){t:Nat}(ht:t=1∨t=2){z rr:Nat}(hz:z<256)(he:Z.av.en t z=some (7,rr))(hr:rr&&&1≠0){o:Nat}(ho:o%8=0)(hl:o+8<=1024)(R:LodR Z t (z:Int) (o:Int) w r w') :
  r=.returned (.tuple #[.int .u64 (Q0m Z.S.P.a.mem ((f 6).1+o):Nat),.int .i64 0])/\Below w.heap.size w w':=by
 obtain⟨q1,q2⟩:=h.frm ht hz (i:=6) (by omega) he 1 (o:Int) 8;have h0:frmE Z t (z:Int) 1 (o:Int) 8=0:=by
  rw[q1,if_pos (show Q0z 6=8 from rfl)];exact J0p (by omega) ⟨by omega,by omega,by omega,by omega⟩
 obtain⟨hb,hc⟩:=R;rcases hc with ⟨h1,_⟩|⟨_,p,g,ha,rfl⟩
 ·exact(h1 h0).elim
 ·have hp:=q2 p g ha;have hg:g=o:=by have:=ha.off;omega
  subst hp;subst hg;exact⟨rfl,hb⟩
theorem Q4X{E:Int}(hE:E≠0){t:Nat}{z off:Int}(h0:frmE Z t z 1 off 8=E)(R:LodR Z t z off w r w') :
  r=.returned (.tuple #[.int .u64 0,.int .i64 E])/\Below w.heap.size w w':=by
 obtain⟨hb,hc⟩:=R;rcases hc with ⟨_,rfl⟩|⟨h1,_⟩
 ·rw[h0];exact⟨rfl,hb⟩
 ·rw[h0] at h1;exact(hE h1).elim
theorem CaI.keptS(h:CaI Z L M f fr){o:Nat}{ws:List Nat}(hl:o+8*ws.length<=1024){i:Nat}(hi:i<6)(hk:Q0z i=3):msgV (Z.stored (plB f 6) o ws).S.P.a.mem (f i).1=msgV Z.S.P.a.mem (f i).1/\winV (Z.stored (plB f 6) o ws).S.P.a.mem (f i).1=winV Z.S.P.a.mem (f i).1:=by
 have Ej:=Z0S h.m.ok (h.idx (i:=6) (by omega)) (h.idx (i:=i) (by omega)) (by omega) rfl rfl (.inr rfl) (o:=o) (ws:=ws) hl;have e:costK (plB f i).kind=256:=by show costK (Q0z i)=256;rw[hk];rfl
 rw[e] at Ej;exact Q7A Ej
theorem CaI.frame(h:CaI Z L M f fr):(f 6).1+1024<=Z.S.P.a.mem.length/\(f 6).1%8=0:=Q0Z h.m.ok.core (h.mem (i:=6) (by omega)).1 (h.mem (i:=6) (by omega)).2 (.inr rfl)
end
section
variable {L:Int} {c k ge:Nat} {M M':Int} {f:Nat->Nat×Nat} {C C':SP->Prop} {B:List (Nat×List Value)} {w0 wr w':World}
theorem J0q(h:CaS L c k ge M f C B w0 wr):(f 2).1<=1073741824:=by
 obtain⟨Z,fr,i,_⟩:=h;have h1:=i.room (i:=2) (by omega) rfl;have h2:=Q0g i.m.ok.core.inv.mem.pool;omega
theorem Z7q(h:CaS L c k ge M f (C3 f) B w0 wr){wa:Option Addr}(cap:Nat)(hA:∀H:HL,Step [] H w0 wr->(∀q∈B,AsideV H q.2 (some ⟨q.1,0,none⟩) wr)->AsideU H [7] wa wr) :
  Calls prog 45 #[.pointer (some ⟨c,0,none⟩),.int .u32 1,.int .i64 128,.int .i64 1016,.slice wa 1 cap] wr fun r w'=>r=.returned (.int .i64 0)/\CaS L c k ge M f (C4 f) B w0 w':=by
 obtain⟨Z,fr,i,hC,hc,he,st,hB⟩:=h;refine(Q3T i.m.ok st.sep hc (t:=1) (by omega) 128 1016 (by decide) cap (hA _ st hB) (by decide) (by decide)).mono ?_;intro r w' R;obtain⟨rfl,n⟩:=Q8r i (.inl rfl) (z:=128) (by omega) (rr:=15) (by rw[hC.1];rfl) (by decide) (o:=1016) (by decide) (by decide) R;refine⟨rfl,CaS.go i hc he st hB ?_⟩;obtain⟨Z',i',hs,s1,rfl⟩:=n;refine⟨_,i',hs,s1,hC.1,?_,?_,?_⟩
 ·rw[(i.keptS (o:=1016) (ws:=[7]) (by decide) (i:=2) (by omega) rfl).1];exact hC.2.2.1
 ·rw[(i.keptS (o:=1016) (ws:=[7]) (by decide) (i:=3) (by omega) rfl).2];exact hC.2.2.2
 ·have hf:=i.frame;show Q0m (put_ Z.S.P.a.mem ((f 6).1+1016) ([7].flatMap Q0c)) ((f 6).1+1016)=7;rw[Q4s _ _ _ (by simp;omega) (by decide) _ (by omega) (by omega) (by omega),if_pos (by simp)];rw[J6t];rfl
theorem Q8s(h:CaS L c k ge M f (C4 f) B w0 wr)(z off:Int)(x e:Nat)(hx:(z=128/\off=1016/\x=7/\e=0)∨(z=128/\off=1017/\x=0/\e=2)∨(z=0/\off=0/\x=0/\e=10)) :
  Calls prog 46 #[.pointer (some ⟨c,0,none⟩),.int .u32 1,.int .i64 z,.int .i64 off] wr fun r w'=>r=.returned (.tuple #[.int .u64 x,.int .i64 e])/\CaS L c k ge M f (C4 f) B w0 w':=by
 obtain⟨Z,fr,i,hC,hc,he,st,hB⟩:=h;refine(Z3T i.m.ok st.sep hc (t:=1) (by omega) z off (by rcases hx with ⟨_,rfl,_⟩|⟨_,rfl,_⟩|⟨_,rfl,_⟩ <;> decide)).mono ?_;intro r w' R;rcases hx with ⟨rfl,rfl,rfl,rfl⟩|⟨rfl,rfl,rfl,rfl⟩|⟨rfl,rfl,rfl,rfl⟩
 ·obtain⟨rfl,hb⟩:=Q9Q i (.inl rfl) (z:=128) (by omega) (rr:=15) (by rw[hC.1];rfl) (by decide) (o:=1016) (by decide) (by decide) R;rw[hC.2.2.2];exact⟨rfl,CaS.grown ⟨Z,fr,i,hC,hc,he,st,hB⟩ hb⟩
 ·have q:=(i.frm (t:=1) (.inl rfl) (z:=128) (by omega) (i:=6) (by omega) (rr:=15) (by rw[hC.1];rfl) 1 1017 8).1;obtain⟨rfl,hb⟩:=Q4X (E:=2) (by decide) (q.trans (by decide)) R;exact⟨rfl,CaS.grown ⟨Z,fr,i,hC,hc,he,st,hB⟩ hb⟩
 ·have q:=(i.frm (t:=1) (.inl rfl) (z:=0) (by omega) (i:=5) (by omega) (rr:=15) (by rw[hC.1];rfl) 1 0 8).1;obtain⟨rfl,hb⟩:=Q4X (E:=10) (by decide) (q.trans (by decide)) R;exact⟨rfl,CaS.grown ⟨Z,fr,i,hC,hc,he,st,hB⟩ hb⟩
theorem Z9N(h:CaS L c k ge M f C B w0 wr):Calls prog 107 #[.pointer (some ⟨c,0,none⟩),.agg #[.int .u32 0,.int .i64 ((f 2).1:Int)],.agg #[.int .u64 0,.slice none 0 0,.slice none 0 0]] wr fun r w'=>r=.returned (.int .i64 10)/\CaS L c k ge M f C B w0 w':=
 Z2l (t:=0) (a:=(f 2).1) (e:=10) (by decide) (by decide) (by have:=J0q h;omega) h (fun Z fr i=>i.blk0 _)
theorem Z9O(h:CaS L c k ge M f C B w0 wr):Calls prog 107 #[.pointer (some ⟨c,0,none⟩),.agg #[.int .u32 1,.int .i64 (((f 2).1+8:Nat):Int)],.agg #[.int .u64 0,.slice none 0 0,.slice none 0 0]] wr fun r w'=>r=.returned (.int .i64 1)/\CaS L c k ge M f C B w0 w':=
 Z2l (t:=1) (a:=(f 2).1+8) (e:=1) (by decide) (by decide) (by have:=J0q h;omega) h (fun Z fr i=>i.blk8)
end
theorem Z0Z(w:World)(a b:Option Addr)(ca cb:Nat)(xs ys:List Nat)(ha:IsU w a xs)(hb:IsU w b ys)(hl:xs.length<=65536)(D3:ys.length<=65536) :
  Calls prog 120 #[.slice a xs.length ca,.slice b ys.length cb] w (Told w (.bool (decide (xs=ys)))):=by
 by_cases Ab:xs.length=ys.length
 ·have HX:=Q0a ha;have HY:=Q0a hb;have HL:Hid (xs.length=ys.length):=Ab;rw[<- Ab];clear ha hb Ab D3;generalize hn:xs.length=n at hl;have HN:Hid (xs.length=n):=hn;clear hn;go_enter func120,ntmps120;go_wp2_with fail
  go_loopg [5] n (fun gk i wr=>∃k:Nat,k+gk=n/\i=.int .i64 k/\(∀j,j<k->xs[j]?=ys[j]?)/\Below w.heap.size w wr)
  case atStart=>exact⟨0,J5F _,rfl,by intro j hj;omega,Below.refl _ _⟩
  case round =>
   obtain⟨k,hk,rfl,A1,BY⟩:=hrel;have Hp:Hid (∀j,j<k->xs[j]?=ys[j]?):=A1;clear A1;by_cases Aa:k<n
   ·have ex:xs[k]?=some (xs[k]'(by rw[HN.out];exact Aa)):=J5s _;have ey:ys[k]?=some (ys[k]'(by rw[<- HL.out,HN.out];exact Aa)):=J5s _;generalize xs[k]'(by rw[HN.out];exact Aa)=x at ex;generalize ys[k]'(by rw[<- HL.out,HN.out];exact Aa)=y at ey;obtain⟨g1,o1,rfl,BS,MC⟩:=HX.out k x ex;obtain⟨g2,o2,rfl,BB,MD⟩:=HY.out k y ey;have cx:=(World.cell?_of_block (w:=w) (BY.block g1 BS)).trans MC;have cy:=(World.cell?_of_block (w:=w) (BY.block g2 BB)).trans MD;have Ug:=Q0a ex;have Sp:=Q0a ey;have CG:(k:Int)<(n:Int):=by omega
    have R8:(n:Int)<=65536:=by omega
    clear ex ey MC MD BS BB;by_cases HU:x=y
    ·subst HU;have Aq:(((x:Nat):Int) != ((x:Nat):Int))=false:=by simp
     go_wp2
     go_region
     all_goals go_wp2
     all_goals go_roundg (n-(k+1))
     all_goals first
      | omega
      | (refine⟨k+1,by omega,by go_num,fun j hj=>?_,BY.drew⟩;rcases J5K j k with e|e;exact Hp.out j e;(obtain rfl:j=k:=by omega);rw[Ug.out,Sp.out])
    ·have Aq:(((x:Nat):Int) != ((y:Nat):Int))=true:=by simp;omega
     have Xg:=Q0a HU;clear HU
     go_wp2
     go_region
     all_goals go_wp2
     all_goals go_ret
     all_goals
      have Ac:¬(xs=ys):=by
       rintro rfl;have:=Ug.out.symm.trans Sp.out;exact Xg.out (J3Y this)
      exact⟨by simp[Ac],BY.drew⟩
   ·have JE:Hid (xs=ys):=by
     refine J4J fun j=>?_
     by_cases hj:j<k
     ·exact Hp.out j hj
     ·rw[J4Q (by have:=HN.out;omega),J4Q (by have:=HN.out;have:=HL.out;omega)]
    go_wp2
    go_ret;exact⟨by simp[JE.out],BY⟩
 ·have Ac:¬(xs=ys):=fun e=>Ab (by rw[e])
  have Aq:((xs.length:Int) != ys.length)=true:=by simp;omega
  clear ha hb;have HR:Hid (Told w (.bool (decide (xs=ys))) (.returned (.bool false)) w):=⟨by simp[Ac],Below.refl _ _⟩
  clear Ab Ac;generalize xs.length=n1 at *
  generalize ys.length=n2 at *
  go_enter func120,ntmps120;go_wp2_with fail;go_ret;exact HR.out
theorem Z1a(w:World)(l:Nat)(a b xa xb:Option Addr)(ca cb xc yc:Nat)(xs:List Nat)(ha:IsU w a xs)(hb:IsU w b xs)(hl:xs.length<=65536) :
  Calls prog 55 #[.agg #[.int .u64 l,.slice a xs.length ca,.slice xa 0 xc],.agg #[.int .u64 l,.slice b xs.length cb,.slice xb 0 yc]] w (Told w (.bool true)):=by
 have b1:Below w.heap.size w ((w.alloc (.cells #[.int .u64 l,.slice a xs.length ca,.slice xa 0 xc] 100)).alloc (.cells #[.int .u64 l,.slice b xs.length cb,.slice xb 0 yc] 100)):=((Below.refl _ _).alloc (J3h _) _).alloc (by simp) _;have kw:=Z0Z _ a b ca cb xs xs (ha.below b1) (hb.below b1) hl hl;rw[decide_eq_true rfl] at kw;have HB:=Q0a b1;have Ac:(((l:Nat):Int) != ((l:Nat):Int))=false:=by simp
 have c1:=(Cells.new w 100 [.int .u64 l,.slice a xs.length ca,.slice xa 0 xc]).alloc (.cells #[.int .u64 l,.slice b xs.length cb,.slice xb 0 yc] 100);have c2:=Cells.new (w.alloc (.cells #[.int .u64 l,.slice a xs.length ca,.slice xa 0 xc] 100)) 100 [.int .u64 l,.slice b xs.length cb,.slice xb 0 yc];have hz:(w.alloc (.cells #[.int .u64 l,.slice a xs.length ca,.slice xa 0 xc] 100)).heap.size=w.heap.size+1:=by simp
 rw[hz] at c2;have HC:Hid (∀V,Below ((w.alloc (.cells #[.int .u64 l,.slice a xs.length ca,.slice xa 0 xc] 100)).alloc (.cells #[.int .u64 l,.slice b xs.length cb,.slice xb 0 yc] 100)).heap.size ((w.alloc (.cells #[.int .u64 l,.slice a xs.length ca,.slice xa 0 xc] 100)).alloc (.cells #[.int .u64 l,.slice b xs.length cb,.slice xb 0 yc] 100)) V->V.cell? ⟨w.heap.size,2,none⟩=some (.slice xa 0 xc)/\V.cell? ⟨w.heap.size+1,2,none⟩=some (.slice xb 0 yc)/\Told w (.bool true) (.returned (.bool true)) V):=fun V hV=>⟨(c1.same (hV.block _ c1.lt)).cell 2 _ rfl,(c2.same (hV.block _ c2.lt)).cell 2 _ rfl,rfl,Q0b (Q0b hV)⟩
 generalize xs.length=n at *
 clear ha hb b1 c1 c2 hz;go_enter func55,ntmps55;go_wp2_with fail;refine kw.mono ?_;rintro r w2⟨rfl,Ae⟩;obtain⟨x2,y2,hq⟩:=HC.out w2 Ae;have HQ:=Q0a hq;clear Ae HC kw hq;go_wp2_with fail;obtain⟨wq,rfl⟩:∃wq:World,wq=w2:=⟨_,rfl⟩
 go_loopg [5] 0 (fun gk i wr=>gk=0/\i=.int .i64 0/\wr=wq)
 case atStart=>exact⟨rfl,rfl,rfl⟩
 case round =>
  obtain⟨rfl,rfl,rfl⟩:=hrel;go_wp2_with fail
  (try go_ret);exact HQ.out
theorem Z7r(w:World)(x y:Nat):IsU (w.alloc (.cells #[.int .u64 x,.int .u64 y] 83)) (some ⟨w.heap.size,0,none⟩) [x,y]:=fun j v hj=>by
 have c:=Cells.new w 83 [.int .u64 x,.int .u64 y]
 match j,hj with
 | 0,hj=>cases hj;exact⟨_,0,rfl,by simp,c.cell 0 _ rfl⟩
 | 1,hj=>cases hj;exact⟨_,0,rfl,by simp,c.cell 1 _ rfl⟩
theorem J1T(w:World)(i:It):IsI (w.alloc (.cells #[.int .i64 i.base,.int .i64 i.order,.int .i64 i.r,.int .i64 i.off,.bool i.g] 63)) (some ⟨w.heap.size,0,none⟩) [i]:=fun j v hj=>by
 have c:=Cells.new w 63 [.int .i64 i.base,.int .i64 i.order,.int .i64 i.r,.int .i64 i.off,.bool i.g]
 match j,hj with
 | 0,hj =>
  cases hj
  refine⟨_,0,rfl,by simp,fun t u hu=>?_⟩;have e:0+0*5+t=t:=by omega
  rw[e];exact c.cell t u hu
abbrev Al9S(f:Nat->Nat×Nat)(ge bk bm g gc:Nat)(xa:Option Addr)(xc:Nat)(V:World):Prop:=
 ((V.cell? ⟨ge,0,none⟩=some (.int .u32 1)/\V.cell? ⟨ge,1,none⟩=some (.int .i64 ((f 2).1:Int)))/\(V.cell? ⟨ge,2,none⟩=some (.int .u32 2)/\V.cell? ⟨ge,3,none⟩=some (.int .i64 ((f 3).1:Int))) /\
  (V.cell? ⟨ge,6,none⟩=some (.int .u32 0)/\V.cell? ⟨ge,7,none⟩=some (.int .i64 ((f 2).1:Int)))/\V.cell? ⟨ge,8,none⟩=some (.int .u32 1)/\V.cell? ⟨ge,9,none⟩=some (.int .i64 (((f 2).1:Int)+8))) /\
 (V.cell? ⟨bm,0,none⟩=some (.int .u64 9)/\V.cell? ⟨bm,1,none⟩=some (.slice (some ⟨g,0,none⟩) 2 gc)/\V.cell? ⟨bm,2,none⟩=some (.slice xa 0 xc))/\V.cell? ⟨bk,0,none⟩=some (.int .u32 6)/\V.cell? ⟨bk,1,none⟩=some (.int .i64 3)
theorem al9c(n:Nat):((n+8:Nat):Int)=(n:Int)+8:=by omega
theorem al9S{L:Int}{c k ge:Nat}{M:Int}{f:Nat->Nat×Nat}{C:SP->Prop}{bk bm g gc xc:Nat}{xa:Option Addr}{w0 V:World}(h:CaS L c k ge M f C [(bk,[.int .u32 6,.int .i64 3]),(bm,[.int .u64 9,.slice (some ⟨g,0,none⟩) 2 gc,.slice xa 0 xc]),(g,[.int .u64 5,.int .u64 6])] w0 V):Al9S f ge bk bm g gc xa xc V:=
 ⟨by have e:=h.ends;rw[al9c] at e;exact e,⟨h.bx (q:=(bm,[.int .u64 9,.slice (some ⟨g,0,none⟩) 2 gc,.slice xa 0 xc])) (by simp) 0 _ rfl,h.bx (q:=(bm,[.int .u64 9,.slice (some ⟨g,0,none⟩) 2 gc,.slice xa 0 xc])) (by simp) 1 _ rfl,h.bx (q:=(bm,[.int .u64 9,.slice (some ⟨g,0,none⟩) 2 gc,.slice xa 0 xc])) (by simp) 2 _ rfl⟩,
  h.bx (q:=(bk,[.int .u32 6,.int .i64 3])) (by simp) 0 _ rfl,h.bx (q:=(bk,[.int .u32 6,.int .i64 3])) (by simp) 1 _ rfl⟩
theorem Q6y{w:World}(AM:Env w):Calls prog 42 #[] w (Told w (.bool true)):=by
 have kb:=Q3S AM 65536 (by omega);clear AM;go_enter func42,ntmps42;go_wp2_with fail;refine kb.mono ?_;rintro r w1⟨c,k,ge,cap,f,rfl,hB⟩;clear kb;have h1:=CaS.begin hB;have q1:=(h1.grown ((Below.refl w1.heap.size w1).alloc (J3h _) (.cells #[.int .u64 5,.int .u64 6] 83))).grown ((Below.refl _ _).alloc (J3h _) (.cells #[.int .i64 0,.int .i64 0,.int .i64 3,.int .i64 0,.bool false] 63));have kp:=J1R q1 ((Z7r w1 5 6).below ((Below.refl _ _).alloc (J3h _) (.cells #[.int .i64 0,.int .i64 0,.int .i64 3,.int .i64 0,.bool false] 63))) (J1T (w1.alloc (.cells #[.int .u64 5,.int .u64 6] 83)) it0) 2 1;have AT:(w1.alloc (.cells #[.int .u64 5,.int .u64 6] 83)).heap.size=w1.heap.size+1:=by simp
 rw[AT] at kp;obtain⟨⟨e0,e1⟩,⟨e2,e3⟩,⟨e6,e7⟩,e8,e9⟩:=h1.ends;have AW:(5:Int)<=5:=by omega
 have H1:=Q0a kp;clear hB h1 q1 kp AT;go_wp2_with fail;refine H1.out.mono ?_;rintro r w2⟨rfl,hq⟩;have H2:=Q0a (Z9L hq);clear e0 e1 e2 e3 e6 e7 e8 e9 H1;obtain⟨⟨e0,e1⟩,⟨e2,e3⟩,⟨e6,e7⟩,e8,e9⟩:=hq.ends;clear hq;go_wp2_with fail;refine H2.out.mono ?_;rintro r w3⟨rfl,hq⟩;have H3:=Q0a (Z7p (hq.grown (Below.refl _ _).drew) (by omega) (by omega));clear e0 e1 e2 e3 e6 e7 e8 e9 H2;obtain⟨⟨e0,e1⟩,⟨e2,e3⟩,⟨e6,e7⟩,e8,e9⟩:=hq.ends;obtain⟨⟨d0,d1⟩,⟨d2,d3⟩,-,-,-⟩:=(hq.grown (Below.refl w3.heap.size w3).drew).ends;clear hq;go_upto_region 6 with fail
 go_region_held3 (fun V=>(V.cell? ⟨ge,0,none⟩=some (.int .u32 1)/\V.cell? ⟨ge,1,none⟩=some (.int .i64 ((f 2).1:Int)))/\V.cell? ⟨ge,2,none⟩=some (.int .u32 2)/\V.cell? ⟨ge,3,none⟩=some (.int .i64 ((f 3).1:Int))) (first|exact⟨⟨e0,e1⟩,e2,e3⟩|exact⟨⟨d0,d1⟩,d2,d3⟩|exact x4) (first|(go_at_call 54;refine H3.out.mono ?_;rintro r w4⟨rfl,hq⟩;have x4:=(⟨hq.ends.1,hq.ends.2.1⟩:_/\_);have JC:=Q0a hq;clear hq))
 all_goals
  clear e0 e1 e2 e3 e6 e7 e8 e9 d0 d1 d2 d3 x4 H3;have hq:=JC.out;have H4:=Q0a (J1S hq);obtain⟨⟨e0,e1⟩,⟨e2,e3⟩,⟨e6,e7⟩,e8,e9⟩:=hq.ends;clear hq JC;go_wp2_with fail;refine H4.out.mono ?_;rintro r w5⟨g,gc,xa,xc,rfl,hq⟩;have C5:=hq.box 100 [.int .u64 9,.slice (some ⟨g,0,none⟩) 2 gc,.slice xa 0 xc];have H5:=Q0a (Z9M C5);clear e0 e1 e2 e3 e6 e7 e8 e9 H4 hq C5;go_wp2_with fail;refine H5.out.mono ?_;rintro r w6⟨s,rfl,kl⟩;have H6:=Q0a kl;clear kl H5;go_wp2_with fail;refine H6.out.mono ?_;rintro r w7⟨rfl,hq⟩;have C5:=hq.box 72 [.int .u32 6,.int .i64 3];have Uv:(w7.alloc (.cells #[.int .u32 6,.int .i64 3] 72)).heap.size=w7.heap.size+1:=by simp
  have LM:=C5.box 83 [.int .u64 7];rw[Uv] at LM;have H7:=Q0a (Z7q LM (wa:=some ⟨w7.heap.size+1,0,none⟩) 1 (fun H st OA j y hj=>by
   match j,hj with
   | 0,hj =>
    cases hj
    obtain⟨g',e,hk,hl,z⟩:=OA (w7.heap.size+1,[.int .u64 7]) (by simp) 0 _ rfl;cases e;exact⟨_,0,rfl,hk,hl,z⟩))
  clear LM;clear H6 hq C5 Uv;go_wp2_with fail;refine H7.out.mono ?_;rintro r w8⟨rfl,LM⟩;have hq:=LM.sub (B':=[(w7.heap.size,[.int .u32 6,.int .i64 3]),(w5.heap.size,[.int .u64 9,.slice (some ⟨g,0,none⟩) 2 gc,.slice xa 0 xc]),(g,[.int .u64 5,.int .u64 6])]) (fun q hq=>J7q _ hq);clear LM;have H8:=Q0a (Q8s hq 128 1016 7 0 (.inl ⟨rfl,rfl,rfl,rfl⟩));clear H7 hq;go_wp2_with fail;refine H8.out.mono ?_;rintro r w9⟨rfl,hq⟩;have H9:=Q0a (Q8s hq 128 1017 0 2 (.inr (.inl ⟨rfl,rfl,rfl,rfl⟩)));clear H8 hq;go_wp2_with fail;refine H9.out.mono ?_;rintro r w10⟨rfl,hq⟩;have SV:=Q0a (Q8s hq 0 0 0 10 (.inr (.inr ⟨rfl,rfl,rfl,rfl⟩)))
  clear H9 hq;go_wp2_with fail;refine SV.out.mono ?_;rintro r w11⟨rfl,hq⟩;have Ow:=hq.grown ((Below.refl w11.heap.size w11).alloc (J3h _) (.cells #[.int .u64 5,.int .u64 6] 83)).drew;have Ta:IsU (w11.alloc (.cells #[.int .u64 5,.int .u64 6] 83)).drew (some ⟨g,0,none⟩) [5,6]:=fun j y hj=>by
   obtain⟨Z,fr,_,_,_,_,_,OA⟩:=Ow
   match j,hj with
   | 0,hj =>
    cases hj
    obtain⟨g',e,_,hl,z⟩:=OA (g,[.int .u64 5,.int .u64 6]) (by simp) 0 _ rfl;cases e;exact⟨_,0,rfl,hl,z⟩
   | 1,hj =>
    cases hj
    obtain⟨g',e,_,hl,z⟩:=OA (g,[.int .u64 5,.int .u64 6]) (by simp) 1 _ rfl;cases e;exact⟨_,0,rfl,hl,z⟩
  have T7:Hid (Calls prog 55 #[.agg #[.int .u64 9,.slice (some ⟨g,0,none⟩) 2 gc,.slice xa 0 xc],.agg #[.int .u64 9,.slice (some ⟨w11.heap.size,0,none⟩) 2 2,.slice none 0 0]] ((w11.alloc (.cells #[.int .u64 5,.int .u64 6] 83)).drew) (Told ((w11.alloc (.cells #[.int .u64 5,.int .u64 6] 83)).drew) (.bool true))):=(Z1a _ 9 (some ⟨g,0,none⟩) (some ⟨w11.heap.size,0,none⟩) xa none gc 2 xc 0 [5,6] Ta ((Z7r w11 5 6).below (Below.refl _ _).drew) (by simp))
  have RK:=Q0a Ow;have s0:=Q0a (al9S hq);have s1:=Q0a (al9S (hq.grown (Below.refl w11.heap.size w11).drew));have s2:=Q0a (al9S Ow);clear SV hq Ta Ow;generalize w5.heap.size=bm at *
  generalize w7.heap.size=bk at *
  go_upto_region 13 with fail;simp only[List.append_eq,J5m,J5l]
  go_region_held3 (fun V=>Al9S f ge bk bm g gc xa xc V) (first|exact s0.out|exact s1.out|exact s2.out|exact s12.out|exact s13.out|exact s14.out|exact s15.out)
   (first|(go_at_call 55;refine T7.out.mono ?_;clear T7;rintro r w12⟨rfl,CY⟩;have hq:=RK.out.grown CY;have s12:=Q0a (al9S hq);have Sh:=Q0a (Z3U hq (by omega));clear hq CY)|(go_at_call 54;refine Sh.out.mono ?_;clear Sh;rintro r w13⟨rfl,hq⟩;have s13:=Q0a (al9S hq);have TZ:=Q0a (Z9N hq);clear hq)|(go_at_call 107;refine TZ.out.mono ?_;clear TZ;rintro r w14⟨rfl,hq⟩;have s14:=Q0a (al9S hq);have kq:=Z9O hq;rw[al9c] at kq;have SK:=Q0a kq;clear hq kq)|(go_at_call 107;refine SK.out.mono ?_;clear SK;rintro r w15⟨rfl,hq⟩;have s15:=Q0a (al9S hq);have HR:Hid (Told w (.bool true) (.returned (.bool true)) w15):=⟨rfl,hq.below⟩;clear hq))
  all_goals
   go_wp2_with fail
   (try go_ret);exact HR.out
end Go.Proofs.YtfidemmgofcnmaaGreatDoor
namespace Go.Proofs.YtfidemmgofcnmaaGreatDoor
open Go.ChangeShapes Go.WideShapes Go.ChangeAt Go.RowKit Go.Deep Go.Proofs.Tryz
def IsW8(w:World)(a0:Option Addr)(len:Nat)(A:Nat->Nat):Prop:=∀j,j<len->∃g off,a0=some ⟨g,off,none⟩/\g<w.heap.size/\w.cell? ⟨g,off+j,none⟩=some (.int .u64 (A j:Int))/\A j<18446744073709551616
theorem Z1b:prog.cellsOf 83=1:=by kernel_rfl
theorem Z9P{H:Type}{enc:TypeId×Value->H}{w:World}{fuel:Nat}{a0:Option Addr}{len cap:Nat}{x:DataW H×List MemPlace}
  (h:DataW.trod enc prog w 0 (fun _=>true) true fuel 82 [.slice a0 len cap]=some x):∃A,IsW8 w a0 len A:=by
 rcases open_slice underlying82 h with ⟨AO,_⟩|⟨a,len',Cn,m,n,D,Pl,AO,_,hl,_,Il,_,hi⟩
 ·simp only[J3l,Value.slice.injEq,and_true] at AO;obtain⟨rfl,rfl,rfl⟩:=AO;exact⟨fun _=>0,fun j hj=>absurd hj (J6D _)⟩
 ·simp only[J3l,Value.slice.injEq,and_true] at AO;obtain⟨rfl,rfl,rfl⟩:=AO;have hm:len<=m:=by rw[Il];simp;exact hl
  have each:∀j,j<len->∃x:Nat,w.cell? (a.add j)=some (.int .u64 x)/\x<18446744073709551616:=by
   intro j hj;obtain⟨RW,hc,ht⟩:=hi j (by omega);rw[Z1b,J4h] at hc;obtain⟨_,Bi,Bb⟩:=World.cells?_some hc;obtain⟨v,e0,_,hw⟩:=DataW.trod_int underlying83 ht;have hb:=bounds_u64 (n:=v) (by simp_all);obtain⟨y,rfl⟩:=J4F hb.1;refine⟨y,?_,by omega⟩;have:=Bb 0 (by omega);simp only[e0] at this
   simpa[Addr.add] using this
  by_cases h0:len=0
  ·exact⟨fun _=>0,fun j hj=>by omega⟩
  ·obtain⟨x0,c0,_⟩:=each 0 (by omega);have hp:=Q2H (x:=a) (by simpa[Addr.add] using c0);refine⟨fun j=>if hj:j<len then(each j hj).choose else 0,fun j hj=>?_⟩;obtain⟨h1,h2⟩:=(each j hj).choose_spec;simp only[hj,dif_pos];generalize (each j hj).choose=y at h1 h2;rw[hp,add_plain5] at h1;exact⟨a.block,a.off,congrArg some hp,World.block_lt_of_cell? w ⟨a.block,a.off+j,none⟩ h1,h1,h2⟩
end Go.Proofs.YtfidemmgofcnmaaGreatDoor
