/- SpaceCharge returns true at every input. No condition. Part of its proof. -/
import Derived.Test.YtfidemmgofcnmaaGreatDoorSc22
set_option maxHeartbeats 4000000
set_option maxRecDepth 4000
set_option linter.unusedVariables false
namespace Go.Proofs.YtfidemmgofcnmaaGreatDoor
open Go.RowKit Go.Proofs.Tryz
section
variable {Z:SP} {fr:List Nat} {N K:Nat} {M:Int} {x y n:Nat} {p1 p2:Pl} {A:Nat->Mv}
structure GrP (Z:SP) (fr:List Nat) (N K:Nat) (M:Int) (x y n:Nat) (A:Nat->Mv) (k:Nat) (Z2:SP):Prop where
 ok:Z2.Ok fr N K (M+n)
 same:SameN Z Z2
 nx:Z2.F.next=Z.F.next+n
 av:∃a,AddsM x y A Z.av Z.F.next n a/\Q4j x A a k Z2.av
 src:∀i,k<=i->i<n->(A i).g=true->∃c,Z2.av.en x (A i).src.toNat=some c
theorem GrP.start (ok:Z.Ok fr N K M) (AY:pget Z.S.l 1 x=some p1) (A0:p1.kind=2) (A4:pget Z.S.l 1 y=some p2) (A2:p2.kind=2) (An:AllFit Z.av.en x y n A) {S1:CO} {t1:TB} {own:Int} (L:LaidP Z fr N K x y own A 0 n S1 t1) {F':FO} (P:SetP Z x y A t1 n F') :
  GrP Z fr N K M x y n A 0 ((Z.setF F').setS S1 (updT Z.tb (y%256) t1)):=by
 obtain⟨h1,h2,h3⟩:=P.done ok L;refine⟨h1,h2,by show F'.next=_;exact P.nx,⟨_,h3,.zero⟩,fun i _ hi _=>?_⟩;obtain⟨e,he,Fz,_,_⟩:=L.src AY A0 A4 A2 An (J2y _) hi;refine⟨(e.h,e.r),Q9l (e:=e) ?_⟩;show Q0f S1.l (updT Z.tb (y%256) t1) x (A i).src.toNat=some e;rw [L.alt.l,Q0g AY A0 (by have:=(An i hi).1.src;omega)];exact Fz
theorem GrP.skip {k:Nat} {Z2:SP} (G:GrP Z fr N K M x y n A k Z2) (hg:(A k).g=false):GrP Z fr N K M x y n A (k+1) Z2:=by
 obtain⟨a,h1,h2⟩:=G.av;exact⟨G.ok,G.same,G.nx,⟨a,h1,.skip k _ h2 hg⟩,fun i h=>G.src i (by omega)⟩
theorem GrP.lift (An:AllFit Z.av.en x y n A) {k:Nat} {Z2:SP} (G:GrP Z fr N K M x y n A k Z2) (CW:k<n) (hg:(A k).g=true) (AY:pget Z.S.l 1 x=some p1) (A0:p1.kind=2) :
  ∃nd e,find Z2.F.N nd.id=some nd/\ownN Z2.F.N (x:Int) (A k).src=nd.id/\(Z2.tb (x%256)).en (A k).src.toNat=some e/\∀(S':CO) (t':TB) (F':FO),TurnP Z2.S fr N K Z2.tb (p1.fac:Int) (x%256) (A k).src.toNat none S' t'->F'.N=Q0C Z2.F.N nd nd.q.ks.length->F'.Ok->F'.next=Z2.F.next->F'.f=Z2.F.f->GrP Z fr N K M x y n A (k+1) ((Z2.setF F').setS S' (updT Z2.tb (x%256) t')):=by
 have BV:=(An k CW).1.src;obtain⟨c,hc⟩:=G.src k (J2y _) CW hg;obtain⟨e,he,rfl⟩:=Q3k hc;have Fi:Z2.S.l=Z.S.l:=G.same.alt.l;have MB:pget Z2.S.l 1 x=some p1:=by rw [Fi];exact AY
 obtain⟨nd,AG,q1,q2,q3,q4⟩:=G.ok.fpi.own G.ok.fo.n he;have Cq:((A k).src.toNat:Int)=(A k).src:=by omega
 have AX:(Z2.tb (x%256)).en (A k).src.toNat=some e:=by
  have AM:=he
  rwa [Q0g MB A0 (by omega)] at AM
 refine⟨nd,e,q4,by rw [<- Cq];exact q3,AX,fun S' t' F' T hF DO IB FY=>?_⟩;have hr:=(G.ok.fpi.cap _ _ _ he).r;obtain⟨h1,h2,h3⟩:=G.ok.lifted q4 q1 q2 MB A0 (by omega:(A k).src.toNat<256) he (m:=15) (Q4D e.r (by omega)) T hF DO IB FY;obtain⟨a,a1,a2⟩:=G.av;have hw:=Q2D (m:=15) (a:=Z2.av) (id:=nd.id) q4 q1 q2 hc;rw [h2] at hw;simp only at hw;rw [if_pos (Q4D e.r (by omega))] at hw;have DP:((Z2.setF F').setS S' (updT Z2.tb (x%256) t')).av.en=setA Z2.av.en x (A k).src.toNat none:=by
  have:=(Prod.mk.inj hw).1;rw [this]
 refine⟨h1,G.same.trans h3.toSameN,h3.nx.trans G.nx,⟨a,a1,.lift k _ _ a2 hg ?_⟩,fun i h4 h5 h6=>?_⟩
 ·have:ownN Z2.av.N (x:Int) (A k).src=nd.id:=by rw [<- Cq];exact q3
  rw [this];exact h2
 ·obtain⟨c',Bd⟩:=G.src i (by omega) h5 h6;refine⟨c',?_⟩;rw [DP,Q5c]
  ·exact Bd
  ·rintro⟨_,e2⟩;exact An.srcs h5 CW (by omega) h6 e2
theorem GrP.done {w w':World} {Z2:SP} (G:GrP Z fr N K M x y n A n Z2) (st:Step Z.hl Z2.hl w w'):MovedZ Z fr N K M x y n A w w':=by
 obtain⟨a,a1,a2⟩:=G.av;exact⟨a,Z2,a1,a2,G.ok,G.same,G.nx,st⟩
theorem Z8J {w0:World} (ok:Z.Ok fr N K M) (hM:M+n<1099511627776) (hx:x<4294967296) (hy:y<4294967296) (AY:pget Z.S.l 1 x=some p1) (A0:p1.kind=2) (A4:pget Z.S.l 1 y=some p2) (A2:p2.kind=2) (An:AllFit Z.av.en x y n A) {S1:CO} {t1:TB} (L:LaidP Z fr N K x y (p2.fac:Int) A 0 n S1 t1) (cap g1 g2 B1 B2:Nat) (a0:Option Addr) :
  SetW Z.s g1 x g2 y (p1.fac:Int) (p2.fac:Int) Z.F.f B1 B2 a0 n A
   (fun k W=>∃F',SetP Z x y A t1 k F'/\Step Z.hl ((Z.setF F').setS S1 (updT Z.tb (y%256) t1)).hl w0 W/\MvB ((Z.setF F').setS S1 (updT Z.tb (y%256) t1)) p1 p2 g1 x g2 y B1 B2 n A a0 W)
   (fun k W=>∃Z2,GrP Z fr N K M x y n A k Z2/\Step Z.hl Z2.hl w0 W/\MvB Z2 p1 p2 g1 x g2 y B1 B2 n A a0 W)
   (fun k W=>∃Z2 nd e F',GrP Z fr N K M x y n A k Z2/\find Z2.F.N nd.id=some nd/\ownN Z2.F.N (x:Int) (A k).src=nd.id/\(Z2.tb (x%256)).en (A k).src.toNat=some e/\F'.N=Q0C Z2.F.N nd nd.q.ks.length/\F'.Ok/\F'.next=Z2.F.next/\F'.f=Z2.F.f/\(∀(S':CO) (t':TB),TurnP Z2.S fr N K Z2.tb (p1.fac:Int) (x%256) (A k).src.toNat none S' t'->GrP Z fr N K M x y n A (k+1) ((Z2.setF F').setS S' (updT Z2.tb (x%256) t')))/\Step Z.hl (Z2.setF F').hl w0 W/\MvB (Z2.setF F') p1 p2 g1 x g2 y B1 B2 n A a0 W)
   (fun W=>MovedZ Z fr N K M x y n A w0 W):=by
 have FU:=(pget_some.1 AY).1;have Gi:=(pget_some.1 AY).2.2;refine⟨fun k W h=>?_,fun k W W' h hb=>?_,fun k W hk h=>?_,fun W h=>?_,fun k W h=>?_,fun k W W' h hb=>?_,fun k W hk hg h=>?_,fun k W hk hg h=>?_,fun k W h=>?_,fun k W W' h hb=>?_,fun k W hk h=>?_,fun W h=>?_⟩
 ·obtain⟨F',P,st,mb⟩:=h;refine⟨mb.box.1,mb.box.2.1,mb.box.2.2,?_⟩;have:=SP.c1 (Z:=(Z.setF F').setS S1 (updT Z.tb (y%256) t1)) st.sep;rw [show ((Z.setF F').setS S1 (updT Z.tb (y%256) t1)).F.f=Z.F.f from P.f] at this;exact this
 ·obtain⟨F',P,st,mb⟩:=h;exact⟨F',P,st.trans (st.sep.grown hb),mb.step (st.sep.grown hb) rfl⟩
 ·obtain⟨F',P,st,mb⟩:=h;have BV:=(An k hk).1.src;have FK:=(An k hk).1.dst;have Cq:(((A k).src.toNat:Nat):Int)=(A k).src:=by omega
  have G7:(((A k).dst.toNat:Nat):Int)=(A k).dst:=by omega
  refine⟨ownN F'.N (x:Int) (A k).src,fun W' hb=>?_,fun W' hb=>?_⟩
  ·have kn:=Q6v (Z:=(Z.setF F').setS S1 (updT Z.tb (y%256) t1)) (st.sep.grown hb).sep P.ok hx (z:=(A k).src.toNat) (g:=g1) (f:=p1.fac) (by omega);rw [Cq] at kn;exact kn
  ·have st':=st.trans (st.sep.grown hb);have mb':=mb.step (st.sep.grown hb) rfl;obtain⟨e0,e,DB,he,rfl,AS⟩:=SetP.src An hk AY A0 A4 A2 P;obtain⟨nn,El,q1,q2,q3,q4⟩:=P.fpi.own P.ok.n he;rw [Cq] at q3;have Aq:=P.fpi.free P.ok.n AS;rw [G7] at Aq;have Cx:=P.fpi.few P.ok.n A4 (by omega) AS;have Bq:=P.nx;have Bh:=ok.next;have ka:=Q8d (SP.sF (Z:=(Z.setF F').setS S1 (updT Z.tb (y%256) t1)) st'.sep) P.ok (par:=ownN F'.N (x:Int) (A k).src) (sp:=(y:Int)) (sl:=(A k).dst) (.inr ⟨nn,by rw [q3];exact q4⟩) (by omega) (by omega) (by omega) (by omega) Aq (by show F'.next+1<_;omega) Cx
   rw [show ((Z.setF F').setS S1 (updT Z.tb (y%256) t1)).F.f=Z.F.f from P.f] at ka;refine ka.mono ?_;rintro rv w5 ⟨rfl,F2,Ad,stf⟩;have P2:=P.next ok An L hk AY A0 A4 A2 Ad;have stz:=SP.stepF (Z:=(Z.setF F').setS S1 (updT Z.tb (y%256) t1)) st'.sep F2 Ad.f stf;have stz':Step ((Z.setF F').setS S1 (updT Z.tb (y%256) t1)).hl ((Z.setF F2).setS S1 (updT Z.tb (y%256) t1)).hl W' w5:=stz;exact⟨⟨_,_,rfl⟩,stz'.keep st.sep (J2y _),F2,P2,st'.trans stz',mb'.step (Z':=(Z.setF F2).setS S1 (updT Z.tb (y%256) t1)) stz' rfl⟩
 ·obtain⟨F',P,st,mb⟩:=h;exact⟨_,GrP.start ok AY A0 A4 A2 An L P,st,mb⟩
 ·obtain⟨Z2,G,st,mb⟩:=h;refine⟨mb.box.1,mb.box.2.1,mb.box.2.2,?_⟩;have:=SP.c1 st.sep;rw [G.same.s,G.same.f] at this;exact this
 ·obtain⟨Z2,G,st,mb⟩:=h;exact⟨Z2,G,st.trans (st.sep.grown hb),mb.step (st.sep.grown hb) rfl⟩
 ·obtain⟨Z2,G,st,mb⟩:=h;exact⟨Z2,G.skip hg,st,mb⟩
 ·obtain⟨Z2,G,st,mb⟩:=h;have BV:=(An k hk).1.src;have Cq:(((A k).src.toNat:Nat):Int)=(A k).src:=by omega
  refine⟨ownN Z2.F.N (x:Int) (A k).src,fun W' hb=>?_,fun W' hb=>?_⟩
  ·have kn:=Q6v (st.sep.grown hb).sep G.ok.fo hx (z:=(A k).src.toNat) (g:=g1) (f:=p1.fac) (by omega);rw [Cq,G.same.s] at kn;exact kn
  ·have st':=st.trans (st.sep.grown hb);have mb':=mb.step (st.sep.grown hb) rfl;obtain⟨nd,e,h1,h2,h3,h4⟩:=G.lift An hk hg AY A0;have kl:=Q9r (SP.sF st'.sep) G.ok.fo (e:=nd) h1;rw [h2,<- G.same.f];refine kl.mono ?_;rintro rv w5 ⟨hv,F',FY,ND,IB,DO,stf⟩;have stz:=SP.stepF st'.sep F' FY stf;exact⟨hv,stz.keep st.sep (J2y _),Z2,nd,e,F',G,h1,h2,h3,ND,DO,IB,FY,fun S' t' T=>h4 S' t' F' T ND DO IB FY,st'.trans stz,mb'.step (Z':=Z2.setF F') stz rfl⟩
 ·obtain⟨Z2,nd,e,F',G,_,_,_,hF,_,_,FY,_,st,mb⟩:=h;refine⟨mb.box.1,mb.box.2.1,mb.box.2.2,?_⟩;have:=SP.c1 (Z:=Z2.setF F') st.sep;rw [show (Z2.setF F').F.f=Z2.F.f from FY,show (Z2.setF F').s=Z.s from G.same.s,G.same.f] at this;exact this
 ·obtain⟨Z2,nd,e,F',h1,h2,h3,h4,h5,h6,h7,h8,h9,st,mb⟩:=h;exact⟨Z2,nd,e,F',h1,h2,h3,h4,h5,h6,h7,h8,h9,st.trans (st.sep.grown hb),mb.step (st.sep.grown hb) rfl⟩
 ·obtain⟨Z2,nd,e,F',G,h2,h3,AX,h5,h6,h7,h8,h9,st,mb⟩:=h;have BV:=(An k hk).1.src;have kb:=Q4N (Z:=Z2.setF F') st.sep G.ok.core G.ok.tpi (i:=x%256) (s:=(A k).src.toNat) (x:=x) (g:=g1) (p:=p1) (by show Z2.S.l[_]?=_;rw [G.same.alt.l];exact FU) Gi A0 (by omega) AX mb.t1;rw [show (((A k).src.toNat:Nat):Int)=(A k).src by omega,show (Z2.setF F').s=Z.s from G.same.s] at kb;refine kb.mono ?_;rintro rv w5 ⟨rfl,S3,t3,T,stt⟩;refine⟨rfl,_,h9 S3 t3 T,st.trans stt,?_⟩;exact mb.step (Z':=(Z2.setF F').setS S3 (updT Z2.tb (x%256) t3)) stt T.alt.same.p
 ·obtain⟨Z2,G,st,mb⟩:=h;exact G.done st
theorem Z0L {w0 w:World} (ok:Z.Ok fr N K M) (hM:M+n<1099511627776) (hx:x<4294967296) (hy:y<4294967296) (AY:pget Z.S.l 1 x=some p1) (A0:p1.kind=2) (A4:pget Z.S.l 1 y=some p2) (A2:p2.kind=2) (hn:n<=4611686018427387904) (An:AllFit Z.av.en x y n A) {S1:CO} {t1:TB} (L:LaidP Z fr N K x y (p2.fac:Int) A 0 n S1 t1)
  {g1 g2:Nat} {a0:Option Addr} (st:Step Z.hl (Z.setS S1 (updT Z.tb (y%256) t1)).hl w0 w) (OG:TblZ (Z.setS S1 (updT Z.tb (y%256) t1)) p1 g1 w) (Jv:TblZ (Z.setS S1 (updT Z.tb (y%256) t1)) p2 g2 w) (BR:AsideM (Z.setS S1 (updT Z.tb (y%256) t1)).hl n A a0 w) (cap:Nat) :
  Calls prog 100 #[.pointer (some ⟨Z.s,0,none⟩),Q2e g1 x (p1.fac:Int),Q2e g2 y (p2.fac:Int),.slice a0 n cap] w fun rv w'=>rv=.returned (.tuple #[])/\MovedZ Z fr N K M x y n A w0 w':=by
 have b1:Below w.heap.size w (w.alloc (.cells #[.pointer (some ⟨g1,0,none⟩),.int .u32 x,.int .i64 (p1.fac:Int)] 191)):=(Below.refl _ _).alloc (J2y _) _;have s1:=st.sep.grown b1;have as1:AsideV (Z.setS S1 (updT Z.tb (y%256) t1)).hl [.pointer (some ⟨g1,0,none⟩),.int .u32 x,.int .i64 (p1.fac:Int)] (some ⟨w.heap.size,0,none⟩) (w.alloc (.cells #[.pointer (some ⟨g1,0,none⟩),.int .u32 x,.int .i64 (p1.fac:Int)] 191)):=Q2F st.sep _ _;have b2:Below (w.alloc (.cells #[.pointer (some ⟨g1,0,none⟩),.int .u32 x,.int .i64 (p1.fac:Int)] 191)).heap.size (w.alloc (.cells #[.pointer (some ⟨g1,0,none⟩),.int .u32 x,.int .i64 (p1.fac:Int)] 191)) ((w.alloc (.cells #[.pointer (some ⟨g1,0,none⟩),.int .u32 x,.int .i64 (p1.fac:Int)] 191)).alloc (.cells #[.pointer (some ⟨g2,0,none⟩),.int .u32 y,.int .i64 (p2.fac:Int)] 191)):=(Below.refl _ _).alloc (J2y _) _
 have s2:=s1.sep.grown b2;have as2:AsideV (Z.setS S1 (updT Z.tb (y%256) t1)).hl [.pointer (some ⟨g2,0,none⟩),.int .u32 y,.int .i64 (p2.fac:Int)] (some ⟨(w.alloc (.cells #[.pointer (some ⟨g1,0,none⟩),.int .u32 x,.int .i64 (p1.fac:Int)] 191)).heap.size,0,none⟩) _:=Q2F s1.sep 191 [.pointer (some ⟨g2,0,none⟩),.int .u32 y,.int .i64 (p2.fac:Int)];have hz:(w.alloc (.cells #[.pointer (some ⟨g1,0,none⟩),.int .u32 x,.int .i64 (p1.fac:Int)] 191)).heap.size=w.heap.size+1:=by simp
 rw [hz] at as2;refine Q9H (Z8J (w0:=w0) ok hM hx hy AY A0 A4 A2 An L cap g1 g2 w.heap.size (w.heap.size+1) a0) hn hy ?_;exact⟨Z.F,SetP.start ok t1,(st.trans s1).trans s2,(OG.grown st.sep b1).grown s1.sep b2,(Jv.grown st.sep b1).grown s1.sep b2,as1.step s2,as2,(BR.step s1).step s2⟩
end
theorem Q9I {t t':TB} (h:∀s,t'.en s=t.en s) (z:Int):t'.at' z=t.at' z:=by
 unfold TB.at';split
 ·rw [h]
 ·rfl
def fitV (Z:SP) (x y:Nat) (A:Nat->Mv) (i:Nat):Int:=Z3s ((Z.tb (x%256)).at' (A i).src) ((Z.tb (y%256)).at' (A i).dst) (A i) (Q1u A i (A i))
def J1M (Z:SP) (x y n:Nat) (A:Nat->Mv) (er:Int):Prop:=
 (pget Z.S.l 1 x=none/\er=8)∨∃p1,pget Z.S.l 1 x=some p1/\((p1.kind≠2/\er=10)∨(p1.kind=2/\((pget Z.S.l 1 y=none/\er=8)∨∃p2,pget Z.S.l 1 y=some p2/\((p2.kind≠2/\er=10) ∨
  (p2.kind=2/\∃i,i<n/\(∀j,j<i->fitV Z x y A j=0)/\fitV Z x y A i=er)))))
def WhyM (Z:SP) (fr:List Nat) (N K x y n:Nat) (own:Int) (A:Nat->Mv) (er:Int):Prop:=∃k S' t',k<n/\LaidP Z fr N K x y own A 0 k S' t'/\(k=0->S'=Z.S/\t'=Z.tb (y%256))/\WhyL (Z.setS S' (updT Z.tb (y%256) t')) fr own (y%256) (A k).dst.toNat er
def MoveR (Z:SP) (fr:List Nat) (N K:Nat) (M:Int) (x y n:Nat) (A:Nat->Mv) (w:World) (er:Int) (w':World):Prop:=
 (er≠0/\J1M Z x y n A er/\∃own,BackZ Z fr N K y own w w') ∨
 ∃p1 p2,pget Z.S.l 1 x=some p1/\p1.kind=2/\pget Z.S.l 1 y=some p2/\p2.kind=2/\AllFit Z.av.en x y n A /\
  ((er=0/\MovedZ Z fr N K M x y n A w w')∨((er=4∨er=5)/\WhyM Z fr N K x y n p2.fac A er/\BackZ Z fr N K y p2.fac w w'))
theorem BackZ.of {Z:SP} {fr:List Nat} {N K:Nat} {M:Int} {y:Nat} (own:Int) {w w':World} (hs:Sep w Z.hl) (ok:Z.Ok fr N K M) (hb:Below w.heap.size w w'):BackZ Z fr N K y own w w':=
 ⟨Z.S,Z.tb (y%256),ok.core,by rw [Q1k];exact ok.tpi,Alt.refl _ _,fun _ _=>rfl,fun _=>rfl,by rw [Q1k];exact hs.grown hb⟩
section
variable {Z:SP} {fr:List Nat} {N K:Nat} {M:Int} {x y n:Nat} {p1 p2:Pl} {A:Nat->Mv}
theorem Z6w {w:World} (ok:Z.Ok fr N K M) (hM:M+n<1099511627776) (hx:x<4294967296) (hy:y<4294967296) (AY:pget Z.S.l 1 x=some p1) (A0:p1.kind=2) (A4:pget Z.S.l 1 y=some p2) (A2:p2.kind=2) (hn:n<=4611686018427387904) (cap g1 g2 B1 B2:Nat) (a0:Option Addr) :
  J1L Z.s g1 x g2 y (p1.fac:Int) (p2.fac:Int) B1 B2 a0 n cap A (fitV Z x y A)
   (fun k W=>∃S' t',LaidP Z fr N K x y (p2.fac:Int) A 0 k S' t'/\(k=0->S'=Z.S/\t'=Z.tb (y%256))/\Step Z.hl (Z.setS S' (updT Z.tb (y%256) t')).hl w W/\MvB (Z.setS S' (updT Z.tb (y%256) t')) p1 p2 g1 x g2 y B1 B2 n A a0 W)
   (fun er k j W=>(er=4∨er=5)/\k<n/\AllFit Z.av.en x y n A/\WhyM Z fr N K x y n (p2.fac:Int) A er/\∃S' t',LaidP Z fr N K x y (p2.fac:Int) A j k S' t'/\Step Z.hl (Z.setS S' (updT Z.tb (y%256) t')).hl w W/\MvB (Z.setS S' (updT Z.tb (y%256) t')) p1 p2 g1 x g2 y B1 B2 n A a0 W)
   (fun er W=>MoveR Z fr N K M x y n A w er W):=by
 have FU:=(pget_some.1 AY).1;have Gi:=(pget_some.1 AY).2.2;have E6:=(pget_some.1 A4).1;have JQ:=(pget_some.1 A4).2.2;have AQ:(∀j,j<n->fitV Z x y A j=0)->AllFit Z.av.en x y n A:=fun h i hi=>(Z1V AY A0 A4 A2).1 (h i hi)
 have tts:∀{j k:Nat} {S':CO} {t':TB} {W:World},LaidP Z fr N K x y (p2.fac:Int) A j k S' t'->Step Z.hl (Z.setS S' (updT Z.tb (y%256) t')).hl w W->MvB (Z.setS S' (updT Z.tb (y%256) t')) p1 p2 g1 x g2 y B1 B2 n A a0 W->TT S' (updT Z.tb (y%256) t' (x%256)) p1 g1 W/\TT S' (updT Z.tb (y%256) t' (y%256)) p2 g2 W:=fun {j k S' t' W} L st mb=>by
  have hl:=L.alt.l;exact⟨(L.tpi.x (p1.fac:Int)).tt L.ok (by rw [hl];exact FU) Gi A0 (SP.sS (Z:=Z.setS S' (updT Z.tb (y%256) t')) st.sep) mb.t1.c,(L.tpi.x (p2.fac:Int)).tt L.ok (by rw [hl];exact E6) JQ A2 (SP.sS (Z:=Z.setS S' (updT Z.tb (y%256) t')) st.sep) mb.t2.c⟩
 refine⟨fun k W h=>?_,fun er k j W h=>?_,fun k W W' h hb=>?_,fun er k j W W' h hb=>?_,fun i W hi h=>?_,fun i W hi h hv A3=>?_,fun k W hv hk h=>?_,fun er k j W hj h=>?_,fun er k W h=>?_,fun W hv h=>?_⟩
 ·obtain⟨S',t',L,L0,st,mb⟩:=h;exact mb.box
 ·obtain⟨_,_,_,_,S',t',L,st,mb⟩:=h;exact mb.box
 ·obtain⟨S',t',L,L0,st,mb⟩:=h;exact⟨S',t',L,L0,st.trans (st.sep.grown hb),mb.step (st.sep.grown hb) rfl⟩
 ·obtain⟨h1,h2,h3,h4,S',t',L,st,mb⟩:=h;exact⟨h1,h2,h3,h4,S',t',L,st.trans (st.sep.grown hb),mb.step (st.sep.grown hb) rfl⟩
 ·obtain⟨S',t',L,L0,st,mb⟩:=h;obtain⟨T1,T2⟩:=tts L st mb;have AX:∀s,t'.en s=(Z.tb (y%256)).en s:=fun s=>L.old s fun i h1 h2=>by omega
  have e1:(updT Z.tb (y%256) t' (x%256)).at' (A i).src=(Z.tb (x%256)).at' (A i).src:=by
   by_cases e:x%256=y%256
   ·rw [e,updT_same];exact Q9I AX _
   ·rw [Q0X e]
  have e2:(updT Z.tb (y%256) t' (y%256)).at' (A i).dst=(Z.tb (y%256)).at' (A i).dst:=by
   rw [updT_same];exact Q9I AX _
  have low:∀{u:Nat} {p:Pl} {z:Int},pget Z.S.l 1 u=some p->p.kind=2->∀e,(Z.tb (u%256)).at' z=some e->e.Low:=fun {u p z} hu hk e he=>by
   unfold TB.at' at he;split at he
   ·rename_i hz;refine ok.fpi.low ok.core.inv.lok (h:=u) (s:=z.toNat) ?_;rw [Q0g hu hk (by omega)];exact he
   ·cases he
  have k:=Z6v T1 T2 (m:=A i) (by rw [e1];exact low AY A0) (by rw [e2];exact low A4 A2) x y (p1.fac:Int) (p2.fac:Int) mb.mv.1 (n:=i) cap (by omega) (by omega);rw [e1,e2] at k;exact k
 ·obtain⟨S',t',L,L0,st,mb⟩:=h;exact .inl ⟨hv,.inr ⟨p1,AY,.inr ⟨A0,.inr ⟨p2,A4,.inr ⟨A2,i,hi,A3,rfl⟩⟩⟩⟩,_,L.back ok A4 A2 st⟩
 ·have An:=AQ hv;obtain⟨S',t',L,L0,st,mb⟩:=h;obtain⟨T1,T2⟩:=tts L st mb;obtain⟨e,he,Fz,Ka,hc⟩:=L.src AY A0 A4 A2 An (by omega) hk;have A5:=ok.fpi.low ok.core.inv.lok he;have FS:=Q1t T1 (x:Int) (p1.fac:Int) (A k).src fun e' AM=>by rw [Ka] at AM;cases AM;exact A5
  rw [Ka] at FS;refine⟨(e.h:Int),(e.r:Int),true,FS,fun W' h'=>?_⟩;obtain⟨S2,t2,L2,L20,st2,mb2⟩:=h';have hf:=(An k hk).1;have ML:=hf.r;have FK:=hf.dst;have L4:e.r<16:=A5.2;have Gq:bits .and .i64 (e.r:Int) (A k).r=((e.r&&&(A k).r.toNat:Nat):Int):=by
   have:=Q6u e.r (A k).r.toNat L4 (by omega)
   rwa [show (((A k).r.toNat:Nat):Int)=(A k).r by omega] at this
  have Uh:=Q6y e.r L4 (A k).r.toNat (by omega);have Aw:(updT Z.tb (y%256) t2 (y%256)).en (A k).dst.toNat=none:=by
   rw [updT_same,L2.old _ fun q h1 h2 e2=>An.dst hk (by omega) (by omega) e2];have:=av_none.1 hf.free
   rwa [Q0g A4 A2 (by omega)] at this
  have kl:=Q8f (Z:=Z.setS S2 (updT Z.tb (y%256) t2)) st2.sep L2.ok L2.tpi (i:=y%256) (s:=(A k).dst.toNat) (x:=y) (g:=g2) (h:=e.h) (r:=e.r&&&(A k).r.toNat) (p:=p2) (by show S2.l[_]?=_;rw [L2.alt.l];exact E6) JQ A2 (by omega) Aw A5.1 (by omega) mb2.t2;rw [Gq];rw [show (((A k).dst.toNat:Nat):Int)=(A k).dst by omega] at kl;refine kl.mono ?_;rintro rv w5 ⟨er,rfl,⟨rfl,nd,S3,t3,T,stt⟩|⟨Cu,F1,P',tr,stt⟩⟩
  ·refine⟨0,rfl,.inl ⟨rfl,?_⟩⟩;have L3:=L2.lay ok A4 A2 An hk hc T;have e3:updT (updT Z.tb (y%256) t2) (y%256) t3=updT Z.tb (y%256) t3:=Q1c _ _ _ _;have stt':Step (Z.setS S2 (updT Z.tb (y%256) t2)).hl (Z.setS S3 (updT Z.tb (y%256) t3)).hl W' w5:=stt;exact⟨S3,t3,L3,fun h=>(by omega),st2.trans stt',mb2.step (Z':=Z.setS S3 (updT Z.tb (y%256) t3)) stt' T.alt.same.p⟩
  ·refine⟨er,rfl,.inr ⟨by omega,Cu,hk,An,⟨k,S2,t2,hk,L2,L20,F1⟩,S2.setP P',t2,L2.tried tr,st2.trans stt,?_⟩⟩;exact mb2.step (Z':=Z.setS (S2.setP P') (updT Z.tb (y%256) t2)) stt tr.same.p
 ·obtain⟨h1,h2,An,h4,S',t',L,st,mb⟩:=h;obtain⟨c,nd,hc,AX⟩:=L.new j (J2y _) hj;have FK:=(An j (by omega)).1.dst;have kb:=Q4N (Z:=Z.setS S' (updT Z.tb (y%256) t')) st.sep L.ok L.tpi (i:=y%256) (s:=(A j).dst.toNat) (x:=y) (g:=g2) (p:=p2) (by show S'.l[_]?=_;rw [L.alt.l];exact E6) JQ A2 (by omega) (by show (updT Z.tb (y%256) t' (y%256)).en _=_;rw [updT_same];exact AX) mb.t2;rw [show (((A j).dst.toNat:Nat):Int)=(A j).dst by omega] at kb;refine kb.mono ?_;rintro rv w5 ⟨rfl,S3,t3,T,stt⟩;have L3:=L.bare ok A4 A2 An (by omega) hj T;have stt':Step (Z.setS S' (updT Z.tb (y%256) t')).hl (Z.setS S3 (updT Z.tb (y%256) t3)).hl W w5:=stt
  exact⟨rfl,h1,h2,An,h4,S3,t3,L3,st.trans stt',mb.step (Z':=Z.setS S3 (updT Z.tb (y%256) t3)) stt' T.alt.same.p⟩
 ·obtain⟨h1,h2,An,h4,S',t',L,st,mb⟩:=h;exact .inr ⟨p1,p2,AY,A0,A4,A2,An,.inr ⟨h1,h4,L.back ok A4 A2 st⟩⟩
 ·have An:=AQ hv;obtain⟨S',t',L,L0,st,mb⟩:=h;refine (Z0L ok hM hx hy AY A0 A4 A2 hn An L st mb.t1 mb.t2 mb.mv cap).mono ?_;rintro rv w' ⟨rfl,hq⟩;exact⟨rfl,.inr ⟨p1,p2,AY,A0,A4,A2,An,.inl ⟨rfl,hq⟩⟩⟩
end
theorem Q3n {w:World} {Z:SP} {fr:List Nat} {N K:Nat} {M:Int} {x y n cap:Nat} {A:Nat->Mv} {a0:Option Addr} (hs:Sep w Z.hl) (ok:Z.Ok fr N K M) (hM:M+n<1099511627776) (hx:x<4294967296) (hy:y<4294967296) (hn:n<=4611686018427387904) (AE:n<=cap) (BR:AsideM Z.hl n A a0 w) :
  Calls prog 39 #[.pointer (some ⟨Z.s,0,none⟩),.int .u32 x,.int .u32 y,.slice a0 n cap] w fun rv w'=>∃er:Int,rv=.returned (.int .i64 er)/\MoveR Z fr N K M x y n A w er w':=by
 have err:∀{e:Int},e≠0->J1M Z x y n A e->Calls prog 39 #[.pointer (some ⟨Z.s,0,none⟩),.int .u32 x,.int .u32 y,.slice a0 n cap] w (Told w (.int .i64 e))->Calls prog 39 #[.pointer (some ⟨Z.s,0,none⟩),.int .u32 x,.int .u32 y,.slice a0 n cap] w fun rv w'=>∃er:Int,rv=.returned (.int .i64 er)/\MoveR Z fr N K M x y n A w er w':=fun {e} he h k=>by
  refine k.mono ?_;rintro rv w' ⟨rfl,hb⟩;exact⟨e,rfl,.inl ⟨he,h,0,BackZ.of 0 hs ok hb⟩⟩
 cases AY:pget Z.S.l 1 x with
 | none=>exact err (by decide) (.inl ⟨AY,rfl⟩) (Q6z (by decide) (Q0I hs ok.core hx 8 (.inl ⟨AY,rfl⟩)))
 | some p1 =>
  by_cases A0:p1.kind=2
  ·have So:=Q0V hs ok.core hx AY A0;have Mj:Calls prog 90 #[.pointer (some ⟨Z.s,0,none⟩),.int .u32 x] w fun r w'=>∃g:Nat,r=.returned (.tuple #[.agg #[.pointer (some ⟨g,0,none⟩),.int .u32 x,.int .i64 (p1.fac:Int)],.int .i64 0])/\Below w.heap.size w w':=So.mono fun r w' ⟨g,h1,h2,_⟩=>⟨g,h1,h2⟩
   cases A4:pget Z.S.l 1 y with
   | none=>exact err (by decide) (.inr ⟨p1,AY,.inr ⟨A0,.inl ⟨A4,rfl⟩⟩⟩) (Q6A (g:=0) (by decide) Mj fun W hb=>Q0I (hs.grown hb).sep ok.core hy 8 (.inl ⟨A4,rfl⟩))
   | some p2 =>
    by_cases A2:p2.kind=2
    ·refine Z3t hn AE (A:=A) (V:=fitV Z x y A) (Q:=fun er W=>MoveR Z fr N K M x y n A w er W) (So.mono ?_);rintro rv w1 ⟨g1,rfl,Av,OG⟩;have st1:=hs.grown Av;have CL:Below w1.heap.size w1 (w1.alloc (.cells #[.pointer (some ⟨g1,0,none⟩),.int .u32 x,.int .i64 (p1.fac:Int)] 191)):=(Below.refl _ _).alloc (J2y _) _;have st1b:=st1.sep.grown CL;have as1:AsideV Z.hl [.pointer (some ⟨g1,0,none⟩),.int .u32 x,.int .i64 (p1.fac:Int)] (some ⟨w1.heap.size,0,none⟩) (w1.alloc (.cells #[.pointer (some ⟨g1,0,none⟩),.int .u32 x,.int .i64 (p1.fac:Int)] 191)):=Q2F st1.sep _ _;refine⟨g1,(p1.fac:Int),rfl,(Q0V st1b.sep ok.core hy A4 A2).mono ?_⟩
     rintro rv w2 ⟨g2,rfl,Ag,Jv⟩;have st2:=st1b.sep.grown Ag;have Fp:Below w2.heap.size w2 (w2.alloc (.cells #[.pointer (some ⟨g2,0,none⟩),.int .u32 y,.int .i64 (p2.fac:Int)] 191)):=(Below.refl _ _).alloc (J2y _) _;have st2b:=st2.sep.grown Fp;have as2:AsideV Z.hl [.pointer (some ⟨g2,0,none⟩),.int .u32 y,.int .i64 (p2.fac:Int)] (some ⟨w2.heap.size,0,none⟩) (w2.alloc (.cells #[.pointer (some ⟨g2,0,none⟩),.int .u32 y,.int .i64 (p2.fac:Int)] 191)):=Q2F st2.sep _ _;have stall:=((st1.trans st1b).trans st2).trans st2b;refine⟨g2,(p2.fac:Int),rfl,_,_,Z6w ok hM hx hy AY A0 A4 A2 hn cap g1 g2 w1.heap.size w2.heap.size a0,Z.S,Z.tb (y%256),LaidP.start ok _,fun _=>⟨rfl,rfl⟩,?_,?_⟩
     ·rw [Q1k];exact stall
     ·rw [Q1k];exact⟨((OG.grown st1.sep CL).grown st1b.sep Ag).grown st2.sep Fp,Jv.grown st2.sep Fp,(as1.step st2).step st2b,as2,BR.step stall⟩
    ·exact err (by decide) (.inr ⟨p1,AY,.inr ⟨A0,.inr ⟨p2,A4,.inl ⟨A2,rfl⟩⟩⟩⟩) (Q6A (g:=0) (by decide) Mj fun W hb=>Q0I (hs.grown hb).sep ok.core hy 10 (.inr ⟨p2,A4,A2,rfl⟩))
  ·exact err (by decide) (.inr ⟨p1,AY,.inl ⟨A0,rfl⟩⟩) (Q6z (by decide) (Q0I hs ok.core hx 10 (.inr ⟨p1,AY,A0,rfl⟩)))
theorem Z6x (x:Nat):∀y∈Q0d x,y<256:=by
 intro y hy;unfold Q0d at hy;simp only [J2D,J2V,or_false] at hy;rcases hy with rfl|rfl|rfl|rfl|rfl|rfl|rfl|rfl <;> exact J5G _ (by omega)
def one (e:Int):Ending:=.returned (.int .i64 e)
def at2 (a:Nat) (e:Int):Ending:=.returned (.tuple #[.int .i64 a,.int .i64 e])
def GetC (S:CO) (fr:List Nat) (own n:Nat) (e:En Fa) (w:World) (r:Ending) (w':World):Prop:=
 (Q0x e<((costK n:Nat):Int)/\r=at2 0 5/\Step S.hl S.hl w w') ∨
 (((costK n:Nat):Int)<=Q0x e/\NoPage S.P/\r=at2 0 4/\Step S.hl S.hl w w') ∨
 ∃a P' fr',((costK n:Nat):Int)<=Q0x e/\GotM S.P fr own n a P' fr'/\r=at2 a 0/\Step S.hl (S.setP P').hl w w'
theorem J0L {S:CO} {fr:List Nat} {w w':World} {r:Ending} (h:Sep w S.hl) (ok:S.P.Ok fr) {own n:Nat} {e:En Fa} (hf:find S.P.q.E own=some e) (h1:1<=n) (h7:n<=7) (hr:GetP S.P fr own n w r w'):GetC S fr own n e w r w':=by
 have hc:Q1g (n:Int)=Q0c n:=by unfold Q1g;rw [if_pos (by omega),J3F]
 have Ci:=costN_pos.2 ⟨h1,h7⟩;have D1:costK n=Q0c n:=Q1R (by omega);rcases hr with ⟨h0,_⟩|⟨_,hn,_⟩|⟨_,⟨e',AM,hq⟩,rfl,st⟩|⟨m,e',hm,_,_,AM,hq,hr⟩
 ·omega
 ·rw [hf] at hn;cases hn
 ·rw [hf] at AM;cases AM;exact .inl ⟨by unfold Q0x;rw [D1,<- hc];exact hq,rfl,CO.stepP h S.P rfl st⟩
 ·have:m=n:=by omega
  subst this;rw [hf] at AM;cases AM;have Co:((costK m:Nat):Int)<=Q0x e:=by unfold Q0x;rw [D1];exact hq
  rcases hr with ⟨a,P',rfl,g,st⟩|⟨hn,rfl,st⟩
  ·exact .inr (.inr ⟨a,P',fr,Co,g.gotM ok,rfl,CO.stepP h P' g.p st⟩)
  ·exact .inr (.inl ⟨Co,hn.page,rfl,CO.stepP h S.P rfl st⟩)
def PutC (S:CO) (fr:List Nat) (own n a:Nat) (w:World) (r:Ending) (w':World):Prop:=
 r=.returned (.tuple #[])/\∃P' fr',BackM S.P fr own n a P' fr'/\Step S.hl (S.setP P').hl w w'
structure Held (P:PL) (fr:List Nat) (own n a:Nat) (e:En Fa):Prop where
 acc:find P.q.E own=some e
 paid:((costK n:Nat):Int)<=e.q.charged
 at':n≠8->a∈P.usedOf n
 frame:n=8->∃g∈fr,a=1024*g
theorem J0M {S:CO} {fr:List Nat} {w w':World} {r:Ending} (h:Sep w S.hl) (ok:S.P.Ok fr) {own n a:Nat} (hr:PutR S.P fr own n a w r w'):∃P' fr',BackM S.P fr own n a P' fr'/\Step S.hl (S.setP P').hl w w':=by
 obtain⟨_,P',g,st⟩:=hr;exact⟨P',fr,g.backM ok,CO.stepP h P' g.p st⟩
theorem Z8K {m:List Nat} {a n:Nat} (hn:8<=n) (hl:a+n<=m.length):put_ (put_ m a (List.replicate n 0)) a (Q0d 0)=put_ m a (List.replicate n 0):=by
 have Dq:(put_ m a (List.replicate n 0)).length=m.length:=Q2q _ _ _ (by rw [J2I];exact hl);have h8:(Q0d 0).length=8:=rfl
 apply J4i
 intro i;rw [Q5U _ _ _ (by rw [Dq,h8];omega)];by_cases h1:i<a
 ·rw [if_pos h1]
 ·rw [if_neg h1];by_cases h2:i<a+(Q0d 0).length
  ·rw [if_pos h2];have:i=a+(i-a):=by omega
   rw [h8] at h2;rw [this,Q7i (by rw [J2I];exact hl) (by rw [J2I];omega),show a+(i-a)-a=i-a by omega,J4B,if_pos (by omega)];have h3:i-a<8:=by omega
   generalize i-a=j at h3
   match j,h3 with
   | 0,_=>rfl
   | 1,_=>rfl
   | 2,_=>rfl
   | 3,_=>rfl
   | 4,_=>rfl
   | 5,_=>rfl
   | 6,_=>rfl
   | 7,_=>rfl
  ·rw [if_neg h2]
def Q3o (S:CO) (own n a:Nat) (lim:Int) (e:En Fa) (w:World) (r:Ending) (w':World):Prop:=
 ((∀p∈S.l,p.st≠0)/\r=one 11/\Step S.hl S.hl w w') ∨
 ((∃i p,Fst S.l i p)/\n≠1/\r=one 0/\Step S.hl S.hl w w') ∨
 ((∃i p,Fst S.l i p)/\n=1/\(∃er,((er=5/\Q0x e<lim)∨(er=11/\S.P.q.E.length=32))/\r=one er)/\Step S.hl (S.setP (S.P.setA (put_ S.P.a.mem a (Q0d 0)))).hl w w') ∨
 ((∃i p,Fst S.l i p)/\n=1/\lim<=Q0x e/\r=one 0/\∃b,Step S.hl (S.setP ((S.P.setQ (Q3W S.P.q own e b lim)).setA (put_ S.P.a.mem a (Q0d S.P.q.next.toNat)))).hl w w')
theorem GotM.acc {P P':PL} {fr fr':List Nat} {own k a:Nat} {e:En Fa} (g:GotM P fr own k a P' fr') (he:find P.q.E own=some e):find P'.q.E own=some {e with q:={e.q with charged:=e.q.charged+((costK k:Nat):Int)}}/\P'.q.E=upd P.q.E own {e.q with charged:=e.q.charged+((costK k:Nat):Int)}/\P'.q.next=P.q.next/\P'.q.E.length=P.q.E.length:=by
 obtain⟨e',q1,_,q3⟩:=g.q;rw [he] at q1;cases q1;rw [q3];refine⟨Q0h he _,rfl,rfl,?_⟩;show (upd _ _ _).length=_;unfold upd;simp
theorem GotM.held {P P':PL} {fr fr':List Nat} {own k a:Nat} {e:En Fa} (g:GotM P fr own k a P' fr') (ok:P.Ok fr) (he:find P.q.E own=some e):Held P' fr' own k a {e with q:={e.q with charged:=e.q.charged+((costK k:Nat):Int)}}:=by
 have h0:=(ok.q.fa _ e he).1;refine⟨(g.acc he).1,by show _<=e.q.charged+_;omega,fun h=>(g.used h).mem_iff.2 (by simp),fun h=>?_⟩;have hf:=g.frs;rw [if_pos h] at hf;obtain⟨x,rfl,hx⟩:=hf;exact⟨x,by rw [hx];simp,rfl⟩
theorem J1N {S:CO} {fr fr':List Nat} {N K:Nat} (ok:S.Ok fr N K) {h n a i:Nat} {f p:Pl} {e:En Fa} {lim:Int} {P':PL} (hf:pget S.l 1 h=some f) (Dd:f.kind=1) (hn:n=8∨2<=n/\n<=5) (he:find S.P.q.E f.own=some e) (g:GotM S.P fr f.own n a P' fr') (hi:Fst S.l i p) :
  MadeOk S fr f e n a lim 0 i p P' fr':=by
 obtain⟨_,hE,Bq,_⟩:=g.acc he;refine⟨ok.inv.addN g hi.1 hi.2.1 hn hf Dd,g.same,g.keptL ok.inv.mem,by rw [Bq];omega,fun _=>hE,fun h=>by omega,fun _ j h1 h2=>?_,g.few,g.high ok.inv.mem.pool (by omega),g.keptH ok.inv.mem.pool,g.room.1⟩;rw [g.mem];have:j=a+(j-a):=by omega
 rw [this,Q7i (by rw [J2I];exact g.room.1) (by rw [J2I];omega),J4B,if_pos (by omega)]
theorem J1O {S:CO} {fr fr':List Nat} {N K:Nat} (ok:S.Ok fr N K) (hN:N+1<1048576) {h a i b:Nat} {f p:Pl} {e:En Fa} {lim:Int} {P':PL} (hf:pget S.l 1 h=some f) (Dd:f.kind=1) (he:find S.P.q.E f.own=some e) (h0:0<=lim) (hl:lim<=Q0x e-64) (g:GotM S.P fr f.own 1 a P' fr') (hi:Fst S.l i p) :
  MadeOk S fr f e 1 a lim S.P.q.next.toNat i p ((P'.setQ (Q3W P'.q f.own {e with q:={e.q with charged:=e.q.charged+64}} b lim)).setA (put_ P'.a.mem a (Q0d S.P.q.next.toNat))) fr':=by
 obtain⟨Hh,hE,Bq,_⟩:=g.acc he;have Dp:costK 1=64:=rfl;rw [Dp] at Hh hE;have hr:=g.room.1;rw [Dp] at hr;have GV:∀x,(Q0d x).length=8:=fun _=>rfl
 have CQ:=ok.inv.mem.pool.q.next0;have CP:=ok.next;have N7:((S.P.q.next.toNat:Nat):Int)=S.P.q.next:=by omega
 have Ae:=g.same.len;have okq:(Q3W P'.q f.own {e with q:={e.q with charged:=e.q.charged+64}} b lim).Ok:=Z5B g.ok.q Hh b h0 (by show lim<=e.q.limit-(e.q.charged+64+e.q.given);unfold Q0x at hl;omega) (by rw [Bq];omega);have J5:(put_ P'.a.mem a (Q0d S.P.q.next.toNat)).length=P'.a.mem.length:=Q2q _ _ _ (by rw [GV];omega);have Tk:∀y∈put_ P'.a.mem a (Q0d S.P.q.next.toNat),y<256:=by
  intro y hy;unfold put_ at hy;simp only [J3o] at hy;rcases hy with (hy|hy)|hy
  ·exact g.ok.bytes y (J5V hy)
  ·exact Z6x _ y hy
  ·exact g.ok.bytes y (J5d hy)
 have ok2:=PL.ok_setA (PL.ok_setQ g.ok okq) (m:=put_ P'.a.mem a (Q0d S.P.q.next.toNat)) J5 Tk;have hq:(Q3W P'.q f.own {e with q:={e.q with charged:=e.q.charged+64}} b lim).E=upd S.P.q.E f.own {e.q with charged:=e.q.charged+64,given:=e.q.given+lim,kids:=e.q.kids+1}++[⟨(S.P.q.next.toNat:Int),b,⟨lim,0,0,f.own,0⟩⟩]:=by
  unfold Q3W;simp only;rw [hE,upd_upd,Bq,N7]
 have LX:KeptL S.P.a.mem (put_ P'.a.mem a (Q0d S.P.q.next.toNat)) S.l:=KeptL.of_apart ok.inv.mem (n:=64) (a:=a) (fun c j h=>by
  have k1:Kept S.P.a.mem P'.a.mem c j:=by
   rw [g.mem];exact Q1D (by rw [J2I,Dp];exact hr) (by rw [J2I,Dp];exact h)
  exact k1.trans (Q1D (by rw [GV];omega) (by rw [GV];omega))) (g.apart ok.inv.mem.pool)
 refine⟨?_,⟨g.same.p,g.same.qt,g.same.db,g.same.aa,g.same.amb,g.same.top,J5.trans Ae⟩,LX,?_,fun h=>absurd rfl h,fun _=>⟨N7,?_,b,hq⟩,fun h=>absurd rfl h,g.few,g.high ok.inv.mem.pool (by omega),fun j c hj hc=>?_,by rw [Dp];exact hr⟩
 ·exact ok.inv.addF g hi.1 hi.2.1 hf Dd N7 he hq rfl (fun j=>rfl) ok2
 ·show P'.q.next+1<=_;rw [Bq];omega
 ·show P'.q.next+1=_;rw [Bq]
 ·have:=(g.apart ok.inv.mem.pool).1 j c hc;rw [Dp] at this;exact (g.keptH ok.inv.mem.pool j c hj hc).trans (Q1D (by rw [GV];omega) (by rw [GV];omega))
theorem Z0M {w:World} {S:CO} {fr:List Nat} (h:Sep w S.hl) (ok:S.P.Ok fr) {own:Nat} {e:En Fa} (hf:find S.P.q.E own=some e) (hq:(1024:Int)<=Q0x e) :
  Calls prog 68 #[ptr S.P.q.t,.int .i64 own,.int .i64 1024] w fun r w1=>r=.returned (.int .i64 0)/\w1.cell? ⟨S.c,0,none⟩=some (ptr S.P.p)/\w1.cell? ⟨S.P.p,1,none⟩=some (ptr S.P.d.b) /\
   Calls prog 129 #[ptr S.P.d.b,.int .i64 0] w1 fun r w2 =>
    (∃a:Nat,r=.returned (.tuple #[.int .i64 a,.int .i64 0])/\w2.cell? ⟨S.c,0,none⟩=some (ptr S.P.p) /\
     Calls prog 50 #[ptr S.P.p] w2 (fun r w'=>r=.returned (ptr S.P.a.a)/\w2=w') /\
     Calls prog 71 #[ptr S.P.a.a,.int .i64 a,.int .i64 1024,.int .u8 0] w2 fun r w3=>r=.returned (.int .i64 0)/\GetC S fr own 8 e w (at2 a 0) w3)
    ∨ (r=.returned (.tuple #[.int .i64 0,.int .i64 4])/\w2.cell? ⟨S.c,0,none⟩=some (ptr S.P.p)/\w2.cell? ⟨S.P.p,0,none⟩=some (ptr S.P.q.t) /\
     Calls prog 70 #[ptr S.P.q.t,.int .i64 own,.int .i64 1024] w2 fun r w3=>r=.returned (.int .i64 0)/\GetC S fr own 8 e w (at2 0 4) w3):=by
 obtain⟨f1,f2,f3,f4,f5,f6,f7,f8⟩:=ok.q.fa _ e hf;have Ac:=ok.q.ids;have Co:(1024:Int)<=e.q.limit-(e.q.charged+e.q.given):=hq;refine (Q7a (PL.sQ (CO.sP h)) ok.q hf 1024 (by omega) Co).mono ?_;rintro r w1 ⟨rfl,st1⟩;have s1:Step S.hl (S.setP (S.P.setQ {S.P.q with E:=upd S.P.q.E own {e.q with charged:=e.q.charged+1024}})).hl w w1:=CO.stepP h _ rfl (PL.stepQ (CO.sP h) {S.P.q with E:=upd S.P.q.E own {e.q with charged:=e.q.charged+1024}} rfl st1);have ok1:=PL.ok_setQ ok (Q3b ok.q hf {e.q with charged:=e.q.charged+1024} ⟨by show 0<=e.q.charged+_;omega,f2,by show e.q.charged+_+e.q.given<=e.q.limit;omega,rfl,rfl⟩)
 have FX:find (upd S.P.q.E own {e.q with charged:=e.q.charged+1024}) own=some {e with q:={e.q with charged:=e.q.charged+1024}}:=Q0h hf _;have k0:=CO.c0 s1.sep;have k1:=PL.c1 (CO.sP s1.sep);have k2:=PL.c0 (CO.sP s1.sep);refine⟨rfl,k0,k1,?_⟩;rcases Z5k S.P.d with hn|⟨kk,i0,t1,t2,t3⟩
 ·refine (Q6Y (PL.sD (CO.sP s1.sep)) ok.d.is hn).mono ?_;rintro r w2 ⟨rfl,rfl⟩;right;refine⟨rfl,k0,k2,?_⟩;have K6:=Q3w (PL.sQ (CO.sP s1.sep)) ok1.q (id:=own) (e:={e with q:={e.q with charged:=e.q.charged+1024}}) FX 1024 (by omega) (by show _<=e.q.charged+_;omega);refine Calls.mono K6 ?_;rintro r w3 ⟨rfl,st3⟩;have eback:({S.P.q with E:=upd (upd S.P.q.E own {e.q with charged:=e.q.charged+1024}) own {e.q with charged:=e.q.charged+1024-1024}}:QT)=S.P.q:=by
   rw [upd_upd,J6i,Z4v Ac hf]
  have st3':Step (S.P.setQ {S.P.q with E:=upd S.P.q.E own {e.q with charged:=e.q.charged+1024}}).q.hl ({S.P.q with E:=upd (upd S.P.q.E own {e.q with charged:=e.q.charged+1024}) own {e.q with charged:=e.q.charged+1024-1024}}:QT).hl w1 w3:=st3;rw [eback] at st3';have s3:=CO.stepP s1.sep S.P rfl (PL.stepQ (CO.sP s1.sep) S.P.q rfl st3');exact⟨rfl,.inr (.inl ⟨hq,fun p hp=>Q8K hn hp,rfl,s1.trans s3⟩)⟩
 ·refine (Q6Z (PL.sD (CO.sP s1.sep)) ok.d kk i0 t1 t2 t3).mono ?_;rintro r w2 ⟨rfl,d,d1,d2,d3,d4,st2⟩;left;have s2:=CO.stepP s1.sep ((S.P.setQ {S.P.q with E:=upd S.P.q.E own {e.q with charged:=e.q.charged+1024}}).setD d) rfl (PL.stepD (CO.sP s1.sep) d d1 st2);have MT:=Z5j ok hf Co d1 d2 d3 d4;have GF:=Q0p ok;have J5:1024*(i0*2 ^ kk)+1024<=S.P.a.mem.length:=MT.room.1;have j0:=CO.c0 s2.sep;have j1:=Q1f (CO.sP s2.sep);refine⟨1024*(i0*2 ^ kk),rfl,j0,j1,?_⟩;refine Calls.mono (Z4T (PL.sA (CO.sP s2.sep)) (1024*(i0*2 ^ kk)) 1024 0 (by omega) J5 GF) ?_;rintro r w3 ⟨rfl,st3⟩;have s3:=CO.stepP s2.sep (((S.P.setQ {S.P.q with E:=upd S.P.q.E own {e.q with charged:=e.q.charged+1024}}).setD d).setA (put_ S.P.a.mem (1024*(i0*2 ^ kk)) (List.replicate 1024 0))) rfl (PL.stepA (CO.sP s2.sep) _ st3)
  exact⟨rfl,.inr (.inr ⟨_,_,_,hq,MT,rfl,(s1.trans s2).trans s3⟩)⟩
theorem Z3u {w:World} {S:CO} {fr:List Nat} (h:Sep w S.hl) (ok:S.P.Ok fr) {own:Nat} {e:En Fa} (hf:find S.P.q.E own=some e) (hq:Q0x e<1024) :
  Calls prog 68 #[ptr S.P.q.t,.int .i64 own,.int .i64 1024] w fun r w1=>r=.returned (.int .i64 5)/\GetC S fr own 8 e w (at2 0 5) w1:=by
 refine (Q4t (PL.sQ (CO.sP h)) ok.q hf 1024 (by omega) hq).mono ?_;rintro r w1 ⟨rfl,hb⟩;exact⟨rfl,.inl ⟨hq,rfl,h.grown hb⟩⟩
def FrF (S:CO) (bx a own:Nat) (w':World):Prop:=w'.cell? ⟨S.c,0,none⟩=some (.pointer (some ⟨S.P.p,0,none⟩))/\w'.cell? ⟨S.P.p,0,none⟩=some (.pointer (some ⟨S.P.q.t,0,none⟩))/\w'.cell? ⟨S.P.p,1,none⟩=some (.pointer (some ⟨S.P.d.b,0,none⟩))/\w'.cell? ⟨bx,1,none⟩=some (.int .i64 a)/\w'.cell? ⟨bx,2,none⟩=some (.int .i64 own)
theorem Step.box {w w0 w1:World} {H H':HL} (st:Step H H' w0 w1) (h:Sep w H) (h0:w.heap.size<w0.heap.size) {i:Nat} {v:Value} (hv:w0.cell? ⟨w.heap.size,i,none⟩=some v):w1.cell? ⟨w.heap.size,i,none⟩=some v:=
 (World.cell?_of_block (w:=w0) (st.chg.block _ h0 (fun hk=>by have:w.heap.size<w.heap.size:=h.lt hk;omega))).trans hv
theorem FrF.base {w w0:World} {S:CO} (h0:Sep w0 S.hl) {a own:Nat} (h1:w0.cell? ⟨w.heap.size,1,none⟩=some (.int .i64 a)) (h2:w0.cell? ⟨w.heap.size,2,none⟩=some (.int .i64 own)):FrF S w.heap.size a own w0:=
 ⟨CO.c0 h0,PL.c0 (CO.sP h0),PL.c1 (CO.sP h0),h1,h2⟩
theorem FrF.step {w w0 w1:World} {S:CO} {P':PL} (h:Sep w S.hl) (hl:w.heap.size<w0.heap.size) {a own:Nat} (f:FrF S w.heap.size a own w0) (st:Step S.hl (S.setP P').hl w0 w1) (hp:P'.p=S.P.p) (hq:P'.q.t=S.P.q.t) (hd:P'.d.b=S.P.d.b):FrF S w.heap.size a own w1:=by
 have c:=CO.c0 st.sep;have p0:=PL.c0 (CO.sP st.sep);have p1:=PL.c1 (CO.sP st.sep);have e:(S.setP P').P=P':=rfl;rw [e,hp] at c p0 p1;rw [hq] at p0;rw [hd] at p1;exact⟨c,p0,p1,st.box h hl f.2.2.2.1,st.box h hl f.2.2.2.2⟩
theorem Q8j {w w0:World} {S:CO} {fr:List Nat} (h:Sep w S.hl) (s0:Step S.hl S.hl w w0) (hl:w.heap.size<w0.heap.size) (ok:S.P.Ok fr) {own a:Nat} {e:En Fa} (hp:Held S.P fr own 8 a e) (f:FrF S w.heap.size a own w0) :
  Calls prog 70 #[.pointer (some ⟨S.P.q.t,0,none⟩),.int .i64 own,.int .i64 1024] w0 fun r w1=>r=.returned (.int .i64 0)/\FrF S w.heap.size a own w1 /\
   Calls prog 145 #[.pointer (some ⟨S.P.d.b,0,none⟩),.int .i64 a] w1.drew fun r w2=>r=.returned (.int .i64 0)/\FrF S w.heap.size a own w2/\PutC S fr own 8 a w (.returned (.tuple #[])) w2:=by
 obtain⟨hf,hq,_,hg⟩:=hp;obtain⟨g,KJ,rfl⟩:=hg rfl;obtain⟨f1,f2,f3,f4,f5,f6,f7,f8⟩:=ok.q.fa _ e hf;have Co:(1024:Int)<=e.q.charged:=hq;refine Calls.mono (Q3w (PL.sQ (CO.sP s0.sep)) ok.q hf 1024 (by omega) Co) ?_;rintro r w1 ⟨rfl,st1⟩;have s1:Step S.hl (S.setP (S.P.setQ {S.P.q with E:=upd S.P.q.E own {e.q with charged:=e.q.charged-1024}})).hl w0 w1:=CO.stepP s0.sep _ rfl (PL.stepQ (CO.sP s0.sep) {S.P.q with E:=upd S.P.q.E own {e.q with charged:=e.q.charged-1024}} rfl st1);have Hk:g∈S.P.d.ps:=ok.pages.mem_iff.1 (J3v _ KJ);have f1:=f.step h hl s1 rfl rfl rfl;refine⟨rfl,f1,?_⟩;have hx:((1024*g:Nat):Int)=1024*(g:Int):=by omega
 rw [hx];refine Calls.mono (Z1t (PL.sD (CO.sP s1.drew.sep)) ok.d g Hk) ?_;rintro r w2 ⟨rfl,d,d1,d2,d3,d4,st2⟩;have s2:=s1.drew.trans (CO.stepP s1.drew.sep ((S.P.setQ {S.P.q with E:=upd S.P.q.E own {e.q with charged:=e.q.charged-1024}}).setD d) rfl (PL.stepD (CO.sP s1.drew.sep) d d1 st2));have f2:=f.step h hl (P':=(S.P.setQ {S.P.q with E:=upd S.P.q.E own {e.q with charged:=e.q.charged-1024}}).setD d) s2 rfl rfl d1;exact⟨rfl,f2,rfl,_,_,Z2C ok hf Co KJ d1 d2 d3 d4,s0.trans s2⟩
theorem Q5e {w w1:World} {S:CO} {P1:PL} (s1:Step S.hl (S.setP P1).hl w w1) {a x:Nat} (ha:a%8=0) (hl:a+8<=P1.a.mem.length) (hm:P1.a.mem.length<=1073741824) (hx:x<1048576) (w2:World) (hb:Below w1.heap.size w1 w2) :
  w2.cell? ⟨S.c,0,none⟩=some (ptr P1.p)/\w2.cell? ⟨P1.p,0,none⟩=some (ptr P1.q.t)/\Calls prog 50 #[ptr P1.p] w2 (fun r w'=>r=.returned (ptr P1.a.a)/\w2=w') /\
   ∀g,w2.cell? ⟨g,0,none⟩=some (.int .u64 x)->w1.heap.size<=g->g<w2.heap.size ->
    Calls prog 57 #[ptr P1.a.a,.int .i64 a,.slice (some ⟨g,0,none⟩) 1 1] w2 fun r w3=>r=.returned (.int .i64 0)/\(w3.cell? ⟨S.c,0,none⟩=some (ptr P1.p)/\∀b,b∉keys P1.a.hl->b<w2.heap.size->w3.heap[b]?=w2.heap[b]?)/\Step S.hl (S.setP (P1.setA (put_ P1.a.mem a (Q0d x)))).hl w w3:=by
 have s2:=s1.trans (s1.sep.grown hb);refine⟨CO.c0 s2.sep,PL.c0 (CO.sP s2.sep),Q1f (CO.sP s2.sep),fun g hg C3 B3=>?_⟩;have hk:g∉keys P1.a.hl:=fun hk=>by
  have:=(PL.sA (CO.sP s1.sep)).lt hk;omega
 refine Calls.mono (Z1x (PL.sA (CO.sP s2.sep)) a x ha hl hm (by omega) g hg B3 hk) ?_;rintro r w3 ⟨rfl,st⟩;have s3:=CO.stepP s2.sep (P1.setA (put_ P1.a.mem a (Q0d x))) rfl (PL.stepA (CO.sP s2.sep) _ st);exact⟨rfl,⟨CO.c0 s3.sep,fun b hb hl=>st.chg.block b hl hb⟩,s2.trans s3⟩
theorem Z0N {w w0:World} {S:CO} {fr:List Nat} (h:Sep w S.hl) (BI:Below w.heap.size w w0) (ok:S.P.Ok fr) (AD:∃i p,Fst S.l i p) {own a:Nat} {e:En Fa} (hf:find S.P.q.E own=some e) {lim:Int} (h0:0<=lim) (CP:S.P.q.next+1<1048576) (ha:a%8=0) (hl:a+8<=S.P.a.mem.length) :
  Calls prog 14 #[ptr S.P.q.t,.int .i64 own,.int .i64 lim] w0 fun r w1=>∃(x:Nat) (er:Int),r=.returned (.tuple #[.int .i64 x,.int .i64 er])/\x<1048576/\w0.heap.size<=w1.heap.size/\(∀b,w.heap.size<=b->b<w0.heap.size->w1.heap[b]?=w0.heap[b]?) /\
   ∀w2,Below w1.heap.size w1 w2->w2.cell? ⟨S.c,0,none⟩=some (ptr S.P.p)/\w2.cell? ⟨S.P.p,0,none⟩=some (ptr S.P.q.t)/\Calls prog 50 #[ptr S.P.p] w2 (fun r w'=>r=.returned (ptr S.P.a.a)/\w2=w') /\
    ∀g,w2.cell? ⟨g,0,none⟩=some (.int .u64 x)->w1.heap.size<=g->g<w2.heap.size ->
     Calls prog 57 #[ptr S.P.a.a,.int .i64 a,.slice (some ⟨g,0,none⟩) 1 1] w2 fun r w3=>r=.returned (.int .i64 0)/\(w3.cell? ⟨S.c,0,none⟩=some (ptr S.P.p)/\∀b,w.heap.size<=b->b<w2.heap.size->w3.heap[b]?=w2.heap[b]?)/\Q3o S own 1 a lim e w (one er) w3:=by
 have s0:=h.grown BI;have GF:=Q0p ok;have CQ:=ok.q.next0;have NQ:∀b,w.heap.size<=b->b∉keys S.P.a.hl:=fun b hb hk=>by
  have:=(PL.sA (CO.sP h)).lt hk;omega
 have told:∀w1,Below w0.heap.size w0 w1->w0.heap.size<=w1.heap.size/\(∀b,w.heap.size<=b->b<w0.heap.size->w1.heap[b]?=w0.heap[b]?)/\Step S.hl (S.setP S.P).hl w w1:=fun w1 hb=>⟨hb.size,fun b _ h2=>hb.block b h2,s0.trans (s0.sep.grown hb)⟩
 by_cases hq:lim<=Q0x e
 ·by_cases KF:S.P.q.E.length=32
  ·refine (Z0A (PL.sQ (CO.sP s0.sep)) ok.q hf lim h0 hq KF).mono ?_;rintro r w1 ⟨rfl,hb⟩;obtain⟨t1,t2,t3⟩:=told w1 hb;refine⟨0,11,rfl,by omega,t1,t2,fun w2 Ag=>?_⟩;obtain⟨a1,a0,a2,a3⟩:=Q5e t3 (x:=0) ha hl GF (by omega) w2 Ag;refine⟨a1,a0,a2,fun g g1 g2 g3=>(a3 g g1 g2 g3).mono ?_⟩;rintro r w3 ⟨rfl,kk,st⟩;exact⟨rfl,⟨kk.1,fun b h1 h2=>kk.2 b (NQ b h1) h2⟩,.inr (.inr (.inl ⟨AD,rfl,⟨11,.inr ⟨rfl,KF⟩,rfl⟩,st⟩))⟩
  ·refine (Z5S (PL.sQ (CO.sP s0.sep)) ok.q hf lim h0 hq KF CP).mono ?_;rintro r w1 ⟨rfl,b,st⟩;have s1:=s0.trans (CO.stepP s0.sep (S.P.setQ (Q3W S.P.q own e b lim)) rfl (PL.stepQ (CO.sP s0.sep) _ rfl st));have hx:((S.P.q.next.toNat:Nat):Int)=S.P.q.next:=by omega
   refine⟨S.P.q.next.toNat,0,by rw [hx],by omega,st.chg.size,fun b' h1 h2=>st.chg.block b' h2 (fun hk=>?_),fun w2 Ag=>?_⟩
   ·have:=(PL.sQ (CO.sP h)).lt hk;omega
   ·obtain⟨a1,a0,a2,a3⟩:=Q5e s1 (x:=S.P.q.next.toNat) ha hl GF (by omega) w2 Ag;refine⟨a1,a0,a2,fun g g1 g2 g3=>(a3 g g1 g2 g3).mono ?_⟩;rintro r w3 ⟨rfl,kk,st⟩;exact⟨rfl,⟨kk.1,fun b h1 h2=>kk.2 b (NQ b h1) h2⟩,.inr (.inr (.inr ⟨AD,rfl,hq,rfl,b,st⟩))⟩
 ·refine (Q9c (PL.sQ (CO.sP s0.sep)) ok.q hf lim h0 (by unfold Q0x at hq;omega)).mono ?_;rintro r w1 ⟨rfl,hb⟩;obtain⟨t1,t2,t3⟩:=told w1 hb;refine⟨0,5,rfl,by omega,t1,t2,fun w2 Ag=>?_⟩;obtain⟨a1,a0,a2,a3⟩:=Q5e t3 (x:=0) ha hl GF (by omega) w2 Ag;refine⟨a1,a0,a2,fun g g1 g2 g3=>(a3 g g1 g2 g3).mono ?_⟩;rintro r w3 ⟨rfl,kk,st⟩;exact⟨rfl,⟨kk.1,fun b h1 h2=>kk.2 b (NQ b h1) h2⟩,.inr (.inr (.inl ⟨AD,rfl,⟨5,.inl ⟨rfl,by omega⟩,rfl⟩,st⟩))⟩
theorem GetC.tup {S:CO} {fr:List Nat} {own n:Nat} {e:En Fa} {w w':World} {r:Ending} (h:GetC S fr own n e w r w'):∃a er:Int,r=.returned (.tuple #[.int .i64 a,.int .i64 er])/\GetC S fr own n e w (.returned (.tuple #[.int .i64 a,.int .i64 er])) w':=by
 have k:∃a er:Int,r=.returned (.tuple #[.int .i64 a,.int .i64 er]):=by
  rcases h with ⟨_,rfl,_⟩|⟨_,_,rfl,_⟩|⟨a,_,_,_,_,rfl,_⟩
  ·exact⟨_,_,rfl⟩
  ·exact⟨_,_,rfl⟩
  ·exact⟨_,_,rfl⟩
 obtain⟨a,er,rfl⟩:=k;exact⟨a,er,rfl,h⟩
theorem Z3v {w:World} {S:CO} {fr:List Nat} (h:Sep w S.hl) (ok:S.P.Ok fr) {own n:Nat} {e:En Fa} (hf:find S.P.q.E own=some e) (h1:1<=n) (h7:n<=7) :
  Calls prog 152 #[.pointer (some ⟨S.c,0,none⟩),.int .i64 own,.int .i64 n] w (GetC S fr own n e w):=by
 have hg:=(Q5B (CO.sP h) ok (own:Int) (n:Int)).mono fun r w' hr=>(J0L h ok hf h1 h7 hr).tup
 have c0:=CO.c0 h;have Av:(((n:Nat):Int) != 8)=true:=by simp;omega
 have Ag:(((n:Nat):Int)==8)=false:=by simp;omega
 generalize GetC S fr own n e w=Q at *
 clear h ok hf h1 h7;go_enter func152,ntmps152;go_wp2_with fail;refine hg.mono ?_;rintro r w1 ⟨a,er,rfl,hx⟩;have HX:=Q0a hx;clear hx;go_wp2_with fail
 first|exact HX.out|(go_ret2;exact HX.out)
theorem Z3w {w:World} {S:CO} {fr:List Nat} (h:Sep w S.hl) (ok:S.P.Ok fr) {own:Nat} {e:En Fa} (hf:find S.P.q.E own=some e) :
  Calls prog 152 #[.pointer (some ⟨S.c,0,none⟩),.int .i64 own,.int .i64 8] w (GetC S fr own 8 e w):=by
 have c0:=CO.c0 h;have p0:=PL.c0 (CO.sP h);by_cases hq:Q0x e<1024
 ·have hc:=Z3u h ok hf hq;unfold ptr at *
  unfold at2 at hc;generalize GetC S fr own 8 e w=Q at *
  clear h ok hf hq;go_enter func152,ntmps152;go_wp2_with fail;refine hc.mono ?_;rintro r w1 ⟨rfl,hx⟩;have HX:=Q0a hx;clear hx;go_wp2_with fail
  first|exact HX.out|(go_ret2;exact HX.out)
 ·have hc:=Z0M h ok hf (by omega);unfold ptr at *
  unfold at2 at hc;generalize GetC S fr own 8 e w=Q at *
  clear h ok hf hq;go_enter func152,ntmps152;go_wp2_with fail;refine hc.mono ?_;rintro r w1 ⟨rfl,e0,e1,hx⟩;have HX:=Q0a hx;clear hx c0 p0 hc;go_wp2_with fail;refine HX.out.mono ?_;rintro r w2 (⟨a,rfl,e0,hA,hx⟩|⟨rfl,e0,e1,hx⟩)
  ·have HY:=Q0a hx;clear hx HX;go_wp2_with fail;refine hA.mono ?_;rintro r w3 ⟨rfl,rfl⟩;clear hA;go_wp2_with fail;refine HY.out.mono ?_;rintro r w3 ⟨rfl,hx⟩;have HZ:=Q0a hx;clear hx HY;go_wp2_with fail
   first|exact HZ.out|(go_ret2;exact HZ.out)
  ·have HY:=Q0a hx;clear hx HX;go_wp2_with fail;refine HY.out.mono ?_;rintro r w3 ⟨rfl,hx⟩;have HZ:=Q0a hx;clear hx HY;go_wp2_with fail
   first|exact HZ.out|(go_ret2;exact HZ.out)
theorem Z8L {w:World} {S:CO} {fr:List Nat} (h:Sep w S.hl) (ok:S.P.Ok fr) {own n:Nat} {e:En Fa} (hf:find S.P.q.E own=some e) (hn:n=8∨1<=n/\n<=7) :
  Calls prog 152 #[.pointer (some ⟨S.c,0,none⟩),.int .i64 own,.int .i64 n] w (GetC S fr own n e w):=by
 rcases hn with rfl|⟨h1,h7⟩
 ·exact Z3w h ok hf
 ·exact Z3v h ok hf h1 h7
theorem Z6y {w:World} {S:CO} {fr:List Nat} (h:Sep w S.hl) (ok:S.P.Ok fr) {own n a:Nat} {e:En Fa} (hp:Held S.P fr own n a e) (hn:n≠8) :
  Calls prog 154 #[.pointer (some ⟨S.c,0,none⟩),.agg #[.int .i64 n,.int .i64 a,.int .i64 own]] w (PutC S fr own n a w):=by
 have hu:=hp.at' hn;obtain⟨g1,g2,g3,g4⟩:=Q0n ok hu;obtain⟨c,hc⟩:=PL.cls ok g3 g4;have hm:=Q0p ok;have s1:=(h.alloc (.cells #[.int .i64 n,.int .i64 a,.int .i64 own] 54)).drew;have G4:=hp.paid;rw [Q1R hn] at G4;have hB:=Cells.new w 54 [.int .i64 n,.int .i64 a,.int .i64 own];have By:Calls prog 21 #[.pointer (some ⟨S.P.p,0,none⟩),.int .i64 own,.int .i64 n,.int .i64 a] (w.alloc (.cells #[.int .i64 n,.int .i64 a,.int .i64 own] 54)).drew fun r w1=>r=.returned (.int .i64 0)/\w1.cell? ⟨S.c,0,none⟩=some (.pointer (some ⟨S.P.p,0,none⟩))/\w1.cell? ⟨w.heap.size,0,none⟩=some (.int .i64 n)/\w1.cell? ⟨w.heap.size,1,none⟩=some (.int .i64 a)/\w1.cell? ⟨w.heap.size,2,none⟩=some (.int .i64 own)/\PutC S fr own n a w (.returned (.tuple #[])) w1:=by
  refine (Q4u (CO.sP s1) ok (own:Int) hp.acc n G4 c hc a (by rw [<- Q0U hc];exact hu) (by omega)).mono ?_;intro r w1 hr;obtain⟨P',fr',b,st⟩:=J0M s1 ok hr;have KU:=CO.c0 st.sep;rw [show (S.setP P').P.p=S.P.p from b.same.p] at KU;exact⟨hr.1,KU,st.box h (by simp) (hB.cell 0 _ rfl),st.box h (by simp) (hB.cell 1 _ rfl),st.box h (by simp) (hB.cell 2 _ rfl),rfl,P',fr',b,st.from_drew.from_alloc⟩
 have c0:=CO.c0 (h.alloc (.cells #[.int .i64 n,.int .i64 a,.int .i64 own] 54));have d0:=CO.c0 s1;have e0:=hB.cell 0 _ rfl;have e1:=hB.cell 1 _ rfl;have e2:=hB.cell 2 _ rfl;have f0:(w.alloc (.cells #[.int .i64 n,.int .i64 a,.int .i64 own] 54)).drew.cell? ⟨w.heap.size,0,none⟩=some (.int .i64 n):=e0;have f1:(w.alloc (.cells #[.int .i64 n,.int .i64 a,.int .i64 own] 54)).drew.cell? ⟨w.heap.size,1,none⟩=some (.int .i64 a):=e1;have f2:(w.alloc (.cells #[.int .i64 n,.int .i64 a,.int .i64 own] 54)).drew.cell? ⟨w.heap.size,2,none⟩=some (.int .i64 own):=e2;have Av:(((n:Nat):Int) != 8)=true:=by simp;omega
 have Ag:(((n:Nat):Int)==8)=false:=by simp;omega
 generalize PutC S fr own n a w=Q at *
 clear h ok hp hu g1 g2 g3 g4 hc hm s1 G4 hB hn;go_enter func154,ntmps154;go_wp2_with fail
 go_region_held3 (fun w'=>w'.cell? ⟨S.c,0,none⟩=some (.pointer (some ⟨S.P.p,0,none⟩))/\w'.cell? ⟨w.heap.size,0,none⟩=some (.int .i64 n)/\w'.cell? ⟨w.heap.size,1,none⟩=some (.int .i64 a)/\w'.cell? ⟨w.heap.size,2,none⟩=some (.int .i64 own)) (first|exact⟨c0,e0,e1,e2⟩|exact⟨d0,f0,f1,f2⟩|exact⟨t0,t1,t2,t3⟩)
  (first|(go_at_call 21;refine By.mono ?_;rintro r w1 ⟨rfl,t0,t1,t2,t3,hx⟩;have HX:=Q0a hx;clear hx))
 go_wp2_with fail
 first|exact HX.out|((try simp only [Exit.inBlock,Exit.then]);refine bodyPost_ret (results_none rfl _ _ _) rfl ?_;exact HX.out)
theorem Z3x {w:World} {S:CO} {fr:List Nat} (h:Sep w S.hl) (ok:S.P.Ok fr) {own a:Nat} {e:En Fa} (hp:Held S.P fr own 8 a e) :
  Calls prog 154 #[.pointer (some ⟨S.c,0,none⟩),.agg #[.int .i64 8,.int .i64 a,.int .i64 own]] w (PutC S fr own 8 a w):=by
 have s0:=(h.alloc (.cells #[.int .i64 8,.int .i64 a,.int .i64 own] 54))
 have hB:=Cells.new w 54 [.int .i64 8,.int .i64 a,.int .i64 own];have e0:=hB.cell 0 _ rfl;have F0:FrF S w.heap.size a own (w.alloc (.cells #[.int .i64 8,.int .i64 a,.int .i64 own] 54)):=FrF.base s0 (hB.cell 1 _ rfl) (hB.cell 2 _ rfl);have Dt:=Q8j (w0:=(w.alloc (.cells #[.int .i64 8,.int .i64 a,.int .i64 own] 54)).drew) h (h.grown (((Below.refl _ _).alloc (J2y _) _).drew)) (by simp [World.drew]) ok hp F0;obtain⟨c0,c1,c2,c3,c4⟩:=F0;have D9:Hid (∀(v:World) b i x,v.cell? ⟨b,i,none⟩=some x->v.drew.cell? ⟨b,i,none⟩=some x):=fun v b i x hv=>hv
 have d0:=D9.out _ _ _ _ c0;have d1:=D9.out _ _ _ _ c1;have d2:=D9.out _ _ _ _ c2;have d3:=D9.out _ _ _ _ c3;have d4:=D9.out _ _ _ _ c4;generalize PutC S fr own 8 a w=Q at *
 unfold FrF at Dt;clear h ok hp s0 hB;go_enter func154,ntmps154;go_wp2_with fail
 go_region_held3 (fun w'=>w'.cell? ⟨S.c,0,none⟩=some (.pointer (some ⟨S.P.p,0,none⟩))/\w'.cell? ⟨S.P.p,0,none⟩=some (.pointer (some ⟨S.P.q.t,0,none⟩))/\w'.cell? ⟨w.heap.size,2,none⟩=some (.int .i64 own)) (first|exact⟨c0,c1,c4⟩|exact⟨d0,d1,d4⟩|exact⟨t0,t1,t4⟩)
  (first|(go_at_call 70;refine Dt.mono ?_;rintro r w1 ⟨rfl,⟨t0,t1,t2,t3,t4⟩,hx⟩;have HX:=Q0a hx;clear hx))
 have x0:=D9.out _ _ _ _ t0;have x2:=D9.out _ _ _ _ t2;have x3:=D9.out _ _ _ _ t3;clear c0 c1 c2 c3 c4 d0 d1 d2 d3 d4 Dt;go_wp2_with fail
 go_region_held3 (fun w'=>w'.cell? ⟨S.c,0,none⟩=some (.pointer (some ⟨S.P.p,0,none⟩))/\w'.cell? ⟨S.P.p,1,none⟩=some (.pointer (some ⟨S.P.d.b,0,none⟩))/\w'.cell? ⟨w.heap.size,1,none⟩=some (.int .i64 a)) (first|exact⟨t0,t2,t3⟩|exact⟨x0,x2,x3⟩|exact⟨y0,y2,y3⟩)
  (first|(go_at_call 145;refine HX.out.mono ?_;rintro r w2 ⟨rfl,⟨y0,y1,y2,y3,y4⟩,hx⟩;have HY:=Q0a hx;clear hx))
 go_wp2_with fail
 first|exact HY.out|((try simp only [Exit.inBlock,Exit.then]);refine bodyPost_ret (results_none rfl _ _ _) rfl ?_;exact HY.out)
theorem Q8k {w:World} {S:CO} {fr:List Nat} (h:Sep w S.hl) (ok:S.P.Ok fr) {own n a:Nat} {e:En Fa} (hp:Held S.P fr own n a e) :
  Calls prog 154 #[.pointer (some ⟨S.c,0,none⟩),.agg #[.int .i64 n,.int .i64 a,.int .i64 own]] w (PutC S fr own n a w):=by
 by_cases hn:n=8
 ·subst hn;exact Z3x h ok hp
 ·exact Z6y h ok hp hn
theorem Z1W (w:World) (k:Int):Calls prog 151 #[.int .i64 k] w fun r w'=>r=.returned (.bool (decide (k=8∨1<=k/\k<=5)))/\w=w':=by
 by_cases h8:k=8
 ·subst h8;go_enter func151,ntmps151;go_wp2_with fail
  first|exact⟨rfl,rfl⟩|(go_ret;exact⟨rfl,rfl⟩)
 ·have hb:(k==8)=false:=by simpa using h8
  by_cases h1:1<=k
  ·by_cases h5:k<=5
   ·have hd:decide (k=8∨1<=k/\k<=5)=true:=by rw [decide_eq_true_eq];omega
    rw [hd];clear hd;go_enter func151,ntmps151;go_wp2_with fail
    first|exact⟨rfl,rfl⟩|(go_ret;exact⟨rfl,rfl⟩)
   ·have hd:decide (k=8∨1<=k/\k<=5)=false:=by rw [decide_eq_false_iff_not];omega
    rw [hd];clear hd;have S0:5<k:=by omega
    go_enter func151,ntmps151;go_wp2_with fail
    first|exact⟨rfl,rfl⟩|(go_ret;exact⟨rfl,rfl⟩)
  ·have hd:decide (k=8∨1<=k/\k<=5)=false:=by rw [decide_eq_false_iff_not];omega
   rw [hd];clear hd;have PP:k<1:=by omega
   go_enter func151,ntmps151;go_wp2_with fail
   first|exact⟨rfl,rfl⟩|(go_ret;exact⟨rfl,rfl⟩)
end Go.Proofs.YtfidemmgofcnmaaGreatDoor
