/- What the laws of spaces share is proved. No condition. Part of a proof. -/
import Derived.Test.YtfidemmgofcnmaaGreatDoorAt21
set_option maxHeartbeats 2000000
set_option maxRecDepth 4000
set_option linter.unusedVariables false
namespace Go.Proofs.YtfidemmgofcnmaaGreatDoor
open Go.RowKit Go.Proofs.Tryz
section
variable {Z:SP} {fr:List Nat} {N K:Nat} {M:Int} {x y n:Nat} {p1 p2:Pl} {A:Nat->Mv}
structure GrP(Z:SP)(fr:List Nat)(N K:Nat)(M:Int)(x y n:Nat)(A:Nat->Mv)(k:Nat)(Z2:SP):Prop where
 ok:Z2.Ok fr N K (M+n)
 same:SameN Z Z2
 nx:Z2.F.next=Z.F.next+n
 av:∃a,AddsM x y A Z.av Z.F.next n a/\Q2R x A a k Z2.av
 src:∀i,k<=i->i<n->(A i).g=true->∃c,Z2.av.en x (A i).src.toNat=some c
theorem GrP.start(ok:Z.Ok fr N K M)(A9:pget Z.S.l 1 x=some p1)(AE:p1.kind=2)(Ax:pget Z.S.l 1 y=some p2)(Av:p2.kind=2)(Ah:AllFit Z.av.en x y n A){S1:CO}{t1:TB}{own:Int}(L:LaidP Z fr N K x y own A 0 n S1 t1){F':FO}(P:SetP Z x y A t1 n F') :
  GrP Z fr N K M x y n A 0 ((Z.setF F').setS S1 (updT Z.tb (y%256) t1)):=by
 obtain⟨h1,h2,h3⟩:=P.done ok L;refine⟨h1,h2,by show F'.next=_;exact P.nx,⟨_,h3,.zero⟩,fun i _ hi _=>?_⟩;obtain⟨e,he,DX,_,_⟩:=L.src A9 AE Ax Av Ah (J1E _) hi;refine⟨(e.h,e.r),Z5d (e:=e) ?_⟩;show Q0g S1.l (updT Z.tb (y%256) t1) x (A i).src.toNat=some e;rw[L.alt.l,Q0h A9 AE (by have:=(Ah i hi).1.src;omega)];exact DX
theorem GrP.skip{k:Nat}{Z2:SP}(G:GrP Z fr N K M x y n A k Z2)(hg:(A k).g=false):GrP Z fr N K M x y n A (k+1) Z2:=by
 obtain⟨a,h1,h2⟩:=G.av;exact⟨G.ok,G.same,G.nx,⟨a,h1,.skip k _ h2 hg⟩,fun i h=>G.src i (by omega)⟩
theorem GrP.lift(Ah:AllFit Z.av.en x y n A){k:Nat}{Z2:SP}(G:GrP Z fr N K M x y n A k Z2)(CY:k<n)(hg:(A k).g=true)(A9:pget Z.S.l 1 x=some p1)(AE:p1.kind=2) :
  ∃nd e,find Z2.F.N nd.id=some nd/\ownN Z2.F.N (x:Int) (A k).src=nd.id/\(Z2.tb (x%256)).en (A k).src.toNat=some e/\∀(S':CO) (t':TB) (F':FO),TurnP Z2.S fr N K Z2.tb (p1.fac:Int) (x%256) (A k).src.toNat none S' t'->F'.N=Q0E Z2.F.N nd nd.q.ks.length->F'.Ok->F'.next=Z2.F.next->F'.f=Z2.F.f->GrP Z fr N K M x y n A (k+1) ((Z2.setF F').setS S' (updT Z2.tb (x%256) t')):=by
 have BQ:=(Ah k CY).1.src;obtain⟨c,hc⟩:=G.src k (J1E _) CY hg;obtain⟨e,he,rfl⟩:=Q7K hc;have DL:Z2.S.l=Z.S.l:=G.same.alt.l;have Iv:pget Z2.S.l 1 x=some p1:=by rw[DL];exact A9
 obtain⟨nd,AO,q1,q2,q3,q4⟩:=G.ok.fpi.own G.ok.fo.n he;have Ce:((A k).src.toNat:Int)=(A k).src:=by omega
 have Bz:(Z2.tb (x%256)).en (A k).src.toNat=some e:=by
  have AH:=he
  rwa [Q0h Iv AE (by omega)] at AH
 refine⟨nd,e,q4,by rw[<- Ce];exact q3,Bz,fun S' t' F' T hF Ew Ii FL=>?_⟩;have hr:=(G.ok.fpi.cap _ _ _ he).r;obtain⟨h1,h2,h3⟩:=G.ok.lifted q4 q1 q2 Iv AE (by omega:(A k).src.toNat<256) he (m:=15) (Q7H e.r (by omega)) T hF Ew Ii FL;obtain⟨a,a1,a2⟩:=G.av;have hw:=Q4C (m:=15) (a:=Z2.av) (id:=nd.id) q4 q1 q2 hc;rw[h2] at hw;simp only at hw;rw[if_pos (Q7H e.r (by omega))] at hw;have Dh:((Z2.setF F').setS S' (updT Z2.tb (x%256) t')).av.en=setA Z2.av.en x (A k).src.toNat none:=by
  have:=(Prod.mk.inj hw).1;rw[this]
 refine⟨h1,G.same.trans h3.toSameN,h3.nx.trans G.nx,⟨a,a1,.lift k _ _ a2 hg ?_⟩,fun i h4 h5 h6=>?_⟩
 ·have:ownN Z2.av.N (x:Int) (A k).src=nd.id:=by rw[<- Ce];exact q3
  rw[this];exact h2
 ·obtain⟨c',Bj⟩:=G.src i (by omega) h5 h6;refine⟨c',?_⟩;rw[Dh,Q9P]
  ·exact Bj
  ·rintro⟨_,e2⟩;exact Ah.srcs h5 CY (by omega) h6 e2
theorem GrP.done{w w':World}{Z2:SP}(G:GrP Z fr N K M x y n A n Z2)(st:Step Z.hl Z2.hl w w'):Q9a Z fr N K M x y n A w w':=by
 obtain⟨a,a1,a2⟩:=G.av;exact⟨a,Z2,a1,a2,G.ok,G.same,G.nx,st⟩
theorem Z7V{w0:World}(ok:Z.Ok fr N K M)(hM:M+n<1099511627776)(hx:x<4294967296)(hy:y<4294967296)(A9:pget Z.S.l 1 x=some p1)(AE:p1.kind=2)(Ax:pget Z.S.l 1 y=some p2)(Av:p2.kind=2)(Ah:AllFit Z.av.en x y n A){S1:CO}{t1:TB}(L:LaidP Z fr N K x y (p2.fac:Int) A 0 n S1 t1)(cap g1 g2 B1 B2:Nat)(a0:Option Addr) :
  SetW Z.s g1 x g2 y (p1.fac:Int) (p2.fac:Int) Z.F.f B1 B2 a0 n A
   (fun k W=>∃F',SetP Z x y A t1 k F'/\Step Z.hl ((Z.setF F').setS S1 (updT Z.tb (y%256) t1)).hl w0 W/\MvB ((Z.setF F').setS S1 (updT Z.tb (y%256) t1)) p1 p2 g1 x g2 y B1 B2 n A a0 W)
   (fun k W=>∃Z2,GrP Z fr N K M x y n A k Z2/\Step Z.hl Z2.hl w0 W/\MvB Z2 p1 p2 g1 x g2 y B1 B2 n A a0 W)
   (fun k W=>∃Z2 nd e F',GrP Z fr N K M x y n A k Z2/\find Z2.F.N nd.id=some nd/\ownN Z2.F.N (x:Int) (A k).src=nd.id/\(Z2.tb (x%256)).en (A k).src.toNat=some e/\F'.N=Q0E Z2.F.N nd nd.q.ks.length/\F'.Ok/\F'.next=Z2.F.next/\F'.f=Z2.F.f/\(∀(S':CO) (t':TB),TurnP Z2.S fr N K Z2.tb (p1.fac:Int) (x%256) (A k).src.toNat none S' t'->GrP Z fr N K M x y n A (k+1) ((Z2.setF F').setS S' (updT Z2.tb (x%256) t')))/\Step Z.hl (Z2.setF F').hl w0 W/\MvB (Z2.setF F') p1 p2 g1 x g2 y B1 B2 n A a0 W)
   (fun W=>Q9a Z fr N K M x y n A w0 W):=by
 have FX:=(pget_some.1 A9).1;have Gf:=(pget_some.1 A9).2.2;refine⟨fun k W h=>?_,fun k W W' h hb=>?_,fun k W hk h=>?_,fun W h=>?_,fun k W h=>?_,fun k W W' h hb=>?_,fun k W hk hg h=>?_,fun k W hk hg h=>?_,fun k W h=>?_,fun k W W' h hb=>?_,fun k W hk h=>?_,fun W h=>?_⟩
 ·obtain⟨F',P,st,mb⟩:=h;refine⟨mb.box.1,mb.box.2.1,mb.box.2.2,?_⟩;have:=SP.c1 (Z:=(Z.setF F').setS S1 (updT Z.tb (y%256) t1)) st.sep;rw[show((Z.setF F').setS S1 (updT Z.tb (y%256) t1)).F.f=Z.F.f from P.f] at this;exact this
 ·obtain⟨F',P,st,mb⟩:=h;exact⟨F',P,st.trans (st.sep.grown hb),mb.step (st.sep.grown hb) rfl⟩
 ·obtain⟨F',P,st,mb⟩:=h;have BQ:=(Ah k hk).1.src;have I9:=(Ah k hk).1.dst;have Ce:(((A k).src.toNat:Nat):Int)=(A k).src:=by omega
  have Gt:(((A k).dst.toNat:Nat):Int)=(A k).dst:=by omega
  refine⟨ownN F'.N (x:Int) (A k).src,fun W' hb=>?_,fun W' hb=>?_⟩
  ·have kn:=Q5T (Z:=(Z.setF F').setS S1 (updT Z.tb (y%256) t1)) (st.sep.grown hb).sep P.ok hx (z:=(A k).src.toNat) (g:=g1) (f:=p1.fac) (by omega);rw[Ce] at kn;exact kn
  ·have st':=st.trans (st.sep.grown hb);have mb':=mb.step (st.sep.grown hb) rfl;obtain⟨e0,e,CN,he,rfl,Bn⟩:=SetP.src Ah hk A9 AE Ax Av P;obtain⟨nn,GH,q1,q2,q3,q4⟩:=P.fpi.own P.ok.n he;rw[Ce] at q3;have Aw:=P.fpi.free P.ok.n Bn;rw[Gt] at Aw;have Cm:=P.fpi.few P.ok.n Ax (by omega) Bn;have Bm:=P.nx;have B3:=ok.next;have ka:=Q7J (SP.sF (Z:=(Z.setF F').setS S1 (updT Z.tb (y%256) t1)) st'.sep) P.ok (par:=ownN F'.N (x:Int) (A k).src) (sp:=(y:Int)) (sl:=(A k).dst) (.inr ⟨nn,by rw[q3];exact q4⟩) (by omega) (by omega) (by omega) (by omega) Aw (by show F'.next+1<_;omega) Cm
   rw[show((Z.setF F').setS S1 (updT Z.tb (y%256) t1)).F.f=Z.F.f from P.f] at ka;refine ka.mono ?_;rintro rv w5⟨rfl,F2,Ad,stf⟩;have P2:=P.next ok Ah L hk A9 AE Ax Av Ad;have stz:=SP.stepF (Z:=(Z.setF F').setS S1 (updT Z.tb (y%256) t1)) st'.sep F2 Ad.f stf;have stz':Step ((Z.setF F').setS S1 (updT Z.tb (y%256) t1)).hl ((Z.setF F2).setS S1 (updT Z.tb (y%256) t1)).hl W' w5:=stz;exact⟨⟨_,_,rfl⟩,stz'.keep st.sep (J1E _),F2,P2,st'.trans stz',mb'.step (Z':=(Z.setF F2).setS S1 (updT Z.tb (y%256) t1)) stz' rfl⟩
 ·obtain⟨F',P,st,mb⟩:=h;exact⟨_,GrP.start ok A9 AE Ax Av Ah L P,st,mb⟩
 ·obtain⟨Z2,G,st,mb⟩:=h;refine⟨mb.box.1,mb.box.2.1,mb.box.2.2,?_⟩;have:=SP.c1 st.sep;rw[G.same.s,G.same.f] at this;exact this
 ·obtain⟨Z2,G,st,mb⟩:=h;exact⟨Z2,G,st.trans (st.sep.grown hb),mb.step (st.sep.grown hb) rfl⟩
 ·obtain⟨Z2,G,st,mb⟩:=h;exact⟨Z2,G.skip hg,st,mb⟩
 ·obtain⟨Z2,G,st,mb⟩:=h;have BQ:=(Ah k hk).1.src;have Ce:(((A k).src.toNat:Nat):Int)=(A k).src:=by omega
  refine⟨ownN Z2.F.N (x:Int) (A k).src,fun W' hb=>?_,fun W' hb=>?_⟩
  ·have kn:=Q5T (st.sep.grown hb).sep G.ok.fo hx (z:=(A k).src.toNat) (g:=g1) (f:=p1.fac) (by omega);rw[Ce,G.same.s] at kn;exact kn
  ·have st':=st.trans (st.sep.grown hb);have mb':=mb.step (st.sep.grown hb) rfl;obtain⟨nd,e,h1,h2,h3,h4⟩:=G.lift Ah hk hg A9 AE;have kl:=Q8O (SP.sF st'.sep) G.ok.fo (e:=nd) h1;rw[h2,<- G.same.f];refine kl.mono ?_;rintro rv w5⟨hv,F',FL,Ny,Ii,Ew,stf⟩;have stz:=SP.stepF st'.sep F' FL stf;exact⟨hv,stz.keep st.sep (J1E _),Z2,nd,e,F',G,h1,h2,h3,Ny,Ew,Ii,FL,fun S' t' T=>h4 S' t' F' T Ny Ew Ii FL,st'.trans stz,mb'.step (Z':=Z2.setF F') stz rfl⟩
 ·obtain⟨Z2,nd,e,F',G,_,_,_,hF,_,_,FL,_,st,mb⟩:=h;refine⟨mb.box.1,mb.box.2.1,mb.box.2.2,?_⟩;have:=SP.c1 (Z:=Z2.setF F') st.sep;rw[show(Z2.setF F').F.f=Z2.F.f from FL,show(Z2.setF F').s=Z.s from G.same.s,G.same.f] at this;exact this
 ·obtain⟨Z2,nd,e,F',h1,h2,h3,h4,h5,h6,h7,h8,h9,st,mb⟩:=h;exact⟨Z2,nd,e,F',h1,h2,h3,h4,h5,h6,h7,h8,h9,st.trans (st.sep.grown hb),mb.step (st.sep.grown hb) rfl⟩
 ·obtain⟨Z2,nd,e,F',G,h2,h3,Bz,h5,h6,h7,h8,h9,st,mb⟩:=h;have BQ:=(Ah k hk).1.src;have kb:=Q4f (Z:=Z2.setF F') st.sep G.ok.core G.ok.tpi (i:=x%256) (s:=(A k).src.toNat) (x:=x) (g:=g1) (p:=p1) (by show Z2.S.l[_]?=_;rw[G.same.alt.l];exact FX) Gf AE (by omega) Bz mb.t1;rw[show(((A k).src.toNat:Nat):Int)=(A k).src by omega,show(Z2.setF F').s=Z.s from G.same.s] at kb;refine kb.mono ?_;rintro rv w5⟨rfl,S3,t3,T,stt⟩;refine⟨rfl,_,h9 S3 t3 T,st.trans stt,?_⟩;exact mb.step (Z':=(Z2.setF F').setS S3 (updT Z2.tb (x%256) t3)) stt T.alt.same.p
 ·obtain⟨Z2,G,st,mb⟩:=h;exact G.done st
theorem Z0e{w0 w:World}(ok:Z.Ok fr N K M)(hM:M+n<1099511627776)(hx:x<4294967296)(hy:y<4294967296)(A9:pget Z.S.l 1 x=some p1)(AE:p1.kind=2)(Ax:pget Z.S.l 1 y=some p2)(Av:p2.kind=2)(hn:n<=4611686018427387904)(Ah:AllFit Z.av.en x y n A){S1:CO}{t1:TB}(L:LaidP Z fr N K x y (p2.fac:Int) A 0 n S1 t1)
  {g1 g2:Nat} {a0:Option Addr} (st:Step Z.hl (Z.setS S1 (updT Z.tb (y%256) t1)).hl w0 w) (FB:TblZ (Z.setS S1 (updT Z.tb (y%256) t1)) p1 g1 w) (Gu:TblZ (Z.setS S1 (updT Z.tb (y%256) t1)) p2 g2 w) (BF:AsideM (Z.setS S1 (updT Z.tb (y%256) t1)).hl n A a0 w) (cap:Nat) :
  Calls prog 100 #[.pointer (some ⟨Z.s,0,none⟩),Q1M g1 x (p1.fac:Int),Q1M g2 y (p2.fac:Int),.slice a0 n cap] w fun rv w'=>rv=.returned (.tuple #[])/\Q9a Z fr N K M x y n A w0 w':=by
 have b1:Below w.heap.size w (w.alloc (.cells #[.pointer (some ⟨g1,0,none⟩),.int .u32 x,.int .i64 (p1.fac:Int)] 191)):=(Below.refl _ _).alloc (J1E _) _;have s1:=st.sep.grown b1;have as1:AsideV (Z.setS S1 (updT Z.tb (y%256) t1)).hl [.pointer (some ⟨g1,0,none⟩),.int .u32 x,.int .i64 (p1.fac:Int)] (some ⟨w.heap.size,0,none⟩) (w.alloc (.cells #[.pointer (some ⟨g1,0,none⟩),.int .u32 x,.int .i64 (p1.fac:Int)] 191)):=Q3i st.sep _ _;have b2:Below (w.alloc (.cells #[.pointer (some ⟨g1,0,none⟩),.int .u32 x,.int .i64 (p1.fac:Int)] 191)).heap.size (w.alloc (.cells #[.pointer (some ⟨g1,0,none⟩),.int .u32 x,.int .i64 (p1.fac:Int)] 191)) ((w.alloc (.cells #[.pointer (some ⟨g1,0,none⟩),.int .u32 x,.int .i64 (p1.fac:Int)] 191)).alloc (.cells #[.pointer (some ⟨g2,0,none⟩),.int .u32 y,.int .i64 (p2.fac:Int)] 191)):=(Below.refl _ _).alloc (J1E _) _
 have s2:=s1.sep.grown b2;have as2:AsideV (Z.setS S1 (updT Z.tb (y%256) t1)).hl [.pointer (some ⟨g2,0,none⟩),.int .u32 y,.int .i64 (p2.fac:Int)] (some ⟨(w.alloc (.cells #[.pointer (some ⟨g1,0,none⟩),.int .u32 x,.int .i64 (p1.fac:Int)] 191)).heap.size,0,none⟩) _:=Q3i s1.sep 191 [.pointer (some ⟨g2,0,none⟩),.int .u32 y,.int .i64 (p2.fac:Int)];have hz:(w.alloc (.cells #[.pointer (some ⟨g1,0,none⟩),.int .u32 x,.int .i64 (p1.fac:Int)] 191)).heap.size=w.heap.size+1:=by simp
 rw[hz] at as2;refine Q9b (Z7V (w0:=w0) ok hM hx hy A9 AE Ax Av Ah L cap g1 g2 w.heap.size (w.heap.size+1) a0) hn hy ?_;exact⟨Z.F,SetP.start ok t1,(st.trans s1).trans s2,(FB.grown st.sep b1).grown s1.sep b2,(Gu.grown st.sep b1).grown s1.sep b2,as1.step s2,as2,(BF.step s1).step s2⟩
end
theorem Q9c{t t':TB}(h:∀s,t'.en s=t.en s)(z:Int):t'.at' z=t.at' z:=by
 unfold TB.at';split
 ·rw[h]
 ·rfl
def fitV(Z:SP)(x y:Nat)(A:Nat->Mv)(i:Nat):Int:=Z0d ((Z.tb (x%256)).at' (A i).src) ((Z.tb (y%256)).at' (A i).dst) (A i) (Q1c A i (A i))
def J1c(Z:SP)(x y n:Nat)(A:Nat->Mv)(er:Int):Prop:=
 (pget Z.S.l 1 x=none/\er=8)∨∃p1,pget Z.S.l 1 x=some p1/\((p1.kind≠2/\er=10)∨(p1.kind=2/\((pget Z.S.l 1 y=none/\er=8)∨∃p2,pget Z.S.l 1 y=some p2/\((p2.kind≠2/\er=10) ∨
  (p2.kind=2/\∃i,i<n/\(∀j,j<i->fitV Z x y A j=0)/\fitV Z x y A i=er)))))
def WhyM(Z:SP)(fr:List Nat)(N K x y n:Nat)(own:Int)(A:Nat->Mv)(er:Int):Prop:=∃k S' t',k<n/\LaidP Z fr N K x y own A 0 k S' t'/\(k=0->S'=Z.S/\t'=Z.tb (y%256))/\WhyL (Z.setS S' (updT Z.tb (y%256) t')) fr own (y%256) (A k).dst.toNat er
def MoveR(Z:SP)(fr:List Nat)(N K:Nat)(M:Int)(x y n:Nat)(A:Nat->Mv)(w:World)(er:Int)(w':World):Prop:=
 (er≠0/\J1c Z x y n A er/\∃own,BackZ Z fr N K y own w w') ∨
 ∃p1 p2,pget Z.S.l 1 x=some p1/\p1.kind=2/\pget Z.S.l 1 y=some p2/\p2.kind=2/\AllFit Z.av.en x y n A /\
  ((er=0/\Q9a Z fr N K M x y n A w w')∨((er=4∨er=5)/\WhyM Z fr N K x y n p2.fac A er/\BackZ Z fr N K y p2.fac w w'))
theorem BackZ.of{Z:SP}{fr:List Nat}{N K:Nat}{M:Int}{y:Nat}(own:Int){w w':World}(hs:Sep w Z.hl)(ok:Z.Ok fr N K M)(hb:Below w.heap.size w w'):BackZ Z fr N K y own w w':=
 ⟨Z.S,Z.tb (y%256),ok.core,by rw[Q0Z];exact ok.tpi,Alt.refl _ _,fun _ _=>rfl,fun _=>rfl,by rw[Q0Z];exact hs.grown hb⟩
section
variable {Z:SP} {fr:List Nat} {N K:Nat} {M:Int} {x y n:Nat} {p1 p2:Pl} {A:Nat->Mv}
theorem Z5x{w:World}(ok:Z.Ok fr N K M)(hM:M+n<1099511627776)(hx:x<4294967296)(hy:y<4294967296)(A9:pget Z.S.l 1 x=some p1)(AE:p1.kind=2)(Ax:pget Z.S.l 1 y=some p2)(Av:p2.kind=2)(hn:n<=4611686018427387904)(cap g1 g2 B1 B2:Nat)(a0:Option Addr) :
  J1b Z.s g1 x g2 y (p1.fac:Int) (p2.fac:Int) B1 B2 a0 n cap A (fitV Z x y A)
   (fun k W=>∃S' t',LaidP Z fr N K x y (p2.fac:Int) A 0 k S' t'/\(k=0->S'=Z.S/\t'=Z.tb (y%256))/\Step Z.hl (Z.setS S' (updT Z.tb (y%256) t')).hl w W/\MvB (Z.setS S' (updT Z.tb (y%256) t')) p1 p2 g1 x g2 y B1 B2 n A a0 W)
   (fun er k j W=>(er=4∨er=5)/\k<n/\AllFit Z.av.en x y n A/\WhyM Z fr N K x y n (p2.fac:Int) A er/\∃S' t',LaidP Z fr N K x y (p2.fac:Int) A j k S' t'/\Step Z.hl (Z.setS S' (updT Z.tb (y%256) t')).hl w W/\MvB (Z.setS S' (updT Z.tb (y%256) t')) p1 p2 g1 x g2 y B1 B2 n A a0 W)
   (fun er W=>MoveR Z fr N K M x y n A w er W):=by
 have FX:=(pget_some.1 A9).1;have Gf:=(pget_some.1 A9).2.2;have EG:=(pget_some.1 Ax).1;have JZ:=(pget_some.1 Ax).2.2;have A4:(∀j,j<n->fitV Z x y A j=0)->AllFit Z.av.en x y n A:=fun h i hi=>(Z1g A9 AE Ax Av).1 (h i hi)
 have tts:∀{j k:Nat} {S':CO} {t':TB} {W:World},LaidP Z fr N K x y (p2.fac:Int) A j k S' t'->Step Z.hl (Z.setS S' (updT Z.tb (y%256) t')).hl w W->MvB (Z.setS S' (updT Z.tb (y%256) t')) p1 p2 g1 x g2 y B1 B2 n A a0 W->TT S' (updT Z.tb (y%256) t' (x%256)) p1 g1 W/\TT S' (updT Z.tb (y%256) t' (y%256)) p2 g2 W:=fun {j k S' t' W} L st mb=>by
  have hl:=L.alt.l;exact⟨(L.tpi.x (p1.fac:Int)).tt L.ok (by rw[hl];exact FX) Gf AE (SP.sS (Z:=Z.setS S' (updT Z.tb (y%256) t')) st.sep) mb.t1.c,(L.tpi.x (p2.fac:Int)).tt L.ok (by rw[hl];exact EG) JZ Av (SP.sS (Z:=Z.setS S' (updT Z.tb (y%256) t')) st.sep) mb.t2.c⟩
 refine⟨fun k W h=>?_,fun er k j W h=>?_,fun k W W' h hb=>?_,fun er k j W W' h hb=>?_,fun i W hi h=>?_,fun i W hi h hv Ay=>?_,fun k W hv hk h=>?_,fun er k j W hj h=>?_,fun er k W h=>?_,fun W hv h=>?_⟩
 ·obtain⟨S',t',L,L0,st,mb⟩:=h;exact mb.box
 ·obtain⟨_,_,_,_,S',t',L,st,mb⟩:=h;exact mb.box
 ·obtain⟨S',t',L,L0,st,mb⟩:=h;exact⟨S',t',L,L0,st.trans (st.sep.grown hb),mb.step (st.sep.grown hb) rfl⟩
 ·obtain⟨h1,h2,h3,h4,S',t',L,st,mb⟩:=h;exact⟨h1,h2,h3,h4,S',t',L,st.trans (st.sep.grown hb),mb.step (st.sep.grown hb) rfl⟩
 ·obtain⟨S',t',L,L0,st,mb⟩:=h;obtain⟨T1,T2⟩:=tts L st mb;have Bz:∀s,t'.en s=(Z.tb (y%256)).en s:=fun s=>L.old s fun i h1 h2=>by omega
  have e1:(updT Z.tb (y%256) t' (x%256)).at' (A i).src=(Z.tb (x%256)).at' (A i).src:=by
   by_cases e:x%256=y%256
   ·rw[e,updT_same];exact Q9c Bz _
   ·rw[Q0P e]
  have e2:(updT Z.tb (y%256) t' (y%256)).at' (A i).dst=(Z.tb (y%256)).at' (A i).dst:=by
   rw[updT_same];exact Q9c Bz _
  have low:∀{u:Nat} {p:Pl} {z:Int},pget Z.S.l 1 u=some p->p.kind=2->∀e,(Z.tb (u%256)).at' z=some e->e.Low:=fun {u p z} hu hk e he=>by
   unfold TB.at' at he;split at he
   ·rename_i hz;refine ok.fpi.low ok.core.inv.lok (h:=u) (s:=z.toNat) ?_;rw[Q0h hu hk (by omega)];exact he
   ·cases he
  have k:=Z5w T1 T2 (m:=A i) (by rw[e1];exact low A9 AE) (by rw[e2];exact low Ax Av) x y (p1.fac:Int) (p2.fac:Int) mb.mv.1 (n:=i) cap (by omega) (by omega);rw[e1,e2] at k;exact k
 ·obtain⟨S',t',L,L0,st,mb⟩:=h;exact .inl ⟨hv,.inr ⟨p1,A9,.inr ⟨AE,.inr ⟨p2,Ax,.inr ⟨Av,i,hi,Ay,rfl⟩⟩⟩⟩,_,L.back ok Ax Av st⟩
 ·have Ah:=A4 hv;obtain⟨S',t',L,L0,st,mb⟩:=h;obtain⟨T1,T2⟩:=tts L st mb;obtain⟨e,he,DX,Kg,hc⟩:=L.src A9 AE Ax Av Ah (by omega) hk;have As:=ok.fpi.low ok.core.inv.lok he;have IK:=Q1s T1 (x:Int) (p1.fac:Int) (A k).src fun e' AH=>by rw[Kg] at AH;cases AH;exact As
  rw[Kg] at IK;refine⟨(e.h:Int),(e.r:Int),true,IK,fun W' h'=>?_⟩;obtain⟨S2,t2,L2,L20,st2,mb2⟩:=h';have hf:=(Ah k hk).1;have O5:=hf.r;have I9:=hf.dst;have Ht:e.r<16:=As.2;have Gi:bits .and .i64 (e.r:Int) (A k).r=((e.r&&&(A k).r.toNat:Nat):Int):=by
   have:=Q4h e.r (A k).r.toNat Ht (by omega)
   rwa [show(((A k).r.toNat:Nat):Int)=(A k).r by omega] at this
  have Tv:=Q5X e.r Ht (A k).r.toNat (by omega);have A7:(updT Z.tb (y%256) t2 (y%256)).en (A k).dst.toNat=none:=by
   rw[updT_same,L2.old _ fun q h1 h2 e2=>Ah.dst hk (by omega) (by omega) e2];have:=av_none.1 hf.free
   rwa [Q0h Ax Av (by omega)] at this
  have kl:=Q7L (Z:=Z.setS S2 (updT Z.tb (y%256) t2)) st2.sep L2.ok L2.tpi (i:=y%256) (s:=(A k).dst.toNat) (x:=y) (g:=g2) (h:=e.h) (r:=e.r&&&(A k).r.toNat) (p:=p2) (by show S2.l[_]?=_;rw[L2.alt.l];exact EG) JZ Av (by omega) A7 As.1 (by omega) mb2.t2;rw[Gi];rw[show(((A k).dst.toNat:Nat):Int)=(A k).dst by omega] at kl;refine kl.mono ?_;rintro rv w5⟨er,rfl,⟨rfl,nd,S3,t3,T,stt⟩|⟨Ci,F4,P',tr,stt⟩⟩
  ·refine⟨0,rfl,.inl ⟨rfl,?_⟩⟩;have L3:=L2.lay ok Ax Av Ah hk hc T;have e3:updT (updT Z.tb (y%256) t2) (y%256) t3=updT Z.tb (y%256) t3:=Q0U _ _ _ _;have stt':Step (Z.setS S2 (updT Z.tb (y%256) t2)).hl (Z.setS S3 (updT Z.tb (y%256) t3)).hl W' w5:=stt;exact⟨S3,t3,L3,fun h=>(by omega),st2.trans stt',mb2.step (Z':=Z.setS S3 (updT Z.tb (y%256) t3)) stt' T.alt.same.p⟩
  ·refine⟨er,rfl,.inr ⟨by omega,Ci,hk,Ah,⟨k,S2,t2,hk,L2,L20,F4⟩,S2.setP P',t2,L2.tried tr,st2.trans stt,?_⟩⟩;exact mb2.step (Z':=Z.setS (S2.setP P') (updT Z.tb (y%256) t2)) stt tr.same.p
 ·obtain⟨h1,h2,Ah,h4,S',t',L,st,mb⟩:=h;obtain⟨c,nd,hc,Bz⟩:=L.new j (J1E _) hj;have I9:=(Ah j (by omega)).1.dst;have kb:=Q4f (Z:=Z.setS S' (updT Z.tb (y%256) t')) st.sep L.ok L.tpi (i:=y%256) (s:=(A j).dst.toNat) (x:=y) (g:=g2) (p:=p2) (by show S'.l[_]?=_;rw[L.alt.l];exact EG) JZ Av (by omega) (by show(updT Z.tb (y%256) t' (y%256)).en _=_;rw[updT_same];exact Bz) mb.t2;rw[show(((A j).dst.toNat:Nat):Int)=(A j).dst by omega] at kb;refine kb.mono ?_;rintro rv w5⟨rfl,S3,t3,T,stt⟩;have L3:=L.bare ok Ax Av Ah (by omega) hj T;have stt':Step (Z.setS S' (updT Z.tb (y%256) t')).hl (Z.setS S3 (updT Z.tb (y%256) t3)).hl W w5:=stt
  exact⟨rfl,h1,h2,Ah,h4,S3,t3,L3,st.trans stt',mb.step (Z':=Z.setS S3 (updT Z.tb (y%256) t3)) stt' T.alt.same.p⟩
 ·obtain⟨h1,h2,Ah,h4,S',t',L,st,mb⟩:=h;exact .inr ⟨p1,p2,A9,AE,Ax,Av,Ah,.inr ⟨h1,h4,L.back ok Ax Av st⟩⟩
 ·have Ah:=A4 hv;obtain⟨S',t',L,L0,st,mb⟩:=h;refine(Z0e ok hM hx hy A9 AE Ax Av hn Ah L st mb.t1 mb.t2 mb.mv cap).mono ?_;rintro rv w'⟨rfl,hq⟩;exact⟨rfl,.inr ⟨p1,p2,A9,AE,Ax,Av,Ah,.inl ⟨rfl,hq⟩⟩⟩
end
theorem Q9d{w:World}{Z:SP}{fr:List Nat}{N K:Nat}{M:Int}{x y n cap:Nat}{A:Nat->Mv}{a0:Option Addr}(hs:Sep w Z.hl)(ok:Z.Ok fr N K M)(hM:M+n<1099511627776)(hx:x<4294967296)(hy:y<4294967296)(hn:n<=4611686018427387904)(AS:n<=cap)(BF:AsideM Z.hl n A a0 w) :
  Calls prog 39 #[.pointer (some ⟨Z.s,0,none⟩),.int .u32 x,.int .u32 y,.slice a0 n cap] w fun rv w'=>∃er:Int,rv=.returned (.int .i64 er)/\MoveR Z fr N K M x y n A w er w':=by
 have err:∀{e:Int},e≠0->J1c Z x y n A e->Calls prog 39 #[.pointer (some ⟨Z.s,0,none⟩),.int .u32 x,.int .u32 y,.slice a0 n cap] w (Told w (.int .i64 e))->Calls prog 39 #[.pointer (some ⟨Z.s,0,none⟩),.int .u32 x,.int .u32 y,.slice a0 n cap] w fun rv w'=>∃er:Int,rv=.returned (.int .i64 er)/\MoveR Z fr N K M x y n A w er w':=fun {e} he h k=>by
  refine k.mono ?_;rintro rv w'⟨rfl,hb⟩;exact⟨e,rfl,.inl ⟨he,h,0,BackZ.of 0 hs ok hb⟩⟩
 cases A9:pget Z.S.l 1 x with
 | none=>exact err (by decide) (.inl ⟨A9,rfl⟩) (Q5Y (by decide) (Q0J hs ok.core hx 8 (.inl ⟨A9,rfl⟩)))
 | some p1 =>
  by_cases AE:p1.kind=2
  ·have R3:=Q0W hs ok.core hx A9 AE;have L5:Calls prog 90 #[.pointer (some ⟨Z.s,0,none⟩),.int .u32 x] w fun r w'=>∃g:Nat,r=.returned (.tuple #[.agg #[.pointer (some ⟨g,0,none⟩),.int .u32 x,.int .i64 (p1.fac:Int)],.int .i64 0])/\Below w.heap.size w w':=R3.mono fun r w' ⟨g,h1,h2,_⟩=>⟨g,h1,h2⟩
   cases Ax:pget Z.S.l 1 y with
   | none=>exact err (by decide) (.inr ⟨p1,A9,.inr ⟨AE,.inl ⟨Ax,rfl⟩⟩⟩) (Q5Z (g:=0) (by decide) L5 fun W hb=>Q0J (hs.grown hb).sep ok.core hy 8 (.inl ⟨Ax,rfl⟩))
   | some p2 =>
    by_cases Av:p2.kind=2
    ·refine Z2J hn AS (A:=A) (V:=fitV Z x y A) (Q:=fun er W=>MoveR Z fr N K M x y n A w er W) (R3.mono ?_);rintro rv w1⟨g1,rfl,Ar,FB⟩;have st1:=hs.grown Ar;have BR:Below w1.heap.size w1 (w1.alloc (.cells #[.pointer (some ⟨g1,0,none⟩),.int .u32 x,.int .i64 (p1.fac:Int)] 191)):=(Below.refl _ _).alloc (J1E _) _;have st1b:=st1.sep.grown BR;have as1:AsideV Z.hl [.pointer (some ⟨g1,0,none⟩),.int .u32 x,.int .i64 (p1.fac:Int)] (some ⟨w1.heap.size,0,none⟩) (w1.alloc (.cells #[.pointer (some ⟨g1,0,none⟩),.int .u32 x,.int .i64 (p1.fac:Int)] 191)):=Q3i st1.sep _ _;refine⟨g1,(p1.fac:Int),rfl,(Q0W st1b.sep ok.core hy Ax Av).mono ?_⟩
     rintro rv w2⟨g2,rfl,Ae,Gu⟩;have st2:=st1b.sep.grown Ae;have EE:Below w2.heap.size w2 (w2.alloc (.cells #[.pointer (some ⟨g2,0,none⟩),.int .u32 y,.int .i64 (p2.fac:Int)] 191)):=(Below.refl _ _).alloc (J1E _) _;have st2b:=st2.sep.grown EE;have as2:AsideV Z.hl [.pointer (some ⟨g2,0,none⟩),.int .u32 y,.int .i64 (p2.fac:Int)] (some ⟨w2.heap.size,0,none⟩) (w2.alloc (.cells #[.pointer (some ⟨g2,0,none⟩),.int .u32 y,.int .i64 (p2.fac:Int)] 191)):=Q3i st2.sep _ _;have stall:=((st1.trans st1b).trans st2).trans st2b;refine⟨g2,(p2.fac:Int),rfl,_,_,Z5x ok hM hx hy A9 AE Ax Av hn cap g1 g2 w1.heap.size w2.heap.size a0,Z.S,Z.tb (y%256),LaidP.start ok _,fun _=>⟨rfl,rfl⟩,?_,?_⟩
     ·rw[Q0Z];exact stall
     ·rw[Q0Z];exact⟨((FB.grown st1.sep BR).grown st1b.sep Ae).grown st2.sep EE,Gu.grown st2.sep EE,(as1.step st2).step st2b,as2,BF.step stall⟩
    ·exact err (by decide) (.inr ⟨p1,A9,.inr ⟨AE,.inr ⟨p2,Ax,.inl ⟨Av,rfl⟩⟩⟩⟩) (Q5Z (g:=0) (by decide) L5 fun W hb=>Q0J (hs.grown hb).sep ok.core hy 10 (.inr ⟨p2,Ax,Av,rfl⟩))
  ·exact err (by decide) (.inr ⟨p1,A9,.inl ⟨AE,rfl⟩⟩) (Q5Y (by decide) (Q0J hs ok.core hx 10 (.inr ⟨p1,A9,AE,rfl⟩)))
theorem Z7W(Q:List (Nat×Nat))(n:Nat):(Q.filter fun q=>decide (q.1<n+1)).length=(Q.filter fun q=>decide (q.1<n)).length+(Q.filter fun q=>decide (q.1=n)).length:=by
 induction Q with
 | nil=>rfl
 | cons q r ih =>
  simp only[J5D];by_cases h1:q.1<n
  ·rw[if_pos (by simp;omega),if_pos (by simpa using h1),if_neg (by simp;omega)];simp only[J2k];omega
  ·by_cases h2:q.1=n
   ·rw[if_pos (by simp;omega),if_neg (by simpa using h1),if_pos (by simpa using h2)];simp only[J2k];omega
   ·rw[if_neg (by simp;omega),if_neg (by simpa using h1),if_neg (by simpa using h2)];exact ih
theorem Q6a{α:Type}(f:Nat->Option α)(m i:Nat)(Q:List (Nat×Nat))(h:∀s,s<m->f s≠none->(i,s)∈Q):((List.range m).filterMap f).length<=(Q.filter fun q=>decide (q.1=i)).length:=by
 have e:((List.range m).filterMap f).length=(((List.range m).filter fun s=>(f s).isSome).map fun s=>(i,s)).length:=by
  rw[J3g];generalize List.range m=L
  induction L with
  | nil=>rfl
  | cons a r ih =>
   rw[J1R,J5D];cases f a with
   | none=>simpa using ih
   | some b=>simp[ih]
 rw[e];have AO:(((List.range m).filter fun s=>(f s).isSome).map fun s=>(i,s)).Nodup:=by
  refine J2h.2 ((J5p.filter _).imp fun Ac he=>Ac ?_);exact(Prod.mk.inj he).2
 refine AO.length_le_of_subset fun q hq=>?_
 obtain⟨s,hs,rfl⟩:=J1K.1 hq;obtain⟨h1,h2⟩:=J1X.1 hs;refine J1X.2 ⟨h s (J1U.1 h1) (fun h0=>by rw[h0] at h2;cases h2),by simp⟩
theorem Q4D(f:Nat->List Nat)(Q:List (Nat×Nat)):∀n,(∀i,i<n->(f i).length<=(Q.filter fun q=>decide (q.1=i)).length)->((List.range n).flatMap f).length<=(Q.filter fun q=>decide (q.1<n)).length
 | 0,_=>by simp
 | n+1,h=>by
  rw[J1P,J2i,J2j,Z7W];have h1:=Q4D f Q n fun i hi=>h i (by omega)
  have h2:=h n (by omega);simp only[J2a,J5w,J3D];omega
theorem Z5y{tb:Nat->TB}(Q:List (Nat×Nat))(h:∀i s,i<256->s<256->(tb i).en s≠none->(i,s)∈Q):(Q3D tb).length<=Q.length:=by
 refine J1F (Q4D _ Q 256 fun i hi=>?_) (J3M _ _);refine Q6a _ 256 i Q fun s hs h0=>h i s hi hs fun e=>h0 ?_
 rw[e];rfl
theorem Z5z{tb:Nat->TB}(hf:∀i,i<256->(tb i).Full)(Q:List (Nat×Nat))(h:∀i s,i<256->s<256->(tb i).en s≠none->(i,s/16)∈Q):(Q2K tb).length<=Q.length:=by
 refine J1F (Q4D _ Q 256 fun i hi=>?_) (J3M _ _);refine Q6a _ 16 i Q fun k hk h0=>?_
 obtain⟨s,h1,h2,h3⟩:=hf i hi k hk fun e=>h0 (by rw[if_pos e])
 rw[<- h2];exact h i s hi h1 h3
theorem Z8N(l:List Pl)(tb:Nat->TB)(id:Int):∀n,((List.range n).map fun i=>xcP tb id i l[i]?).sum<=256*(((List.range n).flatMap fun i=>(tb i).lvs).length:Int)+48*(((List.range n).flatMap fun i=>(tb i).nds).length:Int)
 | 0=>by simp
 | n+1=>by
  have ih:=Z8N l tb id n;rw[J1P,J4Z,J5j,J2i,J2i,J2j,J2j];simp only[J1H,J4d,J5h,List.sum_nil,J2a,J5w,J3D];have h1:xcP tb id n l[n]?<=(tb n).cost:=by
   have hc:=(tb n).cost_nn;unfold xcP;split
   ·split
    ·omega
    ·exact hc
   ·exact hc
  unfold TB.cost at h1;omega
theorem J0b(l:List Pl)(tb:Nat->TB)(id:Int):xcOf l tb id<=256*((Q2K tb).length:Int)+48*((Q3D tb).length:Int):=Z8N l tb id 256
theorem Z7X{P:PL}{fr:List Nat}(ok:P.Ok fr):P.d.ps.length<=fr.length+((List.range 8).map fun k=>(P.usedOf k).length).sum:=by
 rw[<- ok.pages.length_eq,J2j];have AO:=(ok.pages.nodup_iff).2 ok.d.nd;have Ds:P.pages.Nodup:=(J2q.1 AO).2.1;have h1:P.pages.length<=(((List.range 8).flatMap P.usedOf).map fun a=>a/1024).length:=by
  refine Ds.length_le_of_subset fun g hg=>?_
  obtain⟨k,a,ha,rfl⟩:=(Q4v ok g).1 hg;have:=Q1F ok ha;exact J1K.2 ⟨a,J2c.2 ⟨k,J1U.2 (by omega),ha⟩,rfl⟩
 rw[J3g,List.length_flatMap] at h1;omega
theorem Q9e:∀l:List Pl,(Q1P l 8).length+(Q1P l 1).length+(Q1P l 2).length+(Q1P l 3).length+(Q1P l 4).length+(Q1P l 5).length<=(l.filter Pl.is).length
 | []=>by simp[Q1P]
 | p::r=>by
  have ih:=Q9e r;have step:∀k,(Q1P (p::r) k).length=(Q1P r k).length+if p.is=true/\p.kind=k then 1 else 0:=fun k=>by
   unfold Q1P;rw[J1R];by_cases h:p.is=true/\p.kind=k
   ·rw[if_pos h];have:atsF k p=some p.at_:=by unfold atsF;simp[h.1,h.2]
    rw[this];rfl
   ·rw[if_neg h];have:atsF k p=none:=by
     unfold atsF;rw[if_neg]
     simpa using h
    rw[this];rfl
  rw[step,step,step,step,step,step,J5D];by_cases hi:p.is=true
  ·rw[if_pos hi,J2k];simp only[hi,true_and];by_cases h8:p.kind=8
   ·simp[h8];omega
   ·by_cases h1:p.kind=1
    ·simp[h1];omega
    ·by_cases h2:p.kind=2
     ·simp[h2];omega
     ·by_cases h3:p.kind=3
      ·simp[h3];omega
      ·by_cases h4:p.kind=4
       ·simp[h4];omega
       ·by_cases h5:p.kind=5
        ·simp[h5];omega
        ·simp[h8,h1,h2,h3,h4,h5];omega
  ·rw[if_neg hi];simp only[hi]
   simpa using ih
theorem Z2K{S:CO}{fr:List Nat}{N K:Nat}(ok:S.Ok fr N K):S.P.d.ps.length<=(S.l.filter Pl.is).length+(S.P.usedOf 7).length+(S.P.usedOf 6).length:=by
 have h1:=Z7X ok.inv.mem.pool;have h2:=Q9e S.l;have hf:(Q1P S.l 8).length=fr.length:=by rw[ok.inv.mem.frs.length_eq,J3g]
 have hk:∀k,1<=k->k<=5->(Q1P S.l k).length=(S.P.usedOf k).length:=fun k a b=>(ok.inv.mem.ats k a b).length_eq
 have h0:(S.P.usedOf 0).length=0:=by
  cases hu:S.P.usedOf 0 with
  | nil=>rfl
  | cons a r =>
   have:=Q1F ok.inv.mem.pool (k:=0) (a:=a) (by rw[hu];simp);omega
 have e:((List.range 8).map fun k=>(S.P.usedOf k).length).sum=(S.P.usedOf 0).length+((S.P.usedOf 1).length+((S.P.usedOf 2).length+((S.P.usedOf 3).length+((S.P.usedOf 4).length+((S.P.usedOf 5).length+((S.P.usedOf 6).length+((S.P.usedOf 7).length+0))))))):=rfl;have q1:=hk 1 (by omega) (by omega);have q2:=hk 2 (by omega) (by omega);have q3:=hk 3 (by omega) (by omega);have q4:=hk 4 (by omega) (by omega);have q5:=hk 5 (by omega) (by omega);omega
theorem J1d{Z:SP}{fr:List Nat}{N K:Nat}(ok:Z.S.Ok fr N K)(t:TPI Z.S Z.tb){own:Int}{e:En Fa}(he:find Z.S.P.q.E own=some e){i s:Nat}{er:Int}{o lv nd:Nat}(ho:(Z.S.l.filter Pl.is).length<=o)(hl:(Q2K Z.tb).length<=lv)(hn:(Q3D Z.tb).length<=nd)(hp:o+lv+nd+1<64)
  (hq:Q0O Z.S.l own+256*(lv:Int)+48*(nd:Int)+304<=e.q.limit-e.q.given):¬WhyL Z fr own i s er:=by
 have hc:=Z2K ok;have h7:=t.lvs.length_eq;have h6:=t.nds.length_eq;have Qf:=ok.inv.mem.pool.top;have UO:64<=2 ^ Z.S.P.d.top:=J1F (by decide:64<=2 ^ 6) (J2L (by omega) Qf);have Cw:=ok.inv.tre.charged own e he;have hx:=J0b Z.S.l Z.tb own;rw[t.xc] at Cw;rintro(⟨_,e',AH,As⟩|⟨_,Aw⟩|⟨a,P1,g,_,⟨_,e',AH,As⟩|⟨_,Aw⟩⟩)
 ·rw[he] at AH;cases AH;unfold Q0u at As;omega
 ·have:=Aw.page.len;omega
 ·obtain⟨e0,CN,_,hE⟩:=g.q;rw[he] at CN;cases CN;rw[hE] at AH;have hf:=Q0n he {e.q with charged:=e.q.charged+((Q0e 6:Nat):Int)};rw[show({Z.S.P.q with E:=upd Z.S.P.q.E own {e.q with charged:=e.q.charged+((Q0e 6:Nat):Int)}}:QT).E=upd Z.S.P.q.E own {e.q with charged:=e.q.charged+((Q0e 6:Nat):Int)} from rfl,hf] at AH;cases AH;unfold Q0u at As;simp only[Q4y] at As;omega
 ·have h1:=Aw.page.len;have h2:=(g.gotM ok.inv.mem.pool).few;rw[g.top] at h1;omega
structure MkS(S:CO)(per:Nat)(limit ch:Int)(n N:Nat)(l:List Pl):Prop where
 ok:S.Ok [] N 0
 tpi:TPI S fun _=>TB.emp
 ts:S.ts=[]
 now:S.now=0
 per:S.period=per
 top:S.P.d.top=6
 ps:S.P.d.ps.length<=n
 q:∃b,S.P.q.E=[⟨0,b,⟨limit,ch,0,-1,0⟩⟩]
 l:S.l=l
theorem Z5A{a:Nat}{i:Nat}{p:Pl}(h:(newL a)[i]?=some p):¬(p.st=1/\p.kind=2):=by
 rcases Q1J (J3L h) with rfl|rfl
 ·simp
 ·simp[noPl]
theorem Z7Y{S:CO}{limit:Int}{per:Nat}(f:Z4L S 6 limit per):MkS S per limit 64 1 1 (newL 64):=by
 refine⟨f.ok,TPI.emp f.ok (fun i p hi=>by rw[f.l] at hi;exact Z5A hi) (f.high 7 (by omega)) (f.high 6 (by omega)) (fun id=>by rw[f.xc]),f.ts,f.now,f.period,f.top,by rw[f.ps];simp,f.q,f.l⟩
theorem J0c{S:CO}{per n N:Nat}{limit ch:Int}{l:List Pl}(m:MkS S per limit ch n N l){k i:Nat}(hk:2<=k/\k<=5)(hc:((costK k:Nat):Int)<=limit-ch)(hn:n<64)(Br:l[0]?=some ⟨1,64,0,1,0,0⟩)(hi:Fst l i (noPl 0)){w w':World}{r:Ending}(h:MakeR S [] 0 ((k:Nat):Int) 0 w r w') :
  ∃a x S',r=two i 0/\S'.c=S.c/\MkS S' per limit (ch+((costK k:Nat):Int)) (n+1) (N+1) (l.set i ⟨k,a,0,1,0,x⟩)/\Step S.hl S'.hl w w':=by
 obtain⟨b,hq⟩:=m.q;have DI:find S.P.q.E 0=some ⟨0,b,⟨limit,ch,0,-1,0⟩⟩:=by rw[hq];rfl
 have CC:i<256:=by
  have:=(J1V.1 hi.1).1;have h2:=m.ok.inv.len;rw[m.l] at h2;omega
 have Ds:pget S.l 1 0=some ⟨1,64,0,1,0,0⟩:=by rw[m.l];exact pget_some.2 ⟨Br,rfl,rfl⟩
 obtain⟨a,x,P',fr',rfl,hm,st⟩:=h.able (f:=⟨1,64,0,1,0,0⟩) Ds (e:=⟨0,b,⟨limit,ch,0,-1,0⟩⟩) (i:=i) (p:=noPl 0) ⟨rfl,.inr ⟨by omega,hk.2⟩,DI,by show _<=limit-(ch+0);omega,by rw[m.top];have:=m.ps;show _<64;omega,by rw[m.l];exact hi,fun h=>by omega⟩;have J3:S.l[i]?=some (noPl 0):=by rw[m.l];exact hi.1
 have hf:=hm.fac (by omega);have C8:fr'=[]:=by
  have h1:=(hm.ok m.ok J3).inv.mem.frs.length_eq;have e:Q1P (S.made ⟨1,64,0,1,0,0⟩ k a x i (noPl 0) P').l 8=Q1P S.l 8:=by
   have hp:=Q5d (l:=S.l) (i:=i) (p:=noPl 0) (q:=⟨k,a,0,1,(noPl 0).age,x⟩) (atsF 8) J3 (by unfold atsF;simp[Pl.is,noPl];omega);have h0:(Q1P S.l 8).length=0:=by rw[m.ok.inv.mem.frs.length_eq];rfl
   have h2:=hp.length_eq;have e1:Q1P S.l 8=[]:=J3w.1 h0;show(S.l.set i ⟨k,a,0,1,(noPl 0).age,x⟩).filterMap (atsF 8)=_;rw[e1];refine J3w.1 ?_;rw[h2];exact h0
  rw[e,m.ok.inv.mem.frs.length_eq] at h1;simp at h1;exact J3w.1 h1.symm
 subst C8;refine⟨a,x,_,by rw[show nm i (noPl 0)=i by unfold nm noPl;simp],?_,⟨hm.ok m.ok J3,m.tpi.made m.ok hm J3 rfl,m.ts,m.now,m.per,by show P'.d.top=6;rw[hm.same.top,m.top],by show P'.d.ps.length<=_;have:=hm.few;have:=m.ps;omega,⟨b,?_⟩,?_⟩,st⟩
 ·rfl
 ·show P'.q.E=_;rw[hf,hq];rfl
 ·show S.l.set i _=_;rw[m.l];rfl
theorem SP.Ok.entries{Z:SP}{fr:List Nat}{N K:Nat}{M:Int}(ok:Z.Ok fr N K M){i s:Nat}(hi:i<256)(hs:s<256)(h:(Z.tb i).en s≠none):∃x c,x%256=i/\Z.av.en x s=some c:=by
 obtain⟨p,hp⟩:∃p,Z.S.l[i]?=some p:=⟨_,J3O (by rw[ok.core.inv.len];exact hi)⟩
 by_cases hk:p.st=1/\p.kind=2
 ·cases he:(Z.tb i).en s with
  | none=>exact absurd he h
  | some e =>
   refine⟨nm i p,(e.h,e.r),Q8b hi p,Z5d ?_⟩;rw[Q0h (p:=p) (pget_some.2 ⟨by rw[Q8b hi];exact hp,by rw[Q8b hi],hk.1⟩) hk.2 hs,Q8b hi];exact he
 ·exact absurd ((ok.tpi.nil i p hp hk).2 s hs) h
structure MkF(S:CO)(per:Nat)(limit ch:Int)(n N:Nat)(l:List Pl)(fr:List Nat):Prop where
 ok:S.Ok fr N 0
 tpi:TPI S fun _=>TB.emp
 ts:S.ts=[]
 now:S.now=0
 per:S.period=per
 top:S.P.d.top=6
 ps:S.P.d.ps.length<=n
 q:∃b,S.P.q.E=[⟨0,b,⟨limit,ch,0,-1,0⟩⟩]
 l:S.l=l
theorem Z7Z{S:CO}{per n N:Nat}{limit ch:Int}{l:List Pl}(m:MkS S per limit ch n N l){i:Nat}(hc:1024<=limit-ch)(hn:n<64)(Br:l[0]?=some ⟨1,64,0,1,0,0⟩)(hi:Fst l i (noPl 0)){w w':World}{r:Ending}(h:MakeR S [] 0 ((8:Nat):Int) 0 w r w') :
  ∃a x S' fr,r=two i 0/\S'.c=S.c/\MkF S' per limit (ch+1024) (n+1) (N+1) (l.set i ⟨8,a,0,1,0,x⟩) fr/\Step S.hl S'.hl w w':=by
 obtain⟨b,hq⟩:=m.q;have DI:find S.P.q.E 0=some ⟨0,b,⟨limit,ch,0,-1,0⟩⟩:=by rw[hq];rfl
 have Ds:pget S.l 1 0=some ⟨1,64,0,1,0,0⟩:=by rw[m.l];exact pget_some.2 ⟨Br,rfl,rfl⟩
 obtain⟨a,x,P',fr',rfl,hm,st⟩:=h.able (f:=⟨1,64,0,1,0,0⟩) Ds (e:=⟨0,b,⟨limit,ch,0,-1,0⟩⟩) (i:=i) (p:=noPl 0) ⟨rfl,.inl rfl,DI,by show(((costK 8:Nat)):Int)<=limit-(ch+0);rw[costK_8];omega,by rw[m.top];have:=m.ps;show _<64;omega,by rw[m.l];exact hi,fun h=>by omega⟩;have J3:S.l[i]?=some (noPl 0):=by rw[m.l];exact hi.1
 have hf:=hm.fac (by omega);refine⟨a,x,_,fr',by rw[show nm i (noPl 0)=i by unfold nm noPl;simp],?_,⟨hm.ok m.ok J3,m.tpi.made m.ok hm J3 rfl,m.ts,m.now,m.per,by show P'.d.top=6;rw[hm.same.top,m.top],by show P'.d.ps.length<=_;have:=hm.few;have:=m.ps;omega,⟨b,?_⟩,?_⟩,st⟩
 ·rfl
 ·show P'.q.E=_;rw[hf,hq];rfl
 ·show S.l.set i _=_;rw[m.l];rfl
structure MkY(Z:SP)(per:Nat)(limit:Int)(N:Nat)(M:Int)(l:List Pl)(fr:List Nat):Prop where
 ok:Z.Ok fr N 0 M
 ts:Z.S.ts=[]
 now:Z.S.now=0
 per:Z.S.period=per
 q:∃b ch,Z.S.P.q.E=[⟨0,b,⟨limit,ch,0,-1,0⟩⟩]
 l:Z.S.l=l
theorem J0d{Z:SP}{S:CO}{per n N:Nat}{limit ch:Int}{l:List Pl}{fr:List Nat}(m:MkF S per limit ch n N l fr)(h:Z.New S fun _=>TB.emp):MkY Z per limit N 0 l fr/\Z.av=⟨fun _ _=>none,[]⟩/\Z.F.next=0:=by
 obtain⟨b,hq⟩:=m.q;refine⟨⟨h.ok m.ok m.tpi fun i _=>TB.emp_nil,by rw[h.S];exact m.ts,by rw[h.S];exact m.now,by rw[h.S];exact m.per,⟨b,ch,by rw[h.S];exact hq⟩,by rw[h.S];exact m.l⟩,?_,h.F.next⟩;unfold SP.av avOf;rw[h.tb,h.F.N];congr 1;funext x s;unfold Q0g;split
 ·split
  ·rfl
  ·rfl
 ·rfl
theorem MkY.same{Z Z':SP}{per N:Nat}{limit:Int}{M M':Int}{l:List Pl}{fr:List Nat}(m:MkY Z per limit N M l fr)(ok:Z'.Ok fr N 0 M')(s:SameN Z Z'):MkY Z' per limit N M' l fr:=by
 obtain⟨b,ch,hq⟩:=m.q;refine⟨ok,by rw[s.alt.ts];exact m.ts,by rw[s.alt.now];exact m.now,by rw[s.alt.per];exact m.per,?_,by rw[s.alt.l];exact m.l⟩;obtain⟨e',AH,DM⟩:=s.alt.acc 0 ⟨0,b,⟨limit,ch,0,-1,0⟩⟩ (by rw[hq];rfl);have hid:=s.alt.ids;rw[hq] at hid;have h2:∃e,Z'.S.P.q.E=[e]:=by
  cases hE:Z'.S.P.q.E with
  | nil=>rw[hE] at hid;simp at hid
  | cons e r =>
   rw[hE] at hid;simp at hid;exact⟨e,by rw[hid.2]⟩
 obtain⟨e,hE⟩:=h2;rw[hE] at AH hid;have JQ:e.id=0:=by simpa using hid
 have:e=e':=by
  unfold find at AH;rw[if_pos JQ.symm] at AH;exact J2u AH
 subst this;refine⟨e.b,e.q.charged,?_⟩;rw[hE];obtain⟨i,b2,q⟩:=e;simp only at JQ DM ⊢;subst JQ;rw[DM]
theorem MkY.room{Z:SP}{per N:Nat}{limit:Int}{M:Int}{l:List Pl}{fr:List Nat}(m:MkY Z per limit N M l fr)(E Q:List (Nat×Nat))(hE:∀x s c,Z.av.en x s=some c->(x%256,s)∈E)(hQ:∀x s,(x,s)∈E->(x,s/16)∈Q){o:Nat}(ho:(l.filter Pl.is).length<=o)(hp:o+Q.length+E.length+1<64){cs:Int}(AQ:Q0O l 0=cs)
  (hq:cs+256*(Q.length:Int)+48*(E.length:Int)+304<=limit) {i s:Nat} {er:Int}:¬WhyL Z fr 0 i s er:=by
 obtain⟨b,ch,hb⟩:=m.q;have DI:find Z.S.P.q.E 0=some ⟨0,b,⟨limit,ch,0,-1,0⟩⟩:=by rw[hb];rfl
 have ent:∀i s,i<256->s<256->(Z.tb i).en s≠none->(i,s)∈E:=fun i s hi hs h=>by
  obtain⟨x,c,hx,hc⟩:=m.ok.entries hi hs h;rw[<- hx];exact hE x s c hc
 refine J1d m.ok.core m.ok.tpi DI (o:=o) (lv:=Q.length) (nd:=E.length) (by rw[m.l];exact ho) (Z5z m.ok.tpi.full Q fun i s hi hs h=>hQ i s (ent i s hi hs h)) (Z5y E ent) hp ?_;rw[m.l,AQ];show _<=limit-0;omega
def J1e(o:Option (Nat×Nat)):Value:=match o with
 | none=>.tuple #[.agg #[.int .u32 0,.int .i64 0],.int .i64 6]
 | some c=>.tuple #[.agg #[.int .u32 (c.1:Int),.int .i64 (c.2:Int)],.int .i64 0]
section
variable {Z:SP} {fr:List Nat} {N K:Nat} {M:Int} {w w':World}
theorem RootR.fine{x h:Nat}{z r er:Int}(R:RootR Z fr N K M x z h r w er w'){p q:Pl}(hp:pget Z.S.l 1 x=some p)(hk:p.kind=2)(hz:0<=z/\z<256)(hq:pget Z.S.l 1 h=some q)(hr:0<r/\r<=15)(hm:q.kind=8↔128<=z)(h0:Z.av.en x z.toNat=none)(hw:∀er,¬WhyL Z fr p.fac (x%256) z.toNat er) :
  er=0/\J0a Z fr N K M x z.toNat h r.toNat 0 w w':=by
 have Dk:=av_none.1 h0;rcases R with ⟨_,he,_⟩|⟨s,rn,p',q',rfl,rfl,hs,_,_,AL,_,_,_,_,hc⟩
 ·exfalso;rcases he with ⟨h1,_⟩|⟨p',h1,he⟩
  ·rw[hp] at h1;cases h1
  ·rw[hp] at h1;cases h1;rcases he with ⟨h2,_⟩|⟨_,he⟩
   ·exact h2 hk
   ·rcases he with ⟨h3,_⟩|⟨_,he⟩
    ·exact h3 hz
    ·rcases he with ⟨h4,_⟩|⟨q',h4,he⟩
     ·rw[hq] at h4;cases h4
     ·rw[hq] at h4;cases h4;rcases he with ⟨h5,_⟩|⟨_,h5,_⟩
      ·exact h5 ⟨hr,hm⟩
      ·exact h5 Dk
 ·rw[hp] at AL;cases AL;rw[J2C,J2C] at *
  rcases hc with ⟨h1,h2⟩|⟨_,h2,_⟩
  ·exact⟨h1,h2⟩
  ·exact absurd h2 (hw er)
theorem MoveR.fine{x y n:Nat}{A:Nat->Mv}{er:Int}(R:MoveR Z fr N K M x y n A w er w'){p1 p2:Pl}(A9:pget Z.S.l 1 x=some p1)(AE:p1.kind=2)(Ax:pget Z.S.l 1 y=some p2)(Av:p2.kind=2)(Ah:AllFit Z.av.en x y n A)(hw:∀er,¬WhyM Z fr N K x y n p2.fac A er) :
  er=0/\Q9a Z fr N K M x y n A w w':=by
 rcases R with ⟨Ac,he,_⟩|⟨q1,q2,h1,_,h2,_,_,hc⟩
 ·exfalso;rcases he with ⟨h1,_⟩|⟨q1,h1,he⟩
  ·rw[A9] at h1;cases h1
  ·rw[A9] at h1;cases h1;rcases he with ⟨h2,_⟩|⟨_,he⟩
   ·exact h2 AE
   ·rcases he with ⟨h3,_⟩|⟨q2,h3,he⟩
    ·rw[Ax] at h3;cases h3
    ·rw[Ax] at h3;cases h3;rcases he with ⟨h4,_⟩|⟨_,i,hi,_,hv⟩
     ·exact h4 Av
     ·have:=(Z1g (N:=Z.F.N) (tb:=Z.tb) A9 AE Ax Av (m:=A i) (cl:=Q1c A i (A i))).2 (Ah i hi);unfold fitV at hv;rw[this] at hv;exact Ac hv.symm
 ·rw[A9] at h1;cases h1;rw[Ax] at h2;cases h2;rcases hc with ⟨h1,h2⟩|⟨_,h2,_⟩
  ·exact⟨h1,h2⟩
  ·exact absurd h2 (hw er)
theorem Z8a{x:Nat}{z:Int}{p:Pl}(hp:pget Z.S.l 1 x=some p)(hk:p.kind=2)(hz:0<=z/\z<256):Q5R Z.S.l Z.tb x z=J1e (Z.av.en x z.toNat):=by
 unfold Q5R;rw[hp];simp only;rw[if_pos hk,if_pos hz];show _=J1e ((Q0g Z.S.l Z.tb x z.toNat).map Ent.c);cases Q0g Z.S.l Z.tb x z.toNat <;> rfl
end
theorem J0e{l:List Pl}{i:Nat}{p:Pl}(h:l[i]?=some p)(hp:p.st=0)(ha:∀j,j<i->∃q,l[j]?=some q/\q.st≠0):Fst l i p:=⟨h,hp,fun j q hj hq=>by
 obtain⟨q',e1,e2⟩:=ha j hj;rw[hq] at e1;cases e1;exact e2⟩
def lt1(k a x:Nat):List Pl:=(newL 64).set 1 ⟨k,a,0,1,0,x⟩
theorem Z5B{w:World}{a:AN}(h:Sep w a.hl)(at_:Nat)(hl:at_<=a.mem.length)(hm:a.mem.length<=1073741824) :
  Calls prog 113 #[.pointer (some ⟨a.a,0,none⟩),.int .i64 at_,.int .i64 0] w fun r w'=>∃ad:Addr,r=.returned (.tuple #[.slice (some ad) 0 (a.mem.length-at_),.int .i64 0])/\w=w':=by
 have c0:=AN.c0 h;clear h;generalize a.mem.length=l at *
 have h1:¬((at_:Int)>l):=by omega
 have h2:decide ((l:Int)<at_)=false:=by simp;omega
 have h3:decide ((l:Int)-at_<0)=false:=by simp;omega
 by_cases hE:at_=l
 ·subst hE;go_enter func113,ntmps113;go_wp2_with fail;go_ret2;exact⟨⟨_,rfl⟩,rfl⟩
 ·have Aa:at_<l:=by omega
  go_enter func113,ntmps113;go_wp2_with fail;go_ret2;exact⟨⟨_,rfl⟩,rfl⟩
def Q1m(l:Nat)(at_:Int)(n:Nat):Int:=if at_<0∨at_+8*n>l then 2 else if at_%8=0 then 0 else 3
theorem Z5C{w:World}{a:AN}(h:Sep w a.hl)(at_:Int)(n:Nat)(hn:n<=1048576)(hm:a.mem.length<=1073741824) :
  Calls prog 121 #[.pointer (some ⟨a.a,0,none⟩),.int .i64 at_,.int .i64 n] w fun r w'=>w=w'/\if Q1m a.mem.length at_ n=0 then ∃(ad:Addr) (c:Nat),r=.returned (.tuple #[.slice (some ad) (8*n) c,.int .i64 0])/\(0<n->ad=⟨a.mb,at_.toNat,none⟩) else r=.returned (.tuple #[.slice none 0 0,.int .i64 (Q1m a.mem.length at_ n)]):=by
 have hw:IntKind.i64.wrap ((n:Int)*8)=n*8:=by rw[IntKind.wrap_i64];omega
 have h9:((n:Int)*8)=((n*8:Nat):Int):=by omega
 by_cases hb:at_<0∨at_+8*n>a.mem.length
 ·have k1:=Z6R h at_ (n*8:Nat) (by omega) hm;have hE:Q1m a.mem.length at_ n=2:=by unfold Q1m;rw[if_pos hb]
  simp only[hE,(by decide:¬(2:Int)=0),if_false];have h3:((2:Int) != 0)=true:=by simp
  rw[<- h9] at k1;clear h hb hE h9;go_enter func121,ntmps121;go_wp2_with (go_at_call 113;refine k1.mono ?_;rintro e w'⟨rfl,rfl⟩);go_ret2;exact⟨rfl,rfl⟩
 ·obtain⟨k,rfl⟩:=J3b (a:=at_) (by omega);have k1:Calls prog 113 #[.pointer (some ⟨a.a,0,none⟩),.int .i64 k,.int .i64 (n*8:Nat)] w fun r w'=>(∃(ad:Addr) (c:Nat),r=.returned (.tuple #[.slice (some ad) (n*8) c,.int .i64 0])/\(0<n->ad=⟨a.mb,k,none⟩))/\w=w':=by
   by_cases h0:n=0
   ·subst h0;refine(Z5B h k (by omega) hm).mono ?_;rintro r w'⟨ad,rfl,rfl⟩;exact⟨⟨ad,_,rfl,by omega⟩,rfl⟩
   ·refine(Q5r h k (n*8) (by omega) (by omega) hm).mono ?_;rintro r w'⟨rfl,rfl⟩;exact⟨⟨_,_,rfl,fun _=>rfl⟩,rfl⟩
  rw[<- h9] at k1;clear h9;have h3:((0:Int) != 0)=false:=by simp
  by_cases h8:(k:Int)%8=0
  ·have hE:Q1m a.mem.length k n=0:=by unfold Q1m;rw[if_neg hb,if_pos h8]
   simp only[hE,if_true];have h2:((k:Int)%8 != 0)=false:=by simp;omega
   clear h hb hE;go_enter func121,ntmps121;go_wp2_with (go_at_call 113;refine k1.mono ?_;rintro e w'⟨⟨ad,c,rfl,Jk⟩,rfl⟩);go_ret2;exact⟨rfl,ad,c,by rw[J4x 8 n];rfl,Jk⟩
  ·have hE:Q1m a.mem.length k n=3:=by unfold Q1m;rw[if_neg hb,if_neg h8]
   simp only[hE,(by decide:¬(3:Int)=0),if_false];have h2:((k:Int)%8 != 0)=true:=by simp;omega
   clear h hb hE;go_enter func121,ntmps121;go_wp2_with (go_at_call 113;refine k1.mono ?_;rintro e w'⟨⟨ad,c,rfl,Jk⟩,rfl⟩);go_ret2;exact⟨rfl,rfl⟩
theorem Z2L(l:Nat)(at_:Int)(n:Nat):Q1m l at_ n=0/\0<=at_/\at_+8*n<=l/\at_%8=0∨Q1m l at_ n=2∨Q1m l at_ n=3:=by
 unfold Q1m;split
 ·exact .inr (.inl rfl)
 ·split
  ·exact .inl ⟨rfl,by omega,by omega,by assumption⟩
  ·exact .inr (.inr rfl)
theorem b8len(x:Nat):(Q0c x).length=8:=rfl
theorem Q2g(ws:List Nat):(ws.flatMap Q0c).length=8*ws.length:=by
 induction ws with
 | nil=>rfl
 | cons x r ih=>rw[J2a,J2j,ih,b8len,J2k];omega
theorem flat8_get(ws:List Nat)(k:Nat):(ws.flatMap Q0c)[k]?=(ws[k/8]?).bind fun x=>(Q0c x)[k%8]?:=by
 induction ws generalizing k with
 | nil=>simp
 | cons x r ih =>
  rw[J2a];by_cases h:k<8
  ·rw[J4K (by rw[b8len];exact h),show k/8=0 by omega,show k%8=k by omega];rfl
  ·rw[J4L (by rw[b8len];omega),ih,b8len,show(k-8)/8=k/8-1 by omega,show(k-8)%8=k%8 by omega];obtain⟨m,hm⟩:∃m,k/8=m+1:=⟨k/8-1,by omega⟩
   rw[hm];rfl
theorem Z2M{ws:List Nat}{k x:Nat}(h:ws[k/8]?=some x):(ws.flatMap Q0c)[k]?.getD 0=x/2 ^ (8*(k%8))%256:=by
 rw[flat8_get,h];exact Q2X x (k%8) (by omega)
theorem Z5D{w:World}{a:AN}(h:Sep w a.hl)(at_:Int)(ws:List Nat)(hn:ws.length<=1048576)(hm:a.mem.length<=1073741824)(hx:∀x∈ws,x<18446744073709551616)(so:Option Addr)(cap:Nat)(hs:∀wr,Chg (fun b=>b∈keys a.hl) w wr->∀(j x:Nat),ws[j]?=some x->∃ad,so=some ad/\wr.cell? (ad.add j)=some (.int .u64 x)) :
  Calls prog 57 #[.pointer (some ⟨a.a,0,none⟩),.int .i64 at_,.slice so ws.length cap] w fun r w'=>r=.returned (.int .i64 (Q1m a.mem.length at_ ws.length))/\Step a.hl ({a with mem:=if Q1m a.mem.length at_ ws.length=0 then put_ a.mem at_.toNat (ws.flatMap Q0c) else a.mem}:AN).hl w w':=by
 have k1:=Z5C h at_ ws.length hn hm;rcases Z2L a.mem.length at_ ws.length with ⟨hE,h0,hl,h8⟩|hE
 ·simp only[hE,if_true] at k1 ⊢;obtain⟨p,rfl⟩:=J3b h0;simp only[J2C] at k1 ⊢;have Ev:=Q2g ws;have Hw:Hid (Step a.hl ({a with mem:=put_ a.mem p ((ws.flatMap Q0c).take 0)}:AN).hl w w):=by
   show Step _ _ _ _;rw[J4X,Q7v];exact Step.refl h
  have HN:Hid (∀k wr,k<8*ws.length->Step a.hl ({a with mem:=put_ a.mem p ((ws.flatMap Q0c).take k)}:AN).hl w wr->∃(ad:Addr) (x:Nat),so=some ad/\x<18446744073709551616/\(∃old,wr.cell? ⟨a.mb,p+k,none⟩=some old)/\wr.frozen? ⟨a.mb,p+k,none⟩=false/\wr.cell? (ad.add (k/8))=some (.int .u64 x)/\(ws.flatMap Q0c)[k]?.getD 0=x/2 ^ (8*(k%8))%256/\Step a.hl ({a with mem:=put_ a.mem p ((ws.flatMap Q0c).take (k+1))}:AN).hl w (wr.setCell ⟨a.mb,p+k,none⟩ (.int .u8 ((ws.flatMap Q0c)[k]?.getD 0:Nat)))):=by
   intro k wr hk st;have hj:k/8<ws.length:=by omega
   obtain⟨ad,ea,hc⟩:=hs wr st.chg (k/8) ws[k/8] (J3O hj);refine⟨ad,ws[k/8],ea,hx _ (J4U hj),⟨_,AN.bcell st.sep (p+k) (by show p+k<(put_ _ _ _).length;rw[Q1h _ _ _ (by simp[Ev];omega)];omega)⟩,AN.bfree st.sep (p+k),hc,Z2M (J3O hj),?_⟩;have h1:=AN.setB st.sep (p+k) ((ws.flatMap Q0c)[k]?.getD 0);have h2:=Q5b a.mem p (ws.flatMap Q0c) k (by omega) (by omega);have:=st.trans h1
   simpa[h2] using this
  have AU:Hid ((ws.flatMap Q0c).take (8*ws.length)=ws.flatMap Q0c):=J3v (by omega);clear h hs hx h0 hl h8 hE Ev;generalize ws.flatMap Q0c=bs at *
  generalize ws.length=n at *
  generalize a.hl=H at *
  have HK:=Q0a k1;clear k1;generalize a.mem.length=l at *
  go_enter func57,ntmps57;go_wp2_with fail;refine HK.out.mono ?_;rintro e w'⟨rfl,ad1,c,rfl,Jk⟩;go_wp2_with fail
  go_loopw [20] (fun iv wr=>∃k:Nat,k<=8*n/\iv=.int .i64 k/\Step H ({a with mem:=put_ a.mem p (bs.take k)}:AN).hl w wr) (fun iv _=>8*n-(intOf iv).toNat)
  case atStart=>exact⟨0,by omega,rfl,Hw.out⟩
  case round =>
   obtain⟨k,hk,rfl,Aq⟩:=hrel;by_cases Aa:k<8*n
   ·obtain⟨ad,x,rfl,hx,⟨old,KT⟩,hf,SM,hv,AG⟩:=HN.out k wr Aa Aq;clear Aq;obtain rfl:=Jk (by omega);have B4:(k:Int)/8=((k/8:Nat):Int):=by omega
    have AE:(k:Int)%8=((k%8:Nat):Int):=by omega
    have PU:IntKind.u8.wrap ((x:Int)/2 ^ (8*(k%8)))=((bs[k]?.getD 0:Nat):Int):=by
     rw[hv,IntKind.wrap_u8,show((x:Int)/2 ^ (8*(k%8)))=((x/2 ^ (8*(k%8)):Nat):Int) from by rw[J3r,J3s];rfl];omega
    have hq:k/8<n:=by omega
    have FH:k%8<8:=by omega
    clear hv;generalize bs[k]?.getD 0=v at *
    generalize k/8=q at *
    generalize k%8=r8 at *
    go_wp2_with fail;go_roundw
    case rel=>exact⟨k+1,by omega,by go_num,AG⟩
    case measure=>simp[intOf];omega
   ·obtain rfl:k=8*n:=by omega
    go_wp2_with fail;go_ret;exact⟨rfl,by have:=Aq;rw[AU.out] at this;exact this⟩
 ·have Hw:Hid (Step a.hl a.hl w w):=Step.refl h;have Ac:¬Q1m a.mem.length at_ ws.length=0:=by omega
  simp only[Ac,if_false] at k1 ⊢;have hb:((Q1m a.mem.length at_ ws.length==0)=false):=by simpa using Ac
  generalize Q1m a.mem.length at_ ws.length=E at *
  clear h hs hx;generalize ws.length=n at *
  go_enter func57,ntmps57;go_wp2_with fail;refine k1.mono ?_;rintro e w'⟨rfl,rfl⟩;go_wp2_with fail
  go_loopw [20] (fun iv wr=>iv=.int .i64 0/\wr=w) (fun _ _=>0)
  case atStart=>exact⟨rfl,rfl⟩
  case round =>
   obtain⟨rfl,rfl⟩:=hrel;go_wp2_with fail;go_ret;exact⟨rfl,Hw.out⟩
theorem Q4i(m:List Nat)(p:Nat)(ws:List Nat)(hl:p+8*ws.length<=m.length)(hx:∀x∈ws,x<18446744073709551616)(q:Nat)(_hq:q+8<=m.length)(h8:p%8=0)(k8:q%8=0) :
  Q0m (put_ m p (ws.flatMap Q0c)) q=if p<=q/\q<p+8*ws.length then ws[(q-p)/8]?.getD 0 else Q0m m q:=by
 have hf:=Q2g ws;unfold Q0m;have hg:=Q3B m p (ws.flatMap Q0c) (by omega);rw[hf] at hg;by_cases h:p<=q/\q<p+8*ws.length
 ·rw[if_pos h];have hj:(q-p)/8<ws.length:=by omega
  rw[J3O hj];show _=ws[(q-p)/8];rw[<- Q2b ws[(q-p)/8] (hx _ (J4U hj))];congr 1
  apply J3f
  intro i;rw[J3A];by_cases hi:i<8
  ·rw[if_pos hi,J3Z,hg,if_neg (by omega),if_pos (by omega),flat8_get,show(q+i-p)/8=(q-p)/8 by omega,show(q+i-p)%8=i by omega,J3O hj];rfl
  ·rw[if_neg hi,J3m (by rw[b8len];omega)]
 ·rw[if_neg h];congr 1
  apply J3f
  intro i;rw[J3A,J3A];by_cases hi:i<8
  ·rw[if_pos hi,if_pos hi,J3Z,J3Z,hg];by_cases h1:q+i<p
   ·rw[if_pos h1]
   ·rw[if_neg h1,if_neg (by omega)]
  ·rw[if_neg hi,if_neg hi]
theorem Z8b(m bs:List Nat)(p:Nat)(hm:∀b∈m,b<256)(hb:∀b∈bs,b<256):∀b∈put_ m p bs,b<256:=by
 intro b h;unfold put_ at h;rcases J2m.1 h with h|h
 ·rcases J2m.1 h with h|h
  ·exact hm b (J4T h)
  ·exact hb b h
 ·exact hm b (J4a h)
theorem Z8c(ws:List Nat):∀b∈ws.flatMap Q0c,b<256:=by
 intro b h;obtain⟨x,_,hx⟩:=J2c.1 h;unfold Q0c at hx;simp only[J1J,J1Z,or_false] at hx;omega
end Go.Proofs.YtfidemmgofcnmaaGreatDoor
