/- What the laws of spaces share is proved. No condition. Part of a proof. -/
import Derived.Test.YtlakjlmaboioiaaGreatDoorVa26
set_option maxHeartbeats 2000000
set_option maxRecDepth 100000
set_option linter.unusedVariables false
namespace Go.Proofs.YtlakjlmaboioiaaGreatDoor
open Go.RowKit Go.Proofs.Tryz
section
variable {Z:SP} {fr:List Nat} {N K:Nat} {M:Int} {x y n:Nat} {p1 p2:Pl} {A:Nat->Mv}
structure GrP (Z:SP) (fr:List Nat) (N K:Nat) (M:Int) (x y n:Nat) (A:Nat->Mv) (k:Nat) (Z2:SP):Prop where
 ok:Z2.Ok fr N K (M+n)
 same:SameN Z Z2
 nx:Z2.F.next=Z.F.next+n
 av:∃a,AddsM x y A Z.av Z.F.next n a/\Q4p x A a k Z2.av
 src:∀i,k<=i->i<n->(A i).g=true->∃c,Z2.av.en x (A i).src.toNat=some c
theorem GrP.start (ok:Z.Ok fr N K M) (Bh:pget Z.S.l 1 x=some p1) (A0:p1.kind=2) (A8:pget Z.S.l 1 y=some p2) (A2:p2.kind=2) (Am:AllFit Z.av.en x y n A) {S1:CO} {t1:TB} {own:Int} (L:LaidP Z fr N K x y own A 0 n S1 t1) {F':FO} (P:SetP Z x y A t1 n F') :
  GrP Z fr N K M x y n A 0 ((Z.setF F').setS S1 (updT Z.tb (y%256) t1)):=by
 obtain⟨h1,h2,h3⟩:=P.done ok L;refine⟨h1,h2,by show F'.next=_;exact P.nx,⟨_,h3,.zero⟩,fun i _ hi _=>?_⟩;obtain⟨e,he,Ed,_,_⟩:=L.src Bh A0 A8 A2 Am (J2h _) hi;refine⟨(e.h,e.r),Q9B (e:=e) ?_⟩;show Q0f S1.l (updT Z.tb (y%256) t1) x (A i).src.toNat=some e;rw [L.alt.l,Q0h Bh A0 (by have:=(Am i hi).1.src;omega)];exact Ed
theorem GrP.skip {k:Nat} {Z2:SP} (G:GrP Z fr N K M x y n A k Z2) (hg:(A k).g=false):GrP Z fr N K M x y n A (k+1) Z2:=by
 obtain⟨a,h1,h2⟩:=G.av;exact⟨G.ok,G.same,G.nx,⟨a,h1,.skip k _ h2 hg⟩,fun i h=>G.src i (by omega)⟩
theorem GrP.lift (Am:AllFit Z.av.en x y n A) {k:Nat} {Z2:SP} (G:GrP Z fr N K M x y n A k Z2) (Do:k<n) (hg:(A k).g=true) (Bh:pget Z.S.l 1 x=some p1) (A0:p1.kind=2) :
  ∃nd e,find Z2.F.N nd.id=some nd/\ownN Z2.F.N (x:Int) (A k).src=nd.id/\(Z2.tb (x%256)).en (A k).src.toNat=some e/\∀(S':CO) (t':TB) (F':FO),TurnP Z2.S fr N K Z2.tb (p1.fac:Int) (x%256) (A k).src.toNat none S' t'->F'.N=Q0C Z2.F.N nd nd.q.ks.length->F'.Ok->F'.next=Z2.F.next->F'.f=Z2.F.f->GrP Z fr N K M x y n A (k+1) ((Z2.setF F').setS S' (updT Z2.tb (x%256) t')):=by
 have Cc:=(Am k Do).1.src;obtain⟨c,hc⟩:=G.src k (J2h _) Do hg;obtain⟨e,he,rfl⟩:=Q3r hc;have FL:Z2.S.l=Z.S.l:=G.same.alt.l;have M3:pget Z2.S.l 1 x=some p1:=by rw [FL];exact Bh
 obtain⟨nd,AD,q1,q2,q3,q4⟩:=G.ok.fpi.own G.ok.fo.n he;have Cw:((A k).src.toNat:Int)=(A k).src:=by omega
 have AP:(Z2.tb (x%256)).en (A k).src.toNat=some e:=by
  have AL:=he
  rwa [Q0h M3 A0 (by omega)] at AL
 refine⟨nd,e,q4,by rw [<- Cw];exact q3,AP,fun S' t' F' T hF EH Jo Gs=>?_⟩;have hr:=(G.ok.fpi.cap _ _ _ he).r;obtain⟨h1,h2,h3⟩:=G.ok.lifted q4 q1 q2 M3 A0 (by omega:(A k).src.toNat<256) he (m:=15) (Q4M e.r (by omega)) T hF EH Jo Gs;obtain⟨a,a1,a2⟩:=G.av;have hw:=Q2H (m:=15) (a:=Z2.av) (id:=nd.id) q4 q1 q2 hc;rw [h2] at hw;simp only at hw;rw [if_pos (Q4M e.r (by omega))] at hw;have E8:((Z2.setF F').setS S' (updT Z2.tb (x%256) t')).av.en=setA Z2.av.en x (A k).src.toNat none:=by
  have:=(Prod.mk.inj hw).1;rw [this]
 refine⟨h1,G.same.trans h3.toSameN,h3.nx.trans G.nx,⟨a,a1,.lift k _ _ a2 hg ?_⟩,fun i h4 h5 h6=>?_⟩
 ·have:ownN Z2.av.N (x:Int) (A k).src=nd.id:=by rw [<- Cw];exact q3
  rw [this];exact h2
 ·obtain⟨c',AT⟩:=G.src i (by omega) h5 h6;refine⟨c',?_⟩;rw [E8,Q5l]
  ·exact AT
  ·rintro⟨_,e2⟩;exact Am.srcs h5 Do (by omega) h6 e2
theorem GrP.done {w w':World} {Z2:SP} (G:GrP Z fr N K M x y n A n Z2) (st:Step Z.hl Z2.hl w w'):MovedZ Z fr N K M x y n A w w':=by
 obtain⟨a,a1,a2⟩:=G.av;exact⟨a,Z2,a1,a2,G.ok,G.same,G.nx,st⟩
theorem Z9i {w0:World} (ok:Z.Ok fr N K M) (hM:M+n<1099511627776) (hx:x<4294967296) (hy:y<4294967296) (Bh:pget Z.S.l 1 x=some p1) (A0:p1.kind=2) (A8:pget Z.S.l 1 y=some p2) (A2:p2.kind=2) (Am:AllFit Z.av.en x y n A) {S1:CO} {t1:TB} (L:LaidP Z fr N K x y (p2.fac:Int) A 0 n S1 t1) (cap g1 g2 B1 B2:Nat) (a0:Option Addr) :
  SetW Z.s g1 x g2 y (p1.fac:Int) (p2.fac:Int) Z.F.f B1 B2 a0 n A
   (fun k W=>∃F',SetP Z x y A t1 k F'/\Step Z.hl ((Z.setF F').setS S1 (updT Z.tb (y%256) t1)).hl w0 W/\MvB ((Z.setF F').setS S1 (updT Z.tb (y%256) t1)) p1 p2 g1 x g2 y B1 B2 n A a0 W)
   (fun k W=>∃Z2,GrP Z fr N K M x y n A k Z2/\Step Z.hl Z2.hl w0 W/\MvB Z2 p1 p2 g1 x g2 y B1 B2 n A a0 W)
   (fun k W=>∃Z2 nd e F',GrP Z fr N K M x y n A k Z2/\find Z2.F.N nd.id=some nd/\ownN Z2.F.N (x:Int) (A k).src=nd.id/\(Z2.tb (x%256)).en (A k).src.toNat=some e/\F'.N=Q0C Z2.F.N nd nd.q.ks.length/\F'.Ok/\F'.next=Z2.F.next/\F'.f=Z2.F.f/\(∀(S':CO) (t':TB),TurnP Z2.S fr N K Z2.tb (p1.fac:Int) (x%256) (A k).src.toNat none S' t'->GrP Z fr N K M x y n A (k+1) ((Z2.setF F').setS S' (updT Z2.tb (x%256) t')))/\Step Z.hl (Z2.setF F').hl w0 W/\MvB (Z2.setF F') p1 p2 g1 x g2 y B1 B2 n A a0 W)
   (fun W=>MovedZ Z fr N K M x y n A w0 W):=by
 have Gw:=(pget_some.1 Bh).1;have GA:=(pget_some.1 Bh).2.2;refine⟨fun k W h=>?_,fun k W W' h hb=>?_,fun k W hk h=>?_,fun W h=>?_,fun k W h=>?_,fun k W W' h hb=>?_,fun k W hk hg h=>?_,fun k W hk hg h=>?_,fun k W h=>?_,fun k W W' h hb=>?_,fun k W hk h=>?_,fun W h=>?_⟩
 ·obtain⟨F',P,st,mb⟩:=h;refine⟨mb.box.1,mb.box.2.1,mb.box.2.2,?_⟩;have:=SP.c1 (Z:=(Z.setF F').setS S1 (updT Z.tb (y%256) t1)) st.sep;rw [show ((Z.setF F').setS S1 (updT Z.tb (y%256) t1)).F.f=Z.F.f from P.f] at this;exact this
 ·obtain⟨F',P,st,mb⟩:=h;exact⟨F',P,st.trans (st.sep.grown hb),mb.step (st.sep.grown hb) rfl⟩
 ·obtain⟨F',P,st,mb⟩:=h;have Cc:=(Am k hk).1.src;have Gv:=(Am k hk).1.dst;have Cw:(((A k).src.toNat:Nat):Int)=(A k).src:=by omega
  have Hd:(((A k).dst.toNat:Nat):Int)=(A k).dst:=by omega
  refine⟨ownN F'.N (x:Int) (A k).src,fun W' hb=>?_,fun W' hb=>?_⟩
  ·have kn:=Q6H (Z:=(Z.setF F').setS S1 (updT Z.tb (y%256) t1)) (st.sep.grown hb).sep P.ok hx (z:=(A k).src.toNat) (g:=g1) (f:=p1.fac) (by omega);rw [Cw] at kn;exact kn
  ·have st':=st.trans (st.sep.grown hb);have mb':=mb.step (st.sep.grown hb) rfl;obtain⟨e0,e,Ea,he,rfl,AZ⟩:=SetP.src Am hk Bh A0 A8 A2 P;obtain⟨nn,El,q1,q2,q3,q4⟩:=P.fpi.own P.ok.n he;rw [Cw] at q3;have Ar:=P.fpi.free P.ok.n AZ;rw [Hd] at Ar;have C8:=P.fpi.few P.ok.n A8 (by omega) AZ;have BA:=P.nx;have AY:=ok.next;have ka:=Q8w (SP.sF (Z:=(Z.setF F').setS S1 (updT Z.tb (y%256) t1)) st'.sep) P.ok (par:=ownN F'.N (x:Int) (A k).src) (sp:=(y:Int)) (sl:=(A k).dst) (.inr ⟨nn,by rw [q3];exact q4⟩) (by omega) (by omega) (by omega) (by omega) Ar (by show F'.next+1<_;omega) C8
   rw [show ((Z.setF F').setS S1 (updT Z.tb (y%256) t1)).F.f=Z.F.f from P.f] at ka;refine ka.mono ?_;rintro rv w5 ⟨rfl,F2,Ad,stf⟩;have P2:=P.next ok Am L hk Bh A0 A8 A2 Ad;have stz:=SP.stepF (Z:=(Z.setF F').setS S1 (updT Z.tb (y%256) t1)) st'.sep F2 Ad.f stf;have stz':Step ((Z.setF F').setS S1 (updT Z.tb (y%256) t1)).hl ((Z.setF F2).setS S1 (updT Z.tb (y%256) t1)).hl W' w5:=stz;exact⟨⟨_,_,rfl⟩,stz'.keep st.sep (J2h _),F2,P2,st'.trans stz',mb'.step (Z':=(Z.setF F2).setS S1 (updT Z.tb (y%256) t1)) stz' rfl⟩
 ·obtain⟨F',P,st,mb⟩:=h;exact⟨_,GrP.start ok Bh A0 A8 A2 Am L P,st,mb⟩
 ·obtain⟨Z2,G,st,mb⟩:=h;refine⟨mb.box.1,mb.box.2.1,mb.box.2.2,?_⟩;have:=SP.c1 st.sep;rw [G.same.s,G.same.f] at this;exact this
 ·obtain⟨Z2,G,st,mb⟩:=h;exact⟨Z2,G,st.trans (st.sep.grown hb),mb.step (st.sep.grown hb) rfl⟩
 ·obtain⟨Z2,G,st,mb⟩:=h;exact⟨Z2,G.skip hg,st,mb⟩
 ·obtain⟨Z2,G,st,mb⟩:=h;have Cc:=(Am k hk).1.src;have Cw:(((A k).src.toNat:Nat):Int)=(A k).src:=by omega
  refine⟨ownN Z2.F.N (x:Int) (A k).src,fun W' hb=>?_,fun W' hb=>?_⟩
  ·have kn:=Q6H (st.sep.grown hb).sep G.ok.fo hx (z:=(A k).src.toNat) (g:=g1) (f:=p1.fac) (by omega);rw [Cw,G.same.s] at kn;exact kn
  ·have st':=st.trans (st.sep.grown hb);have mb':=mb.step (st.sep.grown hb) rfl;obtain⟨nd,e,h1,h2,h3,h4⟩:=G.lift Am hk hg Bh A0;have kl:=Q9H (SP.sF st'.sep) G.ok.fo (e:=nd) h1;rw [h2,<- G.same.f];refine kl.mono ?_;rintro rv w5 ⟨hv,F',Gs,Ov,Jo,EH,stf⟩;have stz:=SP.stepF st'.sep F' Gs stf;exact⟨hv,stz.keep st.sep (J2h _),Z2,nd,e,F',G,h1,h2,h3,Ov,EH,Jo,Gs,fun S' t' T=>h4 S' t' F' T Ov EH Jo Gs,st'.trans stz,mb'.step (Z':=Z2.setF F') stz rfl⟩
 ·obtain⟨Z2,nd,e,F',G,_,_,_,hF,_,_,Gs,_,st,mb⟩:=h;refine⟨mb.box.1,mb.box.2.1,mb.box.2.2,?_⟩;have:=SP.c1 (Z:=Z2.setF F') st.sep;rw [show (Z2.setF F').F.f=Z2.F.f from Gs,show (Z2.setF F').s=Z.s from G.same.s,G.same.f] at this;exact this
 ·obtain⟨Z2,nd,e,F',h1,h2,h3,h4,h5,h6,h7,h8,h9,st,mb⟩:=h;exact⟨Z2,nd,e,F',h1,h2,h3,h4,h5,h6,h7,h8,h9,st.trans (st.sep.grown hb),mb.step (st.sep.grown hb) rfl⟩
 ·obtain⟨Z2,nd,e,F',G,h2,h3,AP,h5,h6,h7,h8,h9,st,mb⟩:=h;have Cc:=(Am k hk).1.src;have kb:=Q4S (Z:=Z2.setF F') st.sep G.ok.core G.ok.tpi (i:=x%256) (s:=(A k).src.toNat) (x:=x) (g:=g1) (p:=p1) (by show Z2.S.l[_]?=_;rw [G.same.alt.l];exact Gw) GA A0 (by omega) AP mb.t1;rw [show (((A k).src.toNat:Nat):Int)=(A k).src by omega,show (Z2.setF F').s=Z.s from G.same.s] at kb;refine kb.mono ?_;rintro rv w5 ⟨rfl,S3,t3,T,stt⟩;refine⟨rfl,_,h9 S3 t3 T,st.trans stt,?_⟩;exact mb.step (Z':=(Z2.setF F').setS S3 (updT Z2.tb (x%256) t3)) stt T.alt.same.p
 ·obtain⟨Z2,G,st,mb⟩:=h;exact G.done st
theorem Z1f {w0 w:World} (ok:Z.Ok fr N K M) (hM:M+n<1099511627776) (hx:x<4294967296) (hy:y<4294967296) (Bh:pget Z.S.l 1 x=some p1) (A0:p1.kind=2) (A8:pget Z.S.l 1 y=some p2) (A2:p2.kind=2) (hn:n<=4611686018427387904) (Am:AllFit Z.av.en x y n A) {S1:CO} {t1:TB} (L:LaidP Z fr N K x y (p2.fac:Int) A 0 n S1 t1)
  {g1 g2:Nat} {a0:Option Addr} (st:Step Z.hl (Z.setS S1 (updT Z.tb (y%256) t1)).hl w0 w) (Pe:TblZ (Z.setS S1 (updT Z.tb (y%256) t1)) p1 g1 w) (Jw:TblZ (Z.setS S1 (updT Z.tb (y%256) t1)) p2 g2 w) (BR:AsideM (Z.setS S1 (updT Z.tb (y%256) t1)).hl n A a0 w) (cap:Nat) :
  Calls prog 82 #[.pointer (some ⟨Z.s,0,none⟩),Q2h g1 x (p1.fac:Int),Q2h g2 y (p2.fac:Int),.slice a0 n cap] w fun rv w'=>rv=.returned (.tuple #[])/\MovedZ Z fr N K M x y n A w0 w':=by
 have b1:Below w.heap.size w (w.alloc (.cells #[.pointer (some ⟨g1,0,none⟩),.int .u32 x,.int .i64 (p1.fac:Int)] 155)):=(Below.refl _ _).alloc (J2h _) _;have s1:=st.sep.grown b1;have as1:AsideV (Z.setS S1 (updT Z.tb (y%256) t1)).hl [.pointer (some ⟨g1,0,none⟩),.int .u32 x,.int .i64 (p1.fac:Int)] (some ⟨w.heap.size,0,none⟩) (w.alloc (.cells #[.pointer (some ⟨g1,0,none⟩),.int .u32 x,.int .i64 (p1.fac:Int)] 155)):=Q2K st.sep _ _;have b2:Below (w.alloc (.cells #[.pointer (some ⟨g1,0,none⟩),.int .u32 x,.int .i64 (p1.fac:Int)] 155)).heap.size (w.alloc (.cells #[.pointer (some ⟨g1,0,none⟩),.int .u32 x,.int .i64 (p1.fac:Int)] 155)) ((w.alloc (.cells #[.pointer (some ⟨g1,0,none⟩),.int .u32 x,.int .i64 (p1.fac:Int)] 155)).alloc (.cells #[.pointer (some ⟨g2,0,none⟩),.int .u32 y,.int .i64 (p2.fac:Int)] 155)):=(Below.refl _ _).alloc (J2h _) _
 have s2:=s1.sep.grown b2;have as2:AsideV (Z.setS S1 (updT Z.tb (y%256) t1)).hl [.pointer (some ⟨g2,0,none⟩),.int .u32 y,.int .i64 (p2.fac:Int)] (some ⟨(w.alloc (.cells #[.pointer (some ⟨g1,0,none⟩),.int .u32 x,.int .i64 (p1.fac:Int)] 155)).heap.size,0,none⟩) _:=Q2K s1.sep 155 [.pointer (some ⟨g2,0,none⟩),.int .u32 y,.int .i64 (p2.fac:Int)];have hz:(w.alloc (.cells #[.pointer (some ⟨g1,0,none⟩),.int .u32 x,.int .i64 (p1.fac:Int)] 155)).heap.size=w.heap.size+1:=by simp
 rw [hz] at as2;refine Z0a (Z9i (w0:=w0) ok hM hx hy Bh A0 A8 A2 Am L cap g1 g2 w.heap.size (w.heap.size+1) a0) hn hy ?_;exact⟨Z.F,SetP.start ok t1,(st.trans s1).trans s2,(Pe.grown st.sep b1).grown s1.sep b2,(Jw.grown st.sep b1).grown s1.sep b2,as1.step s2,as2,(BR.step s1).step s2⟩
end
theorem Z0b {t t':TB} (h:∀s,t'.en s=t.en s) (z:Int):t'.at' z=t.at' z:=by
 unfold TB.at';split
 ·rw [h]
 ·rfl
def fitV (Z:SP) (x y:Nat) (A:Nat->Mv) (i:Nat):Int:=Z3V ((Z.tb (x%256)).at' (A i).src) ((Z.tb (y%256)).at' (A i).dst) (A i) (Q1x A i (A i))
def J1J (Z:SP) (x y n:Nat) (A:Nat->Mv) (er:Int):Prop:=
 (pget Z.S.l 1 x=none/\er=8)∨∃p1,pget Z.S.l 1 x=some p1/\((p1.kind≠2/\er=10)∨(p1.kind=2/\((pget Z.S.l 1 y=none/\er=8)∨∃p2,pget Z.S.l 1 y=some p2/\((p2.kind≠2/\er=10) ∨
  (p2.kind=2/\∃i,i<n/\(∀j,j<i->fitV Z x y A j=0)/\fitV Z x y A i=er)))))
def WhyM (Z:SP) (fr:List Nat) (N K x y n:Nat) (own:Int) (A:Nat->Mv) (er:Int):Prop:=∃k S' t',k<n/\LaidP Z fr N K x y own A 0 k S' t'/\(k=0->S'=Z.S/\t'=Z.tb (y%256))/\WhyL (Z.setS S' (updT Z.tb (y%256) t')) fr own (y%256) (A k).dst.toNat er
def MoveR (Z:SP) (fr:List Nat) (N K:Nat) (M:Int) (x y n:Nat) (A:Nat->Mv) (w:World) (er:Int) (w':World):Prop:=
 (er≠0/\J1J Z x y n A er/\∃own,BackZ Z fr N K y own w w') ∨
 ∃p1 p2,pget Z.S.l 1 x=some p1/\p1.kind=2/\pget Z.S.l 1 y=some p2/\p2.kind=2/\AllFit Z.av.en x y n A /\
  ((er=0/\MovedZ Z fr N K M x y n A w w')∨((er=4∨er=5)/\WhyM Z fr N K x y n p2.fac A er/\BackZ Z fr N K y p2.fac w w'))
theorem BackZ.of {Z:SP} {fr:List Nat} {N K:Nat} {M:Int} {y:Nat} (own:Int) {w w':World} (hs:Sep w Z.hl) (ok:Z.Ok fr N K M) (hb:Below w.heap.size w w'):BackZ Z fr N K y own w w':=
 ⟨Z.S,Z.tb (y%256),ok.core,by rw [Q1l];exact ok.tpi,Alt.refl _ _,fun _ _=>rfl,fun _=>rfl,by rw [Q1l];exact hs.grown hb⟩
section
variable {Z:SP} {fr:List Nat} {N K:Nat} {M:Int} {x y n:Nat} {p1 p2:Pl} {A:Nat->Mv}
theorem Z6S {w:World} (ok:Z.Ok fr N K M) (hM:M+n<1099511627776) (hx:x<4294967296) (hy:y<4294967296) (Bh:pget Z.S.l 1 x=some p1) (A0:p1.kind=2) (A8:pget Z.S.l 1 y=some p2) (A2:p2.kind=2) (hn:n<=4611686018427387904) (cap g1 g2 B1 B2:Nat) (a0:Option Addr) :
  J1I Z.s g1 x g2 y (p1.fac:Int) (p2.fac:Int) B1 B2 a0 n cap A (fitV Z x y A)
   (fun k W=>∃S' t',LaidP Z fr N K x y (p2.fac:Int) A 0 k S' t'/\(k=0->S'=Z.S/\t'=Z.tb (y%256))/\Step Z.hl (Z.setS S' (updT Z.tb (y%256) t')).hl w W/\MvB (Z.setS S' (updT Z.tb (y%256) t')) p1 p2 g1 x g2 y B1 B2 n A a0 W)
   (fun er k j W=>(er=4∨er=5)/\k<n/\AllFit Z.av.en x y n A/\WhyM Z fr N K x y n (p2.fac:Int) A er/\∃S' t',LaidP Z fr N K x y (p2.fac:Int) A j k S' t'/\Step Z.hl (Z.setS S' (updT Z.tb (y%256) t')).hl w W/\MvB (Z.setS S' (updT Z.tb (y%256) t')) p1 p2 g1 x g2 y B1 B2 n A a0 W)
   (fun er W=>MoveR Z fr N K M x y n A w er W):=by
 have Gw:=(pget_some.1 Bh).1;have GA:=(pget_some.1 Bh).2.2;have EP:=(pget_some.1 A8).1;have La:=(pget_some.1 A8).2.2;have AU:(∀j,j<n->fitV Z x y A j=0)->AllFit Z.av.en x y n A:=fun h i hi=>(Z2m Bh A0 A8 A2).1 (h i hi)
 have tts:∀{j k:Nat} {S':CO} {t':TB} {W:World},LaidP Z fr N K x y (p2.fac:Int) A j k S' t'->Step Z.hl (Z.setS S' (updT Z.tb (y%256) t')).hl w W->MvB (Z.setS S' (updT Z.tb (y%256) t')) p1 p2 g1 x g2 y B1 B2 n A a0 W->TT S' (updT Z.tb (y%256) t' (x%256)) p1 g1 W/\TT S' (updT Z.tb (y%256) t' (y%256)) p2 g2 W:=fun {j k S' t' W} L st mb=>by
  have hl:=L.alt.l;exact⟨(L.tpi.x (p1.fac:Int)).tt L.ok (by rw [hl];exact Gw) GA A0 (SP.sS (Z:=Z.setS S' (updT Z.tb (y%256) t')) st.sep) mb.t1.c,(L.tpi.x (p2.fac:Int)).tt L.ok (by rw [hl];exact EP) La A2 (SP.sS (Z:=Z.setS S' (updT Z.tb (y%256) t')) st.sep) mb.t2.c⟩
 refine⟨fun k W h=>?_,fun er k j W h=>?_,fun k W W' h hb=>?_,fun er k j W W' h hb=>?_,fun i W hi h=>?_,fun i W hi h hv A3=>?_,fun k W hv hk h=>?_,fun er k j W hj h=>?_,fun er k W h=>?_,fun W hv h=>?_⟩
 ·obtain⟨S',t',L,L0,st,mb⟩:=h;exact mb.box
 ·obtain⟨_,_,_,_,S',t',L,st,mb⟩:=h;exact mb.box
 ·obtain⟨S',t',L,L0,st,mb⟩:=h;exact⟨S',t',L,L0,st.trans (st.sep.grown hb),mb.step (st.sep.grown hb) rfl⟩
 ·obtain⟨h1,h2,h3,h4,S',t',L,st,mb⟩:=h;exact⟨h1,h2,h3,h4,S',t',L,st.trans (st.sep.grown hb),mb.step (st.sep.grown hb) rfl⟩
 ·obtain⟨S',t',L,L0,st,mb⟩:=h;obtain⟨T1,T2⟩:=tts L st mb;have AP:∀s,t'.en s=(Z.tb (y%256)).en s:=fun s=>L.old s fun i h1 h2=>by omega
  have e1:(updT Z.tb (y%256) t' (x%256)).at' (A i).src=(Z.tb (x%256)).at' (A i).src:=by
   by_cases e:x%256=y%256
   ·rw [e,updT_same];exact Z0b AP _
   ·rw [Q0W e]
  have e2:(updT Z.tb (y%256) t' (y%256)).at' (A i).dst=(Z.tb (y%256)).at' (A i).dst:=by
   rw [updT_same];exact Z0b AP _
  have low:∀{u:Nat} {p:Pl} {z:Int},pget Z.S.l 1 u=some p->p.kind=2->∀e,(Z.tb (u%256)).at' z=some e->e.Low:=fun {u p z} hu hk e he=>by
   unfold TB.at' at he;split at he
   ·rename_i hz;refine ok.fpi.low ok.core.inv.lok (h:=u) (s:=z.toNat) ?_;rw [Q0h hu hk (by omega)];exact he
   ·cases he
  have k:=Z6R T1 T2 (m:=A i) (by rw [e1];exact low Bh A0) (by rw [e2];exact low A8 A2) x y (p1.fac:Int) (p2.fac:Int) mb.mv.1 (n:=i) cap (by omega) (by omega);rw [e1,e2] at k;exact k
 ·obtain⟨S',t',L,L0,st,mb⟩:=h;exact .inl ⟨hv,.inr ⟨p1,Bh,.inr ⟨A0,.inr ⟨p2,A8,.inr ⟨A2,i,hi,A3,rfl⟩⟩⟩⟩,_,L.back ok A8 A2 st⟩
 ·have Am:=AU hv;obtain⟨S',t',L,L0,st,mb⟩:=h;obtain⟨T1,T2⟩:=tts L st mb;obtain⟨e,he,Ed,KU,hc⟩:=L.src Bh A0 A8 A2 Am (by omega) hk;have AA:=ok.fpi.low ok.core.inv.lok he;have Gi:=Q1w T1 (x:Int) (p1.fac:Int) (A k).src fun e' AL=>by rw [KU] at AL;cases AL;exact AA
  rw [KU] at Gi;refine⟨(e.h:Int),(e.r:Int),true,Gi,fun W' h'=>?_⟩;obtain⟨S2,t2,L2,L20,st2,mb2⟩:=h';have hf:=(Am k hk).1;have LU:=hf.r;have Gv:=hf.dst;have M6:e.r<16:=AA.2;have Hv:bits .and .i64 (e.r:Int) (A k).r=((e.r&&&(A k).r.toNat:Nat):Int):=by
   have:=Q4U e.r (A k).r.toNat M6 (by omega)
   rwa [show (((A k).r.toNat:Nat):Int)=(A k).r by omega] at this
  have Vb:=Q6P e.r M6 (A k).r.toNat (by omega);have Ax:(updT Z.tb (y%256) t2 (y%256)).en (A k).dst.toNat=none:=by
   rw [updT_same,L2.old _ fun q h1 h2 e2=>Am.dst hk (by omega) (by omega) e2];have:=av_none.1 hf.free
   rwa [Q0h A8 A2 (by omega)] at this
  have kl:=Q8x (Z:=Z.setS S2 (updT Z.tb (y%256) t2)) st2.sep L2.ok L2.tpi (i:=y%256) (s:=(A k).dst.toNat) (x:=y) (g:=g2) (h:=e.h) (r:=e.r&&&(A k).r.toNat) (p:=p2) (by show S2.l[_]?=_;rw [L2.alt.l];exact EP) La A2 (by omega) Ax AA.1 (by omega) mb2.t2;rw [Hv];rw [show (((A k).dst.toNat:Nat):Int)=(A k).dst by omega] at kl;refine kl.mono ?_;rintro rv w5 ⟨er,rfl,⟨rfl,nd,S3,t3,T,stt⟩|⟨Co,FW,P',tr,stt⟩⟩
  ·refine⟨0,rfl,.inl ⟨rfl,?_⟩⟩;have L3:=L2.lay ok A8 A2 Am hk hc T;have e3:updT (updT Z.tb (y%256) t2) (y%256) t3=updT Z.tb (y%256) t3:=Q1c _ _ _ _;have stt':Step (Z.setS S2 (updT Z.tb (y%256) t2)).hl (Z.setS S3 (updT Z.tb (y%256) t3)).hl W' w5:=stt;exact⟨S3,t3,L3,fun h=>(by omega),st2.trans stt',mb2.step (Z':=Z.setS S3 (updT Z.tb (y%256) t3)) stt' T.alt.same.p⟩
  ·refine⟨er,rfl,.inr ⟨by omega,Co,hk,Am,⟨k,S2,t2,hk,L2,L20,FW⟩,S2.setP P',t2,L2.tried tr,st2.trans stt,?_⟩⟩;exact mb2.step (Z':=Z.setS (S2.setP P') (updT Z.tb (y%256) t2)) stt tr.same.p
 ·obtain⟨h1,h2,Am,h4,S',t',L,st,mb⟩:=h;obtain⟨c,nd,hc,AP⟩:=L.new j (J2h _) hj;have Gv:=(Am j (by omega)).1.dst;have kb:=Q4S (Z:=Z.setS S' (updT Z.tb (y%256) t')) st.sep L.ok L.tpi (i:=y%256) (s:=(A j).dst.toNat) (x:=y) (g:=g2) (p:=p2) (by show S'.l[_]?=_;rw [L.alt.l];exact EP) La A2 (by omega) (by show (updT Z.tb (y%256) t' (y%256)).en _=_;rw [updT_same];exact AP) mb.t2;rw [show (((A j).dst.toNat:Nat):Int)=(A j).dst by omega] at kb;refine kb.mono ?_;rintro rv w5 ⟨rfl,S3,t3,T,stt⟩;have L3:=L.bare ok A8 A2 Am (by omega) hj T;have stt':Step (Z.setS S' (updT Z.tb (y%256) t')).hl (Z.setS S3 (updT Z.tb (y%256) t3)).hl W w5:=stt
  exact⟨rfl,h1,h2,Am,h4,S3,t3,L3,st.trans stt',mb.step (Z':=Z.setS S3 (updT Z.tb (y%256) t3)) stt' T.alt.same.p⟩
 ·obtain⟨h1,h2,Am,h4,S',t',L,st,mb⟩:=h;exact .inr ⟨p1,p2,Bh,A0,A8,A2,Am,.inr ⟨h1,h4,L.back ok A8 A2 st⟩⟩
 ·have Am:=AU hv;obtain⟨S',t',L,L0,st,mb⟩:=h;refine (Z1f ok hM hx hy Bh A0 A8 A2 hn Am L st mb.t1 mb.t2 mb.mv cap).mono ?_;rintro rv w' ⟨rfl,hq⟩;exact⟨rfl,.inr ⟨p1,p2,Bh,A0,A8,A2,Am,.inl ⟨rfl,hq⟩⟩⟩
end
theorem Q2L {w:World} {Z:SP} {fr:List Nat} {N K:Nat} {M:Int} {x y n cap:Nat} {A:Nat->Mv} {a0:Option Addr} (hs:Sep w Z.hl) (ok:Z.Ok fr N K M) (hM:M+n<1099511627776) (hx:x<4294967296) (hy:y<4294967296) (hn:n<=4611686018427387904) (AM:n<=cap) (BR:AsideM Z.hl n A a0 w) :
  Calls prog 19 #[.pointer (some ⟨Z.s,0,none⟩),.int .u32 x,.int .u32 y,.slice a0 n cap] w fun rv w'=>∃er:Int,rv=.returned (.int .i64 er)/\MoveR Z fr N K M x y n A w er w':=by
 have err:∀{e:Int},e≠0->J1J Z x y n A e->Calls prog 19 #[.pointer (some ⟨Z.s,0,none⟩),.int .u32 x,.int .u32 y,.slice a0 n cap] w (Told w (.int .i64 e))->Calls prog 19 #[.pointer (some ⟨Z.s,0,none⟩),.int .u32 x,.int .u32 y,.slice a0 n cap] w fun rv w'=>∃er:Int,rv=.returned (.int .i64 er)/\MoveR Z fr N K M x y n A w er w':=fun {e} he h k=>by
  refine k.mono ?_;rintro rv w' ⟨rfl,hb⟩;exact⟨e,rfl,.inl ⟨he,h,0,BackZ.of 0 hs ok hb⟩⟩
 cases Bh:pget Z.S.l 1 x with
 | none=>exact err (by decide) (.inl ⟨Bh,rfl⟩) (Q6Q (by decide) (Q0J hs ok.core hx 8 (.inl ⟨Bh,rfl⟩)))
 | some p1 =>
  by_cases A0:p1.kind=2
  ·have Sz:=Q0U hs ok.core hx Bh A0;have Mj:Calls prog 73 #[.pointer (some ⟨Z.s,0,none⟩),.int .u32 x] w fun r w'=>∃g:Nat,r=.returned (.tuple #[.agg #[.pointer (some ⟨g,0,none⟩),.int .u32 x,.int .i64 (p1.fac:Int)],.int .i64 0])/\Below w.heap.size w w':=Sz.mono fun r w' ⟨g,h1,h2,_⟩=>⟨g,h1,h2⟩
   cases A8:pget Z.S.l 1 y with
   | none=>exact err (by decide) (.inr ⟨p1,Bh,.inr ⟨A0,.inl ⟨A8,rfl⟩⟩⟩) (Q6R (g:=0) (by decide) Mj fun W hb=>Q0J (hs.grown hb).sep ok.core hy 8 (.inl ⟨A8,rfl⟩))
   | some p2 =>
    by_cases A2:p2.kind=2
    ·refine Z3W hn AM (A:=A) (V:=fitV Z x y A) (Q:=fun er W=>MoveR Z fr N K M x y n A w er W) (Sz.mono ?_);rintro rv w1 ⟨g1,rfl,Av,Pe⟩;have st1:=hs.grown Av;have Da:Below w1.heap.size w1 (w1.alloc (.cells #[.pointer (some ⟨g1,0,none⟩),.int .u32 x,.int .i64 (p1.fac:Int)] 155)):=(Below.refl _ _).alloc (J2h _) _;have st1b:=st1.sep.grown Da;have as1:AsideV Z.hl [.pointer (some ⟨g1,0,none⟩),.int .u32 x,.int .i64 (p1.fac:Int)] (some ⟨w1.heap.size,0,none⟩) (w1.alloc (.cells #[.pointer (some ⟨g1,0,none⟩),.int .u32 x,.int .i64 (p1.fac:Int)] 155)):=Q2K st1.sep _ _;refine⟨g1,(p1.fac:Int),rfl,(Q0U st1b.sep ok.core hy A8 A2).mono ?_⟩
     rintro rv w2 ⟨g2,rfl,Af,Jw⟩;have st2:=st1b.sep.grown Af;have Kl:Below w2.heap.size w2 (w2.alloc (.cells #[.pointer (some ⟨g2,0,none⟩),.int .u32 y,.int .i64 (p2.fac:Int)] 155)):=(Below.refl _ _).alloc (J2h _) _;have st2b:=st2.sep.grown Kl;have as2:AsideV Z.hl [.pointer (some ⟨g2,0,none⟩),.int .u32 y,.int .i64 (p2.fac:Int)] (some ⟨w2.heap.size,0,none⟩) (w2.alloc (.cells #[.pointer (some ⟨g2,0,none⟩),.int .u32 y,.int .i64 (p2.fac:Int)] 155)):=Q2K st2.sep _ _;have stall:=((st1.trans st1b).trans st2).trans st2b;refine⟨g2,(p2.fac:Int),rfl,_,_,Z6S ok hM hx hy Bh A0 A8 A2 hn cap g1 g2 w1.heap.size w2.heap.size a0,Z.S,Z.tb (y%256),LaidP.start ok _,fun _=>⟨rfl,rfl⟩,?_,?_⟩
     ·rw [Q1l];exact stall
     ·rw [Q1l];exact⟨((Pe.grown st1.sep Da).grown st1b.sep Af).grown st2.sep Kl,Jw.grown st2.sep Kl,(as1.step st2).step st2b,as2,BR.step stall⟩
    ·exact err (by decide) (.inr ⟨p1,Bh,.inr ⟨A0,.inr ⟨p2,A8,.inl ⟨A2,rfl⟩⟩⟩⟩) (Q6R (g:=0) (by decide) Mj fun W hb=>Q0J (hs.grown hb).sep ok.core hy 10 (.inr ⟨p2,A8,A2,rfl⟩))
  ·exact err (by decide) (.inr ⟨p1,Bh,.inl ⟨A0,rfl⟩⟩) (Q6Q (by decide) (Q0J hs ok.core hx 10 (.inr ⟨p1,Bh,A0,rfl⟩)))
theorem Z9j (Q:List (Nat×Nat)) (n:Nat):(Q.filter fun q=>decide (q.1<n+1)).length=(Q.filter fun q=>decide (q.1<n)).length+(Q.filter fun q=>decide (q.1=n)).length:=by
 induction Q with
 | nil=>rfl
 | cons q r ih =>
  simp only [J6s];by_cases h1:q.1<n
  ·rw [if_pos (by simp;omega),if_pos (by simpa using h1),if_neg (by simp;omega)];simp only [J2S];omega
  ·by_cases h2:q.1=n
   ·rw [if_pos (by simp;omega),if_neg (by simpa using h1),if_pos (by simpa using h2)];simp only [J2S];omega
   ·rw [if_neg (by simp;omega),if_neg (by simpa using h1),if_neg (by simpa using h2)];exact ih
theorem Q6S {α:Type} (f:Nat->Option α) (m i:Nat) (Q:List (Nat×Nat)) (h:∀s,s<m->f s≠none->(i,s)∈Q):((List.range m).filterMap f).length<=(Q.filter fun q=>decide (q.1=i)).length:=by
 have e:((List.range m).filterMap f).length=(((List.range m).filter fun s=>(f s).isSome).map fun s=>(i,s)).length:=by
  rw [J3Q];generalize List.range m=L
  induction L with
  | nil=>rfl
  | cons a r ih =>
   rw [J2u,J6s];cases f a with
   | none=>simpa using ih
   | some b=>simp [ih]
 rw [e];have AD:(((List.range m).filter fun s=>(f s).isSome).map fun s=>(i,s)).Nodup:=by
  refine J2M.2 ((J6b.filter _).imp fun Aa he=>Aa ?_);exact (Prod.mk.inj he).2
 refine AD.length_le_of_subset fun q hq=>?_
 obtain⟨s,hs,rfl⟩:=J2n.1 hq;obtain⟨h1,h2⟩:=J2B.1 hs;refine J2B.2 ⟨h s (J2x.1 h1) (fun h0=>by rw [h0] at h2;cases h2),by simp⟩
theorem Q5n (f:Nat->List Nat) (Q:List (Nat×Nat)):∀n,(∀i,i<n->(f i).length<=(Q.filter fun q=>decide (q.1=i)).length)->((List.range n).flatMap f).length<=(Q.filter fun q=>decide (q.1<n)).length
 | 0,_=>by simp
 | n+1,h=>by
  rw [J2s,J2P,J2R,Z9j];have h1:=Q5n f Q n fun i hi=>h i (by omega)
  have h2:=h n (by omega);simp only [J2E,J6j,J4n];omega
theorem Z0c {tb:Nat->TB} (Q:List (Nat×Nat)) (h:∀i s,i<256->s<256->(tb i).en s≠none->(i,s)∈Q):(Q4i tb).length<=Q.length:=by
 refine J2i (Q5n _ Q 256 fun i hi=>?_) (J4w _ _);refine Q6S _ 256 i Q fun s hs h0=>h i s hi hs fun e=>h0 ?_
 rw [e];rfl
theorem Z0d {tb:Nat->TB} (hf:∀i,i<256->(tb i).Full) (Q:List (Nat×Nat)) (h:∀i s,i<256->s<256->(tb i).en s≠none->(i,s/16)∈Q):(Q3k tb).length<=Q.length:=by
 refine J2i (Q5n _ Q 256 fun i hi=>?_) (J4w _ _);refine Q6S _ 16 i Q fun k hk h0=>?_
 obtain⟨s,h1,h2,h3⟩:=hf i hi k hk fun e=>h0 (by rw [if_pos e])
 rw [<- h2];exact h i s hi h1 h3
theorem Z9E (l:List Pl) (tb:Nat->TB) (id:Int):∀n,((List.range n).map fun i=>xcP tb id i l[i]?).sum<=256*(((List.range n).flatMap fun i=>(tb i).lvs).length:Int)+48*(((List.range n).flatMap fun i=>(tb i).nds).length:Int)
 | 0=>by simp
 | n+1=>by
  have ih:=Z9E l tb id n;rw [J2s,J5K,J5V,J2P,J2P,J2R,J2R];simp only [J2k,J4N,J5T,List.sum_nil,J2E,J6j,J4n];have h1:xcP tb id n l[n]?<=(tb n).cost:=by
   have hc:=(tb n).cost_nn;unfold xcP;split
   ·split
    ·omega
    ·exact hc
   ·exact hc
  unfold TB.cost at h1;omega
theorem Z6T (l:List Pl) (tb:Nat->TB) (id:Int):xcOf l tb id<=256*((Q3k tb).length:Int)+48*((Q4i tb).length:Int):=Z9E l tb id 256
theorem Z9k {P:PL} {fr:List Nat} (ok:P.Ok fr):P.d.ps.length<=fr.length+((List.range 8).map fun k=>(P.usedOf k).length).sum:=by
 rw [<- ok.pages.length_eq,J2R];have AD:=(ok.pages.nodup_iff).2 ok.d.nd;have DY:P.pages.Nodup:=(J3a.1 AD).2.1;have h1:P.pages.length<=(((List.range 8).flatMap P.usedOf).map fun a=>a/1024).length:=by
  refine DY.length_le_of_subset fun g hg=>?_
  obtain⟨k,a,ha,rfl⟩:=(Q5g ok g).1 hg;have:=Q1X ok ha;exact J2n.2 ⟨a,J2H.2 ⟨k,J2x.2 (by omega),ha⟩,rfl⟩
 rw [J3Q,List.length_flatMap] at h1;omega
theorem Z0e:∀l:List Pl,(Q2c l 8).length+(Q2c l 1).length+(Q2c l 2).length+(Q2c l 3).length+(Q2c l 4).length+(Q2c l 5).length<=(l.filter Pl.is).length
 | []=>by simp [Q2c]
 | p::r=>by
  have ih:=Z0e r;have step:∀k,(Q2c (p::r) k).length=(Q2c r k).length+if p.is=true/\p.kind=k then 1 else 0:=fun k=>by
   unfold Q2c;rw [J2u];by_cases h:p.is=true/\p.kind=k
   ·rw [if_pos h];have:atsF k p=some p.at_:=by unfold atsF;simp [h.1,h.2]
    rw [this];rfl
   ·rw [if_neg h];have:atsF k p=none:=by
     unfold atsF;rw [if_neg]
     simpa using h
    rw [this];rfl
  rw [step,step,step,step,step,step,J6s];by_cases hi:p.is=true
  ·rw [if_pos hi,J2S];simp only [hi,true_and];by_cases h8:p.kind=8
   ·simp [h8];omega
   ·by_cases h1:p.kind=1
    ·simp [h1];omega
    ·by_cases h2:p.kind=2
     ·simp [h2];omega
     ·by_cases h3:p.kind=3
      ·simp [h3];omega
      ·by_cases h4:p.kind=4
       ·simp [h4];omega
       ·by_cases h5:p.kind=5
        ·simp [h5];omega
        ·simp [h8,h1,h2,h3,h4,h5];omega
  ·rw [if_neg hi];simp only [hi]
   simpa using ih
theorem Z3X {S:CO} {fr:List Nat} {N K:Nat} (ok:S.Ok fr N K):S.P.d.ps.length<=(S.l.filter Pl.is).length+(S.P.usedOf 7).length+(S.P.usedOf 6).length:=by
 have h1:=Z9k ok.inv.mem.pool;have h2:=Z0e S.l;have hf:(Q2c S.l 8).length=fr.length:=by rw [ok.inv.mem.frs.length_eq,J3Q]
 have hk:∀k,1<=k->k<=5->(Q2c S.l k).length=(S.P.usedOf k).length:=fun k a b=>(ok.inv.mem.ats k a b).length_eq
 have h0:(S.P.usedOf 0).length=0:=by
  cases hu:S.P.usedOf 0 with
  | nil=>rfl
  | cons a r =>
   have:=Q1X ok.inv.mem.pool (k:=0) (a:=a) (by rw [hu];simp);omega
 have e:((List.range 8).map fun k=>(S.P.usedOf k).length).sum=(S.P.usedOf 0).length+((S.P.usedOf 1).length+((S.P.usedOf 2).length+((S.P.usedOf 3).length+((S.P.usedOf 4).length+((S.P.usedOf 5).length+((S.P.usedOf 6).length+((S.P.usedOf 7).length+0))))))):=rfl;have q1:=hk 1 (by omega) (by omega);have q2:=hk 2 (by omega) (by omega);have q3:=hk 3 (by omega) (by omega);have q4:=hk 4 (by omega) (by omega);have q5:=hk 5 (by omega) (by omega);omega
theorem J1K {Z:SP} {fr:List Nat} {N K:Nat} (ok:Z.S.Ok fr N K) (t:TPI Z.S Z.tb) {own:Int} {e:En Fa} (he:find Z.S.P.q.E own=some e) {i s:Nat} {er:Int} {o lv nd:Nat} (ho:(Z.S.l.filter Pl.is).length<=o) (hl:(Q3k Z.tb).length<=lv) (hn:(Q4i Z.tb).length<=nd) (hp:o+lv+nd+1<64)
  (hq:Q0y Z.S.l own+256*(lv:Int)+48*(nd:Int)+304<=e.q.limit-e.q.given):¬WhyL Z fr own i s er:=by
 have hc:=Z3X ok;have h7:=t.lvs.length_eq;have h6:=t.nds.length_eq;have OL:=ok.inv.mem.pool.top;have UI:64<=2 ^ Z.S.P.d.top:=J2i (by decide:64<=2 ^ 6) (J3v (by omega) OL);have EN:=ok.inv.tre.charged own e he;have hx:=Z6T Z.S.l Z.tb own;rw [t.xc] at EN;rintro (⟨_,e',AL,AA⟩|⟨_,Ar⟩|⟨a,P1,g,_,⟨_,e',AL,AA⟩|⟨_,Ar⟩⟩)
 ·rw [he] at AL;cases AL;unfold Q0v at AA;omega
 ·have:=Ar.page.len;omega
 ·obtain⟨e0,Ea,_,hE⟩:=g.q;rw [he] at Ea;cases Ea;rw [hE] at AL;have hf:=Q0i he {e.q with charged:=e.q.charged+((Q0c 6:Nat):Int)};rw [show ({Z.S.P.q with E:=upd Z.S.P.q.E own {e.q with charged:=e.q.charged+((Q0c 6:Nat):Int)}}:QT).E=upd Z.S.P.q.E own {e.q with charged:=e.q.charged+((Q0c 6:Nat):Int)} from rfl,hf] at AL;cases AL;unfold Q0v at AA;simp only [Q5j] at AA;omega
 ·have h1:=Ar.page.len;have h2:=(g.gotM ok.inv.mem.pool).few;rw [g.top] at h1;omega
def Z3Y (N:List (En Nd)) (x z:Int):Value:=match Z3G N x z with
 | none=>.tuple #[.agg #[.int .i64 0,.int .i64 0],.bool false]
 | some p=>.tuple #[.agg #[.int .i64 p.1,.int .i64 p.2],.bool true]
def parV (N:List (En Nd)) (id:Int):Int:=match find N id with
 | none=>0
 | some n=>n.q.par
theorem Z1g {w:World} {q:FO} (h:Sep w q.hl) (id:Int):Calls prog 87 #[.pointer (some ⟨q.f,0,none⟩),.int .i64 id] w fun r w'=>r=.returned (.int .i64 (parV q.N id))/\w=w':=by
 unfold parV;cases hf:find q.N id with
 | none=>exact Q9A h hf
 | some e=>exact Q9z h hf
theorem Z3Z {w:World} {q:FO} (h:Sep w q.hl) (id:Int):∃(a b:Int) (c:Bool),((find q.N id=none/\a=0/\b=0/\c=false)∨∃m,find q.N id=some m/\a=m.q.sp/\b=m.q.sl/\c=true)/\Calls prog 86 #[.pointer (some ⟨q.f,0,none⟩),.int .i64 id] w fun r w'=>r=.returned (.tuple #[.int .i64 a,.int .i64 b,.bool c])/\Below w.heap.size w w':=by
 cases hf:find q.N id with
 | none=>exact⟨0,0,false,.inl ⟨rfl,rfl,rfl,rfl⟩,(Q6z h hf).mono fun r w' ⟨h1,h2⟩=>⟨h1,h2 ▸ Below.refl _ _⟩⟩
 | some e=>exact⟨e.q.sp,e.q.sl,true,.inr ⟨e,rfl,rfl,rfl,rfl⟩,Q6A h hf⟩
theorem Z0f {w:World} {Z:SP} (hs:Sep w Z.hl) (ok:Z.F.Ok) {x z:Nat} (hx:x<4294967296) (hz:z<256) :
  Calls prog 22 #[.pointer (some ⟨Z.s,0,none⟩),.int .u32 x,.int .i64 z] w (Told w (Z3Y Z.F.N (x:Int) (z:Int))):=by
 have b1:Below w.heap.size w (w.alloc (.cells #[.int .i64 0,.int .i64 0] 46)):=(Below.refl _ _).alloc (J2h _) _;have s1:=(hs.grown b1).sep;have c1:=SP.c1 s1;have Q6:(w.alloc (.cells #[.int .i64 0,.int .i64 0] 46)).drew.cell? ⟨Z.s,1,none⟩=some (.pointer (some ⟨Z.F.f,0,none⟩)):=c1;have g1:(0:Int)<=(x:Int):=by omega
 have g2:(x:Int)<9223372036854775808:=by omega
 have g3:(0:Int)<=(z:Int):=by omega
 have g4:(z:Int)<9223372036854775808:=by omega
 have kf:=Q4R (SP.sF s1.drew) ok (sp:=(x:Int)) (sl:=(z:Int)) (Q3q (p:=((x:Int),(z:Int))) g1 g2 g3 g4);clear g1 g2 g3 g4;have kp:=Z1g (SP.sF s1.drew) (ownN Z.F.N (x:Int) (z:Int));obtain⟨a,b,c,Ay,ko⟩:=Z3Z (SP.sF s1.drew) (parV Z.F.N (ownN Z.F.N (x:Int) (z:Int)));have hv:Z3Y Z.F.N (x:Int) (z:Int)=.tuple #[.agg #[.int .i64 a,.int .i64 b],.bool c]:=by
  unfold Z3Y Z3G;unfold parV at Ay;cases hf:find Z.F.N (ownN Z.F.N (x:Int) (z:Int)) with
  | none =>
   rw [hf] at Ay;simp only at Ay;rcases Ay with ⟨_,rfl,rfl,rfl⟩|⟨m,hm,_⟩
   ·rfl
   ·rw [ok.n.zero] at hm;cases hm
  | some n =>
   rw [hf] at Ay;simp only at Ay ⊢;rcases Ay with ⟨h0,rfl,rfl,rfl⟩|⟨m,hm,rfl,rfl,rfl⟩
   ·rw [h0];rfl
   ·rw [hm];rfl
 rw [hv];have HO:Hid (∀w1,Below (w.alloc (.cells #[.int .i64 0,.int .i64 0] 46)).drew.heap.size (w.alloc (.cells #[.int .i64 0,.int .i64 0] 46)).drew w1->w1.cell? ⟨Z.s,1,none⟩=some (.pointer (some ⟨Z.F.f,0,none⟩))/\Cells w1 w.heap.size 46 [.int .i64 0,.int .i64 0]/\∀u v,Below w.heap.size w ((w1.setCell ⟨w.heap.size,0,none⟩ u).setCell ⟨w.heap.size,1,none⟩ v)):=fun w1 hb=>by
  have Al:Below (w.alloc (.cells #[.int .i64 0,.int .i64 0] 46)).heap.size (w.alloc (.cells #[.int .i64 0,.int .i64 0] 46)) w1:=((Below.refl _ _).drew).trans hb;have Lt:Below w.heap.size w w1:=Q0e Al;exact⟨SP.c1 (hs.grown Lt).sep,(Cells.new w 46 [.int .i64 0,.int .i64 0]).same (Al.block w.heap.size (by simp)),fun u v=>(Lt.setCell (J2h _) _).setCell (J2h _) _⟩
 generalize parV Z.F.N (ownN Z.F.N (x:Int) (z:Int))=pid at *
 generalize ownN Z.F.N (x:Int) (z:Int)=oid at *
 have Cj:(0:Int)<=(x:Int):=by omega
 have Dg:(x:Int)<4294967296:=by omega
 have MO:IntKind.i64.wrap (x:Int)=(x:Int):=Go.IntWalk.i64_in _ (by omega);clear hs ok hx hz Ay hv b1 s1;go_enter func22,ntmps22;go_wp2_with fail
 go_region_held3 (fun w'=>w'.cell? ⟨Z.s,1,none⟩=some (.pointer (some ⟨Z.F.f,0,none⟩))) (first|exact c1|exact Q6|exact Ah)
  (first|(go_at_call 88;refine kf.mono ?_;rintro r w' ⟨rfl,rfl⟩)|(go_at_call 87;refine kp.mono ?_;rintro r w' ⟨rfl,rfl⟩)|(go_at_call 86;refine ko.mono ?_;rintro r w1 ⟨rfl,hb⟩;obtain⟨Ah,Aj,hz⟩:=HO.out w1 hb;have HZ:=Q0a hz;have e0:=Aj.cell 0 _ rfl;have e1:=Aj.cell 1 _ rfl;have f0:=Aj.free 0;have f1:=Aj.free 1;have Ab:=Aj.lt;clear hz Aj hb HO))
 go_wp2_with fail;refine bodyPost_ret (v:=.tuple #[.agg #[.int .i64 a,.int .i64 b],.bool c]) (by simp [results,results22,go_sem,e0,e1]) rfl ⟨rfl,HZ.out _ _⟩
structure MkS (S:CO) (per:Nat) (limit ch:Int) (n N:Nat) (l:List Pl):Prop where
 ok:S.Ok [] N 0
 tpi:TPI S fun _=>TB.emp
 ts:S.ts=[]
 now:S.now=0
 per:S.period=per
 top:S.P.d.top=6
 ps:S.P.d.ps.length<=n
 q:∃b,S.P.q.E=[⟨0,b,⟨limit,ch,0,-1,0⟩⟩]
 l:S.l=l
def MkQ (c:Nat) (per:Nat) (limit ch:Int) (n N:Nat) (L:List Pl->Prop) (w0 wr:World):Prop:=∃S l,S.c=c/\L l/\MkS S per limit ch n N l/\Step [] S.hl w0 wr
theorem Z6U {a:Nat} {i:Nat} {p:Pl} (h:(newL a)[i]?=some p):¬(p.st=1/\p.kind=2):=by
 rcases Q2C (J4v h) with rfl|rfl
 ·simp
 ·simp [noPl]
theorem Z2n {S:CO} {limit:Int} {per:Nat} (f:Q9n S 6 limit per):MkS S per limit 64 1 1 (newL 64):=by
 refine⟨f.ok,TPI.emp f.ok (fun i p hi=>by rw [f.l] at hi;exact Z6U hi) (f.high 7 (by omega)) (f.high 6 (by omega)) (fun id=>by rw [f.xc]),f.ts,f.now,f.period,f.top,by rw [f.ps];simp,f.q,f.l⟩
theorem J0Q {w w1:World} {S:CO} {limit:Int} {per:Nat} (f:Q9n S 6 limit per) (st:Step [] (S.hl++[]) w w1):MkQ S.c per limit 64 1 1 (fun l=>l=newL 64) w w1:=
 ⟨S,newL 64,rfl,rfl,Z2n f,by simpa using st⟩
theorem J0R {S:CO} {per n N:Nat} {limit ch:Int} {l:List Pl} (m:MkS S per limit ch n N l) {k i:Nat} (hk:2<=k/\k<=5) (hc:((costK k:Nat):Int)<=limit-ch) (hn:n<64) (Bu:l[0]?=some ⟨1,64,0,1,0,0⟩) (hi:Fst l i (noPl 0)) {w w':World} {r:Ending} (h:MakeR S [] 0 ((k:Nat):Int) 0 w r w') :
  ∃a x S',r=two i 0/\S'.c=S.c/\MkS S' per limit (ch+((costK k:Nat):Int)) (n+1) (N+1) (l.set i ⟨k,a,0,1,0,x⟩)/\Step S.hl S'.hl w w':=by
 obtain⟨b,hq⟩:=m.q;have Io:find S.P.q.E 0=some ⟨0,b,⟨limit,ch,0,-1,0⟩⟩:=by rw [hq];rfl
 have C1:i<256:=by
  have:=(J2y.1 hi.1).1;have h2:=m.ok.inv.len;rw [m.l] at h2;omega
 have DY:pget S.l 1 0=some ⟨1,64,0,1,0,0⟩:=by rw [m.l];exact pget_some.2 ⟨Bu,rfl,rfl⟩
 obtain⟨a,x,P',fr',rfl,hm,st⟩:=h.able (f:=⟨1,64,0,1,0,0⟩) DY (e:=⟨0,b,⟨limit,ch,0,-1,0⟩⟩) (i:=i) (p:=noPl 0) ⟨rfl,.inr ⟨by omega,hk.2⟩,Io,by show _<=limit-(ch+0);omega,by rw [m.top];have:=m.ps;show _<64;omega,by rw [m.l];exact hi,fun h=>by omega⟩;have Oe:S.l[i]?=some (noPl 0):=by rw [m.l];exact hi.1
 have hf:=hm.fac (by omega);have CJ:fr'=[]:=by
  have h1:=(hm.ok m.ok Oe).inv.mem.frs.length_eq;have e:Q2c (S.made ⟨1,64,0,1,0,0⟩ k a x i (noPl 0) P').l 8=Q2c S.l 8:=by
   have hp:=Q1D (l:=S.l) (i:=i) (p:=noPl 0) (q:=⟨k,a,0,1,(noPl 0).age,x⟩) (atsF 8) Oe (by unfold atsF;simp [Pl.is,noPl];omega);have h0:(Q2c S.l 8).length=0:=by rw [m.ok.inv.mem.frs.length_eq];rfl
   have h2:=hp.length_eq;have e1:Q2c S.l 8=[]:=J4g.1 h0;show (S.l.set i ⟨k,a,0,1,(noPl 0).age,x⟩).filterMap (atsF 8)=_;rw [e1];refine J4g.1 ?_;rw [h2];exact h0
  rw [e,m.ok.inv.mem.frs.length_eq] at h1;simp at h1;exact J4g.1 h1.symm
 subst CJ;refine⟨a,x,_,by rw [show nm i (noPl 0)=i by unfold nm noPl;simp],?_,⟨hm.ok m.ok Oe,m.tpi.made m.ok hm Oe rfl,m.ts,m.now,m.per,by show P'.d.top=6;rw [hm.same.top,m.top],by show P'.d.ps.length<=_;have:=hm.few;have:=m.ps;omega,⟨b,?_⟩,?_⟩,st⟩
 ·rfl
 ·show P'.q.E=_;rw [hf,hq];rfl
 ·show S.l.set i _=_;rw [m.l];rfl
theorem Z1h {c per n N:Nat} {limit ch:Int} {L:List Pl->Prop} {w0 wr:World} (h:MkQ c per limit ch n N L w0 wr) (k i:Nat) (hk:2<=k/\k<=5) (hc:((costK k:Nat):Int)<=limit-ch) (hn:n<64) (hN:N+1<1048576) (hL:∀l,L l->l[0]?=some ⟨1,64,0,1,0,0⟩/\Fst l i (noPl 0)) :
  Calls prog 16 #[.pointer (some ⟨c,0,none⟩),.int .u32 0,.int .i64 ((k:Nat):Int),.int .i64 0] wr fun r w'=>r=.returned (.tuple #[.int .u32 i,.int .i64 0])/\MkQ c per limit (ch+((costK k:Nat):Int)) (n+1) (N+1) (fun l'=>∃l a x,L l/\l'=l.set i ⟨k,a,0,1,0,x⟩) w0 w':=by
 obtain⟨S,l,rfl,hl,m,st⟩:=h;have:=Q6o st.sep m.ok (by omega) (x:=0) (by omega) ((k:Nat):Int) 0;refine this.mono ?_;intro r w' hr;obtain⟨a,x,S',rfl,ec,m',st'⟩:=J0R m hk hc hn (hL l hl).1 (hL l hl).2 hr;exact⟨rfl,S',_,ec,⟨l,a,x,hl,rfl⟩,m',st.trans st'⟩
structure MkZ (Z:SP) (per:Nat) (limit:Int) (N:Nat) (M:Int) (l:List Pl):Prop where
 ok:Z.Ok [] N 0 M
 ts:Z.S.ts=[]
 now:Z.S.now=0
 per:Z.S.period=per
 q:∃b ch,Z.S.P.q.E=[⟨0,b,⟨limit,ch,0,-1,0⟩⟩]
 l:Z.S.l=l
theorem J0S {Z:SP} {S:CO} {per n N:Nat} {limit ch:Int} {l:List Pl} (m:MkS S per limit ch n N l) (h:Z.New S fun _=>TB.emp):MkZ Z per limit N 0 l/\Z.av=⟨fun _ _=>none,[]⟩/\Z.F.next=0:=by
 obtain⟨b,hq⟩:=m.q;refine⟨⟨h.ok m.ok m.tpi fun i _=>TB.emp_nil,by rw [h.S];exact m.ts,by rw [h.S];exact m.now,by rw [h.S];exact m.per,⟨b,ch,by rw [h.S];exact hq⟩,by rw [h.S];exact m.l⟩,?_,h.F.next⟩;unfold SP.av avOf;rw [h.tb,h.F.N];congr 1;funext x s;unfold Q0f;split
 ·split
  ·rfl
  ·rfl
 ·rfl
theorem MkZ.same {Z Z':SP} {per N:Nat} {limit:Int} {M M':Int} {l:List Pl} (m:MkZ Z per limit N M l) (ok:Z'.Ok [] N 0 M') (s:SameN Z Z'):MkZ Z' per limit N M' l:=by
 obtain⟨b,ch,hq⟩:=m.q;refine⟨ok,by rw [s.alt.ts];exact m.ts,by rw [s.alt.now];exact m.now,by rw [s.alt.per];exact m.per,?_,by rw [s.alt.l];exact m.l⟩;obtain⟨e',AL,C6⟩:=s.alt.acc 0 ⟨0,b,⟨limit,ch,0,-1,0⟩⟩ (by rw [hq];rfl);have hid:=s.alt.ids;rw [hq] at hid;have h2:∃e,Z'.S.P.q.E=[e]:=by
  cases hE:Z'.S.P.q.E with
  | nil=>rw [hE] at hid;simp at hid
  | cons e r =>
   rw [hE] at hid;simp at hid;exact⟨e,by rw [hid.2]⟩
 obtain⟨e,hE⟩:=h2;rw [hE] at AL hid;have KC:e.id=0:=by simpa using hid
 have:e=e':=by
  unfold find at AL;rw [if_pos KC.symm] at AL;exact J3e AL
 subst this;refine⟨e.b,e.q.charged,?_⟩;rw [hE];obtain⟨i,b2,q⟩:=e;simp only at KC C6 ⊢;subst KC;rw [C6]
theorem SP.Ok.entries {Z:SP} {fr:List Nat} {N K:Nat} {M:Int} (ok:Z.Ok fr N K M) {i s:Nat} (hi:i<256) (hs:s<256) (h:(Z.tb i).en s≠none):∃x c,x%256=i/\Z.av.en x s=some c:=by
 obtain⟨p,hp⟩:∃p,Z.S.l[i]?=some p:=⟨_,J4y (by rw [ok.core.inv.len];exact hi)⟩
 by_cases hk:p.st=1/\p.kind=2
 ·cases he:(Z.tb i).en s with
  | none=>exact absurd he h
  | some e =>
   refine⟨nm i p,(e.h,e.r),Q1y hi p,Q9B ?_⟩;rw [Q0h (p:=p) (pget_some.2 ⟨by rw [Q1y hi];exact hp,by rw [Q1y hi],hk.1⟩) hk.2 hs,Q1y hi];exact he
 ·exact absurd ((ok.tpi.nil i p hp hk).2 s hs) h
theorem MkZ.room {Z:SP} {per N:Nat} {limit:Int} {M:Int} {l:List Pl} (m:MkZ Z per limit N M l) (E Q:List (Nat×Nat)) (hE:∀x s c,Z.av.en x s=some c->(x%256,s)∈E) (hQ:∀x s,(x,s)∈E->(x,s/16)∈Q) {o:Nat} (ho:(l.filter Pl.is).length<=o) (hp:o+Q.length+E.length+1<64) {cs:Int} (BB:Q0y l 0=cs)
  (hq:cs+256*(Q.length:Int)+48*(E.length:Int)+304<=limit) {i s:Nat} {er:Int}:¬WhyL Z [] 0 i s er:=by
 obtain⟨b,ch,hb⟩:=m.q;have Io:find Z.S.P.q.E 0=some ⟨0,b,⟨limit,ch,0,-1,0⟩⟩:=by rw [hb];rfl
 have ent:∀i s,i<256->s<256->(Z.tb i).en s≠none->(i,s)∈E:=fun i s hi hs h=>by
  obtain⟨x,c,hx,hc⟩:=m.ok.entries hi hs h;rw [<- hx];exact hE x s c hc
 refine J1K m.ok.core m.ok.tpi Io (o:=o) (lv:=Q.length) (nd:=E.length) (by rw [m.l];exact ho) (Z0d m.ok.tpi.full Q fun i s hi hs h=>hQ i s (ent i s hi hs h)) (Z0c E ent) hp ?_;rw [m.l,BB];show _<=limit-0;omega
def Z4a (o:Option (Nat×Nat)):Value:=match o with
 | none=>.tuple #[.agg #[.int .u32 0,.int .i64 0],.int .i64 6]
 | some c=>.tuple #[.agg #[.int .u32 (c.1:Int),.int .i64 (c.2:Int)],.int .i64 0]
section
variable {Z:SP} {fr:List Nat} {N K:Nat} {M:Int} {w w':World}
theorem RootR.fine {x h:Nat} {z r er:Int} (R:RootR Z fr N K M x z h r w er w') {p q:Pl} (hp:pget Z.S.l 1 x=some p) (hk:p.kind=2) (hz:0<=z/\z<256) (hq:pget Z.S.l 1 h=some q) (hr:0<r/\r<=15) (hm:q.kind=8↔128<=z) (h0:Z.av.en x z.toNat=none) (hw:∀er,¬WhyL Z fr p.fac (x%256) z.toNat er) :
  er=0/\J0P Z fr N K M x z.toNat h r.toNat 0 w w':=by
 have Dy:=av_none.1 h0;rcases R with ⟨_,he,_⟩|⟨s,rn,p',q',rfl,rfl,hs,_,_,BI,_,_,_,_,hc⟩
 ·exfalso;rcases he with ⟨h1,_⟩|⟨p',h1,he⟩
  ·rw [hp] at h1;cases h1
  ·rw [hp] at h1;cases h1;rcases he with ⟨h2,_⟩|⟨_,he⟩
   ·exact h2 hk
   ·rcases he with ⟨h3,_⟩|⟨_,he⟩
    ·exact h3 hz
    ·rcases he with ⟨h4,_⟩|⟨q',h4,he⟩
     ·rw [hq] at h4;cases h4
     ·rw [hq] at h4;cases h4;rcases he with ⟨h5,_⟩|⟨_,h5,_⟩
      ·exact h5 ⟨hr,hm⟩
      ·exact h5 Dy
 ·rw [hp] at BI;cases BI;rw [J3m,J3m] at *
  rcases hc with ⟨h1,h2⟩|⟨_,h2,_⟩
  ·exact⟨h1,h2⟩
  ·exact absurd h2 (hw er)
theorem MoveR.fine {x y n:Nat} {A:Nat->Mv} {er:Int} (R:MoveR Z fr N K M x y n A w er w') {p1 p2:Pl} (Bh:pget Z.S.l 1 x=some p1) (A0:p1.kind=2) (A8:pget Z.S.l 1 y=some p2) (A2:p2.kind=2) (Am:AllFit Z.av.en x y n A) (hw:∀er,¬WhyM Z fr N K x y n p2.fac A er) :
  er=0/\MovedZ Z fr N K M x y n A w w':=by
 rcases R with ⟨Aa,he,_⟩|⟨q1,q2,h1,_,h2,_,_,hc⟩
 ·exfalso;rcases he with ⟨h1,_⟩|⟨q1,h1,he⟩
  ·rw [Bh] at h1;cases h1
  ·rw [Bh] at h1;cases h1;rcases he with ⟨h2,_⟩|⟨_,he⟩
   ·exact h2 A0
   ·rcases he with ⟨h3,_⟩|⟨q2,h3,he⟩
    ·rw [A8] at h3;cases h3
    ·rw [A8] at h3;cases h3;rcases he with ⟨h4,_⟩|⟨_,i,hi,_,hv⟩
     ·exact h4 A2
     ·have:=(Z2m (N:=Z.F.N) (tb:=Z.tb) Bh A0 A8 A2 (m:=A i) (cl:=Q1x A i (A i))).2 (Am i hi);unfold fitV at hv;rw [this] at hv;exact Aa hv.symm
 ·rw [Bh] at h1;cases h1;rw [A8] at h2;cases h2;rcases hc with ⟨h1,h2⟩|⟨_,h2,_⟩
  ·exact⟨h1,h2⟩
  ·exact absurd h2 (hw er)
theorem Q7S {en:Nat->Nat->Option (Nat×Nat)} {x y:Nat} {m:Mv} (h:FitM en x y m):AllFit en x y 1 (fun _=>m):=fun i hi=>by
 obtain rfl:i=0:=by omega
 exact⟨h,rfl⟩
theorem Z2o {x y:Nat} {m:Mv} {own:Int} {er:Int} (h:WhyM Z fr N K x y 1 own (fun _=>m) er):WhyL Z fr own (y%256) m.dst.toNat er:=by
 obtain⟨k,S',t',hk,_,h0,hw⟩:=h;obtain⟨rfl,rfl⟩:=h0 (by omega);rw [Q1l] at hw;exact hw
theorem MovedZ.one {x y:Nat} {m:Mv} (h:MovedZ Z fr N K M x y 1 (fun _=>m) w w') (hg:m.g=false):∃(Z':SP) (c:Nat×Nat) (b:Nat),Z.av.en x m.src.toNat=some c/\Z'.av=⟨setA Z.av.en y m.dst.toNat (some (c.1,c.2&&&m.r.toNat)),addN Z.av.N (ownN Z.av.N (x:Int) m.src) (Z.F.next+1) b (y:Int) m.dst⟩/\Z'.Ok fr N K (M+1)/\SameN Z Z'/\Z'.F.next=Z.F.next+1/\Step Z.hl Z'.hl w w':=by
 obtain⟨a,Z',h1,h2,h3,h4,h5,h6⟩:=h;cases h1 with
 | succ k a0 c b h1 hc hn =>
  cases h1
  have e2:Z'.av=⟨setA Z.av.en y m.dst.toNat (some (c.1,c.2&&&m.r.toNat)),addN Z.av.N (ownN Z.av.N (x:Int) m.src) (Z.F.next+1) b (y:Int) m.dst⟩:=by
   generalize hz:Z'.av=az at h2;cases h2 with
   | skip k a' h2 _=>cases h2;simp
   | lift k a' a'' h2 Gx _=>rw [hg] at Gx;cases Gx
  exact⟨Z',c,b,hc,e2,h3,h4,h5,h6⟩
theorem MovedZ.grant {x y:Nat} {m:Mv} (h:MovedZ Z fr N K M x y 1 (fun _=>m) w w') (hg:m.g=true):∃(Z':SP) (c:Nat×Nat) (b:Nat) (a:AV),Z.av.en x m.src.toNat=some c/\Z.av.en y m.dst.toNat=none/\a=⟨setA Z.av.en y m.dst.toNat (some (c.1,c.2&&&m.r.toNat)),addN Z.av.N (ownN Z.av.N (x:Int) m.src) (Z.F.next+1) b (y:Int) m.dst⟩/\weak1 15 a (ownN a.N (x:Int) m.src)=(Z'.av,true)/\Z'.Ok fr N K (M+1)/\SameN Z Z'/\Z'.F.next=Z.F.next+1/\Step Z.hl Z'.hl w w':=by
 obtain⟨a,Z',h1,h2,h3,h4,h5,h6⟩:=h;cases h1 with
 | succ k a0 c b h1 hc hn =>
  cases h1
  refine⟨Z',c,b,⟨setA Z.av.en y m.dst.toNat (some (c.1,c.2&&&m.r.toNat)),addN Z.av.N (ownN Z.av.N (x:Int) m.src) (Z.F.next+1) b (y:Int) m.dst⟩,hc,hn,rfl,?_,h3,h4,h5,h6⟩;generalize hz:Z'.av=az at h2;cases h2 with
  | skip k a' h2 Gx=>rw [hg] at Gx;cases Gx
  | lift k a' a'' h2 Gx hw =>
   cases h2
   simpa using hw
theorem RevR.fine {x:Nat} {z mask:Int} {self:Bool} {r:Ending} (R:RevR Z fr N K M x z mask self w r w') {p:Pl} (hp:pget Z.S.l 1 x=some p) (hk:p.kind=2) (hz:0<=z/\z<256) (hm:0<mask/\mask<=15) {c:Nat×Nat} (hc:Z.av.en x z.toNat=some c) :
  ∃n∈Z.F.N,n.q.sp=(x:Int)/\n.q.sl=z/\r=.returned (.tuple #[.int .i64 ((Q0M mask.toNat Z.av (revL Z.F n.id self)).2:Nat),.int .i64 0])/\∃Z',Z'.Ok fr N K M/\Z'.av=(Q0M mask.toNat Z.av (revL Z.F n.id self)).1/\SameZ Z Z'/\Step Z.hl Z'.hl w w':=by
 obtain⟨e,he,_⟩:=Q3r hc;rcases R with ⟨er,_,_,hc⟩|⟨s,m,n,en,rfl,rfl,_,_,_,_,hn,h1,h2,hr,hw⟩
 ·exfalso;rcases hc with ⟨h1,_⟩|⟨p',h1,hc⟩
  ·rw [hp] at h1;cases h1
  ·rw [hp] at h1;cases h1;rcases hc with ⟨h2,_⟩|⟨_,h2,_⟩|⟨_,h2,h3,_⟩|⟨_,_,_,h3,_⟩
   ·exact h2 hk
   ·exact h2 hz
   ·exact h3 hm
   ·rw [he] at h3;cases h3
 ·rw [J3m];exact⟨n,hn,h1,h2,hr,hw⟩
theorem Z2p {x:Nat} {z:Int} {p:Pl} (hp:pget Z.S.l 1 x=some p) (hk:p.kind=2) (hz:0<=z/\z<256):Q5m Z.S.l Z.tb x z=Z4a (Z.av.en x z.toNat):=by
 unfold Q5m;rw [hp];simp only;rw [if_pos hk,if_pos hz];show _=Z4a ((Q0f Z.S.l Z.tb x z.toNat).map Ent.c);cases Q0f Z.S.l Z.tb x z.toNat <;> rfl
theorem Q5o {H:HL} (hs:Sep w H) (m:Mv) (hm:m.Wf):AsideM H 1 (fun _=>m) (some ⟨w.heap.size,0,none⟩) (w.alloc (.cells #[.int .i64 m.src,.int .i64 m.dst,.int .i64 m.r,.bool m.g] 39)):=by
 refine⟨fun j hj=>⟨w.heap.size,0,rfl,by simp,fun i v hv=>?_,hm⟩,fun a _ ha hk=>?_⟩
 ·obtain rfl:j=0:=by omega
  have:=(Cells.new w 39 m.cells).cell i v hv;have e:0+0*4+i=i:=by omega
  rw [e];exact this
 ·cases ha
  have:=hs.lt hk;simp at this
end
end Go.Proofs.YtlakjlmaboioiaaGreatDoor
