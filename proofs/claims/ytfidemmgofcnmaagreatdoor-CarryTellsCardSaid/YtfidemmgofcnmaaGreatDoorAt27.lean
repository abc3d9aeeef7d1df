/- What the laws of spaces share is proved. No condition. Part of a proof. -/
import Derived.Test.YtfidemmgofcnmaaGreatDoorAt26
set_option maxHeartbeats 16000000
set_option maxRecDepth 100000
set_option linter.unusedVariables false
namespace Go.Proofs.YtfidemmgofcnmaaGreatDoor
open Go.RowKit Go.Proofs.Tryz
structure J0p(Z Z':SP):Prop where
 s:Z'.s=Z.s
 f:Z'.F.f=Z.F.f
 c:Z'.S.c=Z.S.c
 per:Z'.S.period=Z.S.period
 same:SameP Z.S.P Z'.S.P
 root:pget Z'.S.l 1 0=pget Z.S.l 1 0
theorem SameN.gone{Z Z':SP}(h:SameN Z Z'):J0p Z Z':=⟨h.s,h.f,h.alt.c,h.alt.per,h.alt.same,by rw[h.alt.l]⟩
theorem Z5W{l l':List Pl}(h:l'[0]?=l[0]?):pget l' 1 0=pget l 1 0:=by
 unfold pget;rw[show 0%256=0 from rfl,h]
theorem Tried.alt{S:CO}{fr:List Nat}{P':PL}(h:Tried S.P fr S.l P')(own:Int):Alt S (S.setP P') own:=
 ⟨rfl,rfl,rfl,rfl,rfl,rfl,rfl,rfl,h.same,by show P'.q.next=_;rw[h.q],fun id e he=>⟨e,by show find P'.q.E id=_;rw[h.q];exact he,rfl,fun _=>rfl⟩,by show P'.q.E.map En.id=_;rw[h.q],fun r hr AD _=>h.mem r hr AD⟩
theorem MakeR.cases{S:CO}{fr:List Nat}{N K:Nat}(ok:S.Ok fr N K){y:Nat}{k lim:Int}{w w':World}{r:Ending}(m:MakeR S fr y k lim w r w') :
  (∃(er:Int) (P':PL),er≠0/\r=two 0 er/\Tried S.P fr S.l P'/\Step S.hl (S.setP P').hl w w') ∨
  (∃(f:Pl) (n:Nat) (e:En Fa) (i:Nat) (q:Pl) (a v:Nat) (P':PL) (fr':List Nat),pget S.l 1 y=some f/\f.kind=1/\k=(n:Int)/\(n=8∨1<=n/\n<=5)/\find S.P.q.E f.own=some e/\S.l[i]?=some q/\q.st=0/\r=two (nm i q) 0/\MadeOk S fr f e n a lim v i q P' fr'/\Step S.hl (S.made f n a v i q P').hl w w'):=by
 have same:∀er:Int,er≠0->r=two 0 er->Step S.hl S.hl w w'->(∃(er:Int) (P':PL),er≠0/\r=two 0 er/\Tried S.P fr S.l P'/\Step S.hl (S.setP P').hl w w'):=fun er h1 h2 h3=>⟨er,S.P,h1,h2,Tried.refl ok.inv.mem.pool _,h3⟩
 rcases m with ⟨_,rfl,st⟩|⟨f,hf,⟨_,rfl,st⟩|⟨_,_,rfl,st⟩|⟨n,e,hn,hk,Ge,_,he,hm⟩⟩
 ·exact .inl (same 8 (by decide) rfl st)
 ·exact .inl (same 10 (by decide) rfl st)
 ·exact .inl (same 1 (by decide) rfl st)
 ·rcases hm with ⟨_,rfl,st⟩|⟨_,_,rfl,st⟩|⟨_,er,P',Ci,tr,rfl,st⟩|⟨i,q,a,v,P',fr',hi,hq,_,_,rfl,mk,st⟩
  ·exact .inl (same 5 (by decide) rfl st)
  ·exact .inl (same 4 (by decide) rfl st)
  ·refine .inl ⟨er,P',?_,rfl,tr,st⟩;rcases Ci with ⟨rfl,_⟩|⟨rfl,_⟩ <;> decide
  ·exact .inr ⟨f,n,e,i,q,a,v,P',fr',hf,hk,hn,Ge,he,hi,hq,rfl,mk,st⟩
theorem Q4l{Z Z1:SP}{g x f B:Nat}{w:World}(es:Z1.s=Z.s)(ec:Z1.S.c=Z.S.c)(ef:Z1.F.f=Z.F.f)(sep:Sep w Z1.hl)(bx:AsideV Z1.hl [.pointer (some ⟨g,0,none⟩),.int .u32 x,.int .i64 f] (some ⟨B,0,none⟩) w):Z5t Z g x f B w:=by
 have c0:=SP.c0 sep;have c1:=SP.c1 sep;rw[es,ec] at c0;rw[es,ef] at c1;exact⟨c0,c1,bx.at 0 _ rfl,bx.at 1 _ rfl,bx.at 2 _ rfl⟩
def MkR(Z:SP)(fr:List Nat)(N K:Nat)(M:Int)(x:Nat)(z k:Int)(w:World)(hh:Nat)(er:Int)(w':World):Prop:=
 (er≠0/\hh=0/\∃own,BackZ Z fr N K x own w w') ∨
 (er=0/\∃(Z':SP) (fr':List Nat) (s i:Nat) (q q':Pl),z=(s:Int)/\s<256/\Z.S.l[i]?=some q/\q.st=0/\hh=nm i q/\(q'.kind:Int)=k/\q'.st=1/\q'.age=q.age/\Z'.Ok fr' (N+1) K (M+1)/\J0p Z Z'/\Z'.S.l=Z.S.l.set i q'/\Z'.av.en=setA Z.av.en x s (some (hh,15))/\Step Z.hl Z'.hl w w')
section
variable {Z:SP} {fr:List Nat} {N K:Nat} {M:Int}
theorem Z5X(ok:Z.Ok fr N K M){x s:Nat}{p:Pl}(hp:pget Z.S.l 1 x=some p)(hk:p.kind=2)(hs:s<256)(h0:(Z.tb (x%256)).en s=none){S1 S2 S3:CO}{t1 t3:TB}{e1:Ent}{own:Int}(T1:TurnP Z.S fr N K Z.tb own (x%256) s (some e1) S1 t1)(al:Alt S1 S2 own)
  (T3:TurnP S2 fr N K (updT Z.tb (x%256) t1) own (x%256) s none S3 t3) {w w':World} (st:Step Z.hl (Z.setS S3 (updT Z.tb (x%256) t3)).hl w w'):BackZ Z fr N K x own w w':=by
 have hi:=(pget_some.1 hp).1;have h1:=(pget_some.1 hp).2.2;have al3:=(T1.alt.trans al).trans T3.alt;have Bz:∀q,t3.en q=(Z.tb (x%256)).en q:=fun q=>by
  rw[T3.en,updT_same,T1.en];split
  ·rename_i e;rw[e,h0]
  ·rfl
 have Ke:=T3.tpi;have lf1:∀q,q<16->(Z.tb (x%256)).lf q≠0->t1.lf q=(Z.tb (x%256)).lf q:=
  LaidP.lf_keep (own:=own) (S1:=Z.S) (t1:=Z.tb (x%256)) (J4D _ (by omega)) (ok.tpi.full _ (J4D _ (by omega))) hi h1 hk (by rw[Q0Z];exact T1.tpi) T1.alt.l
   (fun q hq=>by
    rw[T1.en];split
    ·exact Option.some_ne_none _
    ·exact hq) (fun _ _ _=>rfl) (by rw[Q0Z];exact T1.lf)
 have lf3:∀q,q<16->(Z.tb (x%256)).lf q≠0->t3.lf q=(Z.tb (x%256)).lf q:=
  LaidP.lf_keep (own:=own) (S1:=Z.S) (J4D _ (by omega)) (ok.tpi.full _ (J4D _ (by omega))) hi h1 hk Ke al3.l (fun q hq=>by rw[Bz];exact hq) lf1 T3.lf
 rw[Q0U] at Ke;refine⟨S3,t3,T3.ok,Ke,al3,fun q hq=>?_,Bz,st⟩;by_cases hz:(Z.tb (x%256)).lf q=0
 ·rw[hz];refine Classical.byContradiction fun Ac=>?_
  have Ev:=Ke.full (x%256) (J4D _ (by omega));rw[updT_same] at Ev;obtain⟨r,hr,Tt,S9⟩:=Ev q hq Ac;rw[Bz r] at S9;exact S9 ((ok.tpi.tin (x%256) p hi h1 hk).hole r hr (by rw[Tt];exact hz))
 ·exact lf3 q hq hz
theorem Z5Y{w w5:World}(ok:Z.Ok fr N K M)(hN:N+1<1048576)(hM:M+1<1099511627776){x y s g B nd:Nat}{p:Pl}(hx:x<4294967296)(hy:y<4294967296)(hp:pget Z.S.l 1 x=some p)(hk:p.kind=2)(hs:s<256)(h0:Q0g Z.S.l Z.tb x s=none)(k lim:Int)(Pa:k=8↔128<=s)
  {S1:CO} {t1:TB} (T1:TurnP Z.S fr N K Z.tb (p.fac:Int) (x%256) s (some ⟨0,15,nd⟩) S1 t1) (st:Step Z.hl (Z.setS S1 (updT Z.tb (x%256) t1)).hl w w5) (hg:TblZ (Z.setS S1 (updT Z.tb (x%256) t1)) p g w5)
  (bx:AsideV (Z.setS S1 (updT Z.tb (x%256) t1)).hl [.pointer (some ⟨g,0,none⟩),.int .u32 x,.int .i64 (p.fac:Int)] (some ⟨B,0,none⟩) w5) :
  Z1e Z g x p.fac B y (s:Int) k lim (fun hh er w'=>MkR Z fr N K M x (s:Int) k w hh er w') w5:=by
 have hi:=(pget_some.1 hp).1;have Aq:=(pget_some.1 hp).2.2;have Dk:(Z.tb (x%256)).en s=none:=by rw[<- Q0h hp hk hs];exact h0
 have Dt:=T1.alt.l;have DO:(updT Z.tb (x%256) t1 (x%256)).en s=some ⟨0,15,nd⟩:=by rw[updT_same,T1.en,if_pos rfl]
 have km:=Q8A (S:=S1) (SP.sS (Z:=Z.setS S1 (updT Z.tb (x%256) t1)) st.sep) T1.ok hN hy k lim;rw[T1.alt.c] at km;refine km.mono ?_;rintro rv w6 hm;rcases hm.cases T1.ok with ⟨er,P',Ac,rfl,tr,st2⟩|⟨f,n,e,i,q,a,v,P',fr',hf,Dv,rfl,hn,he,Js,hq,rfl,mk,st2⟩
 ·have al2:=tr.alt (S:=S1) (p.fac:Int);have AG:Step (Z.setS S1 (updT Z.tb (x%256) t1)).hl (Z.setS (S1.setP P') (updT Z.tb (x%256) t1)).hl w5 w6:=SP.stepS st.sep (S1.setP P') (updT Z.tb (x%256) t1) rfl st2;have bx2:=bx.step AG;have Bw:TblZ (Z.setS (S1.setP P') (updT Z.tb (x%256) t1)) p g w6:=hg.step AG tr.same.p;refine⟨0,er,rfl,Q4l (Z1:=Z.setS (S1.setP P') (updT Z.tb (x%256) t1)) rfl T1.alt.c rfl AG.sep bx2,.inl ⟨Ac,?_⟩⟩;refine(Q4f (Z:=Z.setS (S1.setP P') (updT Z.tb (x%256) t1)) (x:=x) AG.sep (T1.ok.tried tr) (T1.tpi.tried T1.ok tr) (i:=x%256) (by show S1.l[x%256]?=_;rw[Dt];exact hi) Aq hk hs DO Bw).mono ?_
  rintro rv w7⟨rfl,S3,t3,T3,st3⟩;refine⟨rfl,.inl ⟨Ac,rfl,_,Z5X ok hp hk hs Dk T1 al2 T3 ?_⟩⟩;have h3:=(st.trans AG).trans st3;have e:((Z.setS (S1.setP P') (updT Z.tb (x%256) t1)).setS S3 (updT (updT Z.tb (x%256) t1) (x%256) t3))=Z.setS S3 (updT Z.tb (x%256) t3):=by rw[Q0U];rfl
  have h4:Step Z.hl ((Z.setS (S1.setP P') (updT Z.tb (x%256) t1)).setS S3 (updT (updT Z.tb (x%256) t1) (x%256) t3)).hl w w7:=h3
  rwa [e] at h4
 ·have ok2:=mk.ok T1.ok Js;have tp2:=T1.tpi.made T1.ok mk Js hq;have wn2:=mk.went T1.ok Js hq;have Ap:=Q1w T1.ok.inv.len Js;have AG:Step (Z.setS S1 (updT Z.tb (x%256) t1)).hl (Z.setS (S1.made f n a v i q P') (updT Z.tb (x%256) t1)).hl w5 w6:=SP.stepS st.sep (S1.made f n a v i q P') (updT Z.tb (x%256) t1) rfl st2;have bx2:=bx.step AG;have Bw:TblZ (Z.setS (S1.made f n a v i q P') (updT Z.tb (x%256) t1)) p g w6:=hg.step AG wn2.same.p;have DL:(S1.made f n a v i q P').l=S1.l.set i ⟨n,a,f.own,1,q.age,v⟩:=rfl;have Ax:pget (S1.made f n a v i q P').l 1 x=some p:=by rw[DL];exact Q8X Js hq (by rw[Dt];exact hp)
  have EG:=(pget_some.1 Ax).1;have D8:pget (S1.made f n a v i q P').l 1 (nm i q)=some ⟨n,a,f.own,1,q.age,v⟩:=by
   rw[DL,Q2o _ Js,if_pos (Q8b Ap q),if_pos ⟨rfl,rfl⟩]
  have As:nm i q<4294967295:=Q8V ok2.inv.lok D8;have AS:Q6q (S1.made f n a v i q P').l s ⟨nm i q,15,nd⟩:=⟨⟨_,D8,by show n=8↔_;rw[<- Pa];omega⟩,by dsimp only;omega⟩
  have TL:=Q4l (Z:=Z) (Z1:=Z.setS (S1.made f n a v i q P') (updT Z.tb (x%256) t1)) rfl T1.alt.c rfl AG.sep bx2;refine⟨nm i q,0,rfl,TL,.inr ⟨rfl,(⟨0,15,nd⟩:Ent).a,nd,(⟨nm i q,15,0⟩:Ent).a,?_,fun w8 IJ=>?_⟩⟩
  ·have T:=(tp2.x (p.fac:Int)).tt ok2 EG Aq hk (SP.sS AG.sep) Bw.c;refine(Q4d T (s:Int)).mono ?_;rintro rv w7⟨rfl,rfl⟩;refine⟨?_,rfl⟩;unfold getV TB.at';rw[if_pos (by omega),J2C,DO];rfl
  ·have st8:=AG.sep.grown IJ;have bx8:=bx2.step st8;have VD:=Bw.step st8 rfl;refine⟨Q4l (Z1:=Z.setS (S1.made f n a v i q P') (updT Z.tb (x%256) t1)) rfl T1.alt.c rfl st8.sep bx8,Q5O w8 (nm i q) 15 As (by omega),?_⟩;refine(Q6X (S:=S1.made f n a v i q P') (tb:=updT Z.tb (x%256) t1) ok2 tp2 EG Aq hk hs (e2:=⟨nm i q,15,nd⟩) DO rfl ⟨As,by show 15<16;omega⟩ (SP.sS st8.sep) VD.c).mono ?_;rintro rv w9⟨rfl,S3,t3,T3,st9⟩;have NY:Step (Z.setS (S1.made f n a v i q P') (updT Z.tb (x%256) t1)).hl (Z.setS S3 (updT (updT Z.tb (x%256) t1) (x%256) t3)).hl w8 w9:=SP.stepS st8.sep S3 (updT (updT Z.tb (x%256) t1) (x%256) t3) T3.alt.c st9
   have bx9:=bx8.step NY;refine⟨⟨0,rfl⟩,Q4l (Z1:=Z.setS S3 (updT (updT Z.tb (x%256) t1) (x%256) t3)) rfl (T3.alt.c.trans T1.alt.c) rfl NY.sep bx9,fun m=>?_⟩;have std:=NY.trans (NY.sep.grown (Q0q (Below.refl w9.heap.size w9) m));have A4:=((st.trans AG).trans st8).trans std;have Cm:Z.F.N.length<65536:=ok.fpi.few ok.fo.n hp hs h0;refine(Q7J (q:=Z.F) (SP.sF (Z:=Z.setS S3 (updT (updT Z.tb (x%256) t1) (x%256) t3)) std.sep) ok.fo (.inl rfl) (by omega) (by omega) (by omega) (by omega) (ok.fpi.free ok.fo.n h0) (by have:=ok.next;omega) Cm).mono ?_;rintro rv w'⟨rfl,F',AF,stF⟩;refine⟨⟨_,_,rfl⟩,.inr ⟨rfl,?_⟩⟩
   obtain⟨okz,Bz,-⟩:=ok.made_added hp hk hs h0 T1 mk Js hq AS T3 AF;have stZ:Step (Z.setS S3 (updT (updT Z.tb (x%256) t1) (x%256) t3)).hl ((Z.setF F').setS S3 (updT Z.tb (x%256) t3)).hl (w9.drewN m) w':=by
    have:=SP.stepF (Z:=Z.setS S3 (updT (updT Z.tb (x%256) t1) (x%256) t3)) std.sep F' AF.f stF;have e:((Z.setS S3 (updT (updT Z.tb (x%256) t1) (x%256) t3)).setF F')=(Z.setF F').setS S3 (updT Z.tb (x%256) t3):=by rw[Q0U];rfl
    rwa [e] at this
   refine⟨(Z.setF F').setS S3 (updT Z.tb (x%256) t3),fr',s,i,q,⟨n,a,f.own,1,q.age,v⟩,rfl,hs,by rw[<- Dt];exact Js,hq,rfl,rfl,rfl,rfl,okz,⟨rfl,AF.f,(T3.alt.c.trans T1.alt.c),T3.alt.per.trans (wn2.per.trans T1.alt.per),(T1.alt.same.trans wn2.same).trans T3.alt.same,?_⟩,?_,Bz,A4.trans stZ⟩
   ·show pget S3.l 1 0=_;rw[T3.alt.l,Z5W wn2.root,Dt]
   ·show S3.l=_;rw[T3.alt.l,DL,Dt]
theorem Z5Z{w:World}(hs:Sep w Z.hl)(ok:Z.Ok fr N K M)(hN:N+1<1048576)(hM:M+1<1099511627776){x y:Nat}(hx:x<4294967296)(hy:y<4294967296)(z k lim:Int) :
  Calls prog 40 #[.pointer (some ⟨Z.s,0,none⟩),.int .u32 x,.int .i64 z,.int .u32 y,.int .i64 k,.int .i64 lim] w fun rv w'=>∃(hh:Nat) (er:Int),rv=.returned (.tuple #[.int .u32 hh,.int .i64 er])/\MkR Z fr N K M x z k w hh er w':=by
 have bad:∀(er:Int) (W:World),er≠0->Below w.heap.size w W->MkR Z fr N K M x z k w 0 er W:=fun er W he hb=>.inl ⟨he,rfl,0,BackZ.of 0 hs ok hb⟩
 cases hp:pget Z.S.l 1 x with
 | none =>
  refine(Q7a (y:=y) (z:=z) (k:=k) (lim:=lim) (e:=8) (by decide) (Q0J hs ok.core hx 8 (.inl ⟨hp,rfl⟩))).mono ?_;rintro rv w'⟨rfl,hb⟩;exact⟨0,8,rfl,bad 8 _ (by decide) hb⟩
 | some p =>
  by_cases hk:p.kind=2
  case neg =>
   refine(Q7a (y:=y) (z:=z) (k:=k) (lim:=lim) (e:=10) (by decide) (Q0J hs ok.core hx 10 (.inr ⟨p,hp,hk,rfl⟩))).mono ?_;rintro rv w'⟨rfl,hb⟩;exact⟨0,10,rfl,bad 10 _ (by decide) hb⟩
  refine Z2D hs ok hx hp hk z k lim ?_;by_cases hz:0<=z/\z<256
  case neg=>exact .inl ⟨2,.inl ⟨decide_eq_false hz,rfl⟩,fun W hb=>bad 2 W (by decide) hb⟩
  have I6:decide (0<=z/\z<256)=true:=decide_eq_true hz;by_cases hm:k=8∨1<=k/\k<=5
  case neg=>exact .inl ⟨1,.inr (.inl ⟨I6,decide_eq_false hm,rfl⟩),fun W hb=>bad 1 W (by decide) hb⟩
  have F1:decide (k=8∨1<=k/\k<=5)=true:=decide_eq_true hm;cases AK:(decide (z<128)==(k==8)) with
  | true=>exact .inl ⟨1,.inr (.inr (.inl ⟨I6,F1,AK,rfl⟩)),fun W hb=>bad 1 W (by decide) hb⟩
  | false =>
   obtain⟨s,rfl⟩:∃s:Nat,z=(s:Int):=⟨z.toNat,by omega⟩
   have AG:s<256:=by omega
   have Pa:k=8↔128<=s:=by
    rcases Q2Q AK with ⟨h1,_,h3⟩|⟨h1,h2⟩
    ·have h1:=of_decide_eq_true h1;have h3:=of_decide_eq_false h3;omega
    ·have h1:=of_decide_eq_false h1;omega
   have AW:(Z.tb (x%256)).at' (s:Int)=Q0g Z.S.l Z.tb x s:=by
    unfold TB.at';rw[if_pos hz,Q0h hp hk (by omega)];rfl
   cases h0:Q0g Z.S.l Z.tb x s with
   | some e0=>exact .inl ⟨7,.inr (.inr (.inr ⟨I6,F1,AK,by rw[AW,h0];rfl,rfl⟩)),fun W hb=>bad 7 W (by decide) hb⟩
   | none =>
    have Bl:((Z.tb (x%256)).at' (s:Int)).isSome=false:=by rw[AW,h0];rfl
    refine .inr ⟨I6,F1,rfl,Bl,fun W g B hb hg E9=>?_⟩;have hi:=(pget_some.1 hp).1;have Aq:=(pget_some.1 hp).2.2;have Dk:(Z.tb (x%256)).en s=none:=by rw[<- Q0h hp hk AG];exact h0
    refine(Q7L (hs.grown hb).sep ok.core ok.tpi (x:=x) (h:=0) (r:=15) hi Aq hk AG Dk (by omega) (by omega) hg).mono ?_;rintro rv w5⟨er,rfl,⟨rfl,nd,S1,t1,T1,st1⟩|⟨he,F4,P',tr,st1⟩⟩
    ·have st:=(hs.grown hb).trans st1;have bx5:=E9.step st1;exact⟨0,rfl,.inr ⟨rfl,Q4l (Z1:=Z.setS S1 (updT Z.tb (x%256) t1)) rfl T1.alt.c rfl st.sep bx5,Z5Y ok hN hM hx hy hp hk AG h0 k lim Pa T1 st (hg.step st1 T1.alt.same.p) bx5⟩⟩
    ·refine⟨er,rfl,.inl ⟨by omega,.inl ⟨by omega,rfl,p.fac,?_⟩⟩⟩;refine LaidP.back (x:=x) (A:=fun _=>⟨0,0,0,false⟩) ok hp hk ((LaidP.start (x:=x) (A:=fun _=>⟨0,0,0,false⟩) ok (p.fac:Int)).tried tr) ?_;rw[Q0Z];exact(hs.grown hb).trans st1
end
def GoesZ(Z:SP)(N K:Nat)(M:Int)(w w':World):Prop:=∃(Z':SP) (fr':List Nat),Z'.Ok fr' N K M/\J0p Z Z'/\Step Z.hl Z'.hl w w'
theorem GoesZ.mono{Z:SP}{N N' K K':Nat}{M M':Int}{w w':World}(h:GoesZ Z N K M w w')(h1:N<=N')(h2:K<=K')(h3:M<=M'):GoesZ Z N' K' M' w w':=by
 obtain⟨Z',fr',a,b,c⟩:=h;exact⟨Z',fr',a.mono h1 h2 h3,b,c⟩
section
variable {Z:SP} {fr:List Nat} {N K:Nat} {M:Int} {w w':World}
theorem GoesZ.same{Z':SP}(ok:Z'.Ok fr N K M)(s:SameZ Z Z')(st:Step Z.hl Z'.hl w w'):GoesZ Z N K M w w':=⟨Z',fr,ok,s.toSameN.gone,st⟩
theorem BackZ.goes(ok:Z.Ok fr N K M){y:Nat}{own:Int}(h:BackZ Z fr N K y own w w'):GoesZ Z N K M w w':=by
 obtain⟨Z',a,_,b,c⟩:=h.ok ok;exact .same a b c
theorem MoveR.goes(ok:Z.Ok fr N K M){x y n:Nat}{A:Nat->Mv}{er:Int}(R:MoveR Z fr N K M x y n A w er w'):GoesZ Z N K (M+n) w w':=by
 rcases R with ⟨_,_,own,h⟩|⟨p1,p2,_,_,_,_,_,⟨_,a,Z',_,_,h1,h2,_,h3⟩|⟨_,_,h⟩⟩
 ·exact(h.goes ok).mono (J1E _) (J1E _) (by omega)
 ·exact⟨Z',fr,h1,h2.gone,h3⟩
 ·exact(h.goes ok).mono (J1E _) (J1E _) (by omega)
end
theorem Q7m(m:List Nat)(p:Nat):∀k l,itemsB m p k=some l->∀i∈l,Q1a i=true
 | 0,l,h=>by cases h;intro i hi;cases hi
 | k+1,l,h=>by
  rw[itemsB] at h;cases h1:itemsB m p k with
  | none=>rw[h1] at h;cases h
  | some l1 =>
   rw[h1] at h;cases h2:Q4E (Q0o m p (11+k)) with
   | none=>rw[h2] at h;cases h
   | some i =>
    rw[h2] at h;cases h;intro j hj;rcases J2m.1 hj with hj|hj
    ·exact Q7m m p k l1 h1 j hj
    ·rw[J3E.1 hj];exact(Z5F h2).1
theorem Q7U(m:List Nat)(p:Nat):(msgV m p).its.length<=2/\∀i∈(msgV m p).its,Q1a i=true:=by
 unfold msgV;split
 ·exact⟨by simp[Msg.none],by simp[Msg.none]⟩
 ·rename_i hc;split
  ·rename_i l hl;exact⟨by rw[Q4H _ _ _ _ hl];omega,Q7m _ _ _ _ hl⟩
  ·exact⟨by simp[Msg.none],by simp[Msg.none]⟩
theorem Z8q{i:It}(h:Q1a i=true):i.Wf:=by
 have:=Q3j h;exact⟨⟨by omega,by omega⟩,⟨by omega,by omega⟩,⟨by omega,by omega⟩,⟨by omega,by omega⟩⟩
theorem J0q(m:List Nat)(p:Nat):(winV m p).Wf:=by
 unfold winV;split
 ·rename_i h;have:=Q1N h.2;exact⟨⟨by dsimp only;omega,by dsimp only;omega⟩,⟨by dsimp only;omega,by dsimp only;omega⟩⟩
 ·exact⟨⟨by decide,by decide⟩,⟨by decide,by decide⟩⟩
theorem Z8r(Z:SP)(x:Nat)(v:Wi)(its:List It)(h:∀i∈its,Q6j Z x v i):∀m∈Q2x Z x v its,m.Wf:=fun m hm=>by
 obtain⟨i,hi,D6⟩:=J2c.1 hm;obtain⟨p,_,_,ha,_⟩:=h i hi;have Bo:Q0w i.base i.order=true/\Q0w v.base v.order=true/\1<=i.r/\i.r<=15/\0<=i.off/\i.off<256:=by
  unfold Q3q Q1a at ha;simp only[J1Y,decide_eq_true_eq] at ha;exact⟨ha.1.1,ha.2.1,ha.1.2⟩
 obtain⟨q1,q2,q3,q4,q5⟩:=Q1A Bo.1;obtain⟨r1,r2,r3,r4,r5⟩:=Q1A Bo.2.1;unfold movV at D6;obtain⟨k,BE,e⟩:=J1K.1 D6;have Av:=J1U.1 (J1X.1 BE).1;rw[<- e];unfold itMv;exact⟨⟨by dsimp only;omega,by dsimp only;omega⟩,⟨by dsimp only;omega,by dsimp only;omega⟩,⟨by dsimp only;omega,by dsimp only;omega⟩⟩
def carL(Z:SP)(tf:Nat)(p p':Pl):List Mv:=Q2x Z tf (winV Z.S.P.a.mem p'.at_) (msgV Z.S.P.a.mem p.at_).its
def carA(Z:SP)(tf:Nat)(p p':Pl):Nat->Mv:=fun j=>(carL Z tf p p').getD j noMv
def CarE(Z:SP)(tf:Nat)(af:Int)(tt:Nat)(at_ er:Int):Prop:=blkE Z tf af=er∨(blkE Z tf af=0/\blkE Z tt at_=er)∨∃p p',BlkAt Z tf af p/\BlkAt Z tt at_ p'/\∃i∈(msgV Z.S.P.a.mem p.at_).its,MvsE Z tf i (winV Z.S.P.a.mem p'.at_) er
def CCarR(Z:SP)(fr:List Nat)(N K:Nat)(M:Int)(tf:Nat)(af:Int)(tt:Nat)(at_:Int)(lb:Nat)(w:World)(r:Ending)(w':World):Prop:=
 (∃er:Int,er≠0/\r=.returned (.int .i64 er)/\Below w.heap.size w w'/\CarE Z tf af tt at_ er) ∨
 ∃p p',BlkAt Z tf af p/\BlkAt Z tt at_ p'/\(∀i∈(msgV Z.S.P.a.mem p.at_).its,Q6j Z tf (winV Z.S.P.a.mem p'.at_) i) /\
  ((∃(er:Int) (w5:World),er≠0/\r=.returned (.int .i64 er)/\Below w.heap.size w w5/\MoveR Z fr N K M tf tt (carL Z tf p p').length (carA Z tf p p') w5 er w') ∨
   (r=.returned (.int .i64 0)/\∃(a:AV) (Z1:SP),AllFit Z.av.en tf tt (carL Z tf p p').length (carA Z tf p p')/\AddsM tf tt (carA Z tf p p') Z.av Z.F.next (carL Z tf p p').length a/\Q2R tf (carA Z tf p p') a (carL Z tf p p').length Z1.av/\SameN Z Z1/\Z1.F.next=Z.F.next+(carL Z tf p p').length/\Z1.Ok fr N K (M+(carL Z tf p p').length) /\
    (Z1.poke (putM Z1.S.P.a.mem p'.at_ ⟨lb,(msgV Z1.S.P.a.mem p.at_).ws,[]⟩)).Ok fr N K (M+(carL Z tf p p').length)/\Step Z.hl (Z1.poke (putM Z1.S.P.a.mem p'.at_ ⟨lb,(msgV Z1.S.P.a.mem p.at_).ws,[]⟩)).hl w w'))
theorem CMvR.shape{Z:SP}{x:Nat}{v:Wi}{its:List It}{w w':World}{r:Ending}(hs:Sep w Z.hl)(h:CMvR Z x v its w r w'):Below w.heap.size w w'/\∃(a:Option Addr) (n cap:Nat) (er:Int),r=.returned (.tuple #[.slice a n cap,.int .i64 er]) /\
  ((er≠0/\∃i∈its,MvsE Z x i v er)∨(er=0/\(∀i∈its,Q6j Z x v i)/\n=(Q2x Z x v its).length/\n<=cap/\AsideM Z.hl n (fun j=>(Q2x Z x v its).getD j noMv) a w')):=by
 rcases h with ⟨er,i,h0,hi,he,rfl,hb⟩|⟨hf,ov,rfl,ho⟩
 ·exact⟨hb,none,0,0,er,rfl,.inl ⟨h0,i,hi,he⟩⟩
 ·obtain⟨a,cap,rfl,AS,hA⟩:=ho.aside hs (Z8r Z x v its hf);exact⟨ho.2,a,_,cap,0,rfl,.inr ⟨rfl,hf,rfl,AS,hA⟩⟩
theorem Q2y{w:World}{Z:SP}{fr:List Nat}{N K:Nat}{M:Int}(ok:Z.Ok fr N K M)(h:Sep w Z.hl)(hM:M+256<1099511627776){c k:Nat}(hc:CarC Z c k w){tf tt:Nat}(htf:tf<4294967296)(htt:tt<4294967296)(af at_:Int)(haf:af<9223372036854775808)(AW:at_<9223372036854775808){lb:Nat}(Dr:lb<18446744073709551616) :
  Calls prog 54 #[.pointer (some ⟨c,0,none⟩),.agg #[.int .u32 tf,.int .i64 af],.agg #[.int .u32 tt,.int .i64 at_],.int .u64 lb] w (CCarR Z fr N K M tf af tt at_ lb w):=by
 have b1:Below w.heap.size w (w.alloc (.cells #[.int .u32 tf,.int .i64 af] 116)):=(Below.refl _ _).alloc (J1E _) _;have b2:Below w.heap.size w ((w.alloc (.cells #[.int .u32 tf,.int .i64 af] 116)).alloc (.cells #[.int .u32 tt,.int .i64 at_] 116)):=b1.alloc b1.size _;have c1:=(Cells.new w 116 [.int .u32 tf,.int .i64 af]).alloc (.cells #[.int .u32 tt,.int .i64 at_] 116);have c2:=Cells.new (w.alloc (.cells #[.int .u32 tf,.int .i64 af] 116)) 116 [.int .u32 tt,.int .i64 at_];have hz:(w.alloc (.cells #[.int .u32 tf,.int .i64 af] 116)).heap.size=w.heap.size+1:=by simp
 rw[hz] at c2;have C9:=Q0a c1;have DG:=Q0a c2;have SQ:Hid (∀b,w.heap.size<=b->b∉keys Z.hl):=fun b hb hk=>by have:=h.lt hk;omega
 have x0:=c1.cell 0 _ rfl;have x1:=c1.cell 1 _ rfl;have y0:=c2.cell 0 _ rfl;have y1:=c2.cell 1 _ rfl;have Og:=Q2i ok (h.grown b2).sep (hc.step rfl (h.grown b2)) htf af haf
 -- what holds of every world that only grew behind the two boxes
 have HV:Hid (∀V,Below ((w.alloc (.cells #[.int .u32 tf,.int .i64 af] 116)).alloc (.cells #[.int .u32 tt,.int .i64 at_] 116)).heap.size ((w.alloc (.cells #[.int .u32 tf,.int .i64 af] 116)).alloc (.cells #[.int .u32 tt,.int .i64 at_] 116)) V->Below w.heap.size w V/\Sep V Z.hl/\((V.cell? ⟨c,0,none⟩=some (.pointer (some ⟨k,0,none⟩))/\V.cell? ⟨k,0,none⟩=some (.pointer (some ⟨Z.s,0,none⟩)))/\V.cell? ⟨w.heap.size,0,none⟩=some (.int .u32 tf)/\V.cell? ⟨w.heap.size+1,0,none⟩=some (.int .u32 tt))/\V.cell? ⟨w.heap.size+1,1,none⟩=some (.int .i64 at_) /\
   Calls prog 115 #[.pointer (some ⟨c,0,none⟩),.agg #[.int .u32 tt,.int .i64 at_]] V (BlkR Z tt at_ V)):=fun V hV=>by
  have hb:=Q0b (Q0b hV);have s1:=h.grown hb;have e1:=C9.out.same (hV.block _ C9.out.lt);have e2:=DG.out.same (hV.block _ DG.out.lt);exact⟨hb,s1.sep,⟨(hc.step rfl s1).cells,e1.cell 0 _ rfl,e2.cell 0 _ rfl⟩,e2.cell 1 _ rfl,Q2i ok s1.sep (hc.step rfl s1) htt at_ AW⟩
 have Ou:Hid (∀V,Below w.heap.size w V->blkE Z tf af≠0->CCarR Z fr N K M tf af tt at_ lb w (.returned (.int .i64 (blkE Z tf af))) V):=fun V hV he=>.inl ⟨_,he,rfl,hV,.inl rfl⟩
 have Fv:Hid (∀V,Below w.heap.size w V->blkE Z tf af=0->blkE Z tt at_≠0->CCarR Z fr N K M tf af tt at_ lb w (.returned (.int .i64 (blkE Z tt at_))) V):=fun V hV h0 he=>.inl ⟨_,he,rfl,hV,.inr (.inl ⟨h0,rfl⟩)⟩
 unfold BlkR at Og;generalize hW0:((w.alloc (.cells #[.int .u32 tf,.int .i64 af] 116)).alloc (.cells #[.int .u32 tt,.int .i64 at_] 116))=W0 at *
 -- all that is asked when both blocks are there
 have HP:Hid (∀V p g p' g',Below W0.heap.size W0 V->BlkAt Z tf af p->BlkAt Z tt at_ p'->BlkC Z p g V->BlkC Z p' g' V ->
   (Calls prog 117 #[.pointer (some ⟨g',0,none⟩)] V (Told V (.agg #[.int .i64 (winV Z.S.P.a.mem p'.at_).base,.int .i64 (winV Z.S.P.a.mem p'.at_).order]))) /\
   (Calls prog 116 #[.pointer (some ⟨g,0,none⟩)] V fun r V1=>∃(l:Int) (a1:Option Addr) (n1 c1:Nat) (a2:Option Addr) (c2:Nat),r=.returned (.agg #[.int .u64 l,.slice a1 n1 c1,.slice a2 (msgV Z.S.P.a.mem p.at_).its.length c2])/\Below V.heap.size V V1 /\
    Calls prog 118 #[.pointer (some ⟨c,0,none⟩),.int .u32 tf,.agg #[.int .i64 (winV Z.S.P.a.mem p'.at_).base,.int .i64 (winV Z.S.P.a.mem p'.at_).order],.slice a2 (msgV Z.S.P.a.mem p.at_).its.length c2] V1 fun r V2=>Below V1.heap.size V1 V2/\∃(a:Option Addr) (n cap:Nat) (er:Int),r=.returned (.tuple #[.slice a n cap,.int .i64 er]) /\
     ((er≠0/\CCarR Z fr N K M tf af tt at_ lb w (.returned (.int .i64 er)) V2) ∨
      (er=0/\Calls prog 39 #[.pointer (some ⟨Z.s,0,none⟩),.int .u32 tf,.int .u32 tt,.slice a n cap] V2.drew fun r V3=>∃e3:Int,r=.returned (.int .i64 e3)/\((V3.cell? ⟨c,0,none⟩=some (.pointer (some ⟨k,0,none⟩))/\V3.cell? ⟨k,0,none⟩=some (.pointer (some ⟨Z.s,0,none⟩)))/\V3.cell? ⟨w.heap.size,0,none⟩=some (.int .u32 tf)/\V3.cell? ⟨w.heap.size+1,0,none⟩=some (.int .u32 tt)) /\
       ((e3≠0/\CCarR Z fr N K M tf af tt at_ lb w (.returned (.int .i64 e3)) V3) ∨
       (e3=0/\Calls prog 119 #[.pointer (some ⟨g,0,none⟩),.pointer (some ⟨g',0,none⟩),.int .u64 lb] V3 fun r V4=>r=.returned (.int .i64 0)/\CCarR Z fr N K M tf af tt at_ lb w (.returned (.int .i64 0)) V4)))))):=fun V p g p' g' hV hp AL hg Fu=>by
  obtain⟨Ql,sV,_,_,_⟩:=HV.out V hV;refine⟨Q9k ok sV AL.2.1 AL.2.2.1 AL.2.2.2.1 Fu,(Q6e ok sV hp.2.1 hp.2.2.1 hp.2.2.2.1 hg).mono ?_⟩;rintro r V1⟨rw_,ri,rfl,o1,o2,st⟩;obtain⟨a1,n1,k1,e1⟩:=Q1p rw_ (msgV Z.S.P.a.mem p.at_).ws.length;obtain⟨a2,k2,e2,hI⟩:=Z5S o2 st;rw[e1,e2];have Ar:=st.fresh;have NS:Below W0.heap.size W0 V1:=hV.trans (Ar.mono hV.size);have s1:=(HV.out V1 NS).2.1;have ED:=Q7U Z.S.P.a.mem p.at_;have Pb:=hc.step rfl (h.grown (HV.out V1 NS).1);refine⟨_,a1,n1,k1,a2,k2,rfl,Ar,(Z0m ok s1 Pb htf (winV Z.S.P.a.mem p'.at_) (J0q _ _) k2 hI (fun i hi=>Z8q (ED.2 i hi)) (by have:=ED.1;omega)).mono ?_⟩
  intro r V2 hm;obtain⟨Ae,a,n,cap,er,rfl,Az⟩:=hm.shape s1;refine⟨Ae,a,n,cap,er,rfl,?_⟩;have Jv:Below W0.heap.size W0 V2:=NS.trans (Ae.mono NS.size);obtain⟨I0,s2,_,_,_⟩:=HV.out V2 Jv;rcases Az with ⟨h0,i,hi,he⟩|⟨rfl,Fm,hn,AS,hA⟩
  ·exact .inl ⟨h0,.inl ⟨er,h0,rfl,I0,.inr (.inr ⟨p,p',hp,AL,i,hi,he⟩)⟩⟩
  ·refine .inr ⟨rfl,?_⟩;have Ab:=Q4k Z tf (winV Z.S.P.a.mem p'.at_) _ Fm;have Ge:n<=256:=by have:=ED.1;omega
   have NZ:n=(carL Z tf p p').length:=hn;have Th:AsideM Z.hl n (carA Z tf p p') a V2.drew:=hA.step ((Step.refl s2).drew);refine(Q9d s2.drew ok (by omega) htf htt (by omega) AS Th).mono ?_;rintro r V3⟨e3,rfl,hR⟩;have H0:=hR.goes ok;obtain⟨Zg,frg,okg,gg,stg⟩:=H0;have st2:Step Z.hl Zg.hl V2 V3:=stg.from_drew;have keep:∀b,w.heap.size<=b->b<V2.heap.size->V3.heap[b]?=V2.heap[b]?:=fun b hb hl=>st2.chg.block b hl (SQ.out b hb)
   have q1:=C9.out.same (Jv.block _ C9.out.lt);have q2:=DG.out.same (Jv.block _ DG.out.lt);have q3:=q1.same (keep _ (J1E _) q1.lt);have q4:=q2.same (keep _ (J5J _) q2.lt);have CH:=(hc.step rfl (h.grown I0)).step gg.s st2;have AA:=CH.cells;rw[gg.s] at AA;refine⟨e3,rfl,⟨AA,q3.cell 0 _ rfl,q4.cell 0 _ rfl⟩,?_⟩;rw[NZ] at hR;by_cases h3:e3=0
   ·subst h3;refine .inr ⟨rfl,?_⟩;rcases hR with ⟨h0,_⟩|⟨p1,p2,_,_,_,_,Ah,Qe⟩
    ·exact(h0 rfl).elim
    ·rcases Qe with ⟨_,SZ⟩|⟨h0,_⟩
     ·obtain⟨av1,Z1,Bp,DF,ok1,sm,Bm,st3⟩:=SZ;have st4:Step Z.hl Z1.hl V2 V3:=st3.from_drew;have ea:Z1.S.P.a.a=Z.S.P.a.a:=sm.alt.same.aa;have CL:Below V.heap.size V V2:=Ar.trans (Ae.mono Ar.size);have bg:BlkC Z1 p g V3:=by
       have:=AsideV.step (AsideV.step hg (sV.grown CL)) st4;unfold BlkC;rw[ea];exact this
      have bg':BlkC Z1 p' g' V3:=by
       have:=AsideV.step (AsideV.step Fu (sV.grown CL)) st4;unfold BlkC;rw[ea];exact this
      have A9:p∈Z1.S.l:=by rw[sm.alt.l];exact hp.2.1
      have Iv:p'∈Z1.S.l:=by rw[sm.alt.l];exact AL.2.1
      refine(Z2U ok1 st4.sep A9 hp.2.2.1 hp.2.2.2.1 bg Iv AL.2.2.1 AL.2.2.2.1 bg' Dr).mono ?_;rintro r V4⟨rfl,ok4,st5⟩;exact⟨rfl,.inr ⟨p,p',hp,AL,Fm,.inr ⟨rfl,av1,Z1,Ah,Bp,DF,sm,Bm,ok1,ok4,(h.grown I0).trans (st4.trans st5)⟩⟩⟩
     ·omega
   ·exact .inl ⟨h3,.inr ⟨p,p',hp,AL,Fm,.inl ⟨e3,V2.drew,h3,rfl,I0.drew,hR⟩⟩⟩
 have Cf:Hid (∀V,Below W0.heap.size W0 V->Below w.heap.size w V):=fun V hV=>(HV.out V hV).1
 generalize CCarR Z fr N K M tf af tt at_ lb w=Q at *
 clear b1 b2 c1 c2 hz ok h hc htf htt haf AW Dr hM;go_enter func54,ntmps54;go_wp2_with fail;refine Og.mono ?_;rintro r w2⟨Ae,hr⟩;clear hW0;rcases hr with ⟨he,rfl⟩|⟨he,p,g,hp,hi,hk,B9,rfl,hg⟩
 ·have HR:=Q0a (Ou.out w2 (Cf.out w2 Ae) he);clear Ou Fv HP HV Cf Ae Og;generalize blkE Z tf af=E1 at *
  have Ac:(E1 != 0)=true:=by simp[he]
  go_wp2_with fail
  (try go_ret2);exact HR.out
 have CX:=Q0a Ae;have Oe:Hid (BlkAt Z tf af p/\BlkC Z p g w2):=⟨⟨he,hp,hi,hk,B9⟩,hg⟩
 have JL:Hid (∀V,Below w.heap.size w V->blkE Z tt at_≠0->Q (.returned (.int .i64 (blkE Z tt at_))) V):=fun V hV h0=>Fv.out V hV he h0
 obtain⟨-,s2,⟨⟨c2,k2⟩,-,y2⟩,y3,N5⟩:=HV.out w2 Ae;have Nx:=Q0a s2;unfold BlkR at N5;clear Ae hp hi hk B9 hg he Ou Fv Og s2;go_wp2_with fail;refine N5.mono ?_;rintro r w3⟨An,hr⟩;have AX:Below W0.heap.size W0 w3:=CX.out.trans (An.mono CX.out.size);rcases hr with ⟨he,rfl⟩|⟨he,p',g',hp,hi,hk,B9,rfl,hg⟩
 ·have HR:=Q0a (JL.out w3 (Cf.out w3 AX) he);clear JL HP HV Cf An AX N5 Oe Nx;generalize blkE Z tt at_=E2 at *
  have Ac:(E2 != 0)=true:=by simp[he]
  go_wp2_with fail
  (try go_ret2);exact HR.out
 have HQ:Hid (∀V,Below w3.heap.size w3 V->_):=fun V hV=>HP.out V p g p' g' (AX.trans (hV.mono AX.size)) Oe.out.1 ⟨he,hp,hi,hk,B9⟩ (AsideV.step Oe.out.2 (Nx.out.grown (An.trans (hV.mono An.size)))) (AsideV.step hg ((Nx.out.grown An).sep.grown hV))
 have HS:Hid (∀V,Below w3.heap.size w3 V->((V.cell? ⟨c,0,none⟩=some (.pointer (some ⟨k,0,none⟩))/\V.cell? ⟨k,0,none⟩=some (.pointer (some ⟨Z.s,0,none⟩)))/\V.cell? ⟨w.heap.size,0,none⟩=some (.int .u32 tf)/\V.cell? ⟨w.heap.size+1,0,none⟩=some (.int .u32 tt))):=fun V hV=>(HV.out V (AX.trans (hV.mono AX.size))).2.2.1
 have FU:Hid (Below w3.heap.size w3 w3):=Below.refl _ _;have NG:Hid (Below w3.heap.size w3 w3.drew):=(Below.refl _ _).drew;clear JL HP HV Cf An AX N5 Oe Nx CX he hp hi hk B9 hg c2 k2 y2 y3;generalize (winV Z.S.P.a.mem p'.at_).base=vb at *
 generalize (winV Z.S.P.a.mem p'.at_).order=vo at *
 generalize (msgV Z.S.P.a.mem p.at_).its.length=nI at *
 go_upto_region 7 with fail
 go_region_held3 (fun V=>V.cell? ⟨w.heap.size,0,none⟩=some (.int .u32 tf)) (first|exact(HS.out _ FU.out).2.1|exact(HS.out _ NG.out).2.1|exact x4|exact x5|exact x6) (first|(go_at_call 117;refine(HQ.out _ NG.out).1.mono ?_;rintro rv w4⟨rfl,A2⟩;have Ak:=Q0a (NG.out.trans (A2.mono NG.out.size));have x4:=(HS.out _ Ak.out).2.1;clear A2)|(go_at_call 116;refine(HQ.out _ Ak.out).2.mono ?_;rintro rv w5⟨l,a1,n1,c1,a2,c2,rfl,Au,BF⟩;have B6:=Q0a (Ak.out.trans (Au.mono Ak.out.size));have x5:=(HS.out _ B6.out).2.1;have Rl:=Q0a BF;have Ev:=fun W=>J0o W l a1 a2 n1 c1 nI c2;clear Au BF)|(go_at_call 118;refine Rl.out.mono ?_;rintro rv w6⟨Ch,a6,n6,c6,er,rfl,Az⟩;have Fp:=Q0a (B6.out.trans (Ch.mono B6.out.size));have x6:=(HS.out _ Fp.out).2.1;have Id:=Q0a Az;clear Ch Az))
 all_goals
  clear x4 x5 x6 Rl Ak B6 HQ Ev;by_cases h0:er=0
  case neg =>
   have Ac:(er != 0)=true:=by simp[h0]
   have HR:Hid (Q (.returned (.int .i64 er)) w6):=by
    refine Q0a ?_;rcases Id.out with ⟨_,hq⟩|⟨hq,_⟩
    ·exact hq
    ·exact(h0 hq).elim
   clear Id HS Fp h0;go_wp2_with fail
   (try go_ret2);exact HR.out
  case pos =>
   subst h0;have Jc:=Q0a (Id.out.resolve_left (fun hq=>hq.1 rfl)).2;have S6:=Q0a (HS.out w6 Fp.out);have S6d:=Q0a (HS.out w6.drew Fp.out.drew);clear Id HS Fp;go_upto_region 10 with fail
   go_region_held3 (fun V=>(V.cell? ⟨c,0,none⟩=some (.pointer (some ⟨k,0,none⟩))/\V.cell? ⟨k,0,none⟩=some (.pointer (some ⟨Z.s,0,none⟩)))/\V.cell? ⟨w.heap.size,0,none⟩=some (.int .u32 tf)/\V.cell? ⟨w.heap.size+1,0,none⟩=some (.int .u32 tt)) (first|exact S6.out|exact S6d.out|exact x7) (first|(go_at_call 39;refine Jc.out.mono ?_;rintro rv w7⟨e3,rfl,x7,Az⟩;have Id:=Q0a Az;clear Az))
   all_goals
    clear x7 S6 S6d Jc;by_cases h3:e3=0
    case neg =>
     have Ac:(e3 != 0)=true:=by simp[h3]
     have HR:Hid (Q (.returned (.int .i64 e3)) w7):=by
      refine Q0a ?_;rcases Id.out with ⟨_,hq⟩|⟨hq,_⟩
      ·exact hq
      ·exact(h3 hq).elim
     clear Id h3;go_wp2_with fail
     (try go_ret2);exact HR.out
    case pos =>
     subst h3;have IR:=Q0a (Id.out.resolve_left (fun hq=>hq.1 rfl)).2;clear Id;go_wp2_with fail;refine IR.out.mono ?_;rintro rv w8⟨rfl,hq⟩;have HR:=Q0a hq;clear hq IR;go_wp2_with fail
     (try go_ret2);exact HR.out
theorem J1k{w:World}{c k s t:Nat}{z right off n er:Int}(c0:w.cell? ⟨c,0,none⟩=some (.pointer (some ⟨k,0,none⟩)))(k0:w.cell? ⟨k,0,none⟩=some (.pointer (some ⟨s,0,none⟩)))(he:er≠0)
  (kL:Calls prog 37 #[.pointer (some ⟨s,0,none⟩),.int .u32 t,.int .i64 z] w (Told w (.tuple #[.agg #[.int .u32 0,.int .i64 0],.int .i64 er]))) :
  Calls prog 111 #[.pointer (some ⟨c,0,none⟩),.int .u32 t,.int .i64 z,.int .i64 right,.int .i64 off,.int .i64 n] w (Told w (.tuple #[.int .i64 0,.int .i64 er])):=by
 have Ac:(er != 0)=true:=by simp[he]
 clear he;go_enter func111,ntmps111;go_wp2_with fail;refine kL.mono ?_;rintro r w2⟨rfl,Ae⟩;have HR:Hid (Told w (.tuple #[.int .i64 0,.int .i64 er]) (.returned (.tuple #[.int .i64 0,.int .i64 er])) (w2.alloc (.cells #[.int .u32 0,.int .i64 0] 72))):=⟨rfl,Ae.alloc Ae.size _⟩
 clear Ae kL c0 k0;go_wp2_with fail
 (try go_ret2);exact HR.out
def frE(er q off n:Int):Int:=if er≠0 then er else if q=0 then 9 else if off<0∨1024<off∨1024-off<n then 2 else if off%8≠0 then 3 else 0
theorem J0r{w:World}{c k s o h r t:Nat}{z right off n er a0 a1 a2:Int}(hoff:-9223372036854775808<=off/\off<=9223372036854775807)(hn:0<=n/\n<=16777216)(LL:0<=a1/\a1<=1073741824)
  (kL:Calls prog 37 #[.pointer (some ⟨s,0,none⟩),.int .u32 t,.int .i64 z] w (Told w (.tuple #[.agg #[.int .u32 h,.int .i64 r],.int .i64 0])))
  (hV:∀V,Below w.heap.size w V->(V.cell? ⟨c,0,none⟩=some (.pointer (some ⟨k,0,none⟩))/\V.cell? ⟨k,0,none⟩=some (.pointer (some ⟨s,0,none⟩))) /\
   (Calls prog 26 #[.pointer (some ⟨s,0,none⟩)] V fun r w'=>r=.returned (.pointer (some ⟨o,0,none⟩))/\V=w') /\
   Calls prog 49 #[.pointer (some ⟨o,0,none⟩),.int .u32 h,.int .i64 8] V (Told V (.tuple #[.agg #[.int .i64 a0,.int .i64 a1,.int .i64 a2],.int .i64 er]))) :
  Calls prog 111 #[.pointer (some ⟨c,0,none⟩),.int .u32 t,.int .i64 z,.int .i64 right,.int .i64 off,.int .i64 n] w (Told w (.tuple #[.int .i64 (if frE er (bits .and .i64 (r:Int) right) off n=0 then a1+off else 0),.int .i64 (frE er (bits .and .i64 (r:Int) right) off n)])):=by
 have HV:=Q0a hV;obtain⟨c0,k0⟩:=(hV w (Below.refl _ _)).1;obtain⟨q,hq⟩:∃q,q=bits .and .i64 (r:Int) right:=⟨_,rfl⟩
 have N7:bits BinOp.and IntKind.i64 (r:Int) right=q:=hq.symm;rw[N7];have HT:Hid (∀E:Int,frE er q off n=E->∀V,Below w.heap.size w V->Told w (.tuple #[.int .i64 (if frE er q off n=0 then a1+off else 0),.int .i64 (frE er q off n)]) (.returned (.tuple #[.int .i64 (if E=0 then a1+off else 0),.int .i64 E])) V):=fun E e V hb=>by rw[e];exact⟨rfl,hb⟩
 generalize Told w (.tuple #[.int .i64 (if frE er q off n=0 then a1+off else 0),.int .i64 (frE er q off n)])=Q at *
 clear hV hq;go_enter func111,ntmps111;go_wp2_with fail;refine kL.mono ?_;rintro rr w2⟨rfl,Ae⟩;have HB:=Q0a (Ae.alloc Ae.size (.cells #[.int .u32 h,.int .i64 r] 72));have HC:=Q0a (Cells.new w2 72 [.int .u32 h,.int .i64 r]);clear Ae kL c0 k0;go_upto_region 6 with fail;generalize FF:w2.alloc (.cells #[.int .u32 h,.int .i64 r] 72)=W3 at *
 have Aa:w2.heap.size<W3.heap.size:=by rw[<- FF];simp
 have HS:Hid (∀V,Below W3.heap.size W3 V->(V.cell? ⟨c,0,none⟩=some (.pointer (some ⟨k,0,none⟩))/\V.cell? ⟨k,0,none⟩=some (.pointer (some ⟨s,0,none⟩)))/\V.cell? ⟨w2.heap.size,0,none⟩=some (.int .u32 h)):=fun V hV=>⟨(HV.out V (HB.out.trans (hV.mono HB.out.size))).1,(HC.out.same (hV.block _ Aa)).cell 0 _ rfl⟩
 have C9:Hid (∀V,Below W3.heap.size W3 V->Below w.heap.size w V/\V.cell? ⟨w2.heap.size,1,none⟩=some (.int .i64 r)):=fun V hV=>⟨HB.out.trans (hV.mono HB.out.size),(HC.out.same (hV.block _ Aa)).cell 1 _ rfl⟩
 obtain⟨⟨c1,k1⟩,x0⟩:=HS.out W3 (Below.refl _ _);have HK:Hid (∀V,Below W3.heap.size W3 V->(Calls prog 26 #[.pointer (some ⟨s,0,none⟩)] V fun r w'=>r=.returned (.pointer (some ⟨o,0,none⟩))/\V=w') /\
   Calls prog 49 #[.pointer (some ⟨o,0,none⟩),.int .u32 h,.int .i64 8] V (Told V (.tuple #[.agg #[.int .i64 a0,.int .i64 a1,.int .i64 a2],.int .i64 er]))):=fun V hV=>(HV.out V (HB.out.trans (hV.mono HB.out.size))).2
 clear FF HB HC HV
 go_cut [15,16] from 35 to 48 (fun nn oo wc=>∃b:Nat,oo=.pointer (some ⟨b,0,none⟩)/\nn=.int .i64 er/\Below W3.heap.size W3 wc/\wc.cell? ⟨b,1,none⟩=some (.int .i64 a1))
 case first =>
  clear HT C9;have Cf:Hid (∀V,Below W3.heap.size W3 V->∀o,Below W3.heap.size W3 (V.alloc o)):=fun V hb o=>hb.alloc hb.size o
  have HD:Hid (Below W3.heap.size W3 W3.drew):=(Below.refl _ _).drew;have FU:Hid (Below W3.heap.size W3 W3):=Below.refl _ _;have RD:Hid (∀o,Below W3.heap.size W3 (W3.alloc o).drew):=fun o=>((Below.refl _ _).alloc (J1E _) o).drew
  have MM:Hid (Calls prog 49 #[.pointer (some ⟨o,0,none⟩),.int .u32 h,.int .i64 8] (W3.alloc (.cells #[.int .i64 0,.int .i64 0,.int .i64 0] 54)).drew fun r w4=>r=.returned (.tuple #[.agg #[.int .i64 a0,.int .i64 a1,.int .i64 a2],.int .i64 er])/\Below W3.heap.size W3 w4/\Cells w4 W3.heap.size 54 [.int .i64 0,.int .i64 0,.int .i64 0]):=
   (HK.out _ (Cf.out _ (Below.refl _ _).drew _)).2.mono fun r w4 h=>⟨h.1,((Cf.out _ (Below.refl _ _).drew _)).trans (h.2.mono (by simp)),(Cells.new W3 54 [.int .i64 0,.int .i64 0,.int .i64 0]).same (h.2.block _ (by simp))⟩
  go_region_held3 (fun V=>(V.cell? ⟨c,0,none⟩=some (.pointer (some ⟨k,0,none⟩))/\V.cell? ⟨k,0,none⟩=some (.pointer (some ⟨s,0,none⟩)))/\V.cell? ⟨w2.heap.size,0,none⟩=some (.int .u32 h))
   (first|exact HS.out _ FU.out|exact HS.out _ HD.out|exact HS.out _ (RD.out _)|exact HS.out _ (Cf.out _ HD.out _)|exact HS.out _ Ak.out|exact HS.out _ (Cf.out _ Ak.out _)|exact HS.out _ (Ak.out.setCell (by simp) _)|exact HS.out _ ((Ak.out.setCell (by simp) _).setCell (by simp) _)|exact HS.out _ (((Ak.out.setCell (by simp) _).setCell (by simp) _).setCell (by simp) _))
   (first|(go_at_call 26;first|(refine(HK.out _ HD.out).1.mono ?_;rintro rv w'⟨rfl,rfl⟩)|(refine(HK.out _ (RD.out _)).1.mono ?_;rintro rv w'⟨rfl,rfl⟩)|(refine(HK.out _ (Cf.out _ Ak.out _)).1.mono ?_;rintro rv w'⟨rfl,rfl⟩))|(go_at_call 49;refine MM.out.mono ?_;rintro rv w4⟨rfl,A2,BC⟩;have Ak:=Q0a A2;have z0:=BC.cell 0 _ rfl;have z1:=BC.cell 1 _ rfl;have z2:=BC.cell 2 _ rfl;have y0:=BC.free 0;have y1:=BC.free 1;have y2:=BC.free 2;have Hc:=Q0a BC;clear A2 BC)|(go_at_call 49;refine(HK.out _ HD.out).2.mono ?_;rintro rv w4⟨rfl,A2⟩;have Ak:=Q0a (HD.out.trans (A2.mono HD.out.size));clear A2))
  all_goals (go_wp2_with fail;go_meet;first|exact⟨_,rfl,rfl,Cf.out _ Ak.out _,(Cells.new _ 54 [.int .i64 a0,.int .i64 a1,.int .i64 a2]).cell 1 _ rfl⟩|exact⟨_,rfl,rfl,((Ak.out.setCell (by simp) _).setCell (by simp) _).setCell (by simp) _,(((Hc.out.set 0 (.int .i64 a0)).set 1 (.int .i64 a1)).set 2 (.int .i64 a2)).cell 1 _ rfl⟩)
 obtain⟨bo,rfl,rfl,A2,v1⟩:=hcut;obtain⟨Au,u1⟩:=C9.out wc A2;have B6:=Q0a Au;clear A2 Au HS C9 HK c1 k1 x0
 ·by_cases he:er=0
  case neg =>
   have Ac:(er != 0)=true:=by simp[he]
   have HR:=Q0a (HT.out er (by unfold frE;rw[if_pos he]) _ B6.out);rw[if_neg he] at HR;clear HT;go_wp2_with fail
   (try go_ret2);exact HR.out
  case pos =>
   subst he;by_cases Et:q=0
   ·have Vm:(q==0)=true:=by simp[Et]
    have HR:=Q0a (HT.out 9 (by unfold frE;rw[if_neg (by decide),if_pos Et]) _ B6.out);clear HT;go_wp2_with fail
    (try go_ret2);exact HR.out
   ·have Vm:(q==0)=false:=by simp[Et]
    by_cases h1:off<0
    ·have hd:decide (off<0)=true:=decide_eq_true h1;have HR:=Q0a (HT.out 2 (by unfold frE;rw[if_neg (by decide),if_neg Et,if_pos (.inl h1)]) _ B6.out);clear HT;go_wp2_with fail
     (try go_ret2);exact HR.out
    ·have hd:decide (off<0)=false:=decide_eq_false h1;by_cases h2:1024<off
     ·have Dd:decide (1024<off)=true:=decide_eq_true h2;have HR:=Q0a (HT.out 2 (by unfold frE;rw[if_neg (by decide),if_neg Et,if_pos (.inr (.inl h2))]) _ B6.out);clear HT;go_wp2_with fail
      (try go_ret2);exact HR.out
     ·have Dd:decide (1024<off)=false:=decide_eq_false h2;have Gg:IntKind.i64.wrap (1024-off)=1024-off:=Go.IntWalk.i64_in _ (by omega);have UP:wrap64 (1024-off)=1024-off:=Go.IntWalk.wrap64_in _ (by omega);by_cases h3:1024-off<n
      ·have Gh:decide (1024-off<n)=true:=decide_eq_true h3;have HR:=Q0a (HT.out 2 (by unfold frE;rw[if_neg (by decide),if_neg Et,if_pos (.inr (.inr h3))]) _ B6.out);clear HT;go_wp2_with fail
       (try go_ret2);exact HR.out
      ·have Gh:decide (1024-off<n)=false:=decide_eq_false h3;have Aw:¬(off<0∨1024<off∨1024-off<n):=by omega
       obtain⟨f,rfl⟩:=J3b (a:=off) (by omega);by_cases h4:(f:Int)%8=0
       ·have FH:((f:Int)%8 != 0)=false:=by simp;omega
        have HR:=Q0a (HT.out 0 (by unfold frE;rw[if_neg (by decide),if_neg Et,if_neg Aw,if_neg (by simpa using h4)]) _ B6.out);rw[if_pos rfl] at HR;clear HT;go_wp2_with fail
        (try go_ret2);exact HR.out
       ·have FH:((f:Int)%8 != 0)=true:=by simp;omega
        have HR:=Q0a (HT.out 3 (by unfold frE;rw[if_neg (by decide),if_neg Et,if_neg Aw,if_pos h4]) _ B6.out);clear HT;go_wp2_with fail
        (try go_ret2);exact HR.out
end Go.Proofs.YtfidemmgofcnmaaGreatDoor
