/- SpaceFails returns true at every input. No condition. Part of its proof. -/
import Derived.Test.YtfidemmgofcnmaaGreatDoorSf23
set_option maxHeartbeats 4000000
set_option maxRecDepth 100000
set_option linter.unusedVariables false
namespace Go.Proofs.YtfidemmgofcnmaaGreatDoor
open Go.RowKit Go.Proofs.Tryz
structure GoneZ(Z Z':SP):Prop where
 s:Z'.s=Z.s
 f:Z'.F.f=Z.F.f
 c:Z'.S.c=Z.S.c
 per:Z'.S.period=Z.S.period
 same:SameP Z.S.P Z'.S.P
 root:pget Z'.S.l 1 0=pget Z.S.l 1 0
theorem GoneZ.refl(Z:SP):GoneZ Z Z:=⟨rfl,rfl,rfl,rfl,SameP.refl _,rfl⟩
theorem SameN.gone{Z Z':SP}(h:SameN Z Z'):GoneZ Z Z':=⟨h.s,h.f,h.alt.c,h.alt.per,h.alt.same,by rw[h.alt.l]⟩
theorem Q9V{l l':List Pl}(h:l'[0]?=l[0]?):pget l' 1 0=pget l 1 0:=by
 unfold pget;rw[show 0%256=0 from rfl,h]
theorem Went.gone{Z:SP}{S':CO}(h:Went Z.S S')(tb:Nat->TB):GoneZ Z (Z.setS S' tb):=⟨rfl,rfl,h.c,h.per,h.same,Q9V h.root⟩
theorem Alt.gone{Z:SP}{S':CO}{own:Int}(h:Alt Z.S S' own)(tb:Nat->TB):GoneZ Z (Z.setS S' tb):=⟨rfl,rfl,h.c,h.per,h.same,by show pget S'.l 1 0=_;rw[h.l]⟩
theorem Tried.alt{S:CO}{fr:List Nat}{P':PL}(h:Tried S.P fr S.l P')(own:Int):Alt S (S.setP P') own:=
 ⟨rfl,rfl,rfl,rfl,rfl,rfl,rfl,rfl,h.same,by show P'.q.next=_;rw[h.q],fun id e he=>⟨e,by show find P'.q.E id=_;rw[h.q];exact he,rfl,fun _=>rfl⟩,by show P'.q.E.map En.id=_;rw[h.q],fun r hr As _=>h.mem r hr As⟩
theorem MakeR.cases{S:CO}{fr:List Nat}{N K:Nat}(ok:S.Ok fr N K){y:Nat}{k lim:Int}{w w':World}{r:Ending}(m:MakeR S fr y k lim w r w') :
  (∃(er:Int) (P':PL),er≠0/\r=two 0 er/\Tried S.P fr S.l P'/\Step S.hl (S.setP P').hl w w') ∨
  (∃(f:Pl) (n:Nat) (e:En Fa) (i:Nat) (q:Pl) (a v:Nat) (P':PL) (fr':List Nat),pget S.l 1 y=some f/\f.kind=1/\k=(n:Int)/\(n=8∨1<=n/\n<=5)/\find S.P.q.E f.own=some e/\S.l[i]?=some q/\q.st=0/\r=two (nm i q) 0/\MadeOk S fr f e n a lim v i q P' fr'/\Step S.hl (S.made f n a v i q P').hl w w'):=by
 have same:∀er:Int,er≠0->r=two 0 er->Step S.hl S.hl w w'->(∃(er:Int) (P':PL),er≠0/\r=two 0 er/\Tried S.P fr S.l P'/\Step S.hl (S.setP P').hl w w'):=fun er h1 h2 h3=>⟨er,S.P,h1,h2,Tried.refl ok.inv.mem.pool _,h3⟩
 rcases m with ⟨_,rfl,st⟩|⟨f,hf,⟨_,rfl,st⟩|⟨_,_,rfl,st⟩|⟨n,e,hn,hk,Hn,_,he,hm⟩⟩
 ·exact .inl (same 8 (by decide) rfl st)
 ·exact .inl (same 10 (by decide) rfl st)
 ·exact .inl (same 1 (by decide) rfl st)
 ·rcases hm with ⟨_,rfl,st⟩|⟨_,_,rfl,st⟩|⟨_,er,P',Co,tr,rfl,st⟩|⟨i,q,a,v,P',fr',hi,hq,_,_,rfl,mk,st⟩
  ·exact .inl (same 5 (by decide) rfl st)
  ·exact .inl (same 4 (by decide) rfl st)
  ·refine .inl ⟨er,P',?_,rfl,tr,st⟩;rcases Co with ⟨rfl,_⟩|⟨rfl,_⟩ <;> decide
  ·exact .inr ⟨f,n,e,i,q,a,v,P',fr',hf,hk,hn,Hn,he,hi,hq,rfl,mk,st⟩
theorem Q4R{Z Z1:SP}{g x f B:Nat}{w:World}(es:Z1.s=Z.s)(ec:Z1.S.c=Z.S.c)(ef:Z1.F.f=Z.F.f)(sep:Sep w Z1.hl)(bx:AsideV Z1.hl [.pointer (some ⟨g,0,none⟩),.int .u32 x,.int .i64 f] (some ⟨B,0,none⟩) w):Z6U Z g x f B w:=by
 have c0:=SP.c0 sep;have c1:=SP.c1 sep;rw[es,ec] at c0;rw[es,ef] at c1;exact⟨c0,c1,bx.at 0 _ rfl,bx.at 1 _ rfl,bx.at 2 _ rfl⟩
def MkR(Z:SP)(fr:List Nat)(N K:Nat)(M:Int)(x:Nat)(z k:Int)(w:World)(hh:Nat)(er:Int)(w':World):Prop:=
 (er≠0/\hh=0/\∃own,BackZ Z fr N K x own w w') ∨
 (er=0/\∃(Z':SP) (fr':List Nat) (s i:Nat) (q q':Pl),z=(s:Int)/\s<256/\Z.S.l[i]?=some q/\q.st=0/\hh=nm i q/\(q'.kind:Int)=k/\q'.st=1/\q'.age=q.age/\Z'.Ok fr' (N+1) K (M+1)/\GoneZ Z Z'/\Z'.S.l=Z.S.l.set i q'/\Z'.av.en=setA Z.av.en x s (some (hh,15))/\Step Z.hl Z'.hl w w')
section
variable {Z:SP} {fr:List Nat} {N K:Nat} {M:Int}
theorem Z7d(ok:Z.Ok fr N K M){x s:Nat}{p:Pl}(hp:pget Z.S.l 1 x=some p)(hk:p.kind=2)(hs:s<256)(h0:(Z.tb (x%256)).en s=none){S1 S2 S3:CO}{t1 t3:TB}{e1:Ent}{own:Int}(T1:TurnP Z.S fr N K Z.tb own (x%256) s (some e1) S1 t1)(al:Alt S1 S2 own)
  (T3:TurnP S2 fr N K (updT Z.tb (x%256) t1) own (x%256) s none S3 t3) {w w':World} (st:Step Z.hl (Z.setS S3 (updT Z.tb (x%256) t3)).hl w w'):BackZ Z fr N K x own w w':=by
 have hi:=(pget_some.1 hp).1;have h1:=(pget_some.1 hp).2.2;have al3:=(T1.alt.trans al).trans T3.alt;have Bf:∀q,t3.en q=(Z.tb (x%256)).en q:=fun q=>by
  rw[T3.en,updT_same,T1.en];split
  ·rename_i e;rw[e,h0]
  ·rfl
 have Kh:=T3.tpi;have lf1:∀q,q<16->(Z.tb (x%256)).lf q≠0->t1.lf q=(Z.tb (x%256)).lf q:=
  LaidP.lf_keep (own:=own) (S1:=Z.S) (t1:=Z.tb (x%256)) (J6i _ (by omega)) (ok.tpi.full _ (J6i _ (by omega))) hi h1 hk (by rw[Q1d];exact T1.tpi) T1.alt.l
   (fun q hq=>by
    rw[T1.en];split
    ·exact Option.some_ne_none _
    ·exact hq) (fun _ _ _=>rfl) (by rw[Q1d];exact T1.lf)
 have lf3:∀q,q<16->(Z.tb (x%256)).lf q≠0->t3.lf q=(Z.tb (x%256)).lf q:=
  LaidP.lf_keep (own:=own) (S1:=Z.S) (J6i _ (by omega)) (ok.tpi.full _ (J6i _ (by omega))) hi h1 hk Kh al3.l (fun q hq=>by rw[Bf];exact hq) lf1 T3.lf
 rw[Q1c] at Kh;refine⟨S3,t3,T3.ok,Kh,al3,fun q hq=>?_,Bf,st⟩;by_cases hz:(Z.tb (x%256)).lf q=0
 ·rw[hz];refine Classical.byContradiction fun Aa=>?_
  have Bm:=Kh.full (x%256) (J6i _ (by omega));rw[updT_same] at Bm;obtain⟨r,hr,UH,QH⟩:=Bm q hq Aa;rw[Bf r] at QH;exact QH ((ok.tpi.tin (x%256) p hi h1 hk).hole r hr (by rw[UH];exact hz))
 ·exact lf3 q hq hz
theorem Z7e{w w5:World}(ok:Z.Ok fr N K M)(hN:N+1<1048576)(hM:M+1<1099511627776){x y s g B nd:Nat}{p:Pl}(hx:x<4294967296)(hy:y<4294967296)(hp:pget Z.S.l 1 x=some p)(hk:p.kind=2)(hs:s<256)(h0:Q0f Z.S.l Z.tb x s=none)(k lim:Int)(Lk:k=8↔128<=s)
  {S1:CO} {t1:TB} (T1:TurnP Z.S fr N K Z.tb (p.fac:Int) (x%256) s (some ⟨0,15,nd⟩) S1 t1) (st:Step Z.hl (Z.setS S1 (updT Z.tb (x%256) t1)).hl w w5) (hg:TblZ (Z.setS S1 (updT Z.tb (x%256) t1)) p g w5)
  (bx:AsideV (Z.setS S1 (updT Z.tb (x%256) t1)).hl [.pointer (some ⟨g,0,none⟩),.int .u32 x,.int .i64 (p.fac:Int)] (some ⟨B,0,none⟩) w5) :
  Z2r Z g x p.fac B y (s:Int) k lim (fun hh er w'=>MkR Z fr N K M x (s:Int) k w hh er w') w5:=by
 have hi:=(pget_some.1 hp).1;have Ap:=(pget_some.1 hp).2.2;have Dj:(Z.tb (x%256)).en s=none:=by rw[<- Q0g hp hk hs];exact h0
 have DG:=T1.alt.l;have Fz:(updT Z.tb (x%256) t1 (x%256)).en s=some ⟨0,15,nd⟩:=by rw[updT_same,T1.en,if_pos rfl]
 have km:=Q6O (S:=S1) (SP.sS (Z:=Z.setS S1 (updT Z.tb (x%256) t1)) st.sep) T1.ok hN hy k lim;rw[T1.alt.c] at km;refine km.mono ?_;rintro rv w6 hm;rcases hm.cases T1.ok with ⟨er,P',Aa,rfl,tr,st2⟩|⟨f,n,e,i,q,a,v,P',fr',hf,Dx,rfl,hn,he,Jc,hq,rfl,mk,st2⟩
 ·have al2:=tr.alt (S:=S1) (p.fac:Int);have AB:Step (Z.setS S1 (updT Z.tb (x%256) t1)).hl (Z.setS (S1.setP P') (updT Z.tb (x%256) t1)).hl w5 w6:=SP.stepS st.sep (S1.setP P') (updT Z.tb (x%256) t1) rfl st2;have bx2:=bx.step AB;have Bu:TblZ (Z.setS (S1.setP P') (updT Z.tb (x%256) t1)) p g w6:=hg.step AB tr.same.p;refine⟨0,er,rfl,Q4R (Z1:=Z.setS (S1.setP P') (updT Z.tb (x%256) t1)) rfl T1.alt.c rfl AB.sep bx2,.inl ⟨Aa,?_⟩⟩;refine(Q4P (Z:=Z.setS (S1.setP P') (updT Z.tb (x%256) t1)) (x:=x) AB.sep (T1.ok.tried tr) (T1.tpi.tried T1.ok tr) (i:=x%256) (by show S1.l[x%256]?=_;rw[DG];exact hi) Ap hk hs Fz Bu).mono ?_
  rintro rv w7⟨rfl,S3,t3,T3,st3⟩;refine⟨rfl,.inl ⟨Aa,rfl,_,Z7d ok hp hk hs Dj T1 al2 T3 ?_⟩⟩;have h3:=(st.trans AB).trans st3;have e:((Z.setS (S1.setP P') (updT Z.tb (x%256) t1)).setS S3 (updT (updT Z.tb (x%256) t1) (x%256) t3))=Z.setS S3 (updT Z.tb (x%256) t3):=by rw[Q1c];rfl
  have h4:Step Z.hl ((Z.setS (S1.setP P') (updT Z.tb (x%256) t1)).setS S3 (updT (updT Z.tb (x%256) t1) (x%256) t3)).hl w w7:=h3
  rwa [e] at h4
 ·have ok2:=mk.ok T1.ok Jc;have tp2:=T1.tpi.made T1.ok mk Jc hq;have wn2:=mk.went T1.ok Jc hq;have Ao:=Q1t T1.ok.inv.len Jc;have AB:Step (Z.setS S1 (updT Z.tb (x%256) t1)).hl (Z.setS (S1.made f n a v i q P') (updT Z.tb (x%256) t1)).hl w5 w6:=SP.stepS st.sep (S1.made f n a v i q P') (updT Z.tb (x%256) t1) rfl st2;have bx2:=bx.step AB;have Bu:TblZ (Z.setS (S1.made f n a v i q P') (updT Z.tb (x%256) t1)) p g w6:=hg.step AB wn2.same.p;have F8:(S1.made f n a v i q P').l=S1.l.set i ⟨n,a,f.own,1,q.age,v⟩:=rfl;have A5:pget (S1.made f n a v i q P').l 1 x=some p:=by rw[F8];exact Q9M Jc hq (by rw[DG];exact hp)
  have D8:=(pget_some.1 A5).1;have Ct:pget (S1.made f n a v i q P').l 1 (nm i q)=some ⟨n,a,f.own,1,q.age,v⟩:=by
   rw[F8,Q0A _ Jc,if_pos (Q1B Ao q),if_pos ⟨rfl,rfl⟩]
  have A8:nm i q<4294967295:=Q9L ok2.inv.lok Ct;have A4:Q7a (S1.made f n a v i q P').l s ⟨nm i q,15,nd⟩:=⟨⟨_,Ct,by show n=8↔_;rw[<- Lk];omega⟩,by dsimp only;omega⟩
  have Tr:=Q4R (Z:=Z) (Z1:=Z.setS (S1.made f n a v i q P') (updT Z.tb (x%256) t1)) rfl T1.alt.c rfl AB.sep bx2;refine⟨nm i q,0,rfl,Tr,.inr ⟨rfl,(⟨0,15,nd⟩:Ent).a,nd,(⟨nm i q,15,0⟩:Ent).a,?_,fun w8 G3=>?_⟩⟩
  ·have T:=(tp2.x (p.fac:Int)).tt ok2 D8 Ap hk (SP.sS AB.sep) Bu.c;refine(Q3R T (s:Int)).mono ?_;rintro rv w7⟨rfl,rfl⟩;refine⟨?_,rfl⟩;unfold getV TB.at';rw[if_pos (by omega),J4h,Fz];rfl
  ·have st8:=AB.sep.grown G3;have bx8:=bx2.step st8;have U1:=Bu.step st8 rfl;refine⟨Q4R (Z1:=Z.setS (S1.made f n a v i q P') (updT Z.tb (x%256) t1)) rfl T1.alt.c rfl st8.sep bx8,Q6B w8 (nm i q) 15 A8 (by omega),?_⟩;refine(Q7J (S:=S1.made f n a v i q P') (tb:=updT Z.tb (x%256) t1) ok2 tp2 D8 Ap hk hs (e2:=⟨nm i q,15,nd⟩) Fz rfl ⟨A8,by show 15<16;omega⟩ (SP.sS st8.sep) U1.c).mono ?_;rintro rv w9⟨rfl,S3,t3,T3,st9⟩;have NZ:Step (Z.setS (S1.made f n a v i q P') (updT Z.tb (x%256) t1)).hl (Z.setS S3 (updT (updT Z.tb (x%256) t1) (x%256) t3)).hl w8 w9:=SP.stepS st8.sep S3 (updT (updT Z.tb (x%256) t1) (x%256) t3) T3.alt.c st9
   have bx9:=bx8.step NZ;refine⟨⟨0,rfl⟩,Q4R (Z1:=Z.setS S3 (updT (updT Z.tb (x%256) t1) (x%256) t3)) rfl (T3.alt.c.trans T1.alt.c) rfl NZ.sep bx9,fun m=>?_⟩;have std:=NZ.trans (NZ.sep.grown (Q0Y (Below.refl w9.heap.size w9) m));have AZ:=((st.trans AB).trans st8).trans std;have C7:Z.F.N.length<65536:=ok.fpi.few ok.fo.n hp hs h0;refine(Q8s (q:=Z.F) (SP.sF (Z:=Z.setS S3 (updT (updT Z.tb (x%256) t1) (x%256) t3)) std.sep) ok.fo (.inl rfl) (by omega) (by omega) (by omega) (by omega) (ok.fpi.free ok.fo.n h0) (by have:=ok.next;omega) C7).mono ?_;rintro rv w'⟨rfl,F',AF,stF⟩;refine⟨⟨_,_,rfl⟩,.inr ⟨rfl,?_⟩⟩
   obtain⟨okz,Bf,-⟩:=ok.made_added hp hk hs h0 T1 mk Jc hq A4 T3 AF;have stZ:Step (Z.setS S3 (updT (updT Z.tb (x%256) t1) (x%256) t3)).hl ((Z.setF F').setS S3 (updT Z.tb (x%256) t3)).hl (w9.drewN m) w':=by
    have:=SP.stepF (Z:=Z.setS S3 (updT (updT Z.tb (x%256) t1) (x%256) t3)) std.sep F' AF.f stF;have e:((Z.setS S3 (updT (updT Z.tb (x%256) t1) (x%256) t3)).setF F')=(Z.setF F').setS S3 (updT Z.tb (x%256) t3):=by rw[Q1c];rfl
    rwa [e] at this
   refine⟨(Z.setF F').setS S3 (updT Z.tb (x%256) t3),fr',s,i,q,⟨n,a,f.own,1,q.age,v⟩,rfl,hs,by rw[<- DG];exact Jc,hq,rfl,rfl,rfl,rfl,okz,⟨rfl,AF.f,(T3.alt.c.trans T1.alt.c),T3.alt.per.trans (wn2.per.trans T1.alt.per),(T1.alt.same.trans wn2.same).trans T3.alt.same,?_⟩,?_,Bf,AZ.trans stZ⟩
   ·show pget S3.l 1 0=_;rw[T3.alt.l,Q9V wn2.root,DG]
   ·show S3.l=_;rw[T3.alt.l,F8,DG]
theorem Q9W{w:World}(hs:Sep w Z.hl)(ok:Z.Ok fr N K M)(hN:N+1<1048576)(hM:M+1<1099511627776){x y:Nat}(hx:x<4294967296)(hy:y<4294967296)(z k lim:Int) :
  Calls prog 40 #[.pointer (some ⟨Z.s,0,none⟩),.int .u32 x,.int .i64 z,.int .u32 y,.int .i64 k,.int .i64 lim] w fun rv w'=>∃(hh:Nat) (er:Int),rv=.returned (.tuple #[.int .u32 hh,.int .i64 er])/\MkR Z fr N K M x z k w hh er w':=by
 have bad:∀(er:Int) (W:World),er≠0->Below w.heap.size w W->MkR Z fr N K M x z k w 0 er W:=fun er W he hb=>.inl ⟨he,rfl,0,BackZ.of 0 hs ok hb⟩
 cases hp:pget Z.S.l 1 x with
 | none =>
  refine(Q7N (y:=y) (z:=z) (k:=k) (lim:=lim) (e:=8) (by decide) (Q0I hs ok.core hx 8 (.inl ⟨hp,rfl⟩))).mono ?_;rintro rv w'⟨rfl,hb⟩;exact⟨0,8,rfl,bad 8 _ (by decide) hb⟩
 | some p =>
  by_cases hk:p.kind=2
  case neg =>
   refine(Q7N (y:=y) (z:=z) (k:=k) (lim:=lim) (e:=10) (by decide) (Q0I hs ok.core hx 10 (.inr ⟨p,hp,hk,rfl⟩))).mono ?_;rintro rv w'⟨rfl,hb⟩;exact⟨0,10,rfl,bad 10 _ (by decide) hb⟩
  refine Z3H hs ok hx hp hk z k lim ?_;by_cases hz:0<=z/\z<256
  case neg=>exact .inl ⟨2,.inl ⟨decide_eq_false hz,rfl⟩,fun W hb=>bad 2 W (by decide) hb⟩
  have Ie:decide (0<=z/\z<256)=true:=decide_eq_true hz;by_cases hm:k=8∨1<=k/\k<=5
  case neg=>exact .inl ⟨1,.inr (.inl ⟨Ie,decide_eq_false hm,rfl⟩),fun W hb=>bad 1 W (by decide) hb⟩
  have EL:decide (k=8∨1<=k/\k<=5)=true:=decide_eq_true hm;cases AJ:(decide (z<128)==(k==8)) with
  | true=>exact .inl ⟨1,.inr (.inr (.inl ⟨Ie,EL,AJ,rfl⟩)),fun W hb=>bad 1 W (by decide) hb⟩
  | false =>
   obtain⟨s,rfl⟩:∃s:Nat,z=(s:Int):=⟨z.toNat,by omega⟩
   have AB:s<256:=by omega
   have Lk:k=8↔128<=s:=by
    rcases Q3w AJ with ⟨h1,_,h3⟩|⟨h1,h2⟩
    ·have h1:=of_decide_eq_true h1;have h3:=of_decide_eq_false h3;omega
    ·have h1:=of_decide_eq_false h1;omega
   have AA:(Z.tb (x%256)).at' (s:Int)=Q0f Z.S.l Z.tb x s:=by
    unfold TB.at';rw[if_pos hz,Q0g hp hk (by omega)];rfl
   cases h0:Q0f Z.S.l Z.tb x s with
   | some e0=>exact .inl ⟨7,.inr (.inr (.inr ⟨Ie,EL,AJ,by rw[AA,h0];rfl,rfl⟩)),fun W hb=>bad 7 W (by decide) hb⟩
   | none =>
    have By:((Z.tb (x%256)).at' (s:Int)).isSome=false:=by rw[AA,h0];rfl
    refine .inr ⟨Ie,EL,rfl,By,fun W g B hb hg Bn=>?_⟩;have hi:=(pget_some.1 hp).1;have Ap:=(pget_some.1 hp).2.2;have Dj:(Z.tb (x%256)).en s=none:=by rw[<- Q0g hp hk AB];exact h0
    refine(Q8t (hs.grown hb).sep ok.core ok.tpi (x:=x) (h:=0) (r:=15) hi Ap hk AB Dj (by omega) (by omega) hg).mono ?_;rintro rv w5⟨er,rfl,⟨rfl,nd,S1,t1,T1,st1⟩|⟨he,FC,P',tr,st1⟩⟩
    ·have st:=(hs.grown hb).trans st1;have bx5:=Bn.step st1;exact⟨0,rfl,.inr ⟨rfl,Q4R (Z1:=Z.setS S1 (updT Z.tb (x%256) t1)) rfl T1.alt.c rfl st.sep bx5,Z7e ok hN hM hx hy hp hk AB h0 k lim Lk T1 st (hg.step st1 T1.alt.same.p) bx5⟩⟩
    ·refine⟨er,rfl,.inl ⟨by omega,.inl ⟨by omega,rfl,p.fac,?_⟩⟩⟩;refine LaidP.back (x:=x) (A:=fun _=>⟨0,0,0,false⟩) ok hp hk ((LaidP.start (x:=x) (A:=fun _=>⟨0,0,0,false⟩) ok (p.fac:Int)).tried tr) ?_;rw[Q1d];exact(hs.grown hb).trans st1
end
def Q0q(l:List Pl)(tb:Nat->TB)(x:Nat):List Int:=match pget l 1 x with
 | none=>[]
 | some p=>if p.kind=2 then Q0X (tb (x%256)) 256 else []
theorem NewIs.base{w w1 w':World}{L:List Int}{r:Ending}(hb:Below w.heap.size w w1)(h:NewIs w1 L r w'):NewIs w L r w':=by
 obtain⟨v,rfl,h1,h2⟩:=h;exact⟨v,rfl,Q1S h1 hb.size,hb.trans (h2.mono hb.size)⟩
theorem NewIs.nil{w w':World}(hb:Below w.heap.size w w'):NewIs w [] (.returned (.slice none 0 0)) w':=⟨_,rfl,World.ownsRow_nil _ _ _ _,hb⟩
theorem Q7Q{w:World}{Z:SP}{fr:List Nat}{N K:Nat}{M:Int}(hs:Sep w Z.hl)(ok:Z.Ok fr N K M){x:Nat}(hx:x<4294967296) :
  Calls prog 32 #[.pointer (some ⟨Z.s,0,none⟩),.int .u32 x] w (NewIs w (Q0q Z.S.l Z.tb x)):=by
 have JU:∀e:Int,e≠0->((pget Z.S.l 1 x=none/\e=8)∨∃p,pget Z.S.l 1 x=some p/\p.kind≠2/\e=10)->Calls prog 32 #[.pointer (some ⟨Z.s,0,none⟩),.int .u32 x] w (NewIs w []):=fun e he hw=>by
  have ks:=Q0I hs ok.core hx e hw;have FV:(e==0)=false:=by simpa using he
  have HR:Hid (∀w',Below w.heap.size w w'->∀o,NewIs w [] (.returned (.slice none 0 0)) (w'.alloc o)):=fun w' hb o=>NewIs.nil (hb.alloc hb.size o)
  clear hs ok hx hw;go_enter func32,ntmps32;go_wp2_with fail;refine ks.mono ?_;rintro r w1⟨rfl,hb⟩;have HQ:=Q0a (HR.out w1 hb);clear hb HR ks;go_wp2_with fail
  (try go_ret);exact HQ.out _
 cases hp:pget Z.S.l 1 x with
 | none =>
  have:=JU 8 (by decide) (.inl ⟨hp,rfl⟩);unfold Q0q;rw[hp];exact this
 | some p =>
  by_cases hk:p.kind=2
  ·have ks:=Q0N hs ok.core hx hp hk;have hi:=(pget_some.1 hp).1;have Ap:=(pget_some.1 hp).2.2;have hL:Q0q Z.S.l Z.tb x=Q0X (Z.tb (x%256)) 256:=by
    unfold Q0q;rw[hp];simp only[if_pos hk]
   rw[hL];have HC:Hid (∀(w2:World) (g:Nat),Below w.heap.size w w2->TblZ Z p g w2->Calls prog 91 #[.pointer (some ⟨g,0,none⟩)] (w2.alloc (.cells #[.pointer (some ⟨g,0,none⟩),.int .u32 x,.int .i64 (p.fac:Int)] 191)) (NewIs w (Q0X (Z.tb (x%256)) 256))):=fun w2 g Ai hg=>by
    have Ar:Below w2.heap.size w2 (w2.alloc (.cells #[.pointer (some ⟨g,0,none⟩),.int .u32 x,.int .i64 (p.fac:Int)] 191)):=(Below.refl _ _).alloc (J3b _) _;have s2:=(hs.grown Ai).sep;have T:=(ok.tpi.x (p.fac:Int)).tt ok.core hi Ap hk (SP.sS (s2.grown Ar).sep) (hg.grown s2 Ar).c;exact(Q7G T).mono fun r w' h=>h.base (Ai.trans (Ar.mono Ai.size))
   clear hs ok hx hp hk hi Ap hL JU;generalize Q0X (Z.tb (x%256)) 256=L at *
   go_enter func32,ntmps32;go_wp2_with fail;refine ks.mono ?_;rintro r w2⟨g,rfl,Ai,hg⟩;have kt:=HC.out w2 g Ai hg;clear Ai hg HC ks;go_wp2_with fail;refine kt.mono ?_;rintro r w3⟨v,rfl,hq⟩;have HQ:Hid (NewIs w L (.returned v) w3):=⟨v,rfl,hq⟩
   clear hq kt;go_wp2_with fail
   (try go_ret);exact HQ.out
  ·have:=JU 10 (by decide) (.inr ⟨p,hp,hk,rfl⟩);unfold Q0q;rw[hp];simp only[if_neg hk];exact this
theorem Q1T{w:World}{Z:SP}(hs:Sep w Z.hl):Calls prog 26 #[.pointer (some ⟨Z.s,0,none⟩)] w fun r w'=>r=.returned (.pointer (some ⟨Z.S.c,0,none⟩))/\w=w':=by
 have c0:=SP.c0 hs;clear hs;go_enter func26,ntmps26
 go_wp2
 go_ret;exact⟨rfl,rfl⟩
def encS(p:Int×Int):List Value:=[.int .i64 p.1,.int .i64 p.2]
theorem Z9r:(prog.info? 173).map (fun i=>(i.zero,i.size,i.bytes))=some (some (.agg #[.int .i64 0,.int .i64 0]),2,16):=by kernel_rfl
def OutS(w wr:World)(v:Value)(L:List (Int×Int)):Prop:=wr.ownsRow w.heap.size 173 2 v L.length (L.flatMap encS)/\Below w.heap.size w wr
theorem OutS.nil(w:World):OutS w w (.slice none 0 0) []:=⟨World.ownsRow_nil _ _ _ _,Below.refl _ _⟩
theorem OutS.below{w wr w1:World}{v:Value}{L:List (Int×Int)}(h:OutS w wr v L)(hb:Below wr.heap.size wr w1):OutS w w1 v L:=
 ⟨h.1.kept (row:=none) ⟨hb.os,hb.tape,hb.output,hb.size,fun k hk _=>hb.block k hk⟩ (by cases hv:v.ownBlock with|none=>exact .inl rfl|some b=>exact .inr (by simp)),h.2.trans (hb.mono h.2.size)⟩
theorem OutS.app{w wr:World}{v:Value}{L:List (Int×Int)}(h:OutS w wr v L)(hl:L.length<=16777216)(x y:Int)(ty:TypeId):∃v' w',(Builtin.append_ #[176,176] ty #[v,.slice (some ⟨wr.heap.size,0,none⟩) 1 1]).run prog (wr.alloc (.cells #[.int .i64 x,.int .i64 y] 173))=.ok v' w'/\OutS w w' v' (L++[(x,y)])/\(∀b,b<wr.heap.size->v.ownBlock≠some b->w'.heap[b]?=wr.heap[b]?)/\(v'.ownBlock=v.ownBlock∨∀b,v'.ownBlock=some b->wr.heap.size<=b)/\wr.heap.size<=w'.heap.size:=by
 obtain⟨i0,hi,Bx,AX,AU⟩:=info_parts Z9r;have h2:=h.below ((Below.refl _ _).alloc (J3b _) (.cells #[.int .i64 x,.int .i64 y] 173));obtain⟨v',w',hr,q1,q2,_,q4⟩:=run_append_own_at (P:=prog) (wr.alloc (.cells #[.int .i64 x,.int .i64 y] 173)) w.heap.size 176 ty 173 i0 (.agg #[.int .i64 0,.int .i64 0]) 2 16 underlying176 hi Bx AX AU rfl (by decide) v L.length (L.flatMap encS) h2.1 ⟨wr.heap.size,0,none⟩ 1 1 [.int .i64 x,.int .i64 y] rfl (by
  intro j u hj;have:=(Cells.new wr 173 [.int .i64 x,.int .i64 y]).cell j u hj;have e:(⟨wr.heap.size,0,none⟩:Addr).add j=⟨wr.heap.size,j,none⟩:=by unfold Addr.add;split <;> simp_all
  rw[e];exact this) (fun u hu=>by
   rcases J3g.1 hu with rfl|hu
   ·rfl
   ·rw[J5j.1 hu];rfl) (by unfold maxLen;omega) (by omega) h2.2.size
 refine⟨v',w',hr,⟨?_,?_⟩,fun b hb Aa=>?_,?_,?_⟩
 ·rw[J3M,J3K];exact q1
 ·exact h2.2.trans ((Below.refl _ _).mono h2.2.size |>.grown q2 h2.2.size (fun b hb=>(h2.1.lt b hb).1))
 ·rw[q2.block b (by simp;omega) (fun e=>Aa e.symm)];exact Below.heap_alloc _ _ _ hb
 ·rcases q4 with q4|q4
  ·exact .inl q4
  ·refine .inr fun b hb=>?_
   rw[q4] at hb;cases hb;simp
 ·have:=q2.size;simp at this;omega
def NewSp(w:World)(L:List (Int×Int))(r:Ending)(w':World):Prop:=∃v,r=.returned v/\w'.ownsRow w.heap.size 173 2 v L.length (L.flatMap encS)/\Below w.heap.size w w'
def hasH(l:List Pl)(tb:Nat->TB)(h x:Nat)(s:Int):Bool:=match Q0f l tb x s.toNat with
 | some e=>decide (e.h=h)
 | none=>false
def Q3z(l:List Pl)(tb:Nat->TB)(h x:Nat)(L:List Int):List (Int×Int):=(L.filter (hasH l tb h x)).map fun s=>((x:Int),s)
def Q5y(l:List Pl)(tb:Nat->TB)(h x:Nat):List (Int×Int):=Q3z l tb h x (Q0q l tb x)
def Q2b(l:List Pl)(tb:Nat->TB)(h:Nat)(T:List Nat):List (Int×Int):=T.flatMap (Q5y l tb h)
def Q3b(l:List Pl)(tb:Nat->TB)(h:Nat):List (Int×Int):=Q2b l tb h (allL l 1)
theorem Z3W(l:List Pl)(tb:Nat->TB)(h x:Nat)(L:List Int)(s:Int):Q3z l tb h x (L++[s])=Q3z l tb h x L++if hasH l tb h x s=true then [((x:Int),s)] else []:=by
 unfold Q3z;rw[J4Z,J6G];cases hh:hasH l tb h x s <;> simp[hh]
theorem Q9X(l:List Pl)(tb:Nat->TB)(h x:Nat)(L:List Int):(Q3z l tb h x L).length<=L.length:=by
 unfold Q3z;rw[J4L];exact J5r _ _
theorem Z3X(l:List Pl)(tb:Nat->TB)(h:Nat)(T:List Nat)(x:Nat):Q2b l tb h (T++[x])=Q2b l tb h T++Q5y l tb h x:=by
 unfold Q2b;rw[J3K];simp
theorem Q4S(l:List Pl)(tb:Nat->TB)(x:Nat):(Q0q l tb x).length<=256:=by
 unfold Q0q;split
 ·simp
 ·split
  ·exact Q4l _ _
  ·simp
theorem Q6P(l:List Pl)(tb:Nat->TB)(h:Nat):∀T:List Nat,(Q2b l tb h T).length<=256*T.length
 | []=>J3b _
 | x::r=>by
  have h1:=Q6P l tb h r;have h2:=Q9X l tb h x (Q0q l tb x);have h3:=Q4S l tb x;show((x::r).flatMap (Q5y l tb h)).length<=_;rw[J3z,J3M,J3N];unfold Q2b at h1;unfold Q5y at h1 ⊢;omega
theorem mem_slotsL{l:List Pl}{tb:Nat->TB}{x:Nat}{z:Int}:z∈Q0q l tb x↔∃s:Nat,z=(s:Int)/\s<256/\∃e,Q0f l tb x s=some e:=by
 unfold Q0q Q0f;cases hp:pget l 1 x with
 | none=>simp
 | some p =>
  simp only;by_cases hk:p.kind=2
  ·rw[if_pos hk];unfold Q0X;simp only[J3h,J3w,J3s,J6I]
   constructor
   ·rintro⟨s,⟨h1,e,h2⟩,rfl⟩;exact⟨s,rfl,h1,e,by rw[if_pos ⟨hk,h1⟩];exact h2⟩
   ·rintro⟨s,rfl,h1,e,h2⟩;rw[if_pos ⟨hk,h1⟩] at h2;exact⟨s,⟨h1,e,h2⟩,rfl⟩
  ·rw[if_neg hk]
   constructor
   ·intro h;cases h
   ·rintro⟨s,rfl,h1,e,h2⟩;rw[if_neg (by simp[hk])] at h2;cases h2
theorem mem_holdL{l:List Pl}{tb:Nat->TB}{h:Nat}{T:List Nat}{p:Int×Int}:p∈Q2b l tb h T↔∃x∈T,∃s:Nat,p=((x:Int),(s:Int))/\s<256/\∃e,Q0f l tb x s=some e/\e.h=h:=by
 unfold Q2b Q5y Q3z;simp only[J3C,J3h,J3w]
 constructor
 ·rintro⟨x,hx,z,⟨h1,h2⟩,rfl⟩;obtain⟨s,rfl,h3,e,h4⟩:=mem_slotsL.1 h1;refine⟨x,hx,s,rfl,h3,e,h4,?_⟩;unfold hasH at h2;rw[J4h,h4] at h2
  simpa using h2
 ·rintro⟨x,hx,s,rfl,h3,e,h4,h5⟩;refine⟨x,hx,(s:Int),⟨mem_slotsL.2 ⟨s,rfl,h3,e,h4⟩,?_⟩,rfl⟩;unfold hasH;rw[J4h,h4]
  simpa using h5
structure Grow(w4:World)(v4:Value)(wr:World)(v:Value):Prop where
 size:w4.heap.size<=wr.heap.size
 keep:∀b,b<w4.heap.size->v4.ownBlock≠some b->wr.heap[b]?=w4.heap[b]?
 own:v.ownBlock=v4.ownBlock∨∀b,v.ownBlock=some b->w4.heap.size<=b
theorem Grow.refl(w:World)(v:Value):Grow w v w v:=⟨J3b _,fun _ _ _=>rfl,.inl rfl⟩
theorem Grow.below{w4 wr w':World}{v4 v:Value}(h:Grow w4 v4 wr v)(hb:Below wr.heap.size wr w'):Grow w4 v4 w' v:=
 ⟨J3c h.size hb.size,fun b hl hn=>(hb.block b (J3d hl h.size)).trans (h.keep b hl hn),h.own⟩
theorem Grow.app{w4 wr w':World}{v4 v v':Value}(h:Grow w4 v4 wr v)(h1:∀b,b<wr.heap.size->v.ownBlock≠some b->w'.heap[b]?=wr.heap[b]?)(h2:v'.ownBlock=v.ownBlock∨∀b,v'.ownBlock=some b->wr.heap.size<=b)(h3:wr.heap.size<=w'.heap.size):Grow w4 v4 w' v':=by
 refine⟨J3c h.size h3,fun b hl hn=>(h1 b (J3d hl h.size) fun e=>?_).trans (h.keep b hl hn),?_⟩
 ·rcases h.own with h4|h4
  ·exact hn (h4 ▸ e)
  ·have:=h4 b e;omega
 ·rcases h2 with h2|h2
  ·rw[h2];exact h.own
  ·exact .inr fun b hb=>J3c h.size (h2 b hb)
theorem Q5P{w':World}{B:Nat}{T:TypeId}{size n:Nat}{v:Value}{cs:List Value}(h:w'.ownsRow B T size v n cs):∃(a:Option Addr) (cap:Nat),v=.slice a n cap/\∀(j:Nat) (u:Value),cs[j]?=some u->∃g,a=some ⟨g,0,none⟩/\B<=g/\g<w'.heap.size/\w'.cell? ⟨g,j,none⟩=some u:=by
 obtain⟨hl,h2⟩:=h;rcases h2 with ⟨rfl,h0⟩|⟨g,cap,Ag,rfl,hg,BK,hn,hm,Be,AW⟩
 ·refine⟨none,0,by rw[h0],fun j u hj=>?_⟩;have He:cs.length=0:=by rw[hl,h0,J6T]
  rw[J5b.1 He] at hj;simp at hj
 ·refine⟨some ⟨g,0,none⟩,cap,rfl,fun j u hj=>⟨g,rfl,hg,lt_of_block BK,?_⟩⟩;have Qn:=(J3t.1 hj).1;have e:Ag.toList[j]?=some u:=by
   rw[<- AW] at hj;have hk:j<n*size:=by omega
   rwa [J5f,if_pos hk] at hj
  unfold World.cell?;simp only[BK]
  simpa using e
theorem NewIs.from'{w w':World}{L:List Int}{r:Ending}(h:NewIs w L r w'):∃(a:Option Addr) (cap:Nat),r=.returned (.slice a L.length cap)/\Below w.heap.size w w'/\∀(j:Nat) (z:Int),L[j]?=some z->∃g,a=some ⟨g,0,none⟩/\w.heap.size<=g/\g<w'.heap.size/\w'.cell? ⟨g,j,none⟩=some (.int .i64 z):=by
 obtain⟨v,rfl,h1,h2⟩:=h;obtain⟨a,cap,rfl,h3⟩:=Q5P h1;exact⟨a,cap,rfl,h2,fun j z hz=>h3 j _ (by rw[J4N,hz];rfl)⟩
theorem Z7f{w:World}{Z:SP}{fr:List Nat}{N K:Nat}{M:Int}(hs:Sep w Z.hl)(ok:Z.Ok fr N K M){y:Nat}(hy:y∈allL Z.S.l 1):y<4294967296 /\
  ((∃e:Int,e≠0/\Q0q Z.S.l Z.tb y=[]/\Calls prog 90 #[.pointer (some ⟨Z.s,0,none⟩),.int .u32 y] w (Told w (.tuple #[.agg #[.pointer none,.int .u32 0,.int .i64 0],.int .i64 e]))) ∨
   ∃p,pget Z.S.l 1 y=some p/\p.kind=2/\Calls prog 90 #[.pointer (some ⟨Z.s,0,none⟩),.int .u32 y] w fun r w'=>∃g:Nat,r=.returned (.tuple #[.agg #[.pointer (some ⟨g,0,none⟩),.int .u32 y,.int .i64 (p.fac:Int)],.int .i64 0])/\Below w.heap.size w w'/\TblZ Z p g w'/\w.heap.size<=g):=by
 have AG:=ok.core.inv.lok;obtain⟨q,hq⟩:=(Q3g (by rw[AG.1];omega)).1 hy;have Cl:y<4294967296:=by
  obtain⟨a1,a2,_⟩:=pget_some.1 hq;have:=(AG.2 q (J5q a1)).2;unfold nm at a2;omega
 refine⟨Cl,?_⟩;by_cases hk:q.kind=2
 ·exact .inr ⟨q,hq,hk,Q9z hs ok.core Cl hq hk⟩
 ·refine .inl ⟨10,by decide,?_,Q0I hs ok.core Cl 10 (.inr ⟨q,hq,hk,rfl⟩)⟩;unfold Q0q;rw[hq];simp only;rw[if_neg hk]
theorem Z9s{w w1 w4 wr:World}{Z:SP}{fr:List Nat}{N K:Nat}{M:Int}(hs:Sep w Z.hl)(ok:Z.Ok fr N K M){y:Nat}{p:Pl}(hp:pget Z.S.l 1 y=some p)(hk:p.kind=2)(hb:Below w.heap.size w wr){g:Nat}(FQ:TblZ Z p g w4){v4 v:Value}(G:Grow w4 v4 wr v)(Aa:v4.ownBlock≠some g){s:Nat}(AB:s<256){e:Ent}(he:Q0f Z.S.l Z.tb y s=some e) :
  Calls prog 93 #[.agg #[.pointer (some ⟨g,0,none⟩),.int .u32 y,.int .i64 (p.fac:Int)],.int .i64 s] wr (Told wr (.tuple #[.agg #[.int .u32 (e.h:Int),.int .i64 (e.r:Int)],.bool true])):=by
 have s4:=(hs.grown hb).sep;have C6:TblZ Z p g wr:=fun j u hj=>by
  obtain⟨g',h1,h2,h3,h4⟩:=FQ j u hj;cases h1;exact⟨g,rfl,h2,J3d h3 G.size,(World.cell?_of_block (w:=w4) (G.keep g h3 Aa)).trans h4⟩
 have hi:=(pget_some.1 hp).1;have Ap:=(pget_some.1 hp).2.2;have T:=(ok.tpi.x (p.fac:Int)).tt ok.core hi Ap hk (SP.sS s4) C6.c;have AA:(Z.tb (y%256)).at' (s:Int)=some e:=by
  unfold TB.at';rw[if_pos ⟨by omega,by omega⟩,J4h];rw[Q0g hp hk AB] at he;exact he
 have kc:=Q1m T (y:Int) (p.fac:Int) (s:Int) fun e' AT=>by rw[AA] at AT;cases AT;exact ok.fpi.low ok.core.inv.lok he
 rw[AA] at kc;exact kc
theorem Q5u{w:World}{Z:SP}{fr:List Nat}{N K:Nat}{M:Int}(hs:Sep w Z.hl)(ok:Z.Ok fr N K M)(h:Nat) :
  Calls prog 83 #[.pointer (some ⟨Z.s,0,none⟩),.int .u32 h] w (NewSp w (Q3b Z.S.l Z.tb h)):=by
 have c0:=SP.c0 hs;have kl:=Q6x (SP.sS hs) ok.core.inv.lok;have J4:Hid (∀W y,Below w.heap.size w W->y∈allL Z.S.l 1->_):=fun W y hb hy=>Z7f (hs.grown hb).sep ok hy
 have Eu:Hid (∀(y:Nat) (p:Pl) (w4 wr:World) (g s:Nat) (v4 v:Value) (e:Ent),pget Z.S.l 1 y=some p->p.kind=2->Below w.heap.size w wr->TblZ Z p g w4->Grow w4 v4 wr v->v4.ownBlock≠some g->s<256->Q0f Z.S.l Z.tb y s=some e->_):=fun y p w4 wr g s v4 v e hp hk hb FQ G Aa AB he=>Z9s (w1:=w) hs ok hp hk hb FQ G Aa AB he
 have SA:Hid (∀(y:Nat) (p:Pl) (g:Nat) (W:World),pget Z.S.l 1 y=some p->p.kind=2->Below w.heap.size w W->TblZ Z p g W->Calls prog 91 #[.pointer (some ⟨g,0,none⟩)] W (NewIs W (Q0q Z.S.l Z.tb y))):=fun y p g W hp hk hb hg=>by
  have T:=(ok.tpi.x (p.fac:Int)).tt ok.core (pget_some.1 hp).1 (pget_some.1 hp).2.2 hk (SP.sS (hs.grown hb).sep) hg.c;have e:Q0q Z.S.l Z.tb y=Q0X (Z.tb (y%256)) 256:=by unfold Q0q;rw[hp];simp only;rw[if_pos hk]
  rw[e];exact Q7G T
 have PJ:Hid (∀(p:Pl) (g:Nat) (W W':World),Below w.heap.size w W->TblZ Z p g W->Below W.heap.size W W'->TblZ Z p g W'):=fun p g W W' hb hg Al=>hg.grown (hs.grown hb).sep Al
 have Su:(allL Z.S.l 1).length<=256:=by
  have:=Q2A Z.S.l 1 Z.S.l.length;unfold allL;rw[ok.core.inv.len] at this ⊢;exact this
 have Fg:Hid (∀T:List Nat,T.length<=256->(Q2b Z.S.l Z.tb h T).length<=65536):=fun T hT=>J3c (Q6P _ _ _ T) (by omega)
 have Nm:Hid (∀y,(Q0q Z.S.l Z.tb y).length<=256/\∀z∈Q0q Z.S.l Z.tb y,∃s:Nat,z=(s:Int)/\s<256/\∃e,Q0f Z.S.l Z.tb y s=some e):=fun y=>⟨Q4S _ _ _,fun z hz=>mem_slotsL.1 hz⟩
 have IC:=Q0a Su;unfold Q3b;clear hs ok Su;generalize hT:allL Z.S.l 1=T at *
 go_enter func83,ntmps83;go_wp2_with fail;refine kl.mono ?_;intro r w1 Dl;obtain⟨a0,KA,rfl,Aw,GA⟩:=Dl.shape;have Bp:=Q0a Aw;have G6:=Q0a GA;clear Dl Aw GA kl c0;go_wp2_with fail
 go_loopg [5,22] T.length (fun gk ov iv wr=>∃k:Nat,iv=.int .i64 k/\k+gk=T.length/\OutS w1 wr ov (Q2b Z.S.l Z.tb h (T.take k)))
 case atStart=>exact⟨0,rfl,J5G _,OutS.nil w1⟩
 case round =>
  obtain⟨k,rfl,AC,Am⟩:=hrel;have HO:=Q0a Am;have BE:=Q0a AC;clear Am;by_cases Ab:k<T.length
  ·obtain⟨y,hy⟩:∃y,T[k]?=some y:=⟨_,J5t Ab⟩
   obtain⟨g0,rfl,KL,DE,Ak⟩:=(G6.out.below HO.out.2).at' k y hy;obtain⟨Cl,LG⟩:=J4.out wr y (Bp.out.trans (HO.out.2.mono Bp.out.size)) (J5q hy);have AL:Hid (Q2b Z.S.l Z.tb h (T.take (k+1))=Q2b Z.S.l Z.tb h (T.take k)++Q5y Z.S.l Z.tb h y):=by
    rw[J4Y,hy];exact Z3X _ _ _ _ _
   have HY:=Q0a hy;have Fy:(k:Int)<256:=by have:=IC.out;omega
   have Bz:(0:Int)<=(k:Int):=by omega
   have TG:(0:Int)<=(y:Int):=by omega
   have U0:(y:Int)<4294967296:=by omega
   have VN:IntKind.i64.wrap (y:Int)=(y:Int):=Go.IntWalk.i64_in _ (by omega);clear hy AC Cl;rcases LG with ⟨e,Aa,E7,El⟩|⟨p,hp,A2,El⟩
   ·have B0:(e != 0)=true:=by simpa using Aa
    have HR:Hid (∀W,Below wr.heap.size wr W->OutS w1 W u5 (Q2b Z.S.l Z.tb h (T.take (k+1)))):=fun W hb=>by
     rw[AL.out];unfold Q5y Q3z;rw[E7]
     simpa using HO.out.below hb
    clear Aa E7 HO;go_wp2_with fail;refine El.mono ?_;rintro r w2⟨rfl,Ai⟩;have CE:=Q0a (HR.out _ (Ai.alloc Ai.size (.cells #[.pointer none,.int .u32 0,.int .i64 0] 191)));clear Ai HR El;go_wp2_with fail;go_roundg (T.length-(k+1))
    case measure=>have:=BE.out;omega
    case rel=>exact⟨k+1,by go_num,by omega,CE.out⟩
   ·go_wp2_with fail;refine El.mono ?_;rintro r w2⟨g,rfl,Ai,J2,Bu⟩;have Bn:Below w2.heap.size w2 (w2.alloc (.cells #[.pointer (some ⟨g,0,none⟩),.int .u32 y,.int .i64 (p.fac:Int)] 191)):=(Below.refl _ _).alloc (J3b _) _;have CP:Below w.heap.size w wr:=Bp.out.trans (HO.out.2.mono Bp.out.size);have IP:Below w.heap.size w w2:=CP.trans (Ai.mono CP.size);have Ko:=IP.trans (Bn.mono IP.size);have Nh:=PJ.out p g w2 _ IP J2 Bn;have ks:=SA.out y p g _ hp A2 Ko Nh;have Ix:Hid (OutS w1 (w2.alloc (.cells #[.pointer (some ⟨g,0,none⟩),.int .u32 y,.int .i64 (p.fac:Int)] 191)) u5 (Q2b Z.S.l Z.tb h (T.take k))):=(HO.out.below Ai).below Bn
    have BQ:=Q0a (Cells.new w2 191 [.pointer (some ⟨g,0,none⟩),.int .u32 y,.int .i64 (p.fac:Int)]);have Pz:Hid (∀b,u5.ownBlock=some b->b<wr.heap.size):=fun b hb=>(HO.out.1.lt b hb).2
    have TK:=Q0a Bu;have HP:Hid (pget Z.S.l 1 y=some p/\p.kind=2):=⟨hp,A2⟩
    have NE:=Q0a Nh;have OE:Hid (wr.heap.size<=w2.heap.size):=Ai.size;have Oh:=Q0a Ko;clear Bn CP IP Ko Nh J2 Ai Bu hp A2 El HO Ak DE KL;go_wp2_with fail;refine ks.mono ?_;intro r w4 Rv;obtain⟨aS,Vb,rfl,A9,Au⟩:=Rv.from'
    have Av:=Q0a A9;have Ru:=Q0a (Ix.out.below A9);have UJ:=Q0a (PJ.out p g _ w4 Oh.out NE.out A9);have Wz:=Q0a (Oh.out.trans (A9.mono Oh.out.size));have MR:=Q0a (BQ.out.same (A9.block _ (by simp)));have JT:Hid (∀(j:Nat) (z:Int),(Q0q Z.S.l Z.tb y)[j]?=some z->∃gS,aS=some ⟨gS,0,none⟩/\w2.heap.size<=gS/\gS<w4.heap.size/\w4.cell? ⟨gS,j,none⟩=some (.int .i64 z)):=fun j z hz=>by
     obtain⟨gS,h1,h2,h3,h4⟩:=Au j z hz;exact⟨gS,h1,by simp at h2;omega,h3,h4⟩
    obtain⟨Tz,MG⟩:=Nm.out y;have OO:=Q0a MG;have HX:Hid (Q5y Z.S.l Z.tb h y=Q3z Z.S.l Z.tb h y (Q0q Z.S.l Z.tb y)):=rfl;have Va:=Q0a (Fg.out (T.take k) (by rw[J5v];have:=IC.out;omega));generalize hSL:Q0q Z.S.l Z.tb y=SL at *
    clear Rv A9 Au MG ks Ix BQ NE Oh SA Nm PJ J4;go_wp2_with fail;obtain⟨gko,GI⟩:∃g,g=gk:=⟨_,rfl⟩
    subst GI;obtain⟨wo,PQ⟩:∃wo,wo=wr:=⟨_,rfl⟩
    subst PQ;obtain⟨v4,U3⟩:∃v4,v4=u5:=⟨_,rfl⟩
    subst U3
    go_loopg [5,38] SL.length (fun gi ov iv wi=>∃i:Nat,iv=.int .i64 i/\i+gi=SL.length/\OutS w1 wi ov (Q2b Z.S.l Z.tb h (T.take k)++Q3z Z.S.l Z.tb h y (SL.take i))/\Grow w4 v4 wi ov)
    case atStart=>exact⟨0,rfl,by omega,by simpa[Q3z] using Ru.out,Grow.refl _ _⟩
    case round =>
     clear Ru;obtain⟨i,rfl,Ls,Am,C6⟩:=hrel;have Pp:=Q0a Ls;have HO:=Q0a Am;have HG:=Q0a C6;clear Ls Am C6;by_cases Gu:i<SL.length
     ·obtain⟨z,hz⟩:∃z,SL[i]?=some z:=⟨_,J5t Gu⟩
      obtain⟨s,rfl,AB,e,he⟩:=OO.out z (J5q hz);obtain⟨gS,rfl,Ch,Bu,BS⟩:=JT.out i _ hz;have Il:∀b,wo.heap.size<=b->v4.ownBlock≠some b:=fun b hb hx=>by have:=Pz.out b hx;omega
      have Be:=OE.out;have cS:wr.cell? ⟨gS,i,none⟩=some (.int .i64 s):=(World.cell?_of_block (w:=w4) (HG.out.keep gS Bu (Il gS (by omega)))).trans BS;have Ob:=MR.out.same (HG.out.keep w2.heap.size MR.out.lt (Il _ Be));have b0:=Ob.cell 0 _ rfl;have b1:=Ob.cell 1 _ rfl;have b2:=Ob.cell 2 _ rfl;have Dc:Below w.heap.size w wr:=Bp.out.trans (HO.out.2.mono Bp.out.size);have kc:=Eu.out y p w4 wr g s v4 u5 e HP.out.1 HP.out.2 Dc UJ.out HG.out (Il g TK.out) AB he;have R8:hasH Z.S.l Z.tb h y (s:Int)=decide (e.h=h):=by
       unfold hasH;rw[J4h,he]
      have AW:SL.take (i+1)=SL.take i++[(s:Int)]:=by rw[J4Y,hz];rfl
      have DV:=Z3W Z.S.l Z.tb h y (SL.take i) (s:Int);rw[<- AW,R8] at DV;have N0:=Q0a DV;have CT:(Q2b Z.S.l Z.tb h (T.take k)++Q3z Z.S.l Z.tb h y (SL.take i)).length<=16777216:=by
       rw[J3M];have h1:=Va.out;have h2:=Q9X Z.S.l Z.tb h y (SL.take i);rw[J5v] at h2;omega
      have Gs:Hid (∀W,Below wr.heap.size wr W->∃v' w',(Builtin.append_ #[176,176] 176 #[u5,.slice (some ⟨W.heap.size,0,none⟩) 1 1]).run prog (W.alloc (.cells #[.int .i64 y,.int .i64 s] 173))=.ok v' w'/\OutS w1 w' v' ((Q2b Z.S.l Z.tb h (T.take k)++Q3z Z.S.l Z.tb h y (SL.take i))++[((y:Int),(s:Int))])/\Grow w4 v4 w' v'):=fun W hb=>by
       obtain⟨v',w',q1,q2,q3,q4,q5⟩:=(HO.out.below hb).app CT (y:Int) (s:Int) 176;exact⟨v',w',q1,q2,(HG.out.below hb).app q3 q4 q5⟩
      have JF:Hid (∀W,Below wr.heap.size wr W->OutS w1 W u5 (Q2b Z.S.l Z.tb h (T.take k)++Q3z Z.S.l Z.tb h y (SL.take i))/\Grow w4 v4 W u5):=fun W hb=>⟨HO.out.below hb,HG.out.below hb⟩
      have BJ:(0:Int)<=(i:Int):=by omega
      have Gq:(i:Int)<256:=by omega
      have DW:(0:Int)<=(s:Int):=by omega
      have C5:(s:Int)<256:=by omega
      clear hz he BS Ob Dc R8 AW DV CT Il Ch Bu Be HO HG AB;go_wp2_with fail;refine kc.mono ?_;rintro r w5⟨rfl,AD⟩;have C8:=AD.alloc AD.size (.cells #[.int .u32 (e.h:Int),.int .i64 (e.r:Int)] 72);have Jg:=Q0a C8;clear AD C8 kc cS b0 b1 b2;by_cases hh:e.h=h
      ·obtain⟨v',w',AK,Am,C6⟩:=Gs.out _ Jg.out;have hq:(((e.h:Nat):Int)==(h:Int))=true:=by simp[hh]
       have HR:Hid (OutS w1 w' v' (Q2b Z.S.l Z.tb h (T.take k)++Q3z Z.S.l Z.tb h y (SL.take (i+1)))/\Grow w4 v4 w' v'):=by
        refine⟨?_,C6⟩;rw[N0.out,if_pos (by simpa using hh),<- J4c];exact Am
       clear hh Am C6 Gs JF Jg N0;have M5:(w5.alloc (.cells #[.int .u32 (e.h:Int),.int .i64 (e.r:Int)] 72)).heap.size=w5.heap.size+1:=by simp
       rw[M5] at AK;clear M5;go_wp2_with (at_builtin;refine Lib.wpList_append_run _ rfl _ _ _ _ rfl _ _ rfl rfl _ _ AK ?_);go_roundg (SL.length-(i+1))
       case measure=>have:=Pp.out;omega
       case rel=>exact⟨i+1,by go_num,by omega,HR.out⟩
      ·have hq:(((e.h:Nat):Int)==(h:Int))=false:=by simp;omega
       have HR:Hid (OutS w1 (w5.alloc (.cells #[.int .u32 (e.h:Int),.int .i64 (e.r:Int)] 72)) u5 (Q2b Z.S.l Z.tb h (T.take k)++Q3z Z.S.l Z.tb h y (SL.take (i+1)))/\Grow w4 v4 (w5.alloc (.cells #[.int .u32 (e.h:Int),.int .i64 (e.r:Int)] 72)) u5):=by
        rw[N0.out,if_neg (by simpa using hh),J5i];exact JF.out _ Jg.out
       clear hh Gs JF Jg N0;go_wp2_with fail;go_roundg (SL.length-(i+1))
       case measure=>have:=Pp.out;omega
       case rel=>exact⟨i+1,by go_num,by omega,HR.out⟩
     ·have C4:i=SL.length:=by have:=Pp.out;omega
      have HR:Hid (OutS w1 wr u5 (Q2b Z.S.l Z.tb h (T.take (k+1)))):=by
       have h1:=HO.out;rw[C4,J7m] at h1;rw[AL.out,HX.out];exact h1
      clear HO HG;go_wp2_with fail;go_roundg (T.length-(k+1))
      case measure=>have:=BE.out;omega
      case rel=>exact⟨k+1,by go_num,by omega,HR.out⟩
  ·have DX:k=T.length:=by have:=BE.out;omega
   have Am:=HO.out;rw[DX,J7m] at Am;have HR:Hid (NewSp w (Q2b Z.S.l Z.tb h T) (.returned u5) wr):=⟨u5,rfl,Q1S Am.1 Bp.out.size,Bp.out.trans (Am.2.mono Bp.out.size)⟩
   clear Am HO;go_wp2_with fail
   (try go_ret);exact HR.out
def Q3A(next:Int)(x:Nat)(a:AV)(s:Int):AV×Nat:=if ownN a.N (x:Int) s=0 then(a,0) else Q0P 15 a (Q0H (kdF a.N) (rkF next) (ownN a.N (x:Int) s)++[ownN a.N (x:Int) s])
def Q1V(next:Int)(x:Nat):AV->List Int->AV×Nat
 | a,[]=>(a,0)
 | a,s::r=>((Q1V next x (Q3A next x a s).1 r).1,(Q3A next x a s).2+(Q1V next x (Q3A next x a s).1 r).2)
theorem wipeA_snoc(next:Int)(x:Nat):∀(l:List Int) (a:AV) (s:Int),Q1V next x a (l++[s])=((Q3A next x (Q1V next x a l).1 s).1,(Q1V next x a l).2+(Q3A next x (Q1V next x a l).1 s).2)
 | [],a,s=>by
  show((Q3A next x a s).1,(Q3A next x a s).2+0)=((Q3A next x a s).1,0+(Q3A next x a s).2);rw[J5G,J3k]
 | y::r,a,s=>by
  rw[J5n];unfold Q1V;rw[wipeA_snoc next x r];simp only[J4C]
def J2s(Z:SP)(fr:List Nat)(N K:Nat)(M:Int)(x:Nat)(l:List Int)(w w':World):Prop:=∃Z',Z'.Ok fr N K M/\Z'.av=(Q1V Z.F.next x Z.av l).1/\SameZ Z Z'/\Step Z.hl Z'.hl w w'
structure WpI(Z:SP)(fr:List Nat)(N K:Nat)(M:Int)(x:Nat)(l:List Int)(a:Option Addr)(w:World)(k:Nat)(Z1:SP)(wr:World):Prop where
 ok:Z1.Ok fr N K M
 av:Z1.av=(Q1V Z.F.next x Z.av (l.take k)).1
 same:SameZ Z Z1
 st:Step Z.hl Z1.hl w wr
 row:AsideV Z1.hl (l.map encI) a wr
theorem Z3Y{wr:World}{Z:SP}{fr:List Nat}{N K:Nat}{M:Int}(hs:Sep wr Z.hl)(ok:Z.Ok fr N K M){x s:Nat}(hx:x<4294967296)(AB:s<256) :
  wr.cell? ⟨Z.s,1,none⟩=some (.pointer (some ⟨Z.F.f,0,none⟩))/\Calls prog 161 #[.pointer (some ⟨Z.F.f,0,none⟩),.int .i64 x,.int .i64 s] wr fun r w1=>∃id:Int,r=.returned (.int .i64 id)/\wr=w1/\((id=0/\ownN Z.F.N (x:Int) (s:Int)=0)∨(id≠0 /\
   Calls prog 157 #[.pointer (some ⟨Z.F.f,0,none⟩),.int .i64 id] w1 fun r w5=>∃(a:Option Addr) (n cap:Nat),r=.returned (.slice a n cap)/\∃(a2:Option Addr) (n2 c2:Nat) (w6:World),(Builtin.append_ #[38,38] 38 #[.slice a n cap,.slice (some ⟨w5.heap.size,0,none⟩) 1 1]).run prog (w5.alloc (.cells #[.int .i64 id] 3))=.ok (.slice a2 n2 c2) w6 /\
    Calls prog 158 #[.pointer (some ⟨Z.s,0,none⟩),.int .i64 15,.slice a2 n2 c2] w6 fun r w7=>∃v:Nat,r=.returned (.int .i64 v)/\v<=65537/\∃Z',Z'.Ok fr N K M/\Q3A Z.F.next x Z.av (s:Int)=(Z'.av,v)/\SameZ Z Z'/\Step Z.hl Z'.hl wr w7)):=by
 have g1:(0:Int)<=(x:Int):=by omega
 have g2:(x:Int)<9223372036854775808:=by omega
 have g3:(0:Int)<=(s:Int):=by omega
 have g4:(s:Int)<9223372036854775808:=by omega
 refine⟨SP.c1 hs,(Q4O (SP.sF hs) ok.fo (sp:=(x:Int)) (sl:=(s:Int)) (Q3u (p:=((x:Int),(s:Int))) g1 g2 g3 g4)).mono ?_⟩;rintro r w1⟨rfl,rfl⟩;refine⟨_,rfl,rfl,?_⟩;by_cases h0:ownN Z.F.N (x:Int) (s:Int)=0
 ·exact .inl ⟨h0,h0⟩
 ·refine .inr ⟨h0,?_⟩;obtain⟨n,hn,e1,e2⟩:=(Q3U Z.F.N (x:Int) (s:Int)).resolve_right fun h=>h0 ((Q1y ok.fo.n).2 h)
  have hid:=Q1R ok.fo.n hn;rw[e1,e2] at hid;have Fn:=Q0k ok.fo.n.ids hn;have Du:Q3A Z.F.next x Z.av (s:Int)=Q0P 15 Z.av (revL Z.F n.id true):=by
   unfold Q3A revL;rw[if_neg (show ¬ownN Z.av.N (x:Int) (s:Int)=0 from h0),if_pos rfl];show Q0P 15 Z.av (Q0H (kdF Z.F.N) (rkF Z.F.next) (ownN Z.F.N (x:Int) (s:Int))++[ownN Z.F.N (x:Int) (s:Int)])=_;rw[hid]
  rw[hid];refine(Q7K hs ok.fo Fn).mono ?_;rintro r w5⟨AD,a,cap,rfl,Am⟩;have Ac:=Z2q ok.fo Fn true;have D1:(Q0H (kdF Z.F.N) (rkF Z.F.next) n.id).length<=16777216:=by
   unfold revL at Ac;rw[J3M] at Ac;omega
  obtain⟨v',w6,AK,Ed⟩:=Am.app D1 n.id 38;obtain⟨a2,c2,rfl,has⟩:=Ed.aside hs;refine⟨a,_,cap,rfl,a2,_,c2,w6,AK,?_⟩;have hl:Q0H (kdF Z.F.N) (rkF Z.F.next) n.id++[n.id]=revL Z.F n.id true:=by unfold revL;rw[if_pos rfl]
  rw[hl] at has ⊢;have s6:=(hs.grown Ed.2).sep;refine(Q2y s6 ok 15 (by omega) (by omega) (revL Z.F n.id true) a2 c2 (by omega) has (Q7E _ _)).mono ?_;rintro r w7⟨rfl,Z',k1,k2,k3,k4⟩;refine⟨_,rfl,J3c (Q5K 15 _ _) Ac,Z',k1,?_,k3,(hs.grown Ed.2).trans k4⟩;rw[Du,k2]
theorem Z1e{t:TB}{k:Nat}{z:Int}(h:z∈Q0X t k):∃s:Nat,z=(s:Int)/\s<k:=by
 unfold Q0X at h;obtain⟨s,hs,rfl⟩:=J3h.1 h;exact⟨s,rfl,J3s.1 (J3w.1 hs).1⟩
theorem Z3Z{l:List Pl}{tb:Nat->TB}{x:Nat}{z:Int}(h:z∈Q0q l tb x):∃s:Nat,z=(s:Int)/\s<256:=by
 unfold Q0q at h;split at h
 ·cases h
 ·split at h
  ·exact Z1e h
  ·cases h
theorem Z4a(l:List Pl)(tb:Nat->TB)(x:Nat):(Q0q l tb x).length<=256:=by
 unfold Q0q;split
 ·simp
 ·split
  ·exact Q4l _ _
  ·simp
theorem Q9Y{w:World}{Z:SP}{fr:List Nat}{N K:Nat}{M:Int}(hs:Sep w Z.hl)(ok:Z.Ok fr N K M){x:Nat}(hx:x<4294967296) :
  Calls prog 163 #[.pointer (some ⟨Z.s,0,none⟩),.int .u32 x] w fun r w'=>r=.returned (.int .i64 ((Q1V Z.F.next x Z.av (Q0q Z.S.l Z.tb x)).2:Nat))/\J2s Z fr N K M x (Q0q Z.S.l Z.tb x) w w':=by
 have QV:=Q7Q hs ok hx;have Cs:Hid (∀w1 a,Below w.heap.size w w1->AsideV Z.hl ((Q0q Z.S.l Z.tb x).map encI) a w1->WpI Z fr N K M x (Q0q Z.S.l Z.tb x) a w 0 Z w1):=fun w1 a hb ha=>⟨ok,rfl,SameZ.refl Z,hs.grown hb,ha⟩
 have HS:=Q0a hs;have HX:=Q0a hx;have K7:Hid (∀z∈Q0q Z.S.l Z.tb x,∃s:Nat,z=(s:Int)/\s<256):=fun z hz=>Z3Z hz
 have CT:=Z4a Z.S.l Z.tb x;generalize hL:Q0q Z.S.l Z.tb x=l at *
 generalize hn:l.length=n at *
 have HN:=Q0a hn;have Cw:(0:Int)<=(x:Int):=by omega
 have Dl:(x:Int)<4294967296:=by omega
 have M7:IntKind.i64.wrap (x:Int)=(x:Int):=Go.IntWalk.i64_in _ (by omega);have DS:=Q0a CT;clear hs ok hx hL hn CT;go_enter func163,ntmps163;go_wp2_with fail;refine QV.mono ?_;rintro r w1⟨v,rfl,h1,h2⟩;obtain⟨a,cap,rfl,has⟩:=Q5k HS.out h1;have JJ:=Q0a (Cs.out w1 a h2 has);rw[HN.out];clear h1 h2 has QV Cs;go_wp2_with fail
 go_loopg [5,13] n (fun gk cv iv wr=>∃(k:Nat) (Z1:SP),iv=.int .i64 k/\cv=.int .i64 ((Q1V Z.F.next x Z.av (l.take k)).2:Nat)/\(Q1V Z.F.next x Z.av (l.take k)).2<=65537*k/\k+gk=n/\WpI Z fr N K M x l a w k Z1 wr)
 case atStart=>exact⟨0,Z,rfl,rfl,J5e _,by omega,JJ.out⟩
 case round =>
  obtain⟨k,Z1,rfl,rfl,EO,AC,hI⟩:=hrel;have Cg:=Q0a AC;have HI:=Q0a hI;by_cases Ab:k<n
  ·obtain⟨z,hz⟩:∃z,l[k]?=some z:=⟨l[k]'(by rw[HN.out];exact Ab),J5t (by rw[HN.out];exact Ab)⟩
   obtain⟨s,rfl,AB⟩:=K7.out z (J5q hz);obtain⟨g,rfl,_,_,EA⟩:=hI.row k (.int .i64 s) (by rw[J4N,hz];rfl);have BI:∀(Z2:SP) (w':World) (v:Nat),Q3A Z1.F.next x Z1.av (s:Int)=(Z2.av,v)->Z2.Ok fr N K M->SameZ Z1 Z2->Step Z1.hl Z2.hl wr w'->(Q1V Z.F.next x Z.av (l.take (k+1))).2=(Q1V Z.F.next x Z.av (l.take k)).2+v/\WpI Z fr N K M x l (some ⟨g,0,none⟩) w (k+1) Z2 w':=fun Z2 w' v e k1 k2 k3=>by
    have AW:l.take (k+1)=l.take k++[(s:Int)]:=by rw[J4Y,hz];rfl
    have DV:Q1V Z.F.next x Z.av (l.take (k+1))=(Z2.av,(Q1V Z.F.next x Z.av (l.take k)).2+v):=by
     rw[AW,wipeA_snoc,<- HI.out.av,<- HI.out.same.nx,e]
    exact⟨by rw[DV],k1,by rw[DV],HI.out.same.trans k2,HI.out.st.trans k3,AsideV.step HI.out.row k3⟩
   have D6:=Q0a BI;obtain⟨CM,Gl⟩:=Z3Y hI.st.sep hI.ok HX.out AB;have KU:=hI.same.s;have KG:=hI.same.f;rw[KU,KG] at CM;rw[KG,KU] at Gl;have HF:=Q0a Gl;have C3:(k:Int)<(n:Int):=by omega
   have Bz:(0:Int)<=(k:Int):=by omega
   have Fy:(k:Int)<=256:=by have:=DS.out;omega
   have Kg:(Q1V Z.F.next x Z.av (l.take k)).2<=16777472:=by have:=DS.out;omega
   have S0:=Q0a EO;generalize A7:(Q1V Z.F.next x Z.av (l.take k)).2=c at *
   have Ih:(c:Int)<=16777472:=by omega
   have Ks:(0:Int)<=(c:Int):=by omega
   have DW:(0:Int)<=(s:Int):=by omega
   have C5:(s:Int)<256:=by omega
   clear hI AC Gl hz EO A7 Kg BI KU KG AB;go_wp2_with fail;refine HF.out.mono ?_;rintro r w2⟨id,rfl,rfl,hz⟩;have HZ:=Q0a hz;clear hz HF;rcases HZ.out with ⟨rfl,h0⟩|⟨Aa,CS⟩
   ·obtain⟨q1,q2⟩:=D6.out Z1 wr 0 (by unfold Q3A;rw[show Z1.av.N=Z1.F.N from rfl,if_pos h0]) HI.out.ok (SameZ.refl _) (Step.refl HI.out.st.sep);have Q1:=Q0a q1;have Q2:=Q0a q2;clear q1 q2 h0 HZ D6;go_wp2_with fail;go_roundg (n-(k+1))
    case measure=>have:=Cg.out;omega
    case rel=>exact⟨k+1,Z1,by go_num,by rw[Q1.out];simp,by rw[Q1.out];have:=S0.out;omega,by have:=Cg.out;omega,Q2.out⟩
   ·have KK:=Q0a CS;have J3:(id==0)=false:=by simpa using Aa
    have VJ:(id != 0)=true:=by simpa using Aa
    have Vt:wr.drew.cell? ⟨Z.s,1,none⟩=some (.pointer (some ⟨Z.F.f,0,none⟩)):=CM;clear CS HZ;go_wp2_with fail;refine KK.out.mono ?_;rintro r w5⟨a1,n1,c1,rfl,a2,n2,c2,w6,AK,kw⟩;have RA:=Q0a kw;clear kw KK;go_wp2_with (at_builtin;refine Lib.wpList_append_run _ rfl _ _ _ _ rfl _ _ rfl rfl _ _ AK ?_);refine RA.out.mono ?_;rintro r w7⟨v,rfl,I2,Z2,k1,k2,k3,k4⟩;obtain⟨q1,q2⟩:=D6.out _ _ _ k2 k1 k3 k4;have Q1:=Q0a q1;have Q2:=Q0a q2;have Ib:(v:Int)<=65537:=by omega
    have VE:(0:Int)<=(v:Int):=by omega
    have Ue:=Q0a I2;clear q1 q2 RA D6 k1 k2 k3 k4 I2 AK;go_wp2_with fail;go_roundg (n-(k+1))
    case measure=>have:=Cg.out;omega
    case rel=>exact⟨k+1,Z2,by go_num,by rw[Q1.out];simp,by rw[Q1.out];have:=S0.out;have:=Ue.out;omega,by have:=Cg.out;omega,Q2.out⟩
  ·obtain rfl:k=n:=by have:=Cg.out;omega
   have HR:Hid (((Q1V Z.F.next x Z.av (l.take k)).2=(Q1V Z.F.next x Z.av l).2)/\J2s Z fr N K M x l w wr):=by
    have h1:l.take k=l:=by rw[<- HN.out,J7m]
    have h2:=hI.av;rw[h1] at h2;exact⟨by rw[h1],Z1,hI.ok,h2,hI.same,hI.st⟩
   rw[HR.out.1];clear hI AC EO;go_wp2_with fail
   (try go_ret);exact⟨rfl,HR.out.2⟩
end Go.Proofs.YtfidemmgofcnmaaGreatDoor
