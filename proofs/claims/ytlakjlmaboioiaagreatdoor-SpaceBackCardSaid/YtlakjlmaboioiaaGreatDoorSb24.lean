/- SpaceBack returns true at every input. No condition. Part of its proof. -/
import Derived.Test.YtlakjlmaboioiaaGreatDoorSb01
import Derived.Test.YtlakjlmaboioiaaGreatDoorSb20
import Derived.Test.YtlakjlmaboioiaaGreatDoorSb22
import Derived.Test.YtlakjlmaboioiaaGreatDoorSb23
import Derived.Test.YtlakjlmaboioiaaGreatDoorSb18
import Derived.Test.YtlakjlmaboioiaaGreatDoorSb15
import Derived.Deep.LoopGhost
import Derived.Test.YtlakjlmaboioiaaGreatDoorSb19
import Derived.Test.YtlakjlmaboioiaaGreatDoorSb21
set_option maxHeartbeats 4000000
set_option maxRecDepth 100000
set_option linter.unusedVariables false
namespace Go.Proofs.YtlakjlmaboioiaaGreatDoor
open Go.RowKit Go.Proofs.Tryz
structure GoneZ (Z Z':SP):Prop where
 s:Z'.s=Z.s
 f:Z'.F.f=Z.F.f
 c:Z'.S.c=Z.S.c
 per:Z'.S.period=Z.S.period
 same:SameP Z.S.P Z'.S.P
 root:pget Z'.S.l 1 0=pget Z.S.l 1 0
theorem GoneZ.refl (Z:SP):GoneZ Z Z:=⟨rfl,rfl,rfl,rfl,SameP.refl _,rfl⟩
theorem SameN.gone {Z Z':SP} (h:SameN Z Z'):GoneZ Z Z':=⟨h.s,h.f,h.alt.c,h.alt.per,h.alt.same,by rw [h.alt.l]⟩
theorem Q9M {l l':List Pl} (h:l'[0]?=l[0]?):pget l' 1 0=pget l 1 0:=by
 unfold pget;rw [show 0%256=0 from rfl,h]
theorem Went.gone {Z:SP} {S':CO} (h:Went Z.S S') (tb:Nat->TB):GoneZ Z (Z.setS S' tb):=⟨rfl,rfl,h.c,h.per,h.same,Q9M h.root⟩
theorem Alt.gone {Z:SP} {S':CO} {own:Int} (h:Alt Z.S S' own) (tb:Nat->TB):GoneZ Z (Z.setS S' tb):=⟨rfl,rfl,h.c,h.per,h.same,by show pget S'.l 1 0=_;rw [h.l]⟩
theorem Tried.alt {S:CO} {fr:List Nat} {P':PL} (h:Tried S.P fr S.l P') (own:Int):Alt S (S.setP P') own:=
 ⟨rfl,rfl,rfl,rfl,rfl,rfl,rfl,rfl,h.same,by show P'.q.next=_;rw [h.q],fun id e he=>⟨e,by show find P'.q.E id=_;rw [h.q];exact he,rfl,fun _=>rfl⟩,by show P'.q.E.map En.id=_;rw [h.q],fun r hr his _=>h.mem r hr his⟩
theorem MakeR.cases {S:CO} {fr:List Nat} {N K:Nat} (ok:S.Ok fr N K) {y:Nat} {k lim:Int} {w w':World} {r:Ending} (m:MakeR S fr y k lim w r w') :
  (∃(er:Int) (P':PL),er≠0/\r=two 0 er/\Tried S.P fr S.l P'/\Step S.hl (S.setP P').hl w w') ∨
  (∃(f:Pl) (n:Nat) (e:En Fa) (i:Nat) (q:Pl) (a v:Nat) (P':PL) (fr':List Nat),pget S.l 1 y=some f/\f.kind=1/\k=(n:Int)/\(n=8∨1<=n/\n<=5)/\find S.P.q.E f.own=some e/\S.l[i]?=some q/\q.st=0/\r=two (nm i q) 0/\MadeOk S fr f e n a lim v i q P' fr'/\Step S.hl (S.made f n a v i q P').hl w w'):=by
 have same:∀er:Int,er≠0->r=two 0 er->Step S.hl S.hl w w'->(∃(er:Int) (P':PL),er≠0/\r=two 0 er/\Tried S.P fr S.l P'/\Step S.hl (S.setP P').hl w w'):=fun er h1 h2 h3=>⟨er,S.P,h1,h2,Tried.refl ok.inv.mem.pool _,h3⟩
 rcases m with ⟨_,rfl,st⟩|⟨f,hf,⟨_,rfl,st⟩|⟨_,_,rfl,st⟩|⟨n,e,hn,hk,hn2,_,he,hm⟩⟩
 ·exact .inl (same 8 (by decide) rfl st)
 ·exact .inl (same 10 (by decide) rfl st)
 ·exact .inl (same 1 (by decide) rfl st)
 ·rcases hm with ⟨_,rfl,st⟩|⟨_,_,rfl,st⟩|⟨_,er,P',her,tr,rfl,st⟩|⟨i,q,a,v,P',fr',hi,hq,_,_,rfl,mk,st⟩
  ·exact .inl (same 5 (by decide) rfl st)
  ·exact .inl (same 4 (by decide) rfl st)
  ·refine .inl ⟨er,P',?_,rfl,tr,st⟩;rcases her with ⟨rfl,_⟩|⟨rfl,_⟩ <;> decide
  ·exact .inr ⟨f,n,e,i,q,a,v,P',fr',hf,hk,hn,hn2,he,hi,hq,rfl,mk,st⟩
theorem Q4Q {Z Z1:SP} {g x f B:Nat} {w:World} (es:Z1.s=Z.s) (ec:Z1.S.c=Z.S.c) (ef:Z1.F.f=Z.F.f) (sep:Sep w Z1.hl) (bx:AsideV Z1.hl [.pointer (some ⟨g,0,none⟩),.int .u32 x,.int .i64 f] (some ⟨B,0,none⟩) w):Z6J Z g x f B w:=by
 have c0:=SP.c0 sep;have c1:=SP.c1 sep;rw [es,ec] at c0;rw [es,ef] at c1;exact⟨c0,c1,bx.at 0 _ rfl,bx.at 1 _ rfl,bx.at 2 _ rfl⟩
def MkR (Z:SP) (fr:List Nat) (N K:Nat) (M:Int) (x:Nat) (z k:Int) (w:World) (hh:Nat) (er:Int) (w':World):Prop:=
 (er≠0/\hh=0/\∃own,BackZ Z fr N K x own w w') ∨
 (er=0/\∃(Z':SP) (fr':List Nat) (s i:Nat) (q q':Pl),z=(s:Int)/\s<256/\Z.S.l[i]?=some q/\q.st=0/\hh=nm i q/\(q'.kind:Int)=k/\q'.st=1/\q'.age=q.age/\Z'.Ok fr' (N+1) K (M+1)/\GoneZ Z Z'/\Z'.S.l=Z.S.l.set i q'/\Z'.av.en=setA Z.av.en x s (some (hh,15))/\Step Z.hl Z'.hl w w')
section
variable {Z:SP} {fr:List Nat} {N K:Nat} {M:Int}
theorem Z6S (ok:Z.Ok fr N K M) {x s:Nat} {p:Pl} (hp:pget Z.S.l 1 x=some p) (hk:p.kind=2) (hs:s<256) (h0:(Z.tb (x%256)).en s=none) {S1 S2 S3:CO} {t1 t3:TB} {e1:Ent} {own:Int} (T1:TurnP Z.S fr N K Z.tb own (x%256) s (some e1) S1 t1) (al:Alt S1 S2 own)
  (T3:TurnP S2 fr N K (updT Z.tb (x%256) t1) own (x%256) s none S3 t3) {w w':World} (st:Step Z.hl (Z.setS S3 (updT Z.tb (x%256) t3)).hl w w'):BackZ Z fr N K x own w w':=by
 have hi:=(pget_some.1 hp).1;have h1:=(pget_some.1 hp).2.2;have al3:=(T1.alt.trans al).trans T3.alt;have hen:∀q,t3.en q=(Z.tb (x%256)).en q:=fun q=>by
  rw [T3.en,updT_same,T1.en];split
  ·rename_i e;rw [e,h0]
  ·rfl
 have htp:=T3.tpi;have lf1:∀q,q<16->(Z.tb (x%256)).lf q≠0->t1.lf q=(Z.tb (x%256)).lf q:=
  LaidP.lf_keep (own:=own) (S1:=Z.S) (t1:=Z.tb (x%256)) (J5D _ (by omega)) (ok.tpi.full _ (J5D _ (by omega))) hi h1 hk (by rw [Q1m];exact T1.tpi) T1.alt.l
   (fun q hq=>by
    rw [T1.en];split
    ·exact Option.some_ne_none _
    ·exact hq) (fun _ _ _=>rfl) (by rw [Q1m];exact T1.lf)
 have lf3:∀q,q<16->(Z.tb (x%256)).lf q≠0->t3.lf q=(Z.tb (x%256)).lf q:=
  LaidP.lf_keep (own:=own) (S1:=Z.S) (J5D _ (by omega)) (ok.tpi.full _ (J5D _ (by omega))) hi h1 hk htp al3.l (fun q hq=>by rw [hen];exact hq) lf1 T3.lf
 rw [Q1c] at htp;refine⟨S3,t3,T3.ok,htp,al3,fun q hq=>?_,hen,st⟩;by_cases hz:(Z.tb (x%256)).lf q=0
 ·rw [hz];refine Classical.byContradiction fun hne=>?_
  have hfl:=htp.full (x%256) (J5D _ (by omega));rw [updT_same] at hfl;obtain⟨r,hr,hrq,hre⟩:=hfl q hq hne;rw [hen r] at hre;exact hre ((ok.tpi.tin (x%256) p hi h1 hk).hole r hr (by rw [hrq];exact hz))
 ·exact lf3 q hq hz
theorem Z6T {w w5:World} (ok:Z.Ok fr N K M) (hN:N+1<1048576) (hM:M+1<1099511627776) {x y s g B nd:Nat} {p:Pl} (hx:x<4294967296) (hy:y<4294967296) (hp:pget Z.S.l 1 x=some p) (hk:p.kind=2) (hs:s<256) (h0:Q0f Z.S.l Z.tb x s=none) (k lim:Int) (hkz:k=8↔128<=s)
  {S1:CO} {t1:TB} (T1:TurnP Z.S fr N K Z.tb (p.fac:Int) (x%256) s (some ⟨0,15,nd⟩) S1 t1) (st:Step Z.hl (Z.setS S1 (updT Z.tb (x%256) t1)).hl w w5) (hg:TblZ (Z.setS S1 (updT Z.tb (x%256) t1)) p g w5)
  (bx:AsideV (Z.setS S1 (updT Z.tb (x%256) t1)).hl [.pointer (some ⟨g,0,none⟩),.int .u32 x,.int .i64 (p.fac:Int)] (some ⟨B,0,none⟩) w5) :
  Z2g Z g x p.fac B y (s:Int) k lim (fun hh er w'=>MkR Z fr N K M x (s:Int) k w hh er w') w5:=by
 have hi:=(pget_some.1 hp).1;have hst:=(pget_some.1 hp).2.2;have h0':(Z.tb (x%256)).en s=none:=by rw [<- Q0g hp hk hs];exact h0
 have hl1:=T1.alt.l;have he1:(updT Z.tb (x%256) t1 (x%256)).en s=some ⟨0,15,nd⟩:=by rw [updT_same,T1.en,if_pos rfl]
 have km:=Q6C (S:=S1) (SP.sS (Z:=Z.setS S1 (updT Z.tb (x%256) t1)) st.sep) T1.ok hN hy k lim;rw [T1.alt.c] at km;refine km.mono ?_;rintro rv w6 hm;rcases hm.cases T1.ok with ⟨er,P',hne,rfl,tr,st2⟩|⟨f,n,e,i,q,a,v,P',fr',hf,hfk,rfl,hn,he,hiq,hq,rfl,mk,st2⟩
 ·have al2:=tr.alt (S:=S1) (p.fac:Int);have hs2:Step (Z.setS S1 (updT Z.tb (x%256) t1)).hl (Z.setS (S1.setP P') (updT Z.tb (x%256) t1)).hl w5 w6:=SP.stepS st.sep (S1.setP P') (updT Z.tb (x%256) t1) rfl st2;have bx2:=bx.step hs2;have hg2:TblZ (Z.setS (S1.setP P') (updT Z.tb (x%256) t1)) p g w6:=hg.step hs2 tr.same.p;refine⟨0,er,rfl,Q4Q (Z1:=Z.setS (S1.setP P') (updT Z.tb (x%256) t1)) rfl T1.alt.c rfl hs2.sep bx2,.inl ⟨hne,?_⟩⟩;refine (Q4O (Z:=Z.setS (S1.setP P') (updT Z.tb (x%256) t1)) (x:=x) hs2.sep (T1.ok.tried tr) (T1.tpi.tried T1.ok tr) (i:=x%256) (by show S1.l[x%256]?=_;rw [hl1];exact hi) hst hk hs he1 hg2).mono ?_
  rintro rv w7 ⟨rfl,S3,t3,T3,st3⟩;refine⟨rfl,.inl ⟨hne,rfl,_,Z6S ok hp hk hs h0' T1 al2 T3 ?_⟩⟩;have h3:=(st.trans hs2).trans st3;have e:((Z.setS (S1.setP P') (updT Z.tb (x%256) t1)).setS S3 (updT (updT Z.tb (x%256) t1) (x%256) t3))=Z.setS S3 (updT Z.tb (x%256) t3):=by rw [Q1c];rfl
  have h4:Step Z.hl ((Z.setS (S1.setP P') (updT Z.tb (x%256) t1)).setS S3 (updT (updT Z.tb (x%256) t1) (x%256) t3)).hl w w7:=h3
  rwa [e] at h4
 ·have ok2:=mk.ok T1.ok hiq;have tp2:=T1.tpi.made T1.ok mk hiq hq;have wn2:=mk.went T1.ok hiq hq;have hi256:=Q1s T1.ok.inv.len hiq;have hs2:Step (Z.setS S1 (updT Z.tb (x%256) t1)).hl (Z.setS (S1.made f n a v i q P') (updT Z.tb (x%256) t1)).hl w5 w6:=SP.stepS st.sep (S1.made f n a v i q P') (updT Z.tb (x%256) t1) rfl st2;have bx2:=bx.step hs2;have hg2:TblZ (Z.setS (S1.made f n a v i q P') (updT Z.tb (x%256) t1)) p g w6:=hg.step hs2 wn2.same.p;have hl2:(S1.made f n a v i q P').l=S1.l.set i ⟨n,a,f.own,1,q.age,v⟩:=rfl;have hp2:pget (S1.made f n a v i q P').l 1 x=some p:=by rw [hl2];exact Q9D hiq hq (by rw [hl1];exact hp)
  have hi2:=(pget_some.1 hp2).1;have hnew:pget (S1.made f n a v i q P').l 1 (nm i q)=some ⟨n,a,f.own,1,q.age,v⟩:=by
   rw [hl2,Q0z _ hiq,if_pos (Q0Y hi256 q),if_pos ⟨rfl,rfl⟩]
  have hlow:nm i q<4294967295:=Q9B ok2.inv.lok hnew;have hcap:Q6M (S1.made f n a v i q P').l s ⟨nm i q,15,nd⟩:=⟨⟨_,hnew,by show n=8↔_;rw [<- hkz];omega⟩,by dsimp only;omega⟩
  have hh2:=Q4Q (Z:=Z) (Z1:=Z.setS (S1.made f n a v i q P') (updT Z.tb (x%256) t1)) rfl T1.alt.c rfl hs2.sep bx2;refine⟨nm i q,0,rfl,hh2,.inr ⟨rfl,(⟨0,15,nd⟩:Ent).a,nd,(⟨nm i q,15,0⟩:Ent).a,?_,fun w8 hb8=>?_⟩⟩
  ·have T:=(tp2.x (p.fac:Int)).tt ok2 hi2 hst hk (SP.sS hs2.sep) hg2.c;refine (Q3I T (s:Int)).mono ?_;rintro rv w7 ⟨rfl,rfl⟩;refine⟨?_,rfl⟩;unfold getV TB.at';rw [if_pos (by omega),J3C,he1];rfl
  ·have st8:=hs2.sep.grown hb8;have bx8:=bx2.step st8;have hg8:=hg2.step st8 rfl;refine⟨Q4Q (Z1:=Z.setS (S1.made f n a v i q P') (updT Z.tb (x%256) t1)) rfl T1.alt.c rfl st8.sep bx8,Q6s w8 (nm i q) 15 hlow (by omega),?_⟩;refine (Q7v (S:=S1.made f n a v i q P') (tb:=updT Z.tb (x%256) t1) ok2 tp2 hi2 hst hk hs (e2:=⟨nm i q,15,nd⟩) he1 rfl ⟨hlow,by show 15<16;omega⟩ (SP.sS st8.sep) hg8.c).mono ?_;rintro rv w9 ⟨rfl,S3,t3,T3,st9⟩;have hs9:Step (Z.setS (S1.made f n a v i q P') (updT Z.tb (x%256) t1)).hl (Z.setS S3 (updT (updT Z.tb (x%256) t1) (x%256) t3)).hl w8 w9:=SP.stepS st8.sep S3 (updT (updT Z.tb (x%256) t1) (x%256) t3) T3.alt.c st9
   have bx9:=bx8.step hs9;refine⟨⟨0,rfl⟩,Q4Q (Z1:=Z.setS S3 (updT (updT Z.tb (x%256) t1) (x%256) t3)) rfl (T3.alt.c.trans T1.alt.c) rfl hs9.sep bx9,fun m=>?_⟩;have std:=hs9.trans (hs9.sep.grown (Q1n (Below.refl w9.heap.size w9) m));have hall:=((st.trans hs2).trans st8).trans std;have hfew:Z.F.N.length<65536:=ok.fpi.few ok.fo.n hp hs h0;refine (Q8d (q:=Z.F) (SP.sF (Z:=Z.setS S3 (updT (updT Z.tb (x%256) t1) (x%256) t3)) std.sep) ok.fo (.inl rfl) (by omega) (by omega) (by omega) (by omega) (ok.fpi.free ok.fo.n h0) (by have:=ok.next;omega) hfew).mono ?_;rintro rv w' ⟨rfl,F',AF,stF⟩;refine⟨⟨_,_,rfl⟩,.inr ⟨rfl,?_⟩⟩
   obtain⟨okz,hen,-⟩:=ok.made_added hp hk hs h0 T1 mk hiq hq hcap T3 AF;have stZ:Step (Z.setS S3 (updT (updT Z.tb (x%256) t1) (x%256) t3)).hl ((Z.setF F').setS S3 (updT Z.tb (x%256) t3)).hl (w9.drewN m) w':=by
    have:=SP.stepF (Z:=Z.setS S3 (updT (updT Z.tb (x%256) t1) (x%256) t3)) std.sep F' AF.f stF;have e:((Z.setS S3 (updT (updT Z.tb (x%256) t1) (x%256) t3)).setF F')=(Z.setF F').setS S3 (updT Z.tb (x%256) t3):=by rw [Q1c];rfl
    rwa [e] at this
   refine⟨(Z.setF F').setS S3 (updT Z.tb (x%256) t3),fr',s,i,q,⟨n,a,f.own,1,q.age,v⟩,rfl,hs,by rw [<- hl1];exact hiq,hq,rfl,rfl,rfl,rfl,okz,⟨rfl,AF.f,(T3.alt.c.trans T1.alt.c),T3.alt.per.trans (wn2.per.trans T1.alt.per),(T1.alt.same.trans wn2.same).trans T3.alt.same,?_⟩,?_,hen,hall.trans stZ⟩
   ·show pget S3.l 1 0=_;rw [T3.alt.l,Q9M wn2.root,hl1]
   ·show S3.l=_;rw [T3.alt.l,hl2,hl1]
theorem Z6U {w:World} (hs:Sep w Z.hl) (ok:Z.Ok fr N K M) (hN:N+1<1048576) (hM:M+1<1099511627776) {x y:Nat} (hx:x<4294967296) (hy:y<4294967296) (z k lim:Int) :
  Calls prog 38 #[.pointer (some ⟨Z.s,0,none⟩),.int .u32 x,.int .i64 z,.int .u32 y,.int .i64 k,.int .i64 lim] w fun rv w'=>∃(hh:Nat) (er:Int),rv=.returned (.tuple #[.int .u32 hh,.int .i64 er])/\MkR Z fr N K M x z k w hh er w':=by
 have bad:∀(er:Int) (W:World),er≠0->Below w.heap.size w W->MkR Z fr N K M x z k w 0 er W:=fun er W he hb=>.inl ⟨he,rfl,0,BackZ.of 0 hs ok hb⟩
 cases hp:pget Z.S.l 1 x with
 | none =>
  refine (Q7z (y:=y) (z:=z) (k:=k) (lim:=lim) (e:=8) (by decide) (Q0H hs ok.core hx 8 (.inl ⟨hp,rfl⟩))).mono ?_;rintro rv w' ⟨rfl,hb⟩;exact⟨0,8,rfl,bad 8 _ (by decide) hb⟩
 | some p =>
  by_cases hk:p.kind=2
  case neg =>
   refine (Q7z (y:=y) (z:=z) (k:=k) (lim:=lim) (e:=10) (by decide) (Q0H hs ok.core hx 10 (.inr ⟨p,hp,hk,rfl⟩))).mono ?_;rintro rv w' ⟨rfl,hb⟩;exact⟨0,10,rfl,bad 10 _ (by decide) hb⟩
  refine Z3v hs ok hx hp hk z k lim ?_;by_cases hz:0<=z/\z<256
  case neg=>exact .inl ⟨2,.inl ⟨decide_eq_false hz,rfl⟩,fun W hb=>bad 2 W (by decide) hb⟩
  have hdz:decide (0<=z/\z<256)=true:=decide_eq_true hz;by_cases hm:k=8∨1<=k/\k<=5
  case neg=>exact .inl ⟨1,.inr (.inl ⟨hdz,decide_eq_false hm,rfl⟩),fun W hb=>bad 1 W (by decide) hb⟩
  have hdm:decide (k=8∨1<=k/\k<=5)=true:=decide_eq_true hm;cases hbk:(decide (z<128)==(k==8)) with
  | true=>exact .inl ⟨1,.inr (.inr (.inl ⟨hdz,hdm,hbk,rfl⟩)),fun W hb=>bad 1 W (by decide) hb⟩
  | false =>
   obtain⟨s,rfl⟩:∃s:Nat,z=(s:Int):=⟨z.toNat,by omega⟩
   have hs2:s<256:=by omega
   have hkz:k=8↔128<=s:=by
    rcases Q3n hbk with ⟨h1,_,h3⟩|⟨h1,h2⟩
    ·have h1:=of_decide_eq_true h1;have h3:=of_decide_eq_false h3;omega
    ·have h1:=of_decide_eq_false h1;omega
   have hat:(Z.tb (x%256)).at' (s:Int)=Q0f Z.S.l Z.tb x s:=by
    unfold TB.at';rw [if_pos hz,Q0g hp hk (by omega)];rfl
   cases h0:Q0f Z.S.l Z.tb x s with
   | some e0=>exact .inl ⟨7,.inr (.inr (.inr ⟨hdz,hdm,hbk,by rw [hat,h0];rfl,rfl⟩)),fun W hb=>bad 7 W (by decide) hb⟩
   | none =>
    have hfull:((Z.tb (x%256)).at' (s:Int)).isSome=false:=by rw [hat,h0];rfl
    refine .inr ⟨hdz,hdm,rfl,hfull,fun W g B hb hg hbx=>?_⟩;have hi:=(pget_some.1 hp).1;have hst:=(pget_some.1 hp).2.2;have h0':(Z.tb (x%256)).en s=none:=by rw [<- Q0g hp hk hs2];exact h0
    refine (Q8e (hs.grown hb).sep ok.core ok.tpi (x:=x) (h:=0) (r:=15) hi hst hk hs2 h0' (by omega) (by omega) hg).mono ?_;rintro rv w5 ⟨er,rfl,⟨rfl,nd,S1,t1,T1,st1⟩|⟨he,hwhy,P',tr,st1⟩⟩
    ·have st:=(hs.grown hb).trans st1;have bx5:=hbx.step st1;exact⟨0,rfl,.inr ⟨rfl,Q4Q (Z1:=Z.setS S1 (updT Z.tb (x%256) t1)) rfl T1.alt.c rfl st.sep bx5,Z6T ok hN hM hx hy hp hk hs2 h0 k lim hkz T1 st (hg.step st1 T1.alt.same.p) bx5⟩⟩
    ·refine⟨er,rfl,.inl ⟨by omega,.inl ⟨by omega,rfl,p.fac,?_⟩⟩⟩;refine LaidP.back (x:=x) (A:=fun _=>⟨0,0,0,false⟩) ok hp hk ((LaidP.start (x:=x) (A:=fun _=>⟨0,0,0,false⟩) ok (p.fac:Int)).tried tr) ?_;rw [Q1m];exact (hs.grown hb).trans st1
end
def Q0q (l:List Pl) (tb:Nat->TB) (x:Nat):List Int:=match pget l 1 x with
 | none=>[]
 | some p=>if p.kind=2 then Q0X (tb (x%256)) 256 else []
theorem NewIs.base {w w1 w':World} {L:List Int} {r:Ending} (hb:Below w.heap.size w w1) (h:NewIs w1 L r w'):NewIs w L r w':=by
 obtain⟨v,rfl,h1,h2⟩:=h;exact⟨v,rfl,Q2s h1 hb.size,hb.trans (h2.mono hb.size)⟩
theorem NewIs.nil {w w':World} (hb:Below w.heap.size w w'):NewIs w [] (.returned (.slice none 0 0)) w':=⟨_,rfl,World.ownsRow_nil _ _ _ _,hb⟩
theorem Q7B {w:World} {Z:SP} {fr:List Nat} {N K:Nat} {M:Int} (hs:Sep w Z.hl) (ok:Z.Ok fr N K M) {x:Nat} (hx:x<4294967296) :
  Calls prog 25 #[.pointer (some ⟨Z.s,0,none⟩),.int .u32 x] w (NewIs w (Q0q Z.S.l Z.tb x)):=by
 have herr:∀e:Int,e≠0->((pget Z.S.l 1 x=none/\e=8)∨∃p,pget Z.S.l 1 x=some p/\p.kind≠2/\e=10)->Calls prog 25 #[.pointer (some ⟨Z.s,0,none⟩),.int .u32 x] w (NewIs w []):=fun e he hw=>by
  have ks:=Q0H hs ok.core hx e hw;have hnb:(e==0)=false:=by simpa using he
  have HR:Hid (∀w',Below w.heap.size w w'->∀o,NewIs w [] (.returned (.slice none 0 0)) (w'.alloc o)):=fun w' hb o=>NewIs.nil (hb.alloc hb.size o)
  clear hs ok hx hw;go_enter func25,ntmps25;go_wp2_with fail;refine ks.mono ?_;rintro r w1 ⟨rfl,hb⟩;have HQ:=Q0a (HR.out w1 hb);clear hb HR ks;go_wp2_with fail
  first|exact HQ.out _|(go_ret;exact HQ.out _)
 cases hp:pget Z.S.l 1 x with
 | none =>
  have:=herr 8 (by decide) (.inl ⟨hp,rfl⟩);unfold Q0q;rw [hp];exact this
 | some p =>
  by_cases hk:p.kind=2
  ·have ks:=Q0U hs ok.core hx hp hk;have hi:=(pget_some.1 hp).1;have hst:=(pget_some.1 hp).2.2;have hL:Q0q Z.S.l Z.tb x=Q0X (Z.tb (x%256)) 256:=by
    unfold Q0q;rw [hp];simp only [if_pos hk]
   rw [hL];have HC:Hid (∀(w2:World) (g:Nat),Below w.heap.size w w2->TblZ Z p g w2->Calls prog 89 #[.pointer (some ⟨g,0,none⟩)] (w2.alloc (.cells #[.pointer (some ⟨g,0,none⟩),.int .u32 x,.int .i64 (p.fac:Int)] 155)) (NewIs w (Q0X (Z.tb (x%256)) 256))):=fun w2 g hb2 hg=>by
    have hb3:Below w2.heap.size w2 (w2.alloc (.cells #[.pointer (some ⟨g,0,none⟩),.int .u32 x,.int .i64 (p.fac:Int)] 155)):=(Below.refl _ _).alloc (J2x _) _;have s2:=(hs.grown hb2).sep;have T:=(ok.tpi.x (p.fac:Int)).tt ok.core hi hst hk (SP.sS (s2.grown hb3).sep) (hg.grown s2 hb3).c;exact (Q7s T).mono fun r w' h=>h.base (hb2.trans (hb3.mono hb2.size))
   clear hs ok hx hp hk hi hst hL herr;generalize Q0X (Z.tb (x%256)) 256=L at *
   go_enter func25,ntmps25;go_wp2_with fail;refine ks.mono ?_;rintro r w2 ⟨g,rfl,hb2,hg⟩;have kt:=HC.out w2 g hb2 hg;clear hb2 hg HC ks;go_wp2_with fail;refine kt.mono ?_;rintro r w3 ⟨v,rfl,hq⟩;have HQ:Hid (NewIs w L (.returned v) w3):=⟨v,rfl,hq⟩
   clear hq kt;go_wp2_with fail
   first|exact HQ.out|(go_ret;exact HQ.out)
  ·have:=herr 10 (by decide) (.inr ⟨p,hp,hk,rfl⟩);unfold Q0q;rw [hp];simp only [if_neg hk];exact this
theorem Q3r {w:World} {Z:SP} (hs:Sep w Z.hl):Calls prog 29 #[.pointer (some ⟨Z.s,0,none⟩)] w fun r w'=>r=.returned (.pointer (some ⟨Z.S.c,0,none⟩))/\w=w':=by
 have c0:=SP.c0 hs;clear hs;go_enter func29,ntmps29
 go_wp2
 go_ret;exact⟨rfl,rfl⟩
def encS (p:Int×Int):List Value:=[.int .i64 p.1,.int .i64 p.2]
theorem Z9b:(prog.info? 46).map (fun i=>(i.zero,i.size,i.bytes))=some (some (.agg #[.int .i64 0,.int .i64 0]),2,16):=by kernel_rfl
def OutS (w wr:World) (v:Value) (L:List (Int×Int)):Prop:=wr.ownsRow w.heap.size 46 2 v L.length (L.flatMap encS)/\Below w.heap.size w wr
theorem OutS.nil (w:World):OutS w w (.slice none 0 0) []:=⟨World.ownsRow_nil _ _ _ _,Below.refl _ _⟩
theorem OutS.below {w wr w1:World} {v:Value} {L:List (Int×Int)} (h:OutS w wr v L) (hb:Below wr.heap.size wr w1):OutS w w1 v L:=
 ⟨h.1.kept (row:=none) ⟨hb.os,hb.tape,hb.output,hb.size,fun k hk _=>hb.block k hk⟩ (by cases hv:v.ownBlock with|none=>exact .inl rfl|some b=>exact .inr (by simp)),h.2.trans (hb.mono h.2.size)⟩
theorem OutS.app {w wr:World} {v:Value} {L:List (Int×Int)} (h:OutS w wr v L) (hl:L.length<=16777216) (x y:Int) (ty:TypeId):∃v' w',(Builtin.append_ #[49,49] ty #[v,.slice (some ⟨wr.heap.size,0,none⟩) 1 1]).run prog (wr.alloc (.cells #[.int .i64 x,.int .i64 y] 46))=.ok v' w'/\OutS w w' v' (L++[(x,y)])/\(∀b,b<wr.heap.size->v.ownBlock≠some b->w'.heap[b]?=wr.heap[b]?)/\(v'.ownBlock=v.ownBlock∨∀b,v'.ownBlock=some b->wr.heap.size<=b)/\wr.heap.size<=w'.heap.size:=by
 obtain⟨i0,hi,hz0,hz1,hz2⟩:=info_parts Z9b;have h2:=h.below ((Below.refl _ _).alloc (J2x _) (.cells #[.int .i64 x,.int .i64 y] 46));obtain⟨v',w',hr,q1,q2,_,q4⟩:=run_append_own_at (P:=prog) (wr.alloc (.cells #[.int .i64 x,.int .i64 y] 46)) w.heap.size 49 ty 46 i0 (.agg #[.int .i64 0,.int .i64 0]) 2 16 underlying49 hi hz0 hz1 hz2 rfl (by decide) v L.length (L.flatMap encS) h2.1 ⟨wr.heap.size,0,none⟩ 1 1 [.int .i64 x,.int .i64 y] rfl (by
  intro j u hj;have:=(Cells.new wr 46 [.int .i64 x,.int .i64 y]).cell j u hj;have e:(⟨wr.heap.size,0,none⟩:Addr).add j=⟨wr.heap.size,j,none⟩:=by unfold Addr.add;split <;> simp_all
  rw [e];exact this) (fun u hu=>by
   rcases J2C.1 hu with rfl|hu
   ·rfl
   ·rw [J4E.1 hu];rfl) (by unfold maxLen;omega) (by omega) h2.2.size
 refine⟨v',w',hr,⟨?_,?_⟩,fun b hb hne=>?_,?_,?_⟩
 ·rw [J3h,J3f];exact q1
 ·exact h2.2.trans ((Below.refl _ _).mono h2.2.size |>.grown q2 h2.2.size (fun b hb=>(h2.1.lt b hb).1))
 ·rw [q2.block b (by simp;omega) (fun e=>hne e.symm)];exact Below.heap_alloc _ _ _ hb
 ·rcases q4 with q4|q4
  ·exact .inl q4
  ·refine .inr fun b hb=>?_
   rw [q4] at hb;cases hb;simp
 ·have:=q2.size;simp at this;omega
def NewSp (w:World) (L:List (Int×Int)) (r:Ending) (w':World):Prop:=∃v,r=.returned v/\w'.ownsRow w.heap.size 46 2 v L.length (L.flatMap encS)/\Below w.heap.size w w'
def hasH (l:List Pl) (tb:Nat->TB) (h x:Nat) (s:Int):Bool:=match Q0f l tb x s.toNat with
 | some e=>decide (e.h=h)
 | none=>false
def Q3s (l:List Pl) (tb:Nat->TB) (h x:Nat) (L:List Int):List (Int×Int):=(L.filter (hasH l tb h x)).map fun s=>((x:Int),s)
def Q5u (l:List Pl) (tb:Nat->TB) (h x:Nat):List (Int×Int):=Q3s l tb h x (Q0q l tb x)
def Q1V (l:List Pl) (tb:Nat->TB) (h:Nat) (T:List Nat):List (Int×Int):=T.flatMap (Q5u l tb h)
def Q2X (l:List Pl) (tb:Nat->TB) (h:Nat):List (Int×Int):=Q1V l tb h (allL l 1)
theorem Z3L (l:List Pl) (tb:Nat->TB) (h x:Nat) (L:List Int) (s:Int):Q3s l tb h x (L++[s])=Q3s l tb h x L++if hasH l tb h x s=true then [((x:Int),s)] else []:=by
 unfold Q3s;rw [J4u,J6b];cases hh:hasH l tb h x s <;> simp [hh]
theorem Q9N (l:List Pl) (tb:Nat->TB) (h x:Nat) (L:List Int):(Q3s l tb h x L).length<=L.length:=by
 unfold Q3s;rw [J4g];exact J4M _ _
theorem Z3M (l:List Pl) (tb:Nat->TB) (h:Nat) (T:List Nat) (x:Nat):Q1V l tb h (T++[x])=Q1V l tb h T++Q5u l tb h x:=by
 unfold Q1V;rw [J3f];simp
theorem Q4R (l:List Pl) (tb:Nat->TB) (x:Nat):(Q0q l tb x).length<=256:=by
 unfold Q0q;split
 ·simp
 ·split
  ·exact Q4h _ _
  ·simp
theorem Q6D (l:List Pl) (tb:Nat->TB) (h:Nat):∀T:List Nat,(Q1V l tb h T).length<=256*T.length
 | []=>J2x _
 | x::r=>by
  have h1:=Q6D l tb h r;have h2:=Q9N l tb h x (Q0q l tb x);have h3:=Q4R l tb x;show ((x::r).flatMap (Q5u l tb h)).length<=_;rw [J2U,J3h,J3i];unfold Q1V at h1;unfold Q5u at h1 ⊢;omega
theorem mem_slotsL {l:List Pl} {tb:Nat->TB} {x:Nat} {z:Int}:z∈Q0q l tb x↔∃s:Nat,z=(s:Int)/\s<256/\∃e,Q0f l tb x s=some e:=by
 unfold Q0q Q0f;cases hp:pget l 1 x with
 | none=>simp
 | some p =>
  simp only;by_cases hk:p.kind=2
  ·rw [if_pos hk];unfold Q0X;simp only [J2D,J2R,J2N,J6d]
   constructor
   ·rintro⟨s,⟨h1,e,h2⟩,rfl⟩;exact⟨s,rfl,h1,e,by rw [if_pos ⟨hk,h1⟩];exact h2⟩
   ·rintro⟨s,rfl,h1,e,h2⟩;rw [if_pos ⟨hk,h1⟩] at h2;exact⟨s,⟨h1,e,h2⟩,rfl⟩
  ·rw [if_neg hk]
   constructor
   ·intro h;cases h
   ·rintro⟨s,rfl,h1,e,h2⟩;rw [if_neg (by simp [hk])] at h2;cases h2
theorem mem_holdL {l:List Pl} {tb:Nat->TB} {h:Nat} {T:List Nat} {p:Int×Int}:p∈Q1V l tb h T↔∃x∈T,∃s:Nat,p=((x:Int),(s:Int))/\s<256/\∃e,Q0f l tb x s=some e/\e.h=h:=by
 unfold Q1V Q5u Q3s;simp only [J2X,J2D,J2R]
 constructor
 ·rintro⟨x,hx,z,⟨h1,h2⟩,rfl⟩;obtain⟨s,rfl,h3,e,h4⟩:=mem_slotsL.1 h1;refine⟨x,hx,s,rfl,h3,e,h4,?_⟩;unfold hasH at h2;rw [J3C,h4] at h2
  simpa using h2
 ·rintro⟨x,hx,s,rfl,h3,e,h4,h5⟩;refine⟨x,hx,(s:Int),⟨mem_slotsL.2 ⟨s,rfl,h3,e,h4⟩,?_⟩,rfl⟩;unfold hasH;rw [J3C,h4]
  simpa using h5
structure Grow (w4:World) (v4:Value) (wr:World) (v:Value):Prop where
 size:w4.heap.size<=wr.heap.size
 keep:∀b,b<w4.heap.size->v4.ownBlock≠some b->wr.heap[b]?=w4.heap[b]?
 own:v.ownBlock=v4.ownBlock∨∀b,v.ownBlock=some b->w4.heap.size<=b
theorem Grow.refl (w:World) (v:Value):Grow w v w v:=⟨J2x _,fun _ _ _=>rfl,.inl rfl⟩
theorem Grow.below {w4 wr w':World} {v4 v:Value} (h:Grow w4 v4 wr v) (hb:Below wr.heap.size wr w'):Grow w4 v4 w' v:=
 ⟨J2y h.size hb.size,fun b hl hn=>(hb.block b (J2z hl h.size)).trans (h.keep b hl hn),h.own⟩
theorem Grow.app {w4 wr w':World} {v4 v v':Value} (h:Grow w4 v4 wr v) (h1:∀b,b<wr.heap.size->v.ownBlock≠some b->w'.heap[b]?=wr.heap[b]?) (h2:v'.ownBlock=v.ownBlock∨∀b,v'.ownBlock=some b->wr.heap.size<=b) (h3:wr.heap.size<=w'.heap.size):Grow w4 v4 w' v':=by
 refine⟨J2y h.size h3,fun b hl hn=>(h1 b (J2z hl h.size) fun e=>?_).trans (h.keep b hl hn),?_⟩
 ·rcases h.own with h4|h4
  ·exact hn (h4 ▸ e)
  ·have:=h4 b e;omega
 ·rcases h2 with h2|h2
  ·rw [h2];exact h.own
  ·exact .inr fun b hb=>J2y h.size (h2 b hb)
theorem Q8k {w':World} {B:Nat} {T:TypeId} {size n:Nat} {v:Value} {cs:List Value} (h:w'.ownsRow B T size v n cs):∃(a:Option Addr) (cap:Nat),v=.slice a n cap/\∀(j:Nat) (u:Value),cs[j]?=some u->∃g,a=some ⟨g,0,none⟩/\B<=g/\g<w'.heap.size/\w'.cell? ⟨g,j,none⟩=some u:=by
 obtain⟨hl,h2⟩:=h;rcases h2 with ⟨rfl,h0⟩|⟨g,cap,cur,rfl,hg,hgb,hn,hm,hsz,htk⟩
 ·refine⟨none,0,by rw [h0],fun j u hj=>?_⟩;have hl':cs.length=0:=by rw [hl,h0,J6o]
  rw [J4w.1 hl'] at hj;simp at hj
 ·refine⟨some ⟨g,0,none⟩,cap,rfl,fun j u hj=>⟨g,rfl,hg,lt_of_block hgb,?_⟩⟩;have hjl:=(J2O.1 hj).1;have e:cur.toList[j]?=some u:=by
   rw [<- htk] at hj;have hk:j<n*size:=by omega
   rwa [J4A,if_pos hk] at hj
  unfold World.cell?;simp only [hgb]
  simpa using e
theorem NewIs.from' {w w':World} {L:List Int} {r:Ending} (h:NewIs w L r w'):∃(a:Option Addr) (cap:Nat),r=.returned (.slice a L.length cap)/\Below w.heap.size w w'/\∀(j:Nat) (z:Int),L[j]?=some z->∃g,a=some ⟨g,0,none⟩/\w.heap.size<=g/\g<w'.heap.size/\w'.cell? ⟨g,j,none⟩=some (.int .i64 z):=by
 obtain⟨v,rfl,h1,h2⟩:=h;obtain⟨a,cap,rfl,h3⟩:=Q8k h1;exact⟨a,cap,rfl,h2,fun j z hz=>h3 j _ (by rw [J4i,hz];rfl)⟩
theorem Z6V {w:World} {Z:SP} {fr:List Nat} {N K:Nat} {M:Int} (hs:Sep w Z.hl) (ok:Z.Ok fr N K M) {y:Nat} (hy:y∈allL Z.S.l 1):y<4294967296 /\
  ((∃e:Int,e≠0/\Q0q Z.S.l Z.tb y=[]/\Calls prog 73 #[.pointer (some ⟨Z.s,0,none⟩),.int .u32 y] w (Told w (.tuple #[.agg #[.pointer none,.int .u32 0,.int .i64 0],.int .i64 e]))) ∨
   ∃p,pget Z.S.l 1 y=some p/\p.kind=2/\Calls prog 73 #[.pointer (some ⟨Z.s,0,none⟩),.int .u32 y] w fun r w'=>∃g:Nat,r=.returned (.tuple #[.agg #[.pointer (some ⟨g,0,none⟩),.int .u32 y,.int .i64 (p.fac:Int)],.int .i64 0])/\Below w.heap.size w w'/\TblZ Z p g w'/\w.heap.size<=g):=by
 have hlok:=ok.core.inv.lok;obtain⟨q,hq⟩:=(Q1i (by rw [hlok.1];omega)).1 hy;have hy32:y<4294967296:=by
  obtain⟨a1,a2,_⟩:=pget_some.1 hq;have:=(hlok.2 q (J4L a1)).2;unfold nm at a2;omega
 refine⟨hy32,?_⟩;by_cases hk:q.kind=2
 ·exact .inr ⟨q,hq,hk,Q9o hs ok.core hy32 hq hk⟩
 ·refine .inl ⟨10,by decide,?_,Q0H hs ok.core hy32 10 (.inr ⟨q,hq,hk,rfl⟩)⟩;unfold Q0q;rw [hq];simp only;rw [if_neg hk]
theorem Z9c {w w1 w4 wr:World} {Z:SP} {fr:List Nat} {N K:Nat} {M:Int} (hs:Sep w Z.hl) (ok:Z.Ok fr N K M) {y:Nat} {p:Pl} (hp:pget Z.S.l 1 y=some p) (hk:p.kind=2) (hb:Below w.heap.size w wr) {g:Nat} (hg4:TblZ Z p g w4) {v4 v:Value} (G:Grow w4 v4 wr v) (hne:v4.ownBlock≠some g) {s:Nat} (hs2:s<256) {e:Ent} (he:Q0f Z.S.l Z.tb y s=some e) :
  Calls prog 74 #[.agg #[.pointer (some ⟨g,0,none⟩),.int .u32 y,.int .i64 (p.fac:Int)],.int .i64 s] wr (Told wr (.tuple #[.agg #[.int .u32 (e.h:Int),.int .i64 (e.r:Int)],.bool true])):=by
 have s4:=(hs.grown hb).sep;have hgr:TblZ Z p g wr:=fun j u hj=>by
  obtain⟨g',h1,h2,h3,h4⟩:=hg4 j u hj;cases h1;exact⟨g,rfl,h2,J2z h3 G.size,(World.cell?_of_block (w:=w4) (G.keep g h3 hne)).trans h4⟩
 have hi:=(pget_some.1 hp).1;have hst:=(pget_some.1 hp).2.2;have T:=(ok.tpi.x (p.fac:Int)).tt ok.core hi hst hk (SP.sS s4) hgr.c;have hat:(Z.tb (y%256)).at' (s:Int)=some e:=by
  unfold TB.at';rw [if_pos ⟨by omega,by omega⟩,J3C];rw [Q0g hp hk hs2] at he;exact he
 have kc:=Q1x T (y:Int) (p.fac:Int) (s:Int) fun e' he'=>by rw [hat] at he';cases he';exact ok.fpi.low ok.core.inv.lok he
 rw [hat] at kc;exact kc
theorem Q5q {w:World} {Z:SP} {fr:List Nat} {N K:Nat} {M:Int} (hs:Sep w Z.hl) (ok:Z.Ok fr N K M) (h:Nat) :
  Calls prog 23 #[.pointer (some ⟨Z.s,0,none⟩),.int .u32 h] w (NewSp w (Q2X Z.S.l Z.tb h)):=by
 have c0:=SP.c0 hs;have kl:=Q4L (SP.sS hs) ok.core.inv.lok;have HSide:Hid (∀W y,Below w.heap.size w W->y∈allL Z.S.l 1->_):=fun W y hb hy=>Z6V (hs.grown hb).sep ok hy
 have HCap:Hid (∀(y:Nat) (p:Pl) (w4 wr:World) (g s:Nat) (v4 v:Value) (e:Ent),pget Z.S.l 1 y=some p->p.kind=2->Below w.heap.size w wr->TblZ Z p g w4->Grow w4 v4 wr v->v4.ownBlock≠some g->s<256->Q0f Z.S.l Z.tb y s=some e->_):=fun y p w4 wr g s v4 v e hp hk hb hg4 G hne hs2 he=>Z9c (w1:=w) hs ok hp hk hb hg4 G hne hs2 he
 have HSl:Hid (∀(y:Nat) (p:Pl) (g:Nat) (W:World),pget Z.S.l 1 y=some p->p.kind=2->Below w.heap.size w W->TblZ Z p g W->Calls prog 89 #[.pointer (some ⟨g,0,none⟩)] W (NewIs W (Q0q Z.S.l Z.tb y))):=fun y p g W hp hk hb hg=>by
  have T:=(ok.tpi.x (p.fac:Int)).tt ok.core (pget_some.1 hp).1 (pget_some.1 hp).2.2 hk (SP.sS (hs.grown hb).sep) hg.c;have e:Q0q Z.S.l Z.tb y=Q0X (Z.tb (y%256)) 256:=by unfold Q0q;rw [hp];simp only;rw [if_pos hk]
  rw [e];exact Q7s T
 have HTg:Hid (∀(p:Pl) (g:Nat) (W W':World),Below w.heap.size w W->TblZ Z p g W->Below W.heap.size W W'->TblZ Z p g W'):=fun p g W W' hb hg hb'=>hg.grown (hs.grown hb).sep hb'
 have hTl:(allL Z.S.l 1).length<=256:=by
  have:=Q2y Z.S.l 1 Z.S.l.length;unfold allL;rw [ok.core.inv.len] at this ⊢;exact this
 have HLen:Hid (∀T:List Nat,T.length<=256->(Q1V Z.S.l Z.tb h T).length<=65536):=fun T hT=>J2y (Q6D _ _ _ T) (by omega)
 have HSlm:Hid (∀y,(Q0q Z.S.l Z.tb y).length<=256/\∀z∈Q0q Z.S.l Z.tb y,∃s:Nat,z=(s:Int)/\s<256/\∃e,Q0f Z.S.l Z.tb y s=some e):=fun y=>⟨Q4R _ _ _,fun z hz=>mem_slotsL.1 hz⟩
 have HTl:=Q0a hTl;unfold Q2X;clear hs ok hTl;generalize hT:allL Z.S.l 1=T at *
 go_enter func23,ntmps23;go_wp2_with fail;refine kl.mono ?_;intro r w1 hx1;obtain⟨a0,cap0,rfl,hb1,hih⟩:=hx1.shape;have HB1:=Q0a hb1;have HIh:=Q0a hih;clear hx1 hb1 hih kl c0;go_wp2_with fail
 go_loopg [5,22] T.length (fun gk ov iv wr=>∃k:Nat,iv=.int .i64 k/\k+gk=T.length/\OutS w1 wr ov (Q1V Z.S.l Z.tb h (T.take k)))
 case atStart=>exact⟨0,rfl,J5b _,OutS.nil w1⟩
 case round =>
  obtain⟨k,rfl,hkg,hout⟩:=hrel;have HO:=Q0a hout;have HKG:=Q0a hkg;clear hout;by_cases hlt:k<T.length
  ·obtain⟨y,hy⟩:∃y,T[k]?=some y:=⟨_,J4O hlt⟩
   obtain⟨g0,rfl,hg0,hgl,hcell⟩:=(HIh.out.below HO.out.2).at' k y hy;obtain⟨hy32,hside⟩:=HSide.out wr y (HB1.out.trans (HO.out.2.mono HB1.out.size)) (J4L hy);have HStep:Hid (Q1V Z.S.l Z.tb h (T.take (k+1))=Q1V Z.S.l Z.tb h (T.take k)++Q5u Z.S.l Z.tb h y):=by
    rw [J4t,hy];exact Z3M _ _ _ _ _
   have HY:=Q0a hy;have hkb:(k:Int)<256:=by have:=HTl.out;omega
   have hk0:(0:Int)<=(k:Int):=by omega
   have hy0:(0:Int)<=(y:Int):=by omega
   have hy1:(y:Int)<4294967296:=by omega
   have hwy:IntKind.i64.wrap (y:Int)=(y:Int):=Go.IntWalk.i64_in _ (by omega);clear hy hkg hy32;rcases hside with ⟨e,hne,hsl,kside⟩|⟨p,hp,hk2,kside⟩
   ·have hne2:(e != 0)=true:=by simpa using hne
    have HR:Hid (∀W,Below wr.heap.size wr W->OutS w1 W u5 (Q1V Z.S.l Z.tb h (T.take (k+1)))):=fun W hb=>by
     rw [HStep.out];unfold Q5u Q3s;rw [hsl]
     simpa using HO.out.below hb
    clear hne hsl HO;go_wp2_with fail;refine kside.mono ?_;rintro r w2 ⟨rfl,hb2⟩;have HR2:=Q0a (HR.out _ (hb2.alloc hb2.size (.cells #[.pointer none,.int .u32 0,.int .i64 0] 155)));clear hb2 HR kside;go_wp2_with fail;go_roundg (T.length-(k+1))
    case measure=>have:=HKG.out;omega
    case rel=>exact⟨k+1,by go_num,by omega,HR2.out⟩
   ·go_wp2_with fail;refine kside.mono ?_;rintro r w2 ⟨g,rfl,hb2,ht2,hg2⟩;have hbx:Below w2.heap.size w2 (w2.alloc (.cells #[.pointer (some ⟨g,0,none⟩),.int .u32 y,.int .i64 (p.fac:Int)] 155)):=(Below.refl _ _).alloc (J2x _) _;have hbw:Below w.heap.size w wr:=HB1.out.trans (HO.out.2.mono HB1.out.size);have hbw2:Below w.heap.size w w2:=hbw.trans (hb2.mono hbw.size);have hbw3:=hbw2.trans (hbx.mono hbw2.size);have ht3:=HTg.out p g w2 _ hbw2 ht2 hbx;have ks:=HSl.out y p g _ hp hk2 hbw3 ht3;have HO3:Hid (OutS w1 (w2.alloc (.cells #[.pointer (some ⟨g,0,none⟩),.int .u32 y,.int .i64 (p.fac:Int)] 155)) u5 (Q1V Z.S.l Z.tb h (T.take k))):=(HO.out.below hb2).below hbx
    have HBx:=Q0a (Cells.new w2 155 [.pointer (some ⟨g,0,none⟩),.int .u32 y,.int .i64 (p.fac:Int)]);have HOwn:Hid (∀b,u5.ownBlock=some b->b<wr.heap.size):=fun b hb=>(HO.out.1.lt b hb).2
    have HG2:=Q0a hg2;have HP:Hid (pget Z.S.l 1 y=some p/\p.kind=2):=⟨hp,hk2⟩
    have HT3:=Q0a ht3;have HSz:Hid (wr.heap.size<=w2.heap.size):=hb2.size;have HW3:=Q0a hbw3;clear hbx hbw hbw2 hbw3 ht3 ht2 hb2 hg2 hp hk2 kside HO hcell hgl hg0;go_wp2_with fail;refine ks.mono ?_;intro r w4 hx4;obtain⟨aS,capS,rfl,hb4,hrow⟩:=hx4.from'
    have HB4:=Q0a hb4;have HO4:=Q0a (HO3.out.below hb4);have HT4:=Q0a (HTg.out p g _ w4 HW3.out HT3.out hb4);have HW4:=Q0a (HW3.out.trans (hb4.mono HW3.out.size));have HBx4:=Q0a (HBx.out.same (hb4.block _ (by simp)));have HRow:Hid (∀(j:Nat) (z:Int),(Q0q Z.S.l Z.tb y)[j]?=some z->∃gS,aS=some ⟨gS,0,none⟩/\w2.heap.size<=gS/\gS<w4.heap.size/\w4.cell? ⟨gS,j,none⟩=some (.int .i64 z)):=fun j z hz=>by
     obtain⟨gS,h1,h2,h3,h4⟩:=hrow j z hz;exact⟨gS,h1,by simp at h2;omega,h3,h4⟩
    obtain⟨hSl1,hSl2⟩:=HSlm.out y;have HSl2:=Q0a hSl2;have HX:Hid (Q5u Z.S.l Z.tb h y=Q3s Z.S.l Z.tb h y (Q0q Z.S.l Z.tb y)):=rfl;have HLk:=Q0a (HLen.out (T.take k) (by rw [J4Q];have:=HTl.out;omega));generalize hSL:Q0q Z.S.l Z.tb y=SL at *
    clear hx4 hb4 hrow hSl2 ks HO3 HBx HT3 HW3 HSl HSlm HTg HSide;go_wp2_with fail;obtain⟨gko,hgo⟩:∃g,g=gk:=⟨_,rfl⟩
    subst hgo;obtain⟨wo,hwo⟩:∃wo,wo=wr:=⟨_,rfl⟩
    subst hwo;obtain⟨v4,hv4⟩:∃v4,v4=u5:=⟨_,rfl⟩
    subst hv4
    go_loopg [5,38] SL.length (fun gi ov iv wi=>∃i:Nat,iv=.int .i64 i/\i+gi=SL.length/\OutS w1 wi ov (Q1V Z.S.l Z.tb h (T.take k)++Q3s Z.S.l Z.tb h y (SL.take i))/\Grow w4 v4 wi ov)
    case atStart=>exact⟨0,rfl,by omega,by simpa [Q3s] using HO4.out,Grow.refl _ _⟩
    case round =>
     clear HO4;obtain⟨i,rfl,hig,hout,hgr⟩:=hrel;have HIG:=Q0a hig;have HO:=Q0a hout;have HG:=Q0a hgr;clear hig hout hgr;by_cases hlt2:i<SL.length
     ·obtain⟨z,hz⟩:∃z,SL[i]?=some z:=⟨_,J4O hlt2⟩
      obtain⟨s,rfl,hs2,e,he⟩:=HSl2.out z (J4L hz);obtain⟨gS,rfl,hg1,hg2,hc4⟩:=HRow.out i _ hz;have hneS:∀b,wo.heap.size<=b->v4.ownBlock≠some b:=fun b hb hx=>by have:=HOwn.out b hx;omega
      have hsz:=HSz.out;have cS:wr.cell? ⟨gS,i,none⟩=some (.int .i64 s):=(World.cell?_of_block (w:=w4) (HG.out.keep gS hg2 (hneS gS (by omega)))).trans hc4;have hBr:=HBx4.out.same (HG.out.keep w2.heap.size HBx4.out.lt (hneS _ hsz));have b0:=hBr.cell 0 _ rfl;have b1:=hBr.cell 1 _ rfl;have b2:=hBr.cell 2 _ rfl;have hbr:Below w.heap.size w wr:=HB1.out.trans (HO.out.2.mono HB1.out.size);have kc:=HCap.out y p w4 wr g s v4 u5 e HP.out.1 HP.out.2 hbr HT4.out HG.out (hneS g HG2.out) hs2 he;have hhl:hasH Z.S.l Z.tb h y (s:Int)=decide (e.h=h):=by
       unfold hasH;rw [J3C,he]
      have htk:SL.take (i+1)=SL.take i++[(s:Int)]:=by rw [J4t,hz];rfl
      have hsn:=Z3L Z.S.l Z.tb h y (SL.take i) (s:Int);rw [<- htk,hhl] at hsn;have HSn:=Q0a hsn;have hln:(Q1V Z.S.l Z.tb h (T.take k)++Q3s Z.S.l Z.tb h y (SL.take i)).length<=16777216:=by
       rw [J3h];have h1:=HLk.out;have h2:=Q9N Z.S.l Z.tb h y (SL.take i);rw [J4Q] at h2;omega
      have HApp:Hid (∀W,Below wr.heap.size wr W->∃v' w',(Builtin.append_ #[49,49] 49 #[u5,.slice (some ⟨W.heap.size,0,none⟩) 1 1]).run prog (W.alloc (.cells #[.int .i64 y,.int .i64 s] 46))=.ok v' w'/\OutS w1 w' v' ((Q1V Z.S.l Z.tb h (T.take k)++Q3s Z.S.l Z.tb h y (SL.take i))++[((y:Int),(s:Int))])/\Grow w4 v4 w' v'):=fun W hb=>by
       obtain⟨v',w',q1,q2,q3,q4,q5⟩:=(HO.out.below hb).app hln (y:Int) (s:Int) 49;exact⟨v',w',q1,q2,(HG.out.below hb).app q3 q4 q5⟩
      have HNo:Hid (∀W,Below wr.heap.size wr W->OutS w1 W u5 (Q1V Z.S.l Z.tb h (T.take k)++Q3s Z.S.l Z.tb h y (SL.take i))/\Grow w4 v4 W u5):=fun W hb=>⟨HO.out.below hb,HG.out.below hb⟩
      have hi0:(0:Int)<=(i:Int):=by omega
      have hi1:(i:Int)<256:=by omega
      have hs0:(0:Int)<=(s:Int):=by omega
      have hs1:(s:Int)<256:=by omega
      clear hz he hc4 hBr hbr hhl htk hsn hln hneS hg1 hg2 hsz HO HG hs2;go_wp2_with fail;refine kc.mono ?_;rintro r w5 ⟨rfl,hb5⟩;have hb6:=hb5.alloc hb5.size (.cells #[.int .u32 (e.h:Int),.int .i64 (e.r:Int)] 35);have HB6:=Q0a hb6;clear hb5 hb6 kc cS b0 b1 b2;by_cases hh:e.h=h
      ·obtain⟨v',w',happ,hout,hgr⟩:=HApp.out _ HB6.out;have hq:(((e.h:Nat):Int)==(h:Int))=true:=by simp [hh]
       have HR:Hid (OutS w1 w' v' (Q1V Z.S.l Z.tb h (T.take k)++Q3s Z.S.l Z.tb h y (SL.take (i+1)))/\Grow w4 v4 w' v'):=by
        refine⟨?_,hgr⟩;rw [HSn.out,if_pos (by simpa using hh),<- J3x];exact hout
       clear hh hout hgr HApp HNo HB6 HSn;have hz6:(w5.alloc (.cells #[.int .u32 (e.h:Int),.int .i64 (e.r:Int)] 35)).heap.size=w5.heap.size+1:=by simp
       rw [hz6] at happ;clear hz6;go_wp2_with (at_builtin;refine Lib.wpList_append_run _ rfl _ _ _ _ rfl _ _ rfl rfl _ _ happ ?_);go_roundg (SL.length-(i+1))
       case measure=>have:=HIG.out;omega
       case rel=>exact⟨i+1,by go_num,by omega,HR.out⟩
      ·have hq:(((e.h:Nat):Int)==(h:Int))=false:=by simp;omega
       have HR:Hid (OutS w1 (w5.alloc (.cells #[.int .u32 (e.h:Int),.int .i64 (e.r:Int)] 35)) u5 (Q1V Z.S.l Z.tb h (T.take k)++Q3s Z.S.l Z.tb h y (SL.take (i+1)))/\Grow w4 v4 (w5.alloc (.cells #[.int .u32 (e.h:Int),.int .i64 (e.r:Int)] 35)) u5):=by
        rw [HSn.out,if_neg (by simpa using hh),J4D];exact HNo.out _ HB6.out
       clear hh HApp HNo HB6 HSn;go_wp2_with fail;go_roundg (SL.length-(i+1))
       case measure=>have:=HIG.out;omega
       case rel=>exact⟨i+1,by go_num,by omega,HR.out⟩
     ·have hil:i=SL.length:=by have:=HIG.out;omega
      have HR:Hid (OutS w1 wr u5 (Q1V Z.S.l Z.tb h (T.take (k+1)))):=by
       have h1:=HO.out;rw [hil,J6J] at h1;rw [HStep.out,HX.out];exact h1
      clear HO HG;go_wp2_with fail;go_roundg (T.length-(k+1))
      case measure=>have:=HKG.out;omega
      case rel=>exact⟨k+1,by go_num,by omega,HR.out⟩
  ·have hkl:k=T.length:=by have:=HKG.out;omega
   have hout:=HO.out;rw [hkl,J6J] at hout;have HR:Hid (NewSp w (Q1V Z.S.l Z.tb h T) (.returned u5) wr):=⟨u5,rfl,Q2s hout.1 HB1.out.size,HB1.out.trans (hout.2.mono HB1.out.size)⟩
   clear hout HO;go_wp2_with fail
   first|exact HR.out|(go_ret;exact HR.out)
def Q3t (next:Int) (x:Nat) (a:AV) (s:Int):AV×Nat:=if ownN a.N (x:Int) s=0 then (a,0) else Q0M 15 a (Q0G (kdF a.N) (rkF next) (ownN a.N (x:Int) s)++[ownN a.N (x:Int) s])
def Q1P (next:Int) (x:Nat):AV->List Int->AV×Nat
 | a,[]=>(a,0)
 | a,s::r=>((Q1P next x (Q3t next x a s).1 r).1,(Q3t next x a s).2+(Q1P next x (Q3t next x a s).1 r).2)
theorem wipeA_snoc (next:Int) (x:Nat):∀(l:List Int) (a:AV) (s:Int),Q1P next x a (l++[s])=((Q3t next x (Q1P next x a l).1 s).1,(Q1P next x a l).2+(Q3t next x (Q1P next x a l).1 s).2)
 | [],a,s=>by
  show ((Q3t next x a s).1,(Q3t next x a s).2+0)=((Q3t next x a s).1,0+(Q3t next x a s).2);rw [J5b,J2G]
 | y::r,a,s=>by
  rw [J4I];unfold Q1P;rw [wipeA_snoc next x r];simp only [J3X]
def J1T (Z:SP) (fr:List Nat) (N K:Nat) (M:Int) (x:Nat) (l:List Int) (w w':World):Prop:=∃Z',Z'.Ok fr N K M/\Z'.av=(Q1P Z.F.next x Z.av l).1/\SameZ Z Z'/\Step Z.hl Z'.hl w w'
structure WpI (Z:SP) (fr:List Nat) (N K:Nat) (M:Int) (x:Nat) (l:List Int) (a:Option Addr) (w:World) (k:Nat) (Z1:SP) (wr:World):Prop where
 ok:Z1.Ok fr N K M
 av:Z1.av=(Q1P Z.F.next x Z.av (l.take k)).1
 same:SameZ Z Z1
 st:Step Z.hl Z1.hl w wr
 row:AsideV Z1.hl (l.map encI) a wr
theorem Z3N {wr:World} {Z:SP} {fr:List Nat} {N K:Nat} {M:Int} (hs:Sep wr Z.hl) (ok:Z.Ok fr N K M) {x s:Nat} (hx:x<4294967296) (hs2:s<256) :
  wr.cell? ⟨Z.s,1,none⟩=some (.pointer (some ⟨Z.F.f,0,none⟩))/\Calls prog 88 #[.pointer (some ⟨Z.F.f,0,none⟩),.int .i64 x,.int .i64 s] wr fun r w1=>∃id:Int,r=.returned (.int .i64 id)/\wr=w1/\((id=0/\ownN Z.F.N (x:Int) (s:Int)=0)∨(id≠0 /\
   Calls prog 84 #[.pointer (some ⟨Z.F.f,0,none⟩),.int .i64 id] w1 fun r w5=>∃(a:Option Addr) (n cap:Nat),r=.returned (.slice a n cap)/\∃(a2:Option Addr) (n2 c2:Nat) (w6:World),(Builtin.append_ #[36,36] 36 #[.slice a n cap,.slice (some ⟨w5.heap.size,0,none⟩) 1 1]).run prog (w5.alloc (.cells #[.int .i64 id] 3))=.ok (.slice a2 n2 c2) w6 /\
    Calls prog 85 #[.pointer (some ⟨Z.s,0,none⟩),.int .i64 15,.slice a2 n2 c2] w6 fun r w7=>∃v:Nat,r=.returned (.int .i64 v)/\v<=65537/\∃Z',Z'.Ok fr N K M/\Q3t Z.F.next x Z.av (s:Int)=(Z'.av,v)/\SameZ Z Z'/\Step Z.hl Z'.hl wr w7)):=by
 have g1:(0:Int)<=(x:Int):=by omega
 have g2:(x:Int)<9223372036854775808:=by omega
 have g3:(0:Int)<=(s:Int):=by omega
 have g4:(s:Int)<9223372036854775808:=by omega
 refine⟨SP.c1 hs,(Q4N (SP.sF hs) ok.fo (sp:=(x:Int)) (sl:=(s:Int)) (Q3l (p:=((x:Int),(s:Int))) g1 g2 g3 g4)).mono ?_⟩;rintro r w1 ⟨rfl,rfl⟩;refine⟨_,rfl,rfl,?_⟩;by_cases h0:ownN Z.F.N (x:Int) (s:Int)=0
 ·exact .inl ⟨h0,h0⟩
 ·refine .inr ⟨h0,?_⟩;obtain⟨n,hn,e1,e2⟩:=(Q3N Z.F.N (x:Int) (s:Int)).resolve_right fun h=>h0 ((Q1w ok.fo.n).2 h)
  have hid:=Q1N ok.fo.n hn;rw [e1,e2] at hid;have hfn:=Q0k ok.fo.n.ids hn;have hw1:Q3t Z.F.next x Z.av (s:Int)=Q0M 15 Z.av (revL Z.F n.id true):=by
   unfold Q3t revL;rw [if_neg (show ¬ownN Z.av.N (x:Int) (s:Int)=0 from h0),if_pos rfl];show Q0M 15 Z.av (Q0G (kdF Z.F.N) (rkF Z.F.next) (ownN Z.F.N (x:Int) (s:Int))++[ownN Z.F.N (x:Int) (s:Int)])=_;rw [hid]
  rw [hid];refine (Q7w hs ok.fo hfn).mono ?_;rintro r w5 ⟨hb5,a,cap,rfl,hout⟩;have hlen:=Z2f ok.fo hfn true;have hle:(Q0G (kdF Z.F.N) (rkF Z.F.next) n.id).length<=16777216:=by
   unfold revL at hlen;rw [J3h] at hlen;omega
  obtain⟨v',w6,happ,hout6⟩:=hout.app hle n.id 36;obtain⟨a2,c2,rfl,has⟩:=hout6.aside hs;refine⟨a,_,cap,rfl,a2,_,c2,w6,happ,?_⟩;have hl:Q0G (kdF Z.F.N) (rkF Z.F.next) n.id++[n.id]=revL Z.F n.id true:=by unfold revL;rw [if_pos rfl]
  rw [hl] at has ⊢;have s6:=(hs.grown hout6.2).sep;refine (Q2w s6 ok 15 (by omega) (by omega) (revL Z.F n.id true) a2 c2 (by omega) has (Q7p _ _)).mono ?_;rintro r w7 ⟨rfl,Z',k1,k2,k3,k4⟩;refine⟨_,rfl,J2y (Q5F 15 _ _) hlen,Z',k1,?_,k3,(hs.grown hout6.2).trans k4⟩;rw [hw1,k2]
theorem Z0V {t:TB} {k:Nat} {z:Int} (h:z∈Q0X t k):∃s:Nat,z=(s:Int)/\s<k:=by
 unfold Q0X at h;obtain⟨s,hs,rfl⟩:=J2D.1 h;exact⟨s,rfl,J2N.1 (J2R.1 hs).1⟩
theorem Z3O {l:List Pl} {tb:Nat->TB} {x:Nat} {z:Int} (h:z∈Q0q l tb x):∃s:Nat,z=(s:Int)/\s<256:=by
 unfold Q0q at h;split at h
 ·cases h
 ·split at h
  ·exact Z0V h
  ·cases h
theorem Z3P (l:List Pl) (tb:Nat->TB) (x:Nat):(Q0q l tb x).length<=256:=by
 unfold Q0q;split
 ·simp
 ·split
  ·exact Q4h _ _
  ·simp
theorem Q9O {w:World} {Z:SP} {fr:List Nat} {N K:Nat} {M:Int} (hs:Sep w Z.hl) (ok:Z.Ok fr N K M) {x:Nat} (hx:x<4294967296) :
  Calls prog 40 #[.pointer (some ⟨Z.s,0,none⟩),.int .u32 x] w fun r w'=>r=.returned (.int .i64 ((Q1P Z.F.next x Z.av (Q0q Z.S.l Z.tb x)).2:Nat))/\J1T Z fr N K M x (Q0q Z.S.l Z.tb x) w w':=by
 have ksl:=Q7B hs ok hx;have HStart:Hid (∀w1 a,Below w.heap.size w w1->AsideV Z.hl ((Q0q Z.S.l Z.tb x).map encI) a w1->WpI Z fr N K M x (Q0q Z.S.l Z.tb x) a w 0 Z w1):=fun w1 a hb ha=>⟨ok,rfl,SameZ.refl Z,hs.grown hb,ha⟩
 have HS:=Q0a hs;have HX:=Q0a hx;have HMem:Hid (∀z∈Q0q Z.S.l Z.tb x,∃s:Nat,z=(s:Int)/\s<256):=fun z hz=>Z3O hz
 have hln:=Z3P Z.S.l Z.tb x;generalize hL:Q0q Z.S.l Z.tb x=l at *
 generalize hn:l.length=n at *
 have HN:=Q0a hn;have hx0:(0:Int)<=(x:Int):=by omega
 have hx1:(x:Int)<4294967296:=by omega
 have hwx:IntKind.i64.wrap (x:Int)=(x:Int):=Go.IntWalk.i64_in _ (by omega);have HLn:=Q0a hln;clear hs ok hx hL hn hln;go_enter func40,ntmps40;go_wp2_with fail;refine ksl.mono ?_;rintro r w1 ⟨v,rfl,h1,h2⟩;obtain⟨a,cap,rfl,has⟩:=Q7q HS.out h1;have HI0:=Q0a (HStart.out w1 a h2 has);rw [HN.out];clear h1 h2 has ksl HStart;go_wp2_with fail
 go_loopg [5,13] n (fun gk cv iv wr=>∃(k:Nat) (Z1:SP),iv=.int .i64 k/\cv=.int .i64 ((Q1P Z.F.next x Z.av (l.take k)).2:Nat)/\(Q1P Z.F.next x Z.av (l.take k)).2<=65537*k/\k+gk=n/\WpI Z fr N K M x l a w k Z1 wr)
 case atStart=>exact⟨0,Z,rfl,rfl,J4z _,by omega,HI0.out⟩
 case round =>
  obtain⟨k,Z1,rfl,rfl,hcb,hkg,hI⟩:=hrel;have HKg:=Q0a hkg;have HI:=Q0a hI;by_cases hlt:k<n
  ·obtain⟨z,hz⟩:∃z,l[k]?=some z:=⟨l[k]'(by rw [HN.out];exact hlt),J4O (by rw [HN.out];exact hlt)⟩
   obtain⟨s,rfl,hs2⟩:=HMem.out z (J4L hz);obtain⟨g,rfl,_,_,hcx⟩:=hI.row k (.int .i64 s) (by rw [J4i,hz];rfl);have hnext:∀(Z2:SP) (w':World) (v:Nat),Q3t Z1.F.next x Z1.av (s:Int)=(Z2.av,v)->Z2.Ok fr N K M->SameZ Z1 Z2->Step Z1.hl Z2.hl wr w'->(Q1P Z.F.next x Z.av (l.take (k+1))).2=(Q1P Z.F.next x Z.av (l.take k)).2+v/\WpI Z fr N K M x l (some ⟨g,0,none⟩) w (k+1) Z2 w':=fun Z2 w' v e k1 k2 k3=>by
    have htk:l.take (k+1)=l.take k++[(s:Int)]:=by rw [J4t,hz];rfl
    have hsn:Q1P Z.F.next x Z.av (l.take (k+1))=(Z2.av,(Q1P Z.F.next x Z.av (l.take k)).2+v):=by
     rw [htk,wipeA_snoc,<- HI.out.av,<- HI.out.same.nx,e]
    exact⟨by rw [hsn],k1,by rw [hsn],HI.out.same.trans k2,HI.out.st.trans k3,AsideV.step HI.out.row k3⟩
   have HNext:=Q0a hnext;obtain⟨hc1,kfind⟩:=Z3N hI.st.sep hI.ok HX.out hs2;have hss:=hI.same.s;have hff:=hI.same.f;rw [hss,hff] at hc1;rw [hff,hss] at kfind;have HF:=Q0a kfind;have hki:(k:Int)<(n:Int):=by omega
   have hk0:(0:Int)<=(k:Int):=by omega
   have hkb:(k:Int)<=256:=by have:=HLn.out;omega
   have hcb2:(Q1P Z.F.next x Z.av (l.take k)).2<=16777472:=by have:=HLn.out;omega
   have HCb:=Q0a hcb;generalize hcc:(Q1P Z.F.next x Z.av (l.take k)).2=c at *
   have hci:(c:Int)<=16777472:=by omega
   have hc0:(0:Int)<=(c:Int):=by omega
   have hs0:(0:Int)<=(s:Int):=by omega
   have hs1:(s:Int)<256:=by omega
   clear hI hkg kfind hz hcb hcc hcb2 hnext hss hff hs2;go_wp2_with fail;refine HF.out.mono ?_;rintro r w2 ⟨id,rfl,rfl,hz⟩;have HZ:=Q0a hz;clear hz HF;rcases HZ.out with ⟨rfl,h0⟩|⟨hne,hbl⟩
   ·obtain⟨q1,q2⟩:=HNext.out Z1 wr 0 (by unfold Q3t;rw [show Z1.av.N=Z1.F.N from rfl,if_pos h0]) HI.out.ok (SameZ.refl _) (Step.refl HI.out.st.sep);have Q1:=Q0a q1;have Q2:=Q0a q2;clear q1 q2 h0 HZ HNext;go_wp2_with fail;go_roundg (n-(k+1))
    case measure=>have:=HKg.out;omega
    case rel=>exact⟨k+1,Z1,by go_num,by rw [Q1.out];simp,by rw [Q1.out];have:=HCb.out;omega,by have:=HKg.out;omega,Q2.out⟩
   ·have HBl:=Q0a hbl;have hib:(id==0)=false:=by simpa using hne
    have hib2:(id != 0)=true:=by simpa using hne
    have hc1d:wr.drew.cell? ⟨Z.s,1,none⟩=some (.pointer (some ⟨Z.F.f,0,none⟩)):=hc1;clear hbl HZ;go_wp2_with fail;refine HBl.out.mono ?_;rintro r w5 ⟨a1,n1,c1,rfl,a2,n2,c2,w6,happ,kw⟩;have HKw:=Q0a kw;clear kw HBl;go_wp2_with (at_builtin;refine Lib.wpList_append_run _ rfl _ _ _ _ rfl _ _ rfl rfl _ _ happ ?_);refine HKw.out.mono ?_;rintro r w7 ⟨v,rfl,hvb,Z2,k1,k2,k3,k4⟩;obtain⟨q1,q2⟩:=HNext.out _ _ _ k2 k1 k3 k4;have Q1:=Q0a q1;have Q2:=Q0a q2;have hv1:(v:Int)<=65537:=by omega
    have hv0:(0:Int)<=(v:Int):=by omega
    have HVb:=Q0a hvb;clear q1 q2 HKw HNext k1 k2 k3 k4 hvb happ;go_wp2_with fail;go_roundg (n-(k+1))
    case measure=>have:=HKg.out;omega
    case rel=>exact⟨k+1,Z2,by go_num,by rw [Q1.out];simp,by rw [Q1.out];have:=HCb.out;have:=HVb.out;omega,by have:=HKg.out;omega,Q2.out⟩
  ·obtain rfl:k=n:=by have:=HKg.out;omega
   have HR:Hid (((Q1P Z.F.next x Z.av (l.take k)).2=(Q1P Z.F.next x Z.av l).2)/\J1T Z fr N K M x l w wr):=by
    have h1:l.take k=l:=by rw [<- HN.out,J6J]
    have h2:=hI.av;rw [h1] at h2;exact⟨by rw [h1],Z1,hI.ok,h2,hI.same,hI.st⟩
   rw [HR.out.1];clear hI hkg hcb;go_wp2_with fail
   first|exact⟨rfl,HR.out.2⟩|(go_ret;exact⟨rfl,HR.out.2⟩)
end Go.Proofs.YtlakjlmaboioiaaGreatDoor
