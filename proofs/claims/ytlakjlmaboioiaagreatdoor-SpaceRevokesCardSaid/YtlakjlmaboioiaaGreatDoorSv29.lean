/- SpaceRevokes returns true at every input. No condition. Part of its proof. -/
import Derived.Test.YtlakjlmaboioiaaGreatDoorSv28
set_option maxHeartbeats 4000000
set_option maxRecDepth 100000
set_option linter.unusedVariables false
namespace Go.Proofs.YtlakjlmaboioiaaGreatDoor
open Go.RowKit Go.Proofs.Tryz
structure GoneZ (Z Z':SP):Prop where
 s:Z'.s=Z.s
 f:Z'.F.f=Z.F.f
 c:Z'.S.c=Z.S.c
 per:Z'.S.period=Z.S.period
 same:SameP Z.S.P Z'.S.P
 root:pget Z'.S.l 1 0=pget Z.S.l 1 0
theorem GoneZ.refl (Z:SP):GoneZ Z Z:=⟨rfl,rfl,rfl,rfl,SameP.refl _,rfl⟩
theorem SameN.gone {Z Z':SP} (h:SameN Z Z'):GoneZ Z Z':=⟨h.s,h.f,h.alt.c,h.alt.per,h.alt.same,by rw [h.alt.l]⟩
theorem Q9O {l l':List Pl} (h:l'[0]?=l[0]?):pget l' 1 0=pget l 1 0:=by
 unfold pget;rw [show 0%256=0 from rfl,h]
theorem Went.gone {Z:SP} {S':CO} (h:Went Z.S S') (tb:Nat->TB):GoneZ Z (Z.setS S' tb):=⟨rfl,rfl,h.c,h.per,h.same,Q9O h.root⟩
theorem Alt.gone {Z:SP} {S':CO} {own:Int} (h:Alt Z.S S' own) (tb:Nat->TB):GoneZ Z (Z.setS S' tb):=⟨rfl,rfl,h.c,h.per,h.same,by show pget S'.l 1 0=_;rw [h.l]⟩
theorem Tried.alt {S:CO} {fr:List Nat} {P':PL} (h:Tried S.P fr S.l P') (own:Int):Alt S (S.setP P') own:=
 ⟨rfl,rfl,rfl,rfl,rfl,rfl,rfl,rfl,h.same,by show P'.q.next=_;rw [h.q],fun id e he=>⟨e,by show find P'.q.E id=_;rw [h.q];exact he,rfl,fun _=>rfl⟩,by show P'.q.E.map En.id=_;rw [h.q],fun r hr As _=>h.mem r hr As⟩
theorem MakeR.cases {S:CO} {fr:List Nat} {N K:Nat} (ok:S.Ok fr N K) {y:Nat} {k lim:Int} {w w':World} {r:Ending} (m:MakeR S fr y k lim w r w') :
  (∃(er:Int) (P':PL),er≠0/\r=two 0 er/\Tried S.P fr S.l P'/\Step S.hl (S.setP P').hl w w') ∨
  (∃(f:Pl) (n:Nat) (e:En Fa) (i:Nat) (q:Pl) (a v:Nat) (P':PL) (fr':List Nat),pget S.l 1 y=some f/\f.kind=1/\k=(n:Int)/\(n=8∨1<=n/\n<=5)/\find S.P.q.E f.own=some e/\S.l[i]?=some q/\q.st=0/\r=two (nm i q) 0/\MadeOk S fr f e n a lim v i q P' fr'/\Step S.hl (S.made f n a v i q P').hl w w'):=by
 have same:∀er:Int,er≠0->r=two 0 er->Step S.hl S.hl w w'->(∃(er:Int) (P':PL),er≠0/\r=two 0 er/\Tried S.P fr S.l P'/\Step S.hl (S.setP P').hl w w'):=fun er h1 h2 h3=>⟨er,S.P,h1,h2,Tried.refl ok.inv.mem.pool _,h3⟩
 rcases m with ⟨_,rfl,st⟩|⟨f,hf,⟨_,rfl,st⟩|⟨_,_,rfl,st⟩|⟨n,e,hn,hk,FC,_,he,hm⟩⟩
 ·exact .inl (same 8 (by decide) rfl st)
 ·exact .inl (same 10 (by decide) rfl st)
 ·exact .inl (same 1 (by decide) rfl st)
 ·rcases hm with ⟨_,rfl,st⟩|⟨_,_,rfl,st⟩|⟨_,er,P',Cs,tr,rfl,st⟩|⟨i,q,a,v,P',fr',hi,hq,_,_,rfl,mk,st⟩
  ·exact .inl (same 5 (by decide) rfl st)
  ·exact .inl (same 4 (by decide) rfl st)
  ·refine .inl ⟨er,P',?_,rfl,tr,st⟩;rcases Cs with ⟨rfl,_⟩|⟨rfl,_⟩ <;> decide
  ·exact .inr ⟨f,n,e,i,q,a,v,P',fr',hf,hk,hn,FC,he,hi,hq,rfl,mk,st⟩
theorem Q4T {Z Z1:SP} {g x f B:Nat} {w:World} (es:Z1.s=Z.s) (ec:Z1.S.c=Z.S.c) (ef:Z1.F.f=Z.F.f) (sep:Sep w Z1.hl) (bx:AsideV Z1.hl [.pointer (some ⟨g,0,none⟩),.int .u32 x,.int .i64 f] (some ⟨B,0,none⟩) w):Z6y Z g x f B w:=by
 have c0:=SP.c0 sep;have c1:=SP.c1 sep;rw [es,ec] at c0;rw [es,ef] at c1;exact⟨c0,c1,bx.at 0 _ rfl,bx.at 1 _ rfl,bx.at 2 _ rfl⟩
def MkR (Z:SP) (fr:List Nat) (N K:Nat) (M:Int) (x:Nat) (z k:Int) (w:World) (hh:Nat) (er:Int) (w':World):Prop:=
 (er≠0/\hh=0/\∃own,BackZ Z fr N K x own w w') ∨
 (er=0/\∃(Z':SP) (fr':List Nat) (s i:Nat) (q q':Pl),z=(s:Int)/\s<256/\Z.S.l[i]?=some q/\q.st=0/\hh=nm i q/\(q'.kind:Int)=k/\q'.st=1/\q'.age=q.age/\Z'.Ok fr' (N+1) K (M+1)/\GoneZ Z Z'/\Z'.S.l=Z.S.l.set i q'/\Z'.av.en=setA Z.av.en x s (some (hh,15))/\Step Z.hl Z'.hl w w')
section
variable {Z:SP} {fr:List Nat} {N K:Nat} {M:Int}
theorem Z6I (ok:Z.Ok fr N K M) {x s:Nat} {p:Pl} (hp:pget Z.S.l 1 x=some p) (hk:p.kind=2) (hs:s<256) (h0:(Z.tb (x%256)).en s=none) {S1 S2 S3:CO} {t1 t3:TB} {e1:Ent} {own:Int} (T1:TurnP Z.S fr N K Z.tb own (x%256) s (some e1) S1 t1) (al:Alt S1 S2 own)
  (T3:TurnP S2 fr N K (updT Z.tb (x%256) t1) own (x%256) s none S3 t3) {w w':World} (st:Step Z.hl (Z.setS S3 (updT Z.tb (x%256) t3)).hl w w'):BackZ Z fr N K x own w w':=by
 have hi:=(pget_some.1 hp).1;have h1:=(pget_some.1 hp).2.2;have al3:=(T1.alt.trans al).trans T3.alt;have A9:∀q,t3.en q=(Z.tb (x%256)).en q:=fun q=>by
  rw [T3.en,updT_same,T1.en];split
  ·rename_i e;rw [e,h0]
  ·rfl
 have J3:=T3.tpi;have lf1:∀q,q<16->(Z.tb (x%256)).lf q≠0->t1.lf q=(Z.tb (x%256)).lf q:=
  LaidP.lf_keep (own:=own) (S1:=Z.S) (t1:=Z.tb (x%256)) (J4S _ (by omega)) (ok.tpi.full _ (J4S _ (by omega))) hi h1 hk (by rw [Q1l];exact T1.tpi) T1.alt.l
   (fun q hq=>by
    rw [T1.en];split
    ·exact Option.some_ne_none _
    ·exact hq) (fun _ _ _=>rfl) (by rw [Q1l];exact T1.lf)
 have lf3:∀q,q<16->(Z.tb (x%256)).lf q≠0->t3.lf q=(Z.tb (x%256)).lf q:=
  LaidP.lf_keep (own:=own) (S1:=Z.S) (J4S _ (by omega)) (ok.tpi.full _ (J4S _ (by omega))) hi h1 hk J3 al3.l (fun q hq=>by rw [A9];exact hq) lf1 T3.lf
 rw [Q1c] at J3;refine⟨S3,t3,T3.ok,J3,al3,fun q hq=>?_,A9,st⟩;by_cases hz:(Z.tb (x%256)).lf q=0
 ·rw [hz];refine Classical.byContradiction fun Aa=>?_
  have JZ:=J3.full (x%256) (J4S _ (by omega));rw [updT_same] at JZ;obtain⟨r,hr,TX,Rz⟩:=JZ q hq Aa;rw [A9 r] at Rz;exact Rz ((ok.tpi.tin (x%256) p hi h1 hk).hole r hr (by rw [TX];exact hz))
 ·exact lf3 q hq hz
theorem Z6J {w w5:World} (ok:Z.Ok fr N K M) (hN:N+1<1048576) (hM:M+1<1099511627776) {x y s g B nd:Nat} {p:Pl} (hx:x<4294967296) (hy:y<4294967296) (hp:pget Z.S.l 1 x=some p) (hk:p.kind=2) (hs:s<256) (h0:Q0f Z.S.l Z.tb x s=none) (k lim:Int) (KB:k=8↔128<=s)
  {S1:CO} {t1:TB} (T1:TurnP Z.S fr N K Z.tb (p.fac:Int) (x%256) s (some ⟨0,15,nd⟩) S1 t1) (st:Step Z.hl (Z.setS S1 (updT Z.tb (x%256) t1)).hl w w5) (hg:TblZ (Z.setS S1 (updT Z.tb (x%256) t1)) p g w5)
  (bx:AsideV (Z.setS S1 (updT Z.tb (x%256) t1)).hl [.pointer (some ⟨g,0,none⟩),.int .u32 x,.int .i64 (p.fac:Int)] (some ⟨B,0,none⟩) w5) :
  Z1W Z g x p.fac B y (s:Int) k lim (fun hh er w'=>MkR Z fr N K M x (s:Int) k w hh er w') w5:=by
 have hi:=(pget_some.1 hp).1;have Ao:=(pget_some.1 hp).2.2;have Dd:(Z.tb (x%256)).en s=none:=by rw [<- Q0h hp hk hs];exact h0
 have CJ:=T1.alt.l;have Fo:(updT Z.tb (x%256) t1 (x%256)).en s=some ⟨0,15,nd⟩:=by rw [updT_same,T1.en,if_pos rfl]
 have km:=Q6e (S:=S1) (SP.sS (Z:=Z.setS S1 (updT Z.tb (x%256) t1)) st.sep) T1.ok hN hy k lim;rw [T1.alt.c] at km;refine km.mono ?_;rintro rv w6 hm;rcases hm.cases T1.ok with ⟨er,P',Aa,rfl,tr,st2⟩|⟨f,n,e,i,q,a,v,P',fr',hf,Dj,rfl,hn,he,I9,hq,rfl,mk,st2⟩
 ·have al2:=tr.alt (S:=S1) (p.fac:Int);have A6:Step (Z.setS S1 (updT Z.tb (x%256) t1)).hl (Z.setS (S1.setP P') (updT Z.tb (x%256) t1)).hl w5 w6:=SP.stepS st.sep (S1.setP P') (updT Z.tb (x%256) t1) rfl st2;have bx2:=bx.step A6;have B9:TblZ (Z.setS (S1.setP P') (updT Z.tb (x%256) t1)) p g w6:=hg.step A6 tr.same.p;refine⟨0,er,rfl,Q4T (Z1:=Z.setS (S1.setP P') (updT Z.tb (x%256) t1)) rfl T1.alt.c rfl A6.sep bx2,.inl ⟨Aa,?_⟩⟩;refine (Q4N (Z:=Z.setS (S1.setP P') (updT Z.tb (x%256) t1)) (x:=x) A6.sep (T1.ok.tried tr) (T1.tpi.tried T1.ok tr) (i:=x%256) (by show S1.l[x%256]?=_;rw [CJ];exact hi) Ao hk hs Fo B9).mono ?_
  rintro rv w7 ⟨rfl,S3,t3,T3,st3⟩;refine⟨rfl,.inl ⟨Aa,rfl,_,Z6I ok hp hk hs Dd T1 al2 T3 ?_⟩⟩;have h3:=(st.trans A6).trans st3;have e:((Z.setS (S1.setP P') (updT Z.tb (x%256) t1)).setS S3 (updT (updT Z.tb (x%256) t1) (x%256) t3))=Z.setS S3 (updT Z.tb (x%256) t3):=by rw [Q1c];rfl
  have h4:Step Z.hl ((Z.setS (S1.setP P') (updT Z.tb (x%256) t1)).setS S3 (updT (updT Z.tb (x%256) t1) (x%256) t3)).hl w w7:=h3
  rwa [e] at h4
 ·have ok2:=mk.ok T1.ok I9;have tp2:=T1.tpi.made T1.ok mk I9 hq;have wn2:=mk.went T1.ok I9 hq;have An:=Q1r T1.ok.inv.len I9;have A6:Step (Z.setS S1 (updT Z.tb (x%256) t1)).hl (Z.setS (S1.made f n a v i q P') (updT Z.tb (x%256) t1)).hl w5 w6:=SP.stepS st.sep (S1.made f n a v i q P') (updT Z.tb (x%256) t1) rfl st2;have bx2:=bx.step A6;have B9:TblZ (Z.setS (S1.made f n a v i q P') (updT Z.tb (x%256) t1)) p g w6:=hg.step A6 wn2.same.p;have E8:(S1.made f n a v i q P').l=S1.l.set i ⟨n,a,f.own,1,q.age,v⟩:=rfl;have A5:pget (S1.made f n a v i q P').l 1 x=some p:=by rw [E8];exact Q9A I9 hq (by rw [CJ];exact hp)
  have Ff:=(pget_some.1 A5).1;have Cg:pget (S1.made f n a v i q P').l 1 (nm i q)=some ⟨n,a,f.own,1,q.age,v⟩:=by
   rw [E8,Q0C _ I9,if_pos (Q1x An q),if_pos ⟨rfl,rfl⟩]
  have A7:nm i q<4294967295:=Q9y ok2.inv.lok Cg;have AH:Q6J (S1.made f n a v i q P').l s ⟨nm i q,15,nd⟩:=⟨⟨_,Cg,by show n=8↔_;rw [<- KB];omega⟩,by dsimp only;omega⟩
  have TY:=Q4T (Z:=Z) (Z1:=Z.setS (S1.made f n a v i q P') (updT Z.tb (x%256) t1)) rfl T1.alt.c rfl A6.sep bx2;refine⟨nm i q,0,rfl,TY,.inr ⟨rfl,(⟨0,15,nd⟩:Ent).a,nd,(⟨nm i q,15,0⟩:Ent).a,?_,fun w8 DR=>?_⟩⟩
  ·have T:=(tp2.x (p.fac:Int)).tt ok2 Ff Ao hk (SP.sS A6.sep) B9.c;refine (Q3I T (s:Int)).mono ?_;rintro rv w7 ⟨rfl,rfl⟩;refine⟨?_,rfl⟩;unfold getV TB.at';rw [if_pos (by omega),J2R,Fo];rfl
  ·have st8:=A6.sep.grown DR;have bx8:=bx2.step st8;have Um:=B9.step st8 rfl;refine⟨Q4T (Z1:=Z.setS (S1.made f n a v i q P') (updT Z.tb (x%256) t1)) rfl T1.alt.c rfl st8.sep bx8,Q6s w8 (nm i q) 15 A7 (by omega),?_⟩;refine (Q7o (S:=S1.made f n a v i q P') (tb:=updT Z.tb (x%256) t1) ok2 tp2 Ff Ao hk hs (e2:=⟨nm i q,15,nd⟩) Fo rfl ⟨A7,by show 15<16;omega⟩ (SP.sS st8.sep) Um.c).mono ?_;rintro rv w9 ⟨rfl,S3,t3,T3,st9⟩;have MO:Step (Z.setS (S1.made f n a v i q P') (updT Z.tb (x%256) t1)).hl (Z.setS S3 (updT (updT Z.tb (x%256) t1) (x%256) t3)).hl w8 w9:=SP.stepS st8.sep S3 (updT (updT Z.tb (x%256) t1) (x%256) t3) T3.alt.c st9
   have bx9:=bx8.step MO;refine⟨⟨0,rfl⟩,Q4T (Z1:=Z.setS S3 (updT (updT Z.tb (x%256) t1) (x%256) t3)) rfl (T3.alt.c.trans T1.alt.c) rfl MO.sep bx9,fun m=>?_⟩;have std:=MO.trans (MO.sep.grown (Q1n (Below.refl w9.heap.size w9) m));have AP:=((st.trans A6).trans st8).trans std;have Cy:Z.F.N.length<65536:=ok.fpi.few ok.fo.n hp hs h0;refine (Q8c (q:=Z.F) (SP.sF (Z:=Z.setS S3 (updT (updT Z.tb (x%256) t1) (x%256) t3)) std.sep) ok.fo (.inl rfl) (by omega) (by omega) (by omega) (by omega) (ok.fpi.free ok.fo.n h0) (by have:=ok.next;omega) Cy).mono ?_;rintro rv w' ⟨rfl,F',AF,stF⟩;refine⟨⟨_,_,rfl⟩,.inr ⟨rfl,?_⟩⟩
   obtain⟨okz,A9,-⟩:=ok.made_added hp hk hs h0 T1 mk I9 hq AH T3 AF;have stZ:Step (Z.setS S3 (updT (updT Z.tb (x%256) t1) (x%256) t3)).hl ((Z.setF F').setS S3 (updT Z.tb (x%256) t3)).hl (w9.drewN m) w':=by
    have:=SP.stepF (Z:=Z.setS S3 (updT (updT Z.tb (x%256) t1) (x%256) t3)) std.sep F' AF.f stF;have e:((Z.setS S3 (updT (updT Z.tb (x%256) t1) (x%256) t3)).setF F')=(Z.setF F').setS S3 (updT Z.tb (x%256) t3):=by rw [Q1c];rfl
    rwa [e] at this
   refine⟨(Z.setF F').setS S3 (updT Z.tb (x%256) t3),fr',s,i,q,⟨n,a,f.own,1,q.age,v⟩,rfl,hs,by rw [<- CJ];exact I9,hq,rfl,rfl,rfl,rfl,okz,⟨rfl,AF.f,(T3.alt.c.trans T1.alt.c),T3.alt.per.trans (wn2.per.trans T1.alt.per),(T1.alt.same.trans wn2.same).trans T3.alt.same,?_⟩,?_,A9,AP.trans stZ⟩
   ·show pget S3.l 1 0=_;rw [T3.alt.l,Q9O wn2.root,CJ]
   ·show S3.l=_;rw [T3.alt.l,E8,CJ]
theorem Z6K {w:World} (hs:Sep w Z.hl) (ok:Z.Ok fr N K M) (hN:N+1<1048576) (hM:M+1<1099511627776) {x y:Nat} (hx:x<4294967296) (hy:y<4294967296) (z k lim:Int) :
  Calls prog 38 #[.pointer (some ⟨Z.s,0,none⟩),.int .u32 x,.int .i64 z,.int .u32 y,.int .i64 k,.int .i64 lim] w fun rv w'=>∃(hh:Nat) (er:Int),rv=.returned (.tuple #[.int .u32 hh,.int .i64 er])/\MkR Z fr N K M x z k w hh er w':=by
 have bad:∀(er:Int) (W:World),er≠0->Below w.heap.size w W->MkR Z fr N K M x z k w 0 er W:=fun er W he hb=>.inl ⟨he,rfl,0,BackZ.of 0 hs ok hb⟩
 cases hp:pget Z.S.l 1 x with
 | none =>
  refine (Q7w (y:=y) (z:=z) (k:=k) (lim:=lim) (e:=8) (by decide) (Q0K hs ok.core hx 8 (.inl ⟨hp,rfl⟩))).mono ?_;rintro rv w' ⟨rfl,hb⟩;exact⟨0,8,rfl,bad 8 _ (by decide) hb⟩
 | some p =>
  by_cases hk:p.kind=2
  case neg =>
   refine (Q7w (y:=y) (z:=z) (k:=k) (lim:=lim) (e:=10) (by decide) (Q0K hs ok.core hx 10 (.inr ⟨p,hp,hk,rfl⟩))).mono ?_;rintro rv w' ⟨rfl,hb⟩;exact⟨0,10,rfl,bad 10 _ (by decide) hb⟩
  refine Z3B hs ok hx hp hk z k lim ?_;by_cases hz:0<=z/\z<256
  case neg=>exact .inl ⟨2,.inl ⟨decide_eq_false hz,rfl⟩,fun W hb=>bad 2 W (by decide) hb⟩
  have Hb:decide (0<=z/\z<256)=true:=decide_eq_true hz;by_cases hm:k=8∨1<=k/\k<=5
  case neg=>exact .inl ⟨1,.inr (.inl ⟨Hb,decide_eq_false hm,rfl⟩),fun W hb=>bad 1 W (by decide) hb⟩
  have EZ:decide (k=8∨1<=k/\k<=5)=true:=decide_eq_true hm;cases AC:(decide (z<128)==(k==8)) with
  | true=>exact .inl ⟨1,.inr (.inr (.inl ⟨Hb,EZ,AC,rfl⟩)),fun W hb=>bad 1 W (by decide) hb⟩
  | false =>
   obtain⟨s,rfl⟩:∃s:Nat,z=(s:Int):=⟨z.toNat,by omega⟩
   have A6:s<256:=by omega
   have KB:k=8↔128<=s:=by
    rcases Q3r AC with ⟨h1,_,h3⟩|⟨h1,h2⟩
    ·have h1:=of_decide_eq_true h1;have h3:=of_decide_eq_false h3;omega
    ·have h1:=of_decide_eq_false h1;omega
   have AB:(Z.tb (x%256)).at' (s:Int)=Q0f Z.S.l Z.tb x s:=by
    unfold TB.at';rw [if_pos hz,Q0h hp hk (by omega)];rfl
   cases h0:Q0f Z.S.l Z.tb x s with
   | some e0=>exact .inl ⟨7,.inr (.inr (.inr ⟨Hb,EZ,AC,by rw [AB,h0];rfl,rfl⟩)),fun W hb=>bad 7 W (by decide) hb⟩
   | none =>
    have Br:((Z.tb (x%256)).at' (s:Int)).isSome=false:=by rw [AB,h0];rfl
    refine .inr ⟨Hb,EZ,rfl,Br,fun W g B hb hg BX=>?_⟩;have hi:=(pget_some.1 hp).1;have Ao:=(pget_some.1 hp).2.2;have Dd:(Z.tb (x%256)).en s=none:=by rw [<- Q0h hp hk A6];exact h0
    refine (Q8d (hs.grown hb).sep ok.core ok.tpi (x:=x) (h:=0) (r:=15) hi Ao hk A6 Dd (by omega) (by omega) hg).mono ?_;rintro rv w5 ⟨er,rfl,⟨rfl,nd,S1,t1,T1,st1⟩|⟨he,F7,P',tr,st1⟩⟩
    ·have st:=(hs.grown hb).trans st1;have bx5:=BX.step st1;exact⟨0,rfl,.inr ⟨rfl,Q4T (Z1:=Z.setS S1 (updT Z.tb (x%256) t1)) rfl T1.alt.c rfl st.sep bx5,Z6J ok hN hM hx hy hp hk A6 h0 k lim KB T1 st (hg.step st1 T1.alt.same.p) bx5⟩⟩
    ·refine⟨er,rfl,.inl ⟨by omega,.inl ⟨by omega,rfl,p.fac,?_⟩⟩⟩;refine LaidP.back (x:=x) (A:=fun _=>⟨0,0,0,false⟩) ok hp hk ((LaidP.start (x:=x) (A:=fun _=>⟨0,0,0,false⟩) ok (p.fac:Int)).tried tr) ?_;rw [Q1l];exact (hs.grown hb).trans st1
end
def GoesZ (Z:SP) (N K:Nat) (M:Int) (w w':World):Prop:=∃(Z':SP) (fr':List Nat),Z'.Ok fr' N K M/\GoneZ Z Z'/\Step Z.hl Z'.hl w w'
theorem GoesZ.mono {Z:SP} {N N' K K':Nat} {M M':Int} {w w':World} (h:GoesZ Z N K M w w') (h1:N<=N') (h2:K<=K') (h3:M<=M'):GoesZ Z N' K' M' w w':=by
 obtain⟨Z',fr',a,b,c⟩:=h;exact⟨Z',fr',a.mono h1 h2 h3,b,c⟩
section
variable {Z:SP} {fr:List Nat} {N K:Nat} {M:Int} {w w':World}
theorem GoesZ.of (hs:Sep w Z.hl) (ok:Z.Ok fr N K M) (hb:Below w.heap.size w w'):GoesZ Z N K M w w':=⟨Z,fr,ok,GoneZ.refl Z,hs.grown hb⟩
theorem GoesZ.same {Z':SP} (ok:Z'.Ok fr N K M) (s:SameZ Z Z') (st:Step Z.hl Z'.hl w w'):GoesZ Z N K M w w':=⟨Z',fr,ok,s.toSameN.gone,st⟩
theorem GoesZ.at {w1 w2:World} (hs:Sep w Z.hl) (hb:Below w.heap.size w w1) (h:GoesZ Z N K M w1 w2):GoesZ Z N K M w w2:=by
 obtain⟨Z',fr',a,b,c⟩:=h;exact⟨Z',fr',a,b,(hs.grown hb).trans c⟩
theorem BackZ.goes (ok:Z.Ok fr N K M) {y:Nat} {own:Int} (h:BackZ Z fr N K y own w w'):GoesZ Z N K M w w':=by
 obtain⟨Z',a,_,b,c⟩:=h.ok ok;exact .same a b c
theorem RootR.goes (hs:Sep w Z.hl) (ok:Z.Ok fr N K M) {x h:Nat} {z r er:Int} (R:RootR Z fr N K M x z h r w er w'):GoesZ Z N K (M+1) w w':=by
 rcases R with ⟨_,_,hb⟩|⟨s,rn,p,q,_,_,_,_,_,hp,hk,_,_,_,⟨_,Z',a,b,_,_,_,c⟩|⟨_,_,P',tr,st⟩⟩
 ·exact (GoesZ.of hs ok hb).mono (J1L _) (J1L _) (by omega)
 ·exact⟨Z',fr,a,b.gone,c⟩
 ·refine GoesZ.mono ?_ (J1L _) (J1L _) (show M<=M+1 by omega);refine BackZ.goes (y:=x) (own:=p.fac) ok (LaidP.back (x:=x) (A:=fun _=>⟨0,0,0,false⟩) ok hp hk ((LaidP.start (x:=x) (A:=fun _=>⟨0,0,0,false⟩) ok (p.fac:Int)).tried tr) ?_);rw [Q1l];exact st
theorem MoveR.goes (ok:Z.Ok fr N K M) {x y n:Nat} {A:Nat->Mv} {er:Int} (R:MoveR Z fr N K M x y n A w er w'):GoesZ Z N K (M+n) w w':=by
 rcases R with ⟨_,_,own,h⟩|⟨p1,p2,_,_,_,_,_,⟨_,a,Z',_,_,h1,h2,_,h3⟩|⟨_,_,h⟩⟩
 ·exact (h.goes ok).mono (J1L _) (J1L _) (by omega)
 ·exact⟨Z',fr,h1,h2.gone,h3⟩
 ·exact (h.goes ok).mono (J1L _) (J1L _) (by omega)
theorem RevR.goes (hs:Sep w Z.hl) (ok:Z.Ok fr N K M) {x:Nat} {z mask:Int} {self:Bool} {r:Ending} (R:RevR Z fr N K M x z mask self w r w'):(∃a b:Value,r=.returned (.tuple #[a,b]))/\GoesZ Z N K M w w':=by
 rcases R with ⟨e,rfl,hb,_⟩|⟨s,m,n,en,_,_,_,_,_,_,_,_,_,rfl,Z',a,_,b,c⟩
 ·exact⟨⟨_,_,rfl⟩,.of hs ok hb⟩
 ·exact⟨⟨_,_,rfl⟩,.same a b c⟩
theorem KillI.gone {A:List Nat} {Z1:SP} (I:KillI Z fr N K M A Z1) (h0:0∉A):GoneZ Z Z1:=⟨I.s,I.f,I.c,I.per,I.same,by rw [I.live 0,if_neg h0]⟩
theorem KillR.goes (hs:Sep w Z.hl) (ok:Z.Ok fr N K M) {h:Nat} {r:Ending} (R:KillR Z fr N K M h w r w'):(∃a b:Value,r=.returned (.tuple #[a,b]))/\GoesZ Z N K M w w':=by
 rcases R with ⟨_,rfl,hb⟩|⟨_,rfl,hb⟩|⟨h0,⟨p,hp⟩,a,cap,rfl,Z',I,st,_⟩
 ·exact⟨⟨_,_,rfl⟩,.of hs ok hb⟩
 ·exact⟨⟨_,_,rfl⟩,.of hs ok hb⟩
 ·refine⟨⟨_,_,rfl⟩,Z',fr,I.ok,I.gone fun hm=>?_,st⟩;obtain⟨A,B,e⟩:=J5R hm;obtain⟨_,_,h2,_⟩:=Z6w ok.core.inv.tree hp h0 A 0 B e;exact h2 rfl
theorem MkR.goes (ok:Z.Ok fr N K M) {x hh:Nat} {z k er:Int} (R:MkR Z fr N K M x z k w hh er w'):GoesZ Z (N+1) K (M+1) w w':=by
 rcases R with ⟨_,_,own,h⟩|⟨_,Z',fr',s,i,q,q',_,_,_,_,_,_,_,_,a,b,_,_,c⟩
 ·exact (h.goes ok).mono (J6d _) (J1L _) (by omega)
 ·exact⟨Z',fr',a,b,c⟩
theorem MakeR.goesZ (hs:Sep w Z.hl) (ok:Z.Ok fr N K M) {y:Nat} {k lim:Int} {r:Ending} (m:MakeR Z.S fr y k lim w r w'):(∃(x:Nat) (er:Int),r=two x er)/\GoesZ Z (N+1) K M w w':=by
 rcases m.cases ok.core with ⟨er,P',_,rfl,tr,st⟩|⟨f,n,e,i,q,a,v,P',fr',hf,Dj,_,hn,he,hi,hq,rfl,mk,st⟩
 ·refine⟨⟨0,er,rfl⟩,Z.setS (Z.S.setP P') Z.tb,fr,?_,(tr.alt (S:=Z.S) 0).gone _,SP.stepS hs _ _ rfl st⟩;exact SP.Ok.mono ⟨ok.core.tried tr,ok.tpi.tried ok.core tr,ok.fpi,ok.fo,ok.next⟩ (J6d _) (J1L _) (J5Q _)
 ·exact⟨⟨nm i q,0,rfl⟩,Z.setS (Z.S.made f n a v i q P') Z.tb,fr',⟨mk.ok ok.core hi,ok.tpi.made ok.core mk hi hq,ok.fpi.made hi hq (ok.tpi.nil i q hi (by omega)),ok.fo,ok.next⟩,(mk.went ok.core hi hq).gone _,SP.stepS hs _ _ rfl st⟩
theorem TickR.goesZ (hs:Sep w Z.hl) (ok:Z.Ok fr N K M) {r:Ending} (m:TickR Z.S fr N K w r w'):(∃v:Value,r=.returned v)/\GoesZ Z N (K+1) M w w':=by
 obtain⟨rv,S',fr',v,rfl,_,_,t,ok',st,_⟩:=m;have wn:Went Z.S S':=t.went;have tz:TPI (Z.S.setG (Z.S.now+1) rv (dueT Z.S)) Z.tb:=⟨ok.tpi.tin,ok.tpi.full,ok.tpi.nil,ok.tpi.lvs,ok.tpi.nds,ok.tpi.xc⟩
 exact⟨⟨v,rfl⟩,Z.setS S' Z.tb,fr',⟨ok',TPI.ticked (D:=[]) (S:=Z.S.setG (Z.S.now+1) rv (dueT Z.S)) ok.core.inv.len ok'.inv.len tz t.live t.mem t.high t.xc,ok.fpi.live t.live,ok.fo,ok.next⟩,wn.gone _,SP.stepS hs _ _ wn.c st⟩
end
def isK (l:List Pl) (k:Int) (h:Nat):Bool:=match pget l 1 h with
 | some p=>decide (k=0∨(p.kind:Int)=k)
 | none=>false
def Q2j (l:List Pl) (k:Int) (T:List Nat):List Nat:=T.filter (isK l k)
def nthV (l:List Pl) (k n:Int):Nat:=if (Q2j l k (allL l 1)).length=0∨n<0 then 0 else (Q2j l k (allL l 1)).getD (n%((Q2j l k (allL l 1)).length:Int)).toNat 0
theorem Z3O (l:List Pl) (k:Int) (T:List Nat) (y:Nat):Q2j l k (T++[y])=Q2j l k T++if isK l k y=true then [y] else []:=by
 unfold Q2j;rw [J3J];cases h:isK l k y <;> simp [h]
theorem Q9P (l:List Pl) (k:Int) (T:List Nat):(Q2j l k T).length<=T.length:=J4b _ _
theorem isK_iff {l:List Pl} {k:Int} {h:Nat}:isK l k h=true↔∃p,pget l 1 h=some p/\(k=0∨(p.kind:Int)=k):=by
 unfold isK;cases pget l 1 h with
 | none=>simp
 | some p=>simp
theorem Z2e {l:List Pl} (h:l.length=256):(allL l 1).length<=256:=by
 have:=Q2y l 1 l.length;unfold allL;rw [h] at this ⊢;exact this
theorem Z3P {l:List Pl} {k n:Int}:nthV l k n=0∨(∃p,pget l 1 (nthV l k n)=some p/\(k=0∨(p.kind:Int)=k)):=by
 unfold nthV;split
 ·exact .inl rfl
 ·rename_i h;have h1:=Int.emod_nonneg n (b:=((Q2j l k (allL l 1)).length:Int)) (by omega);have h2:=Int.emod_lt_of_pos n (b:=((Q2j l k (allL l 1)).length:Int)) (by omega);have Ab:(n%((Q2j l k (allL l 1)).length:Int)).toNat<(Q2j l k (allL l 1)).length:=by omega
  refine .inr ?_;rw [J6p,J4d Ab,J4E];have hm:=J5i Ab;unfold Q2j at hm;exact isK_iff.1 (J2f.1 hm).2
theorem Z0V {l:List Pl} (lok:LOk l) {s h:Nat} {q:Pl} (hq:pget l s h=some q):h<4294967296:=by
 have h1:=pget_some.1 hq;have h2:=lok.2 q (Q0B hq);have:nm (h%256) q=h:=h1.2.1;unfold nm at this;omega
theorem Z6L {l:List Pl} (lok:LOk l) (k n:Int):nthV l k n<4294967296:=by
 rcases Z3P (l:=l) (k:=k) (n:=n) with h|⟨p,hp,_⟩
 ·rw [h];omega
 ·exact Z0V lok hp
theorem Z6M {w:World} {Z:SP} {fr:List Nat} {N K:Nat} {M:Int} (hs:Sep w Z.hl) (ok:Z.Ok fr N K M) (k n:Int) (hn:I64 n) :
  Calls prog 31 #[.pointer (some ⟨Z.s,0,none⟩),.int .i64 k,.int .i64 n] w (Told w (.int .u32 ((nthV Z.S.l k n:Nat):Int))):=by
 have Ba:=ok.core.inv.lok;have BC:Hid (∀W,Below w.heap.size w W->Calls prog 29 #[.pointer (some ⟨Z.s,0,none⟩)] W fun r w'=>r=.returned (.pointer (some ⟨Z.S.c,0,none⟩))/\W=w'):=fun W hb=>Q5t (hs.grown hb).sep
 have Jh:Hid (∀W,Below w.heap.size w W->Calls prog 32 #[.pointer (some ⟨Z.S.c,0,none⟩)] W (NewHs W (allL Z.S.l 1))):=fun W hb=>Q8N (SP.sS (hs.grown hb).sep) Ba
 have JU:Hid (∀y,y∈allL Z.S.l 1->∃a b c er:Int,((er==0)=isK Z.S.l k y)/\∀W,Below w.heap.size w W->Calls prog 30 #[.pointer (some ⟨Z.S.c,0,none⟩),.int .u32 y,.int .i64 k] W (Told W (.tuple #[.agg #[.int .i64 a,.int .i64 b,.int .i64 c],.int .i64 er]))):=fun y hy=>by
  obtain⟨p,hp⟩:=(Q3X (by rw [Ba.1];omega)).1 hy;have Ab:=Z0V Ba hp;by_cases hk:k=0∨(p.kind:Int)=k
  ·refine⟨_,_,_,0,?_,fun W hb=>Q3E (SP.sS (hs.grown hb).sep) Ba Ab k hp hk⟩;rw [isK_iff.2 ⟨p,hp,hk⟩];rfl
  ·refine⟨_,_,_,10,?_,fun W hb=>Q4A (SP.sS (hs.grown hb).sep) Ba Ab k hp (by omega) (by omega)⟩;unfold isK;rw [hp];show ((10:Int)==0)=decide (_∨_);rw [decide_eq_false hk];rfl
 have K4:=Q0a (Z2e Ba.1);obtain⟨CH,FC⟩:=hn;have HV:Hid (nthV Z.S.l k n=if (Q2j Z.S.l k (allL Z.S.l 1)).length=0∨n<0 then 0 else (Q2j Z.S.l k (allL Z.S.l 1)).getD (n%((Q2j Z.S.l k (allL Z.S.l 1)).length:Int)).toNat 0):=rfl;clear hs ok Ba;generalize nthV Z.S.l k n=nv at *
 generalize hT:allL Z.S.l 1=T at *
 go_enter func31,ntmps31;go_wp2_with fail;refine (BC.out _ (Below.refl _ _)).mono ?_;rintro rv w0 ⟨rfl,rfl⟩;go_wp2_with fail;refine (Jh.out _ (Below.refl _ _)).mono ?_;intro rv w1 Dv;obtain⟨a0,Le,rfl,Ax,Jg⟩:=Dv.shape;have Bq:=Q0a Ax;have JN:=Q0a Jg;clear Dv Ax Jg Jh;go_wp2_with fail
 go_loopg [7,9] T.length (fun gk ov iv wr=>∃j:Nat,iv=.int .i64 j/\j+gk=T.length/\OutH w1 wr ov (Q2j Z.S.l k (T.take j)))
 case atStart=>exact⟨0,rfl,J4q _,OutH.nil w1⟩
 case round =>
  obtain⟨j,rfl,AL,Au⟩:=hrel;have HO:=Q0a Au;have BW:=Q0a AL;clear Au;by_cases Ab:j<T.length
  ·obtain⟨y,hy⟩:∃y,T[j]?=some y:=⟨_,J4d Ab⟩
   obtain⟨g0,rfl,Nz,DG,Al⟩:=(JN.out.below HO.out.2).at' j y hy;obtain⟨a,b,c,er,Cs,Rj⟩:=JU.out y (J4a hy);have DA:Below w.heap.size w wr:=Bq.out.trans (HO.out.2.mono Bq.out.size);have Bm:Hid (Q2j Z.S.l k (T.take (j+1))=Q2j Z.S.l k (T.take j)++if isK Z.S.l k y=true then [y] else []):=by
    rw [J3I,hy];exact Z3O _ _ _ _
   have HY:=Q0a hy;have JC:Hid (∀W,Below wr.heap.size wr W->Calls prog 30 #[.pointer (some ⟨Z.S.c,0,none⟩),.int .u32 y,.int .i64 k] W (Told W (.tuple #[.agg #[.int .i64 a,.int .i64 b,.int .i64 c],.int .i64 er]))):=fun W hb=>Rj W (DA.trans (hb.mono DA.size))
   have L7:Hid (∀W,Below wr.heap.size wr W->Calls prog 29 #[.pointer (some ⟨Z.s,0,none⟩)] W fun r w'=>r=.returned (.pointer (some ⟨Z.S.c,0,none⟩))/\W=w'):=fun W hb=>BC.out W (DA.trans (hb.mono DA.size))
   have G0:Hid (∀W,Below wr.heap.size wr W->W.cell? ⟨g0,j,none⟩=some (.int .u32 y)):=fun W hb=>(World.cell?_of_block (w:=wr) (hb.block g0 DG)).trans Al
   have OT:Hid (∀W,Below wr.heap.size wr W->OutH w1 W u7 (Q2j Z.S.l k (T.take j))):=fun W hb=>HO.out.below hb
   have LE:(Q2j Z.S.l k (T.take j)).length<=16777216:=by
    have h1:=Q9P Z.S.l k (T.take j);rw [J4f] at h1;have:=K4.out;omega
   have EP:=Q0a LE;have MK:=Q0a Cs;have Cl:Hid (∀W,Below wr.heap.size wr W->∀o,Below wr.heap.size wr (W.alloc o)):=fun W hb o=>hb.alloc hb.size o
   have HD:Hid (Below wr.heap.size wr wr.drew):=(Below.refl _ _).drew;have FW:(j:Int)<256:=by have:=K4.out;omega
   have Bx:(0:Int)<=(j:Int):=by omega
   clear hy AL Cs Rj DA HO BC JU Nz DG LE;go_upto_region 6 with fail
   go_cut [11] from 22 to 31 (fun nn wc=>nn=.int .i64 er/\Below wr.heap.size wr wc)
   case first =>
    clear Bm OT EP MK HV JN;have cD:wr.drew.cell? ⟨g0,j,none⟩=some (.int .u32 y):=Al;have JQ:Hid (Calls prog 30 #[.pointer (some ⟨Z.S.c,0,none⟩),.int .u32 y,.int .i64 k] (wr.alloc (.cells #[.int .i64 0,.int .i64 0,.int .i64 0] 69)).drew fun r w4=>r=.returned (.tuple #[.agg #[.int .i64 a,.int .i64 b,.int .i64 c],.int .i64 er])/\Below wr.heap.size wr w4/\Cells w4 wr.heap.size 69 [.int .i64 0,.int .i64 0,.int .i64 0]):=
     (JC.out _ (Cl.out _ (Below.refl _ _).drew _)).mono fun r w4 h=>⟨h.1,((Cl.out _ (Below.refl _ _).drew _)).trans (h.2.mono (by simp)),(Cells.new wr 69 [.int .i64 0,.int .i64 0,.int .i64 0]).same (h.2.block _ (by simp))⟩
    go_region_held3 (fun w'=>w'.cell? ⟨g0,j,none⟩=some (.int .u32 y))
     (first|exact Al|exact cD|exact G0.out _ (Cl.out _ HD.out _)|exact G0.out _ Ap.out|exact G0.out _ (Cl.out _ Ap.out _)|exact G0.out _ (Ap.out.setCell (by simp) _)|exact G0.out _ ((Ap.out.setCell (by simp) _).setCell (by simp) _)|exact G0.out _ (((Ap.out.setCell (by simp) _).setCell (by simp) _).setCell (by simp) _))
     (first|(go_at_call 29;refine (L7.out _ (by first|exact HD.out|exact Cl.out _ HD.out _)).mono ?_;rintro rv w' ⟨rfl,rfl⟩)|(go_at_call 30;refine JQ.out.mono ?_;rintro rv w4 ⟨rfl,Az,AT⟩;have Ap:=Q0a Az;have z0:=AT.cell 0 _ rfl;have z1:=AT.cell 1 _ rfl;have z2:=AT.cell 2 _ rfl;have y0:=AT.free 0;have y1:=AT.free 1;have y2:=AT.free 2;have Ga:=Q0a AT;clear Az AT)|(go_at_call 30;refine (JC.out _ (by first|exact HD.out|exact Cl.out _ HD.out _)).mono ?_;rintro rv w4 ⟨rfl,Az⟩;have Ap:=Q0a (HD.out.trans (Az.mono HD.out.size));clear Az))
    all_goals (go_wp2_with fail;go_meet;first|exact⟨rfl,Cl.out _ Ap.out _⟩|exact⟨rfl,((Ap.out.setCell (by simp) _).setCell (by simp) _).setCell (by simp) _⟩|exact⟨rfl,Ap.out⟩)
   obtain⟨rfl,Ny⟩:=hcut;have US:=Q0a Ny;have Oe:=Q0a (OT.out wc Ny);have Dz:=G0.out wc Ny;clear Ny Al G0 OT JC L7 Cl HD;have RU:=MK.out;cases EX:isK Z.S.l k y with
   | true =>
    rw [EX] at RU;have BO:=Bm.out;rw [EX,if_pos rfl] at BO;obtain⟨v',w',Bn,M7⟩:=Oe.out.app EP.out y 66;have Ti:=Q0a M7;have Fr:=Q0a BO;clear M7 BO Bm MK Oe;go_wp2_with (at_builtin;refine Lib.wpList_append_run _ rfl _ _ _ _ rfl _ _ rfl rfl _ _ Bn ?_);go_roundg (T.length-(j+1))
    case measure=>have:=BW.out;omega
    case rel=>exact⟨j+1,by go_num,by omega,by rw [Fr.out];exact Ti.out⟩
   | false =>
    rw [EX] at RU;have BO:=Bm.out;rw [EX,if_neg (by decide),J3S] at BO;have Fr:=Q0a BO;clear BO Bm MK;go_wp2_with fail;go_roundg (T.length-(j+1))
    case measure=>have:=BW.out;omega
    case rel=>exact⟨j+1,by go_num,by omega,by rw [Fr.out];exact Oe.out⟩
  ·have Fs:j=T.length:=by have:=BW.out;omega
   have Au:=HO.out;rw [Fs,J5V] at Au;have C0:Hid (Below w.heap.size w wr):=Bq.out.trans (Au.2.mono Bq.out.size);have GQ:Hid ((Q2j Z.S.l k T).length<=256):=J1M (Q9P _ _ _) K4.out;clear HO BC JU JN Bq AL;generalize Q2j Z.S.l k T=L at *
   obtain⟨aL,cL,rfl⟩:=Au.shape;have HO:=Q0a Au;clear Au;by_cases h0:L.length=0
   ·have hv:nv=0:=by rw [HV.out,if_pos (.inl h0)]
    subst hv;have hz:((L.length:Nat):Int)=0:=by omega
    have Bf:(((L.length:Nat):Int)==0)=true:=by rw [hz];rfl
    clear HV;go_wp2_with fail
    first|exact⟨rfl,C0.out⟩|(go_ret;exact⟨rfl,C0.out⟩)
   ·have Bf:(((L.length:Nat):Int)==0)=false:=by rw [beq_eq_false_iff_ne];omega
    have Vq:((L.length:Nat):Int)≠0:=by omega
    have Va:(0:Int)<((L.length:Nat):Int):=by omega
    by_cases Do:n<0
    ·have hv:nv=0:=by rw [HV.out,if_pos (.inr Do)]
     subst hv;have hd:decide (n<0)=true:=decide_eq_true Do;clear HV;go_wp2_with fail
     first|exact⟨rfl,C0.out⟩|(go_ret;exact⟨rfl,C0.out⟩)
    ·have hd:decide (n<0)=false:=decide_eq_false Do;have h1:=Int.emod_nonneg n (b:=(L.length:Int)) (by omega);have h2:=Int.emod_lt_of_pos n (b:=(L.length:Int)) (by omega);have TZ:n.tmod (L.length:Int)=(((n%(L.length:Int)).toNat:Nat):Int):=by
      rw [J3D (by omega),Int.toNat_of_nonneg h1]
     have hv:nv=L.getD (n%(L.length:Int)).toNat 0:=by rw [HV.out,if_neg (by omega)]
     have hi:(n%(L.length:Int)).toNat<L.length:=by omega
     generalize (n%(L.length:Int)).toNat=i at *
     rw [J6p,J4d hi,J4E] at hv;have QN:L[i]?=some nv:=by rw [hv];exact J4d hi
     clear hv HV h1 h2;have Aa:L≠[]:=fun e=>h0 (by rw [e];rfl)
     obtain⟨gL,Vl,eL⟩:=HO.out.shape1 Aa;cases eL;obtain⟨AK,-,-⟩:=HO.out.cellAt QN;have Dk:IntKind.i64.wrap ((i:Nat):Int)=(i:Int):=Go.IntWalk.i64_in _ (by have:=GQ.out;omega);have N6:(i:Int)<(L.length:Int):=by omega
     have Fq:(0:Int)<=(i:Int):=by omega
     clear QN Aa HO;go_wp2_with fail
     first|exact⟨rfl,C0.out⟩|(go_ret;exact⟨rfl,C0.out⟩)
end Go.Proofs.YtlakjlmaboioiaaGreatDoor
namespace Go.Proofs.YtlakjlmaboioiaaGreatDoor
open Go.ChangeShapes Go.WideShapes Go.ChangeAt Go.RowKit Go.Deep Go.Proofs.Tryz
end Go.Proofs.YtlakjlmaboioiaaGreatDoor
namespace Go.Proofs.YtlakjlmaboioiaaGreatDoor
open Go.RowKit Go.Proofs.Tryz
def Q2h (b o:Int):Bool:=decide (0<=b/\b<256/\0<=o/\o<=7/\b.toNat%2 ^ o.toNat=0)
theorem J0D (n k:Nat) (hn:n<256) (hk:k<=7):bits .and .i64 (n:Int) (((2 ^ k-1:Nat):Int))=((n%2 ^ k:Nat):Int):=by
 have hp:2 ^ k-1<2 ^ 63:=by
  have:2 ^ k<=2 ^ 7:=J3a (by omega) hk;omega
 rw [Z2h n (2 ^ k-1) (by omega) hp,J3r]
theorem Q6F (w:World) (b o:Int):Calls prog 169 #[.int .i64 b,.int .i64 o] w fun r w'=>r=.returned (.bool (Q2h b o))/\w=w':=by
 unfold Q2h;by_cases h1:0<=b
 ·by_cases h2:b<256
  ·by_cases h3:0<=o
   ·by_cases h4:o<=7
    ·obtain⟨n,rfl⟩:=J3q h1;obtain⟨k,rfl⟩:=J3q h3;have hb:=J0D n k (by omega) (by omega);rw [show (decide (0<=(n:Int)/\(n:Int)<256/\0<=(k:Int)/\(k:Int)<=7/\(n:Int).toNat%2 ^ (k:Int).toNat=0))=(((n%2 ^ k:Nat):Int)==0) by
      rw [J2R,J2R];by_cases h:n%2 ^ k=0
      ·rw [h];simp;omega
      ·rw [decide_eq_false (by rintro⟨_,_,_,_,e⟩;exact h e)];exact (beq_false_of_ne (by omega)).symm]
     rw [<- hb];clear hb;have hk:k=0∨k=1∨k=2∨k=3∨k=4∨k=5∨k=6∨k=7:=by omega
     clear h3 h4;go_enter func169,ntmps169;rcases hk with rfl|rfl|rfl|rfl|rfl|rfl|rfl|rfl <;> (go_wp2_with fail;go_ret;exact⟨rfl,rfl⟩)
    ·rw [decide_eq_false (by omega)];go_enter func169,ntmps169;go_wp2_with fail;go_ret;exact⟨rfl,rfl⟩
   ·rw [decide_eq_false (by omega)];go_enter func169,ntmps169;go_wp2_with fail;go_ret;exact⟨rfl,rfl⟩
  ·rw [decide_eq_false (by omega)];go_enter func169,ntmps169;go_wp2_with fail;go_ret;exact⟨rfl,rfl⟩
 ·rw [decide_eq_false (by omega)];go_enter func169,ntmps169;go_wp2_with fail;go_ret;exact⟨rfl,rfl⟩
theorem J0E (w:World) (v:Wi):Calls prog 91 #[.agg #[.int .i64 v.base,.int .i64 v.order]] w (Told w (.bool (Q2h v.base v.order))):=by
 obtain⟨b,o⟩:=v;dsimp only at *
 have ka:=Q6F (w.alloc (.cells #[.int .i64 b,.int .i64 o] 56)) b o;have HB:Hid (Below w.heap.size w (w.alloc (.cells #[.int .i64 b,.int .i64 o] 56))):=(Below.refl w.heap.size w).alloc (J1L _) _;go_enter func91,ntmps91;go_wp2_with fail;refine ka.mono ?_;rintro r w' ⟨rfl,rfl⟩;clear ka;go_wp2_with fail;go_ret;exact⟨rfl,HB.out⟩
def Q8k (i:It):Bool:=Q2h i.base i.order&&decide (1<=i.r/\i.r<=15/\0<=i.off/\i.off<256)
theorem Z8V (w:World) (i:It):Calls prog 90 #[.agg #[.int .i64 i.base,.int .i64 i.order,.int .i64 i.r,.int .i64 i.off,.bool i.g]] w fun r w'=>∃x:Int,r=.returned (.tuple #[.int .u64 x,.bool (Q8k i)])/\Below w.heap.size w w':=by
 obtain⟨b,o,ri,f,g⟩:=i;unfold Q8k;dsimp only;have ka:=Q6F (w.alloc (.cells #[.int .i64 b,.int .i64 o,.int .i64 ri,.int .i64 f,.bool g] 54)) b o;have HB:Hid (Below w.heap.size w (w.alloc (.cells #[.int .i64 b,.int .i64 o,.int .i64 ri,.int .i64 f,.bool g] 54))):=(Below.refl w.heap.size w).alloc (J1L _) _;generalize Q2h b o=al at *
 obtain⟨cv,Cm⟩:∃cv,cv=(al&&decide (1<=ri/\ri<=15/\0<=f/\f<256)):=⟨_,rfl⟩
 rw [<- Cm];go_enter func90,ntmps90;go_wp2_with fail;refine ka.mono ?_;rintro r w' ⟨rfl,rfl⟩;clear ka;cases al with
 | false =>
  obtain rfl:cv=false:=Cm;go_wp2_with fail;go_ret2;exact⟨_,rfl,HB.out⟩
 | true =>
  rw [J3c] at Cm;by_cases h1:ri<1
  ·obtain rfl:cv=false:=by rw [Cm,decide_eq_false (by omega)]
   clear Cm;go_wp2_with fail;go_ret2;exact⟨_,rfl,HB.out⟩
  ·by_cases h2:ri>15
   ·obtain rfl:cv=false:=by rw [Cm,decide_eq_false (by omega)]
    clear Cm;go_wp2_with fail;go_ret2;exact⟨_,rfl,HB.out⟩
   ·by_cases h3:f<0
    ·obtain rfl:cv=false:=by rw [Cm,decide_eq_false (by omega)]
     clear Cm;go_wp2_with fail;go_ret2;exact⟨_,rfl,HB.out⟩
    ·by_cases h4:f≥256
     ·obtain rfl:cv=false:=by rw [Cm,decide_eq_false (by omega)]
      clear Cm;go_wp2_with fail;go_ret2;exact⟨_,rfl,HB.out⟩
     ·obtain rfl:cv=true:=by rw [Cm,decide_eq_true (by omega)]
      clear Cm;cases g with
      | false =>
       go_wp2_with fail;go_ret2;exact⟨_,rfl,HB.out⟩
      | true =>
       go_wp2_with fail;go_ret2;exact⟨_,rfl,HB.out⟩
theorem J1t:(prog.info? 39).map (fun i=>(i.zero,i.size,i.bytes))=some (some (.agg #[.int .i64 0,.int .i64 0,.int .i64 0,.bool false]),4,32):=by kernel_rfl
theorem Q6G:∀L:List Mv,(L.flatMap Mv.cells).length=L.length*4
 | []=>rfl
 | p::r=>by rw [J2i,J2v,Q6G r];simp [Mv.cells];omega
theorem Q3M:∀(L:List Mv) (k i:Nat) (m:Mv) (v:Value),L[k]?=some m->m.cells[i]?=some v->(L.flatMap Mv.cells)[k*4+i]?=some v
 | [],k,i,m,v,h,_=>by simp at h
 | p::r,k,i,m,v,h,hv=>by
  rw [J2i];have hi:i<4:=by have:=(J2c.1 hv).1;simpa [Mv.cells] using this
  have hp:p.cells.length=4:=rfl;cases k with
  | zero =>
   simp at h;subst h;rw [J4Z (by rw [hp];omega),show 0*4+i=i by omega];exact hv
  | succ k =>
   rw [J5a (by rw [hp];omega),hp,show (k+1)*4+i-4=k*4+i by omega];exact Q3M r k i m v (by simpa using h) hv
def OutM (w wr:World) (v:Value) (L:List Mv):Prop:=wr.ownsRow w.heap.size 39 4 v L.length (L.flatMap Mv.cells)/\Below w.heap.size w wr
theorem OutM.nil (w:World):OutM w w (.slice none 0 0) []:=⟨World.ownsRow_nil _ _ _ _,Below.refl _ _⟩
theorem OutM.below {w wr w1:World} {v:Value} {L:List Mv} (h:OutM w wr v L) (hb:Below wr.heap.size wr w1):OutM w w1 v L:=
 ⟨Q5s h.1 (fun b Ak=>hb.block b (h.1.lt b Ak).2),h.2.trans (hb.mono h.2.size)⟩
theorem OutM.app {w wr:World} {v:Value} {L:List Mv} (h:OutM w wr v L) (hl:L.length<=16777216) (m:Mv) (ty:TypeId):∃v' w',(Builtin.append_ #[58,58] ty #[v,.slice (some ⟨wr.heap.size,0,none⟩) 1 1]).run prog (wr.alloc (.cells #[.int .i64 m.src,.int .i64 m.dst,.int .i64 m.r,.bool m.g] 39))=.ok v' w'/\OutM w w' v' (L++[m]):=by
 obtain⟨i0,hi,BN,Bh,Bf⟩:=info_parts J1t;have h2:=h.below ((Below.refl wr.heap.size wr).alloc (J1L _) (.cells #[.int .i64 m.src,.int .i64 m.dst,.int .i64 m.r,.bool m.g] 39));have hc:=Q6G L;obtain⟨v',w',hr,q1,q2,_,q4⟩:=run_append_own_at (P:=prog) (wr.alloc (.cells #[.int .i64 m.src,.int .i64 m.dst,.int .i64 m.r,.bool m.g] 39)) w.heap.size 58 ty 39 i0 (.agg #[.int .i64 0,.int .i64 0,.int .i64 0,.bool false]) 4 32 underlying58 hi BN Bh Bf rfl (by decide) v L.length (L.flatMap Mv.cells) h2.1 ⟨wr.heap.size,0,none⟩ 1 1 m.cells (by simp [Mv.cells]) (by
  intro j u hj;have:=(Cells.new wr 39 m.cells).cell j u hj;have e:(⟨wr.heap.size,0,none⟩:Addr).add j=⟨wr.heap.size,j,none⟩:=by unfold Addr.add;split <;> simp_all
  rw [e];exact this) (fun u hu=>by
   have h4:u=.int .i64 m.src∨u=.int .i64 m.dst∨u=.int .i64 m.r∨u=.bool m.g:=by simpa [Mv.cells] using hu
   rcases h4 with rfl|rfl|rfl|rfl <;> rfl) (by unfold maxLen;omega) (by omega) h2.2.size
 refine⟨v',w',hr,?_,?_⟩
 ·rw [J2v,J2t];have e:[m].flatMap Mv.cells=m.cells:=by simp
  rw [e];exact q1
 ·exact h2.2.trans ((Below.refl _ _).mono h2.2.size |>.grown q2 h2.2.size (fun b hb=>(h2.1.lt b hb).1))
def itMv (i:It) (v:Wi) (k:Nat):Mv:=⟨i.base+k,v.base+i.off+k,i.r,i.g⟩
def movV (f:Nat->Bool) (i:It) (v:Wi) (k:Nat):List Mv:=((List.range k).filter f).map (itMv i v)
theorem Z6N (f:Nat->Bool) (i:It) (v:Wi) (k:Nat):movV f i v (k+1)=movV f i v k++if f k=true then [itMv i v k] else []:=by
 unfold movV;rw [J1W,J3J,J5p];cases h:f k <;> simp [h]
theorem Z2f (f:Nat->Bool) (i:It) (v:Wi) (k:Nat):(movV f i v k).length<=k:=by
 unfold movV;rw [J3v];refine J1M (J4b _ _) ?_;rw [J3w];exact J1L _
def Q4j (i:It) (v:Wi):Bool:=Q8k i&&(Q2h v.base v.order&&(decide (i.base<128)==decide (v.base<128)))
theorem Q2K {b o:Int} (h:Q2h b o=true):0<=b/\0<=o/\o<=7/\b.toNat+2 ^ o.toNat<=256/\2 ^ o.toNat<=128:=by
 unfold Q2h at h;obtain⟨h1,h2,h3,h4,h5⟩:=of_decide_eq_true h;obtain⟨n,rfl⟩:=J3q h1;obtain⟨k,rfl⟩:=J3q h3;rw [J2R,J2R] at *
 have hk:k=0∨k=1∨k=2∨k=3∨k=4∨k=5∨k=6∨k=7:=by omega
 refine⟨h1,h3,h4,?_,?_⟩
 ·rcases hk with rfl|rfl|rfl|rfl|rfl|rfl|rfl|rfl <;> simp at h5 ⊢ <;> omega
 ·rcases hk with rfl|rfl|rfl|rfl|rfl|rfl|rfl|rfl <;> simp
end Go.Proofs.YtlakjlmaboioiaaGreatDoor
