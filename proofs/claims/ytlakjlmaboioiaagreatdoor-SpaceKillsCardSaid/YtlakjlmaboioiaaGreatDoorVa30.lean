/- What the laws of spaces share is proved. No condition. Part of a proof. -/
import Derived.Test.YtlakjlmaboioiaaGreatDoorVa29
import Derived.Lib.LaidTab
import Derived.LaidMore
import Derived.MakeChecks
import Derived.Stop.LaidErr
set_option maxHeartbeats 8000000
set_option maxRecDepth 100000
set_option linter.unusedVariables false
namespace Go.Proofs.YtlakjlmaboioiaaGreatDoor
open Go.RowKit Go.Proofs.Tryz
structure GoneZ (Z Z':SP):Prop where
 s:Z'.s=Z.s
 f:Z'.F.f=Z.F.f
 c:Z'.S.c=Z.S.c
 per:Z'.S.period=Z.S.period
 same:SameP Z.S.P Z'.S.P
 root:pget Z'.S.l 1 0=pget Z.S.l 1 0
theorem GoneZ.refl (Z:SP):GoneZ Z Z:=⟨rfl,rfl,rfl,rfl,SameP.refl _,rfl⟩
theorem SameN.gone {Z Z':SP} (h:SameN Z Z'):GoneZ Z Z':=⟨h.s,h.f,h.alt.c,h.alt.per,h.alt.same,by rw [h.alt.l]⟩
theorem Z0i {l l':List Pl} (h:l'[0]?=l[0]?):pget l' 1 0=pget l 1 0:=by
 unfold pget;rw [show 0%256=0 from rfl,h]
theorem Went.gone {Z:SP} {S':CO} (h:Went Z.S S') (tb:Nat->TB):GoneZ Z (Z.setS S' tb):=⟨rfl,rfl,h.c,h.per,h.same,Z0i h.root⟩
theorem Alt.gone {Z:SP} {S':CO} {own:Int} (h:Alt Z.S S' own) (tb:Nat->TB):GoneZ Z (Z.setS S' tb):=⟨rfl,rfl,h.c,h.per,h.same,by show pget S'.l 1 0=_;rw [h.l]⟩
theorem Tried.alt {S:CO} {fr:List Nat} {P':PL} (h:Tried S.P fr S.l P') (own:Int):Alt S (S.setP P') own:=
 ⟨rfl,rfl,rfl,rfl,rfl,rfl,rfl,rfl,h.same,by show P'.q.next=_;rw [h.q],fun id e he=>⟨e,by show find P'.q.E id=_;rw [h.q];exact he,rfl,fun _=>rfl⟩,by show P'.q.E.map En.id=_;rw [h.q],fun r hr Au _=>h.mem r hr Au⟩
theorem MakeR.cases {S:CO} {fr:List Nat} {N K:Nat} (ok:S.Ok fr N K) {y:Nat} {k lim:Int} {w w':World} {r:Ending} (m:MakeR S fr y k lim w r w') :
  (∃(er:Int) (P':PL),er≠0/\r=two 0 er/\Tried S.P fr S.l P'/\Step S.hl (S.setP P').hl w w') ∨
  (∃(f:Pl) (n:Nat) (e:En Fa) (i:Nat) (q:Pl) (a v:Nat) (P':PL) (fr':List Nat),pget S.l 1 y=some f/\f.kind=1/\k=(n:Int)/\(n=8∨1<=n/\n<=5)/\find S.P.q.E f.own=some e/\S.l[i]?=some q/\q.st=0/\r=two (nm i q) 0/\MadeOk S fr f e n a lim v i q P' fr'/\Step S.hl (S.made f n a v i q P').hl w w'):=by
 have same:∀er:Int,er≠0->r=two 0 er->Step S.hl S.hl w w'->(∃(er:Int) (P':PL),er≠0/\r=two 0 er/\Tried S.P fr S.l P'/\Step S.hl (S.setP P').hl w w'):=fun er h1 h2 h3=>⟨er,S.P,h1,h2,Tried.refl ok.inv.mem.pool _,h3⟩
 rcases m with ⟨_,rfl,st⟩|⟨f,hf,⟨_,rfl,st⟩|⟨_,_,rfl,st⟩|⟨n,e,hn,hk,Iu,_,he,hm⟩⟩
 ·exact .inl (same 8 (by decide) rfl st)
 ·exact .inl (same 10 (by decide) rfl st)
 ·exact .inl (same 1 (by decide) rfl st)
 ·rcases hm with ⟨_,rfl,st⟩|⟨_,_,rfl,st⟩|⟨_,er,P',Co,tr,rfl,st⟩|⟨i,q,a,v,P',fr',hi,hq,_,_,rfl,mk,st⟩
  ·exact .inl (same 5 (by decide) rfl st)
  ·exact .inl (same 4 (by decide) rfl st)
  ·refine .inl ⟨er,P',?_,rfl,tr,st⟩;rcases Co with ⟨rfl,_⟩|⟨rfl,_⟩ <;> decide
  ·exact .inr ⟨f,n,e,i,q,a,v,P',fr',hf,hk,hn,Iu,he,hi,hq,rfl,mk,st⟩
theorem Q4X {Z Z1:SP} {g x f B:Nat} {w:World} (es:Z1.s=Z.s) (ec:Z1.S.c=Z.S.c) (ef:Z1.F.f=Z.F.f) (sep:Sep w Z1.hl) (bx:AsideV Z1.hl [.pointer (some ⟨g,0,none⟩),.int .u32 x,.int .i64 f] (some ⟨B,0,none⟩) w):Z6O Z g x f B w:=by
 have c0:=SP.c0 sep;have c1:=SP.c1 sep;rw [es,ec] at c0;rw [es,ef] at c1;exact⟨c0,c1,bx.at 0 _ rfl,bx.at 1 _ rfl,bx.at 2 _ rfl⟩
def MkR (Z:SP) (fr:List Nat) (N K:Nat) (M:Int) (x:Nat) (z k:Int) (w:World) (hh:Nat) (er:Int) (w':World):Prop:=
 (er≠0/\hh=0/\∃own,BackZ Z fr N K x own w w') ∨
 (er=0/\∃(Z':SP) (fr':List Nat) (s i:Nat) (q q':Pl),z=(s:Int)/\s<256/\Z.S.l[i]?=some q/\q.st=0/\hh=nm i q/\(q'.kind:Int)=k/\q'.st=1/\q'.age=q.age/\Z'.Ok fr' (N+1) K (M+1)/\GoneZ Z Z'/\Z'.S.l=Z.S.l.set i q'/\Z'.av.en=setA Z.av.en x s (some (hh,15))/\Step Z.hl Z'.hl w w')
section
variable {Z:SP} {fr:List Nat} {N K:Nat} {M:Int}
theorem Z6Z (ok:Z.Ok fr N K M) {x s:Nat} {p:Pl} (hp:pget Z.S.l 1 x=some p) (hk:p.kind=2) (hs:s<256) (h0:(Z.tb (x%256)).en s=none) {S1 S2 S3:CO} {t1 t3:TB} {e1:Ent} {own:Int} (T1:TurnP Z.S fr N K Z.tb own (x%256) s (some e1) S1 t1) (al:Alt S1 S2 own)
  (T3:TurnP S2 fr N K (updT Z.tb (x%256) t1) own (x%256) s none S3 t3) {w w':World} (st:Step Z.hl (Z.setS S3 (updT Z.tb (x%256) t3)).hl w w'):BackZ Z fr N K x own w w':=by
 have hi:=(pget_some.1 hp).1;have h1:=(pget_some.1 hp).2.2;have al3:=(T1.alt.trans al).trans T3.alt;have AP:∀q,t3.en q=(Z.tb (x%256)).en q:=fun q=>by
  rw [T3.en,updT_same,T1.en];split
  ·rename_i e;rw [e,h0]
  ·rfl
 have Ld:=T3.tpi;have lf1:∀q,q<16->(Z.tb (x%256)).lf q≠0->t1.lf q=(Z.tb (x%256)).lf q:=
  LaidP.lf_keep (own:=own) (S1:=Z.S) (t1:=Z.tb (x%256)) (J5n _ (by omega)) (ok.tpi.full _ (J5n _ (by omega))) hi h1 hk (by rw [Q1l];exact T1.tpi) T1.alt.l
   (fun q hq=>by
    rw [T1.en];split
    ·exact Option.some_ne_none _
    ·exact hq) (fun _ _ _=>rfl) (by rw [Q1l];exact T1.lf)
 have lf3:∀q,q<16->(Z.tb (x%256)).lf q≠0->t3.lf q=(Z.tb (x%256)).lf q:=
  LaidP.lf_keep (own:=own) (S1:=Z.S) (J5n _ (by omega)) (ok.tpi.full _ (J5n _ (by omega))) hi h1 hk Ld al3.l (fun q hq=>by rw [AP];exact hq) lf1 T3.lf
 rw [Q1c] at Ld;refine⟨S3,t3,T3.ok,Ld,al3,fun q hq=>?_,AP,st⟩;by_cases hz:(Z.tb (x%256)).lf q=0
 ·rw [hz];refine Classical.byContradiction fun Aa=>?_
  have KY:=Ld.full (x%256) (J5n _ (by omega));rw [updT_same] at KY;obtain⟨r,hr,Va,R9⟩:=KY q hq Aa;rw [AP r] at R9;exact R9 ((ok.tpi.tin (x%256) p hi h1 hk).hole r hr (by rw [Va];exact hz))
 ·exact lf3 q hq hz
theorem Z7a {w w5:World} (ok:Z.Ok fr N K M) (hN:N+1<1048576) (hM:M+1<1099511627776) {x y s g B nd:Nat} {p:Pl} (hx:x<4294967296) (hy:y<4294967296) (hp:pget Z.S.l 1 x=some p) (hk:p.kind=2) (hs:s<256) (h0:Q0f Z.S.l Z.tb x s=none) (k lim:Int) (LQ:k=8↔128<=s)
  {S1:CO} {t1:TB} (T1:TurnP Z.S fr N K Z.tb (p.fac:Int) (x%256) s (some ⟨0,15,nd⟩) S1 t1) (st:Step Z.hl (Z.setS S1 (updT Z.tb (x%256) t1)).hl w w5) (hg:TblZ (Z.setS S1 (updT Z.tb (x%256) t1)) p g w5)
  (bx:AsideV (Z.setS S1 (updT Z.tb (x%256) t1)).hl [.pointer (some ⟨g,0,none⟩),.int .u32 x,.int .i64 (p.fac:Int)] (some ⟨B,0,none⟩) w5) :
  Z2k Z g x p.fac B y (s:Int) k lim (fun hh er w'=>MkR Z fr N K M x (s:Int) k w hh er w') w5:=by
 have hi:=(pget_some.1 hp).1;have Ap:=(pget_some.1 hp).2.2;have Dy:(Z.tb (x%256)).en s=none:=by rw [<- Q0h hp hk hs];exact h0
 have DD:=T1.alt.l;have FM:(updT Z.tb (x%256) t1 (x%256)).en s=some ⟨0,15,nd⟩:=by rw [updT_same,T1.en,if_pos rfl]
 have km:=Q6o (S:=S1) (SP.sS (Z:=Z.setS S1 (updT Z.tb (x%256) t1)) st.sep) T1.ok hN hy k lim;rw [T1.alt.c] at km;refine km.mono ?_;rintro rv w6 hm;rcases hm.cases T1.ok with ⟨er,P',Aa,rfl,tr,st2⟩|⟨f,n,e,i,q,a,v,P',fr',hf,Dp,rfl,hn,he,JQ,hq,rfl,mk,st2⟩
 ·have al2:=tr.alt (S:=S1) (p.fac:Int);have A9:Step (Z.setS S1 (updT Z.tb (x%256) t1)).hl (Z.setS (S1.setP P') (updT Z.tb (x%256) t1)).hl w5 w6:=SP.stepS st.sep (S1.setP P') (updT Z.tb (x%256) t1) rfl st2;have bx2:=bx.step A9;have B8:TblZ (Z.setS (S1.setP P') (updT Z.tb (x%256) t1)) p g w6:=hg.step A9 tr.same.p;refine⟨0,er,rfl,Q4X (Z1:=Z.setS (S1.setP P') (updT Z.tb (x%256) t1)) rfl T1.alt.c rfl A9.sep bx2,.inl ⟨Aa,?_⟩⟩;refine (Q4S (Z:=Z.setS (S1.setP P') (updT Z.tb (x%256) t1)) (x:=x) A9.sep (T1.ok.tried tr) (T1.tpi.tried T1.ok tr) (i:=x%256) (by show S1.l[x%256]?=_;rw [DD];exact hi) Ap hk hs FM B8).mono ?_
  rintro rv w7 ⟨rfl,S3,t3,T3,st3⟩;refine⟨rfl,.inl ⟨Aa,rfl,_,Z6Z ok hp hk hs Dy T1 al2 T3 ?_⟩⟩;have h3:=(st.trans A9).trans st3;have e:((Z.setS (S1.setP P') (updT Z.tb (x%256) t1)).setS S3 (updT (updT Z.tb (x%256) t1) (x%256) t3))=Z.setS S3 (updT Z.tb (x%256) t3):=by rw [Q1c];rfl
  have h4:Step Z.hl ((Z.setS (S1.setP P') (updT Z.tb (x%256) t1)).setS S3 (updT (updT Z.tb (x%256) t1) (x%256) t3)).hl w w7:=h3
  rwa [e] at h4
 ·have ok2:=mk.ok T1.ok JQ;have tp2:=T1.tpi.made T1.ok mk JQ hq;have wn2:=mk.went T1.ok JQ hq;have An:=Q1r T1.ok.inv.len JQ;have A9:Step (Z.setS S1 (updT Z.tb (x%256) t1)).hl (Z.setS (S1.made f n a v i q P') (updT Z.tb (x%256) t1)).hl w5 w6:=SP.stepS st.sep (S1.made f n a v i q P') (updT Z.tb (x%256) t1) rfl st2;have bx2:=bx.step A9;have B8:TblZ (Z.setS (S1.made f n a v i q P') (updT Z.tb (x%256) t1)) p g w6:=hg.step A9 wn2.same.p;have FL:(S1.made f n a v i q P').l=S1.l.set i ⟨n,a,f.own,1,q.age,v⟩:=rfl;have A8:pget (S1.made f n a v i q P').l 1 x=some p:=by rw [FL];exact Q9V JQ hq (by rw [DD];exact hp)
  have EP:=(pget_some.1 A8).1;have Cn:pget (S1.made f n a v i q P').l 1 (nm i q)=some ⟨n,a,f.own,1,q.age,v⟩:=by
   rw [FL,Q0A _ JQ,if_pos (Q1y An q),if_pos ⟨rfl,rfl⟩]
  have AA:nm i q<4294967295:=Q9T ok2.inv.lok Cn;have AM:Q7b (S1.made f n a v i q P').l s ⟨nm i q,15,nd⟩:=⟨⟨_,Cn,by show n=8↔_;rw [<- LQ];omega⟩,by dsimp only;omega⟩
  have Uv:=Q4X (Z:=Z) (Z1:=Z.setS (S1.made f n a v i q P') (updT Z.tb (x%256) t1)) rfl T1.alt.c rfl A9.sep bx2;refine⟨nm i q,0,rfl,Uv,.inr ⟨rfl,(⟨0,15,nd⟩:Ent).a,nd,(⟨nm i q,15,0⟩:Ent).a,?_,fun w8 Fo=>?_⟩⟩
  ·have T:=(tp2.x (p.fac:Int)).tt ok2 EP Ap hk (SP.sS A9.sep) B8.c;refine (Q3L T (s:Int)).mono ?_;rintro rv w7 ⟨rfl,rfl⟩;refine⟨?_,rfl⟩;unfold getV TB.at';rw [if_pos (by omega),J3m,FM];rfl
  ·have st8:=A9.sep.grown Fo;have bx8:=bx2.step st8;have Wx:=B8.step st8 rfl;refine⟨Q4X (Z1:=Z.setS (S1.made f n a v i q P') (updT Z.tb (x%256) t1)) rfl T1.alt.c rfl st8.sep bx8,Q6C w8 (nm i q) 15 AA (by omega),?_⟩;refine (Q7J (S:=S1.made f n a v i q P') (tb:=updT Z.tb (x%256) t1) ok2 tp2 EP Ap hk hs (e2:=⟨nm i q,15,nd⟩) FM rfl ⟨AA,by show 15<16;omega⟩ (SP.sS st8.sep) Wx.c).mono ?_;rintro rv w9 ⟨rfl,S3,t3,T3,st9⟩;have NY:Step (Z.setS (S1.made f n a v i q P') (updT Z.tb (x%256) t1)).hl (Z.setS S3 (updT (updT Z.tb (x%256) t1) (x%256) t3)).hl w8 w9:=SP.stepS st8.sep S3 (updT (updT Z.tb (x%256) t1) (x%256) t3) T3.alt.c st9
   have bx9:=bx8.step NY;refine⟨⟨0,rfl⟩,Q4X (Z1:=Z.setS S3 (updT (updT Z.tb (x%256) t1) (x%256) t3)) rfl (T3.alt.c.trans T1.alt.c) rfl NY.sep bx9,fun m=>?_⟩;have std:=NY.trans (NY.sep.grown (Q1n (Below.refl w9.heap.size w9) m));have AU:=((st.trans A9).trans st8).trans std;have C8:Z.F.N.length<65536:=ok.fpi.few ok.fo.n hp hs h0;refine (Q8w (q:=Z.F) (SP.sF (Z:=Z.setS S3 (updT (updT Z.tb (x%256) t1) (x%256) t3)) std.sep) ok.fo (.inl rfl) (by omega) (by omega) (by omega) (by omega) (ok.fpi.free ok.fo.n h0) (by have:=ok.next;omega) C8).mono ?_;rintro rv w' ⟨rfl,F',AF,stF⟩;refine⟨⟨_,_,rfl⟩,.inr ⟨rfl,?_⟩⟩
   obtain⟨okz,AP,-⟩:=ok.made_added hp hk hs h0 T1 mk JQ hq AM T3 AF;have stZ:Step (Z.setS S3 (updT (updT Z.tb (x%256) t1) (x%256) t3)).hl ((Z.setF F').setS S3 (updT Z.tb (x%256) t3)).hl (w9.drewN m) w':=by
    have:=SP.stepF (Z:=Z.setS S3 (updT (updT Z.tb (x%256) t1) (x%256) t3)) std.sep F' AF.f stF;have e:((Z.setS S3 (updT (updT Z.tb (x%256) t1) (x%256) t3)).setF F')=(Z.setF F').setS S3 (updT Z.tb (x%256) t3):=by rw [Q1c];rfl
    rwa [e] at this
   refine⟨(Z.setF F').setS S3 (updT Z.tb (x%256) t3),fr',s,i,q,⟨n,a,f.own,1,q.age,v⟩,rfl,hs,by rw [<- DD];exact JQ,hq,rfl,rfl,rfl,rfl,okz,⟨rfl,AF.f,(T3.alt.c.trans T1.alt.c),T3.alt.per.trans (wn2.per.trans T1.alt.per),(T1.alt.same.trans wn2.same).trans T3.alt.same,?_⟩,?_,AP,AU.trans stZ⟩
   ·show pget S3.l 1 0=_;rw [T3.alt.l,Z0i wn2.root,DD]
   ·show S3.l=_;rw [T3.alt.l,FL,DD]
theorem Z7b {w:World} (hs:Sep w Z.hl) (ok:Z.Ok fr N K M) (hN:N+1<1048576) (hM:M+1<1099511627776) {x y:Nat} (hx:x<4294967296) (hy:y<4294967296) (z k lim:Int) :
  Calls prog 38 #[.pointer (some ⟨Z.s,0,none⟩),.int .u32 x,.int .i64 z,.int .u32 y,.int .i64 k,.int .i64 lim] w fun rv w'=>∃(hh:Nat) (er:Int),rv=.returned (.tuple #[.int .u32 hh,.int .i64 er])/\MkR Z fr N K M x z k w hh er w':=by
 have bad:∀(er:Int) (W:World),er≠0->Below w.heap.size w W->MkR Z fr N K M x z k w 0 er W:=fun er W he hb=>.inl ⟨he,rfl,0,BackZ.of 0 hs ok hb⟩
 cases hp:pget Z.S.l 1 x with
 | none =>
  refine (Q7Q (y:=y) (z:=z) (k:=k) (lim:=lim) (e:=8) (by decide) (Q0J hs ok.core hx 8 (.inl ⟨hp,rfl⟩))).mono ?_;rintro rv w' ⟨rfl,hb⟩;exact⟨0,8,rfl,bad 8 _ (by decide) hb⟩
 | some p =>
  by_cases hk:p.kind=2
  case neg =>
   refine (Q7Q (y:=y) (z:=z) (k:=k) (lim:=lim) (e:=10) (by decide) (Q0J hs ok.core hx 10 (.inr ⟨p,hp,hk,rfl⟩))).mono ?_;rintro rv w' ⟨rfl,hb⟩;exact⟨0,10,rfl,bad 10 _ (by decide) hb⟩
  refine Z3O hs ok hx hp hk z k lim ?_;by_cases hz:0<=z/\z<256
  case neg=>exact .inl ⟨2,.inl ⟨decide_eq_false hz,rfl⟩,fun W hb=>bad 2 W (by decide) hb⟩
  have Jf:decide (0<=z/\z<256)=true:=decide_eq_true hz;by_cases hm:k=8∨1<=k/\k<=5
  case neg=>exact .inl ⟨1,.inr (.inl ⟨Jf,decide_eq_false hm,rfl⟩),fun W hb=>bad 1 W (by decide) hb⟩
  have Fs:decide (k=8∨1<=k/\k<=5)=true:=decide_eq_true hm;cases AE:(decide (z<128)==(k==8)) with
  | true=>exact .inl ⟨1,.inr (.inr (.inl ⟨Jf,Fs,AE,rfl⟩)),fun W hb=>bad 1 W (by decide) hb⟩
  | false =>
   obtain⟨s,rfl⟩:∃s:Nat,z=(s:Int):=⟨z.toNat,by omega⟩
   have A9:s<256:=by omega
   have LQ:k=8↔128<=s:=by
    rcases Q3v AE with ⟨h1,_,h3⟩|⟨h1,h2⟩
    ·have h1:=of_decide_eq_true h1;have h3:=of_decide_eq_false h3;omega
    ·have h1:=of_decide_eq_false h1;omega
   have AC:(Z.tb (x%256)).at' (s:Int)=Q0f Z.S.l Z.tb x s:=by
    unfold TB.at';rw [if_pos hz,Q0h hp hk (by omega)];rfl
   cases h0:Q0f Z.S.l Z.tb x s with
   | some e0=>exact .inl ⟨7,.inr (.inr (.inr ⟨Jf,Fs,AE,by rw [AC,h0];rfl,rfl⟩)),fun W hb=>bad 7 W (by decide) hb⟩
   | none =>
    have B4:((Z.tb (x%256)).at' (s:Int)).isSome=false:=by rw [AC,h0];rfl
    refine .inr ⟨Jf,Fs,rfl,B4,fun W g B hb hg BY=>?_⟩;have hi:=(pget_some.1 hp).1;have Ap:=(pget_some.1 hp).2.2;have Dy:(Z.tb (x%256)).en s=none:=by rw [<- Q0h hp hk A9];exact h0
    refine (Q8x (hs.grown hb).sep ok.core ok.tpi (x:=x) (h:=0) (r:=15) hi Ap hk A9 Dy (by omega) (by omega) hg).mono ?_;rintro rv w5 ⟨er,rfl,⟨rfl,nd,S1,t1,T1,st1⟩|⟨he,FW,P',tr,st1⟩⟩
    ·have st:=(hs.grown hb).trans st1;have bx5:=BY.step st1;exact⟨0,rfl,.inr ⟨rfl,Q4X (Z1:=Z.setS S1 (updT Z.tb (x%256) t1)) rfl T1.alt.c rfl st.sep bx5,Z7a ok hN hM hx hy hp hk A9 h0 k lim LQ T1 st (hg.step st1 T1.alt.same.p) bx5⟩⟩
    ·refine⟨er,rfl,.inl ⟨by omega,.inl ⟨by omega,rfl,p.fac,?_⟩⟩⟩;refine LaidP.back (x:=x) (A:=fun _=>⟨0,0,0,false⟩) ok hp hk ((LaidP.start (x:=x) (A:=fun _=>⟨0,0,0,false⟩) ok (p.fac:Int)).tried tr) ?_;rw [Q1l];exact (hs.grown hb).trans st1
end
def GoesZ (Z:SP) (N K:Nat) (M:Int) (w w':World):Prop:=∃(Z':SP) (fr':List Nat),Z'.Ok fr' N K M/\GoneZ Z Z'/\Step Z.hl Z'.hl w w'
theorem GoesZ.mono {Z:SP} {N N' K K':Nat} {M M':Int} {w w':World} (h:GoesZ Z N K M w w') (h1:N<=N') (h2:K<=K') (h3:M<=M'):GoesZ Z N' K' M' w w':=by
 obtain⟨Z',fr',a,b,c⟩:=h;exact⟨Z',fr',a.mono h1 h2 h3,b,c⟩
section
variable {Z:SP} {fr:List Nat} {N K:Nat} {M:Int} {w w':World}
theorem GoesZ.of (hs:Sep w Z.hl) (ok:Z.Ok fr N K M) (hb:Below w.heap.size w w'):GoesZ Z N K M w w':=⟨Z,fr,ok,GoneZ.refl Z,hs.grown hb⟩
theorem GoesZ.same {Z':SP} (ok:Z'.Ok fr N K M) (s:SameZ Z Z') (st:Step Z.hl Z'.hl w w'):GoesZ Z N K M w w':=⟨Z',fr,ok,s.toSameN.gone,st⟩
theorem GoesZ.at {w1 w2:World} (hs:Sep w Z.hl) (hb:Below w.heap.size w w1) (h:GoesZ Z N K M w1 w2):GoesZ Z N K M w w2:=by
 obtain⟨Z',fr',a,b,c⟩:=h;exact⟨Z',fr',a,b,(hs.grown hb).trans c⟩
theorem BackZ.goes (ok:Z.Ok fr N K M) {y:Nat} {own:Int} (h:BackZ Z fr N K y own w w'):GoesZ Z N K M w w':=by
 obtain⟨Z',a,_,b,c⟩:=h.ok ok;exact .same a b c
theorem RootR.goes (hs:Sep w Z.hl) (ok:Z.Ok fr N K M) {x h:Nat} {z r er:Int} (R:RootR Z fr N K M x z h r w er w'):GoesZ Z N K (M+1) w w':=by
 rcases R with ⟨_,_,hb⟩|⟨s,rn,p,q,_,_,_,_,_,hp,hk,_,_,_,⟨_,Z',a,b,_,_,_,c⟩|⟨_,_,P',tr,st⟩⟩
 ·exact (GoesZ.of hs ok hb).mono (J2h _) (J2h _) (by omega)
 ·exact⟨Z',fr,a,b.gone,c⟩
 ·refine GoesZ.mono ?_ (J2h _) (J2h _) (show M<=M+1 by omega);refine BackZ.goes (y:=x) (own:=p.fac) ok (LaidP.back (x:=x) (A:=fun _=>⟨0,0,0,false⟩) ok hp hk ((LaidP.start (x:=x) (A:=fun _=>⟨0,0,0,false⟩) ok (p.fac:Int)).tried tr) ?_);rw [Q1l];exact st
theorem MoveR.goes (ok:Z.Ok fr N K M) {x y n:Nat} {A:Nat->Mv} {er:Int} (R:MoveR Z fr N K M x y n A w er w'):GoesZ Z N K (M+n) w w':=by
 rcases R with ⟨_,_,own,h⟩|⟨p1,p2,_,_,_,_,_,⟨_,a,Z',_,_,h1,h2,_,h3⟩|⟨_,_,h⟩⟩
 ·exact (h.goes ok).mono (J2h _) (J2h _) (by omega)
 ·exact⟨Z',fr,h1,h2.gone,h3⟩
 ·exact (h.goes ok).mono (J2h _) (J2h _) (by omega)
theorem RevR.goes (hs:Sep w Z.hl) (ok:Z.Ok fr N K M) {x:Nat} {z mask:Int} {self:Bool} {r:Ending} (R:RevR Z fr N K M x z mask self w r w'):(∃a b:Value,r=.returned (.tuple #[a,b]))/\GoesZ Z N K M w w':=by
 rcases R with ⟨e,rfl,hb,_⟩|⟨s,m,n,en,_,_,_,_,_,_,_,_,_,rfl,Z',a,_,b,c⟩
 ·exact⟨⟨_,_,rfl⟩,.of hs ok hb⟩
 ·exact⟨⟨_,_,rfl⟩,.same a b c⟩
theorem KillI.gone {A:List Nat} {Z1:SP} (I:KillI Z fr N K M A Z1) (h0:0∉A):GoneZ Z Z1:=⟨I.s,I.f,I.c,I.per,I.same,by rw [I.live 0,if_neg h0]⟩
theorem KillR.goes (hs:Sep w Z.hl) (ok:Z.Ok fr N K M) {h:Nat} {r:Ending} (R:KillR Z fr N K M h w r w'):(∃a b:Value,r=.returned (.tuple #[a,b]))/\GoesZ Z N K M w w':=by
 rcases R with ⟨_,rfl,hb⟩|⟨_,rfl,hb⟩|⟨h0,⟨p,hp⟩,a,cap,rfl,Z',I,st,_⟩
 ·exact⟨⟨_,_,rfl⟩,.of hs ok hb⟩
 ·exact⟨⟨_,_,rfl⟩,.of hs ok hb⟩
 ·refine⟨⟨_,_,rfl⟩,Z',fr,I.ok,I.gone fun hm=>?_,st⟩;obtain⟨A,B,e⟩:=J6m hm;obtain⟨_,_,h2,_⟩:=Z1d ok.core.inv.tree hp h0 A 0 B e;exact h2 rfl
theorem MkR.goes (ok:Z.Ok fr N K M) {x hh:Nat} {z k er:Int} (R:MkR Z fr N K M x z k w hh er w'):GoesZ Z (N+1) K (M+1) w w':=by
 rcases R with ⟨_,_,own,h⟩|⟨_,Z',fr',s,i,q,q',_,_,_,_,_,_,_,_,a,b,_,_,c⟩
 ·exact (h.goes ok).mono (J6x _) (J2h _) (by omega)
 ·exact⟨Z',fr',a,b,c⟩
theorem MakeR.goesZ (hs:Sep w Z.hl) (ok:Z.Ok fr N K M) {y:Nat} {k lim:Int} {r:Ending} (m:MakeR Z.S fr y k lim w r w'):(∃(x:Nat) (er:Int),r=two x er)/\GoesZ Z (N+1) K M w w':=by
 rcases m.cases ok.core with ⟨er,P',_,rfl,tr,st⟩|⟨f,n,e,i,q,a,v,P',fr',hf,Dp,_,hn,he,hi,hq,rfl,mk,st⟩
 ·refine⟨⟨0,er,rfl⟩,Z.setS (Z.S.setP P') Z.tb,fr,?_,(tr.alt (S:=Z.S) 0).gone _,SP.stepS hs _ _ rfl st⟩;exact SP.Ok.mono ⟨ok.core.tried tr,ok.tpi.tried ok.core tr,ok.fpi,ok.fo,ok.next⟩ (J6x _) (J2h _) (J6l _)
 ·exact⟨⟨nm i q,0,rfl⟩,Z.setS (Z.S.made f n a v i q P') Z.tb,fr',⟨mk.ok ok.core hi,ok.tpi.made ok.core mk hi hq,ok.fpi.made hi hq (ok.tpi.nil i q hi (by omega)),ok.fo,ok.next⟩,(mk.went ok.core hi hq).gone _,SP.stepS hs _ _ rfl st⟩
theorem TickR.goesZ (hs:Sep w Z.hl) (ok:Z.Ok fr N K M) {r:Ending} (m:TickR Z.S fr N K w r w'):(∃v:Value,r=.returned v)/\GoesZ Z N (K+1) M w w':=by
 obtain⟨rv,S',fr',v,rfl,_,_,t,ok',st,_⟩:=m;have wn:Went Z.S S':=t.went;have tz:TPI (Z.S.setG (Z.S.now+1) rv (dueT Z.S)) Z.tb:=⟨ok.tpi.tin,ok.tpi.full,ok.tpi.nil,ok.tpi.lvs,ok.tpi.nds,ok.tpi.xc⟩
 exact⟨⟨v,rfl⟩,Z.setS S' Z.tb,fr',⟨ok',TPI.ticked (D:=[]) (S:=Z.S.setG (Z.S.now+1) rv (dueT Z.S)) ok.core.inv.len ok'.inv.len tz t.live t.mem t.high t.xc,ok.fpi.live t.live,ok.fo,ok.next⟩,wn.gone _,SP.stepS hs _ _ wn.c st⟩
end
theorem Z7c (f:Nat->Bool) (i:It) (v:Wi) (h:Q4q i v=true):(movV f i v (2 ^ i.order.toNat)).length<=128:=by
 unfold Q4q Q8B at h;simp only [J2C,decide_eq_true_eq] at h;obtain⟨_,_,_,_,q5⟩:=Q2M h.1.1;exact J2i (Z2s _ _ _ _) q5
theorem Z4d (H:HL) (w:World):AsideM H 0 (fun _=>noMv) none w:=⟨fun j hj=>by omega,fun a h _=>absurd rfl h⟩
theorem Z4e {w:World} {Z:SP} {fr:List Nat} {N K:Nat} {M:Int} (hs:Sep w Z.hl) (ok:Z.Ok fr N K M) (hM:M+300<1099511627776) {x y:Nat} (hx:x<4294967296) (hy:y<4294967296) (i:It) (v:Wi) (hi:i.Wf) (hv:v.Wf) :
  Calls prog 24 #[.pointer (some ⟨Z.s,0,none⟩),.int .u32 x,.agg #[.int .i64 i.base,.int .i64 i.order,.int .i64 i.r,.int .i64 i.off,.bool i.g],.agg #[.int .i64 v.base,.int .i64 v.order]] w fun r w1=>∃(a:Option Addr) (n cap:Nat) (er:Int),r=.returned (.tuple #[.slice a n cap,.int .i64 er])/\Below w.heap.size w w1 /\
   Calls prog 19 #[.pointer (some ⟨Z.s,0,none⟩),.int .u32 x,.int .u32 y,.slice a n cap] w1 fun r w'=>(∃er:Int,r=.returned (.int .i64 er))/\GoesZ Z N K (M+256) w w':=by
 refine (Z4c hs ok hx i v hi hv).mono ?_;rintro r w1 ⟨hb,⟨er,_,rfl,_⟩|⟨p,a,cap,L,_,_,ha,_,hL,rfl,AM,hm⟩⟩
 ·refine⟨none,0,0,er,rfl,hb,?_⟩;refine (Q2L (hs.grown hb).sep ok (by omega) hx hy (by omega) (J2h 0) (Z4d _ _)).mono ?_;rintro r w' ⟨er,rfl,hr⟩;exact⟨⟨er,rfl⟩,GoesZ.at hs hb ((hr.goes ok).mono (J2h _) (J2h _) (by omega))⟩
 ·have hl:L.length<=128:=by rw [hL];exact Z7c _ _ _ ha
  refine⟨a,L.length,cap,0,rfl,hb,?_⟩;refine (Q2L (hs.grown hb).sep ok (by omega) hx hy (by omega) AM hm).mono ?_;rintro r w' ⟨er,rfl,hr⟩;exact⟨⟨er,rfl⟩,GoesZ.at hs hb ((hr.goes ok).mono (J2h _) (J2h _) (by omega))⟩
theorem Z4f {w:World} {Z:SP} {fr:List Nat} {N K:Nat} {M:Int} (hs:Sep w Z.hl) (ok:Z.Ok fr N K M) (hN:N+1<1048576) (hK:K<1048575) (hM:M+300<1099511627776) (x:A17) (hx:x.Wf) (K9:x.ll<=20) (BR:AsideM Z.hl x.ll x.L x.la w) :
  Calls prog 92 #[.pointer (some ⟨Z.s,0,none⟩),.agg #[.int .i64 x.kind,.int .i64 x.n,.int .i64 x.k,.int .i64 x.m,.int .i64 x.t,.int .i64 x.u,.int .i64 x.s,.int .i64 x.r,.bool x.self,.slice x.la x.ll x.lc,.int .i64 x.i.base,.int .i64 x.i.order,.int .i64 x.i.r,.int .i64 x.i.off,.bool x.i.g,.int .i64 x.w.base,.int .i64 x.w.order]] w fun r w'=>r=.returned (.tuple #[])/\GoesZ Z (N+1) (K+1) (M+256) w w':=by
 have A4:=ok.core.inv.lok;have IR:Hid (∀W,Below w.heap.size w W->∀k n:Int,I64 n->Calls prog 31 #[.pointer (some ⟨Z.s,0,none⟩),.int .i64 k,.int .i64 n] W (Told W (.int .u32 ((nthV Z.S.l k n:Nat):Int)))):=fun W hb k n hn=>Q8D (hs.grown hb).sep ok k n hn
 have Bv:Hid (∀W,Below w.heap.size w W->Calls prog 29 #[.pointer (some ⟨Z.s,0,none⟩)] W fun r w'=>r=.returned (.pointer (some ⟨Z.S.c,0,none⟩))/\W=w'):=fun W hb=>Q2r (hs.grown hb).sep
 have DR:Hid (∀k n,nthV Z.S.l k n<4294967296):=fun k n=>Q8C A4 k n
 have H0:Hid (∀W,Below w.heap.size w W->∀y:Nat,y<4294967296->∀k lim:Int,Calls prog 16 #[.pointer (some ⟨Z.S.c,0,none⟩),.int .u32 y,.int .i64 k,.int .i64 lim] W fun r w'=>(∃(a:Nat) (er:Int),r=two a er)/\(∀b,w.heap.size<=b->b<W.heap.size->w'.heap[b]?=W.heap[b]?)/\GoesZ Z (N+1) (K+1) (M+256) w w'):=fun W hb y hy k lim =>
  (Q6o (SP.sS (hs.grown hb).sep) ok.core hN hy k lim).mono fun r w' hr=>by
   obtain⟨h1,h2⟩:=hr.goesZ (hs.grown hb).sep ok;refine⟨h1,?_,GoesZ.at hs hb (h2.mono (J2h _) (by omega) (by omega))⟩;obtain⟨Z',fr',_,_,c⟩:=h2;exact c.keep hs (J2h _)
 have H1:Hid (∀W,Below w.heap.size w W->∀y h:Nat,y<4294967296->h<4294967296->∀z rr:Int,Calls prog 18 #[.pointer (some ⟨Z.s,0,none⟩),.int .u32 y,.int .i64 z,.agg #[.int .u32 h,.int .i64 rr]] W fun r w'=>(∃er:Int,r=.returned (.int .i64 er))/\GoesZ Z (N+1) (K+1) (M+256) w w'):=fun W hb y h hy hh z rr =>
  (Q9U (hs.grown hb).sep ok (by omega) hy hh z rr).mono fun r w' ⟨er,e,hr⟩=>⟨⟨er,e⟩,GoesZ.at hs hb ((hr.goes (hs.grown hb).sep ok).mono (by omega) (by omega) (by omega))⟩
 have H2:Hid (∀W,Below w.heap.size w W->∀y h:Nat,y<4294967296->h<4294967296->Calls prog 19 #[.pointer (some ⟨Z.s,0,none⟩),.int .u32 y,.int .u32 h,.slice x.la x.ll x.lc] W fun r w'=>(∃er:Int,r=.returned (.int .i64 er))/\GoesZ Z (N+1) (K+1) (M+256) w w'):=fun W hb y h hy hh =>
  (Q2L (hs.grown hb).sep ok (by omega) hy hh (by omega) hx.len.1 (BR.step (hs.grown hb))).mono fun r w' ⟨er,e,hr⟩=>⟨⟨er,e⟩,GoesZ.at hs hb ((hr.goes ok).mono (by omega) (by omega) (by omega))⟩
 have H3:Hid (∀W,Below w.heap.size w W->∀y h:Nat,y<4294967296->h<4294967296->Calls prog 24 #[.pointer (some ⟨Z.s,0,none⟩),.int .u32 y,.agg #[.int .i64 x.i.base,.int .i64 x.i.order,.int .i64 x.i.r,.int .i64 x.i.off,.bool x.i.g],.agg #[.int .i64 x.w.base,.int .i64 x.w.order]] W fun r w1=>∃(a:Option Addr) (n cap:Nat) (er:Int),r=.returned (.tuple #[.slice a n cap,.int .i64 er]) /\
   Calls prog 19 #[.pointer (some ⟨Z.s,0,none⟩),.int .u32 y,.int .u32 h,.slice a n cap] w1 fun r w'=>(∃er:Int,r=.returned (.int .i64 er))/\GoesZ Z (N+1) (K+1) (M+256) w w'):=fun W hb y h hy hh =>
  (Z4e (hs.grown hb).sep ok hM hy hh x.i x.w hx.i hx.w).mono fun r w1 ⟨a,n,cap,er,e,_,hk⟩=>⟨a,n,cap,er,e,hk.mono fun r w' ⟨h1,h2⟩=>⟨h1,GoesZ.at hs hb (h2.mono (by omega) (by omega) (by omega))⟩⟩
 have H4:Hid (∀W,Below w.heap.size w W->∀y:Nat,y<4294967296->∀(z m:Int) (b:Bool),Calls prog 20 #[.pointer (some ⟨Z.s,0,none⟩),.int .u32 y,.int .i64 z,.int .i64 m,.bool b] W fun r w'=>(∃a b:Value,r=.returned (.tuple #[a,b]))/\GoesZ Z (N+1) (K+1) (M+256) w w'):=fun W hb y hy z m b =>
  (Q6I (hs.grown hb).sep ok hy z m b).mono fun r w' hr=>⟨(hr.goes (hs.grown hb).sep ok).1,GoesZ.at hs hb ((hr.goes (hs.grown hb).sep ok).2.mono (by omega) (by omega) (by omega))⟩
 have H5:Hid (∀W,Below w.heap.size w W->∀h:Nat,Calls prog 39 #[.pointer (some ⟨Z.s,0,none⟩),.int .u32 h] W fun r w'=>(∃n:Int,r=.returned (.int .i64 n))/\GoesZ Z (N+1) (K+1) (M+256) w w'):=fun W hb h =>
  (Q7M (hs.grown hb).sep ok h).mono fun r w' ⟨e,Z',a,_,b,c⟩=>⟨⟨_,e⟩,GoesZ.at hs hb ((GoesZ.same a b c).mono (by omega) (by omega) (by omega))⟩
 have H6:Hid (∀W,Below w.heap.size w W->∀y:Nat,y<4294967296->Calls prog 40 #[.pointer (some ⟨Z.s,0,none⟩),.int .u32 y] W fun r w'=>(∃n:Int,r=.returned (.int .i64 n))/\GoesZ Z (N+1) (K+1) (M+256) w w'):=fun W hb y hy =>
  (Q9O (hs.grown hb).sep ok hy).mono fun r w' ⟨e,Z',a,_,b,c⟩=>⟨⟨_,e⟩,GoesZ.at hs hb ((GoesZ.same a b c).mono (by omega) (by omega) (by omega))⟩
 have H7:Hid (∀W,Below w.heap.size w W->∀y:Nat,y<4294967296->Calls prog 35 #[.pointer (some ⟨Z.s,0,none⟩),.int .u32 y] W fun r w'=>(∃a b:Value,r=.returned (.tuple #[a,b]))/\GoesZ Z (N+1) (K+1) (M+256) w w'):=fun W hb y hy =>
  (Q6L (hs.grown hb).sep ok (by omega) hy).mono fun r w' hr=>⟨(hr.goes (hs.grown hb).sep ok).1,GoesZ.at hs hb ((hr.goes (hs.grown hb).sep ok).2.mono (by omega) (by omega) (by omega))⟩
 have H8:Hid (∀W,Below w.heap.size w W->Calls prog 56 #[.pointer (some ⟨Z.S.c,0,none⟩)] W fun r w'=>(∃a:Value,r=.returned a)/\GoesZ Z (N+1) (K+1) (M+256) w w'):=fun W hb =>
  (Z6h (SP.sS (hs.grown hb).sep) ok.core hK).mono fun r w' hr=>⟨(hr.goesZ (hs.grown hb).sep ok).1,GoesZ.at hs hb ((hr.goesZ (hs.grown hb).sep ok).2.mono (by omega) (by omega) (by omega))⟩
 have H9:Hid (∀W,Below w.heap.size w W->∀y h:Nat,y<4294967296->h<4294967296->∀z k lim:Int,Calls prog 38 #[.pointer (some ⟨Z.s,0,none⟩),.int .u32 y,.int .i64 z,.int .u32 h,.int .i64 k,.int .i64 lim] W fun r w'=>(∃(a:Nat) (er:Int),r=two a er)/\GoesZ Z (N+1) (K+1) (M+256) w w'):=fun W hb y h hy hh z k lim =>
  (Z7b (hs.grown hb).sep ok hN (by omega) hy hh z k lim).mono fun r w' ⟨a,er,e,hr⟩=>⟨⟨a,er,e⟩,GoesZ.at hs hb ((hr.goes ok).mono (by omega) (by omega) (by omega))⟩
 have Fr:Hid (∀W,Below w.heap.size w W->GoesZ Z (N+1) (K+1) (M+256) w W):=fun W hb=>(GoesZ.of hs ok hb).mono (by omega) (by omega) (by omega)
 obtain⟨hn,hk,hm,ht,hu,F5,LU,-,-,-⟩:=hx;obtain⟨kind,n,k,m,t,u,s,rr,self,la,ll,lc,L,i,v⟩:=x;obtain⟨ib,io,ir,iff,ig⟩:=i;obtain⟨vb,vo⟩:=v;dsimp only at *
 have HC:Hid (∀W,Below (w.alloc (.cells #[.int .i64 kind,.int .i64 n,.int .i64 k,.int .i64 m,.int .i64 t,.int .i64 u,.int .i64 s,.int .i64 rr,.bool self,.slice la ll lc,.int .i64 ib,.int .i64 io,.int .i64 ir,.int .i64 iff,.bool ig,.int .i64 vb,.int .i64 vo] 92)).heap.size (w.alloc (.cells #[.int .i64 kind,.int .i64 n,.int .i64 k,.int .i64 m,.int .i64 t,.int .i64 u,.int .i64 s,.int .i64 rr,.bool self,.slice la ll lc,.int .i64 ib,.int .i64 io,.int .i64 ir,.int .i64 iff,.bool ig,.int .i64 vb,.int .i64 vo] 92)) W->Below w.heap.size w W/\Cells W w.heap.size 92 [.int .i64 kind,.int .i64 n,.int .i64 k,.int .i64 m,.int .i64 t,.int .i64 u,.int .i64 s,.int .i64 rr,.bool self,.slice la ll lc,.int .i64 ib,.int .i64 io,.int .i64 ir,.int .i64 iff,.bool ig,.int .i64 vb,.int .i64 vo]):=fun W hb =>
  ⟨Q0e hb,(Cells.new w 92 [.int .i64 kind,.int .i64 n,.int .i64 k,.int .i64 m,.int .i64 t,.int .i64 u,.int .i64 s,.int .i64 rr,.bool self,.slice la ll lc,.int .i64 ib,.int .i64 io,.int .i64 ir,.int .i64 iff,.bool ig,.int .i64 vb,.int .i64 vo]).same (hb.block _ (by simp))⟩
 generalize hW1:(w.alloc (.cells #[.int .i64 kind,.int .i64 n,.int .i64 k,.int .i64 m,.int .i64 t,.int .i64 u,.int .i64 s,.int .i64 rr,.bool self,.slice la ll lc,.int .i64 ib,.int .i64 io,.int .i64 ir,.int .i64 iff,.bool ig,.int .i64 vb,.int .i64 vo] 92))=W1 at *
 have HI:Hid (I64 t/\I64 u/\I64 n):=⟨ht,hu,hn⟩
 clear hs ok hN hK hM K9 BR A4 ht hu hn hk hm F5 LU;go_enter func92,ntmps92;go_upto_region 1 with fail
 try rw [hW1]
 clear hW1
 go_cut [4,5,6] from 9 to 20 (fun a b c wc=>a=.int .u32 ((nthV Z.S.l 2 t:Nat):Int)/\b=.int .u32 ((nthV Z.S.l 2 u:Nat):Int)/\c=.int .u32 ((nthV Z.S.l 0 n:Nat):Int)/\Below W1.heap.size W1 wc)
 case first =>
  clear H0 H1 H2 H3 H4 H5 H6 H7 H8 H9 Fr Bv DR;have AG:Hid (Below W1.heap.size W1 W1.drew):=(Below.refl _ _).drew;have DX:Hid (Below W1.heap.size W1 W1):=Below.refl _ _;have Eg:Hid (∀W,Below W1.heap.size W1 W->W.cell? ⟨w.heap.size,4,none⟩=some (.int .i64 t)/\W.cell? ⟨w.heap.size,5,none⟩=some (.int .i64 u)/\W.cell? ⟨w.heap.size,1,none⟩=some (.int .i64 n)):=fun W hb=>⟨(HC.out W hb).2.cell 4 _ rfl,(HC.out W hb).2.cell 5 _ rfl,(HC.out W hb).2.cell 1 _ rfl⟩
  have OG:Hid (∀W,Below W1.heap.size W1 W->∀k n:Int,I64 n->Calls prog 31 #[.pointer (some ⟨Z.s,0,none⟩),.int .i64 k,.int .i64 n] W (Told W (.int .u32 ((nthV Z.S.l k n:Nat):Int)))):=fun W hb=>IR.out W (HC.out W hb).1
  clear HC IR
  go_region_held3 (fun W=>W.cell? ⟨w.heap.size,4,none⟩=some (.int .i64 t)/\W.cell? ⟨w.heap.size,5,none⟩=some (.int .i64 u)/\W.cell? ⟨w.heap.size,1,none⟩=some (.int .i64 n))
   (first|exact Eg.out _ AG.out|exact Eg.out _ DX.out)
   (first|(go_at_call 31;refine (OG.out _ AG.out _ _ (by first|exact HI.out.1|exact HI.out.2.1|exact HI.out.2.2)).mono ?_;rintro rv w' ⟨rfl,hb⟩;have AG:=Q0a (AG.out.trans (hb.mono AG.out.size));clear hb))
  all_goals (go_wp2_with fail;go_meet;exact⟨rfl,rfl,rfl,AG.out⟩)
 obtain⟨rfl,rfl,rfl,hb⟩:=hcut;obtain⟨CN,A6⟩:=HC.out wc hb;have hT:=DR.out 2 t;have hU:=DR.out 2 u;have hH:=DR.out 0 n;generalize nthV Z.S.l 2 t=T at *
 generalize nthV Z.S.l 2 u=U at *
 generalize nthV Z.S.l 0 n=H at *
 have c0:=A6.cell 0 _ rfl;have HB:=Q0a hb;have CF:=Q0a CN;clear hb CN;by_cases e0:kind=0
 ·subst e0;have hF:=DR.out 1 n;have Ww:Hid (∀V,Below wc.heap.size wc V->Calls prog 16 #[.pointer (some ⟨Z.S.c,0,none⟩),.int .u32 ((nthV Z.S.l 1 n:Nat):Int),.int .i64 k,.int .i64 m] V fun r w'=>(∃(a:Nat) (er:Int),r=two a er)/\(∀b,w.heap.size<=b->b<V.heap.size->w'.heap[b]?=V.heap[b]?)/\GoesZ Z (N+1) (K+1) (M+256) w w'):=fun V hb=>H0.out V (CF.out.trans (hb.mono CF.out.size)) _ hF k m
  have OG:Hid (∀V,Below wc.heap.size wc V->Calls prog 31 #[.pointer (some ⟨Z.s,0,none⟩),.int .i64 1,.int .i64 n] V (Told V (.int .u32 ((nthV Z.S.l 1 n:Nat):Int)))):=fun V hb=>IR.out V (CF.out.trans (hb.mono CF.out.size)) 1 n HI.out.2.2
  have Uf:Hid (∀V,Below wc.heap.size wc V->Calls prog 29 #[.pointer (some ⟨Z.s,0,none⟩)] V fun r w'=>r=.returned (.pointer (some ⟨Z.S.c,0,none⟩))/\V=w'):=fun V hb=>Bv.out V (CF.out.trans (hb.mono CF.out.size))
  have Eg:Hid (∀V,Below wc.heap.size wc V->V.cell? ⟨w.heap.size,1,none⟩=some (.int .i64 n)/\V.cell? ⟨w.heap.size,2,none⟩=some (.int .i64 k)/\V.cell? ⟨w.heap.size,3,none⟩=some (.int .i64 m)):=fun V hb=>by
   have h:=(HC.out V (HB.out.trans (hb.mono HB.out.size))).2;exact⟨h.cell 1 _ rfl,h.cell 2 _ rfl,h.cell 3 _ rfl⟩
  generalize nthV Z.S.l 1 n=FF at *
  have AG:Hid (Below wc.heap.size wc wc.drew):=(Below.refl _ _).drew;have DX:Hid (Below wc.heap.size wc wc):=Below.refl _ _;have NF:Hid (∀V,Below wc.heap.size wc V->w.heap.size<V.heap.size):=fun V hb=>J2j A6.lt hb.size
  clear H0 H1 H2 H3 H4 H5 H6 H7 H8 H9 Fr Bv DR HC A6 IR;go_upto_region 4 with fail
  go_region_held3 (fun W=>W.cell? ⟨w.heap.size,1,none⟩=some (.int .i64 n)/\W.cell? ⟨w.heap.size,2,none⟩=some (.int .i64 k)/\W.cell? ⟨w.heap.size,3,none⟩=some (.int .i64 m))
   (first|exact Vs.out|exact Eg.out _ AG.out|exact Eg.out _ DX.out)
   (first|(go_at_call 29;refine (Uf.out _ AG.out).mono ?_;rintro rv w' ⟨rfl,rfl⟩)|(go_at_call 31;refine (OG.out _ AG.out).mono ?_;rintro rv w' ⟨rfl,hb⟩;have AG:=Q0a (AG.out.trans (hb.mono AG.out.size));clear hb)|(go_at_call 16;refine (Ww.out _ AG.out).mono ?_;rintro rv w' ⟨⟨a,er,rfl⟩,I3,hq⟩;unfold two;have FP:=I3 w.heap.size (J2h _) (NF.out _ AG.out);have GT:=Eg.out _ AG.out;have Vs:=Q0a (And.intro ((World.cell?_of_block (w:=_) (a:=⟨w.heap.size,1,none⟩) FP).trans GT.1) (And.intro ((World.cell?_of_block (w:=_) (a:=⟨w.heap.size,2,none⟩) FP).trans GT.2.1) ((World.cell?_of_block (w:=_) (a:=⟨w.heap.size,3,none⟩) FP).trans GT.2.2)));have HQ:=Q0a hq;clear hq I3 FP GT))
  all_goals (go_wp2_with fail;first|exact⟨rfl,HQ.out⟩|(go_end0;exact⟨rfl,HQ.out⟩))
 by_cases e1:kind=1
 ·subst e1;have kk:=H1.out wc CF.out T H hT hH s rr;have c6:=A6.cell 6 _ rfl;have c7:=A6.cell 7 _ rfl;clear H0 H1 H2 H3 H4 H5 H6 H7 H8 H9 Fr Bv DR HC A6;go_wp2_with fail;refine kk.mono ?_;rintro rv w' ⟨⟨er,rfl⟩,hq⟩;have HQ:=Q0a hq;clear hq kk;go_wp2_with fail
  first|exact⟨rfl,HQ.out⟩|(go_end0;exact⟨rfl,HQ.out⟩)
 by_cases e2:kind=2
 ·subst e2;have kk:=H2.out wc CF.out T U hT hU;have c9:=A6.cell 9 _ rfl;clear H0 H1 H2 H3 H4 H5 H6 H7 H8 H9 Fr Bv DR HC A6;go_wp2_with fail;refine kk.mono ?_;rintro rv w' ⟨⟨er,rfl⟩,hq⟩;have HQ:=Q0a hq;clear hq kk;go_wp2_with fail
  first|exact⟨rfl,HQ.out⟩|(go_end0;exact⟨rfl,HQ.out⟩)
 by_cases e3:kind=3
 ·subst e3;have kk:=H3.out wc CF.out T U hT hU;have Rp:=A6.cell 10 _ rfl;have Su:=A6.cell 11 _ rfl;have Rl:=A6.cell 12 _ rfl;have Tn:=A6.cell 13 _ rfl;have Ry:=A6.cell 14 _ rfl;have Lz:=A6.cell 15 _ rfl;have Tq:=A6.cell 16 _ rfl;clear H0 H1 H2 H3 H4 H5 H6 H7 H8 H9 Fr Bv DR HC A6;go_wp2_with fail;refine kk.mono ?_;rintro rv w2 ⟨a,nn,cap,er,rfl,k2⟩;clear kk;go_wp2_with fail;refine k2.mono ?_;rintro rv w' ⟨⟨er,rfl⟩,hq⟩;have HQ:=Q0a hq;clear hq k2;go_wp2_with fail
  first|exact⟨rfl,HQ.out⟩|(go_end0;exact⟨rfl,HQ.out⟩)
 by_cases e4:kind=4
 ·subst e4;have kk:=H4.out wc CF.out T hT s rr self;have c6:=A6.cell 6 _ rfl;have c7:=A6.cell 7 _ rfl;have c8:=A6.cell 8 _ rfl;clear H0 H1 H2 H3 H4 H5 H6 H7 H8 H9 Fr Bv DR HC A6;go_wp2_with fail;refine kk.mono ?_;rintro rv w' ⟨⟨a,b,rfl⟩,hq⟩;have HQ:=Q0a hq;clear hq kk;go_wp2_with fail
  first|exact⟨rfl,HQ.out⟩|(go_end0;exact⟨rfl,HQ.out⟩)
 by_cases e5:kind=5
 ·subst e5;have kk:=H5.out wc CF.out H;clear H0 H1 H2 H3 H4 H5 H6 H7 H8 H9 Fr Bv DR HC A6;go_wp2_with fail;refine kk.mono ?_;rintro rv w' ⟨⟨a,rfl⟩,hq⟩;have HQ:=Q0a hq;clear hq kk;go_wp2_with fail
  first|exact⟨rfl,HQ.out⟩|(go_end0;exact⟨rfl,HQ.out⟩)
 by_cases e6:kind=6
 ·subst e6;have kk:=H6.out wc CF.out T hT;clear H0 H1 H2 H3 H4 H5 H6 H7 H8 H9 Fr Bv DR HC A6;go_wp2_with fail;refine kk.mono ?_;rintro rv w' ⟨⟨a,rfl⟩,hq⟩;have HQ:=Q0a hq;clear hq kk;go_wp2_with fail
  first|exact⟨rfl,HQ.out⟩|(go_end0;exact⟨rfl,HQ.out⟩)
 by_cases e7:kind=7
 ·subst e7;have kk:=H7.out wc CF.out H hH;clear H0 H1 H2 H3 H4 H5 H6 H7 H8 H9 Fr Bv DR HC A6;go_wp2_with fail;refine kk.mono ?_;rintro rv w' ⟨⟨a,b,rfl⟩,hq⟩;have HQ:=Q0a hq;clear hq kk;go_wp2_with fail
  first|exact⟨rfl,HQ.out⟩|(go_end0;exact⟨rfl,HQ.out⟩)
 by_cases e8:kind=8
 ·subst e8;have ko:=Bv.out wc CF.out;have kk:=H8.out wc CF.out;clear H0 H1 H2 H3 H4 H5 H6 H7 H8 H9 Fr Bv DR HC A6;go_wp2_with fail;refine ko.mono ?_;rintro rv w2 ⟨rfl,rfl⟩;go_wp2_with fail;refine kk.mono ?_;rintro rv w' ⟨⟨a,rfl⟩,hq⟩;have HQ:=Q0a hq;clear hq kk ko;go_wp2_with fail
  first|exact⟨rfl,HQ.out⟩|(go_end0;exact⟨rfl,HQ.out⟩)
 by_cases e9:kind=9
 ·subst e9;have kk:=H9.out wc CF.out T H hT hH s k m;have c6:=A6.cell 6 _ rfl;have c2:=A6.cell 2 _ rfl;have c3:=A6.cell 3 _ rfl;clear H0 H1 H2 H3 H4 H5 H6 H7 H8 H9 Fr Bv DR HC A6;go_wp2_with fail;refine kk.mono ?_;rintro rv w' ⟨⟨a,er,rfl⟩,hq⟩;have HQ:=Q0a hq;unfold two;clear hq kk;go_wp2_with fail
  first|exact⟨rfl,HQ.out⟩|(go_end0;exact⟨rfl,HQ.out⟩)
 have f0:(kind==0)=false:=by simpa using e0
 have f1:(kind==1)=false:=by simpa using e1
 have f2:(kind==2)=false:=by simpa using e2
 have f3:(kind==3)=false:=by simpa using e3
 have f4:(kind==4)=false:=by simpa using e4
 have f5:(kind==5)=false:=by simpa using e5
 have f6:(kind==6)=false:=by simpa using e6
 have f7:(kind==7)=false:=by simpa using e7
 have f8:(kind==8)=false:=by simpa using e8
 have f9:(kind==9)=false:=by simpa using e9
 have HQ:=Q0a (Fr.out wc CF.out);clear H0 H1 H2 H3 H4 H5 H6 H7 H8 H9 Fr Bv DR HC A6 e0 e1 e2 e3 e4 e5 e6 e7 e8 e9;go_wp2_with fail
 first|exact⟨rfl,HQ.out⟩|(go_end0;exact⟨rfl,HQ.out⟩)
def fewV (A:Nat->A17) (len:Nat):Bool:=decide (len<=60/\∀j,j<len->(A j).ll<=20)
theorem Z7d (w:World) (a0:Option Addr) (len cap:Nat) (A:Nat->A17) (hA:IsA17 w a0 len A) :
  Calls prog 26 #[.slice a0 len cap] w fun r w'=>r=.returned (.bool (fewV A len))/\w=w':=by
 have OR:(0:Int)<=(len:Int):=by omega
 by_cases R5:len<=60
 ·have hd:decide (60<(len:Int))=false:=by simp;omega
  have HA:=Q0a hA;have FL:(len:Int)<=60:=by omega
  obtain⟨v,hv⟩:∃v,v=fewV A len:=⟨_,rfl⟩
  have HV:=Q0a hv;rw [<- hv];clear hA hv;go_enter func26,ntmps26;go_wp2_with fail
  go_loopg [3] len (fun gk iv wr=>∃k:Nat,iv=.int .i64 k/\k+gk=len/\wr=w/\∀j,j<k->(A j).ll<=20)
  case atStart=>exact⟨0,rfl,by omega,rfl,fun j hj=>by omega⟩
  case round =>
   obtain⟨k,rfl,A7,rfl,hp⟩:=hrel;have HP:=Q0a hp;have Bi:=Q0a A7;clear hp A7;by_cases Ab:k<len
   ·obtain⟨g,off,rfl,hg,AR,Rh,_⟩:=HA.out k Ab;have c9:wr.cell? ⟨g,off+k*17+9,none⟩=some (.slice (A k).la (A k).ll (A k).lc):=AR 9 _ rfl;have Ac:=Rh.len;unfold maxLen at Ac;have CE:(k:Int)<(len:Int):=by omega
    have By:(0:Int)<=(k:Int):=by omega
    clear AR Rh;by_cases Sn:(A k).ll<=20
    ·have FH:decide (20<(((A k).ll:Nat):Int))=false:=by simp;omega
     have Iq:Hid (∀j,j<k+1->(A j).ll<=20):=fun j hj=>by
      by_cases e:j=k
      ·rw [e];exact Sn
      ·exact HP.out j (by omega)
     go_wp2_with fail;go_roundg (len-(k+1))
     case measure=>have:=Bi.out;omega
     case rel=>exact⟨k+1,by go_num,by have:=Bi.out;omega,rfl,Iq.out⟩
    ·have FH:decide (20<(((A k).ll:Nat):Int))=true:=by simp;omega
     have Vl:v=false:=by
      rw [HV.out];unfold fewV;exact decide_eq_false fun h=>Sn (h.2 k Ab)
     subst Vl;clear HV;go_wp2_with fail
     first|exact⟨rfl,rfl⟩|(go_ret;exact⟨rfl,rfl⟩)
   ·obtain rfl:k=len:=by have:=Bi.out;omega
    have Ud:v=true:=by
     rw [HV.out];unfold fewV;exact decide_eq_true ⟨R5,HP.out⟩
    subst Ud;clear HV;go_wp2_with fail
    first|exact⟨rfl,rfl⟩|(go_ret;exact⟨rfl,rfl⟩)
 ·have hv:fewV A len=false:=by
   unfold fewV;exact decide_eq_false fun h=>R5 h.1
  have hd:decide (60<(len:Int))=true:=by simp;omega
  rw [hv];clear hA;go_enter func26,ntmps26;go_wp2_with fail
  first|exact⟨rfl,rfl⟩|(go_ret;exact⟨rfl,rfl⟩)
structure BegZ (Z:SP):Prop where
 per:Z.S.period=2
 top:Z.S.P.d.top=6
 root:pget Z.S.l 1 0=some ⟨1,64,0,1,0,0⟩
theorem BegZ.gone {Z Z':SP} (b:BegZ Z) (g:GoneZ Z Z'):BegZ Z':=⟨g.per.trans b.per,g.same.top.trans b.top,g.root.trans b.root⟩
def AtB (s:Nat) (N K:Nat) (M:Int) (w0 wr:World):Prop:=∃(Z:SP) (fr:List Nat),Z.s=s/\Z.Ok fr N K M/\BegZ Z/\Step [] Z.hl w0 wr
theorem J1b {w w1:World} {S:CO} {limit:Int} (f:Q9n S 6 limit 2) (st:Step [] (S.hl++[]) w w1) :
  Calls prog 17 #[.pointer (some ⟨S.c,0,none⟩)] w1 fun r w'=>∃s,r=.returned (.pointer (some ⟨s,0,none⟩))/\AtB s 1 0 0 w w':=by
 have m:=Z2n f;have st':Step [] S.hl w w1:=by rwa [J4n] at st
 refine (Z2c st'.sep (fun _=>TB.emp)).mono ?_;rintro r w' ⟨Z,rfl,hn,st2⟩;refine⟨Z.s,rfl,Z,[],rfl,hn.ok m.ok m.tpi (fun _ _=>TB.emp_nil),⟨by rw [hn.S];exact m.per,by rw [hn.S];exact m.top,by rw [hn.S,m.l];rfl⟩,st'.trans st2⟩
theorem Z9v {w wr:World} {s N K:Nat} {M:Int} (h:AtB s N K M w wr) (hN:N+1<1048576) (hK:K<1048575) (hM:M+300<1099511627776) (x:A17) (hx:x.Wf) (K9:x.ll<=20) (BR:IsMv w x.la x.ll x.L) :
  Calls prog 92 #[.pointer (some ⟨s,0,none⟩),.agg #[.int .i64 x.kind,.int .i64 x.n,.int .i64 x.k,.int .i64 x.m,.int .i64 x.t,.int .i64 x.u,.int .i64 x.s,.int .i64 x.r,.bool x.self,.slice x.la x.ll x.lc,.int .i64 x.i.base,.int .i64 x.i.order,.int .i64 x.i.r,.int .i64 x.i.off,.bool x.i.g,.int .i64 x.w.base,.int .i64 x.w.order]] wr fun r w'=>r=.returned (.tuple #[])/\AtB s (N+1) (K+1) (M+256) w w':=by
 obtain⟨Z,fr,rfl,ok,b,st⟩:=h;have Qc:AsideM Z.hl x.ll x.L x.la wr:=⟨BR.below st.fresh,fun a h0 ha hk=>by
  obtain⟨g,off,hg,Ab,_⟩:=BR 0 (by omega);rw [ha] at hg;cases hg;rcases st.new _ hk with h|h
  ·cases h
  ·dsimp only at h;omega⟩
 refine (Z4f st.sep ok hN hK hM x hx K9 Qc).mono ?_;rintro r w' ⟨rfl,Z',fr',ok',g,st'⟩;exact⟨rfl,Z',fr',g.s,ok',b.gone g,st.trans st'⟩
theorem Z0j {w:World} (C3:Env w) (limit:Int) (D4:64<=limit) (D3:limit<=65536) (a0:Option Addr) (len cap:Nat) (A:Nat->A17) (hl:len<=60) (hA:IsA17 w a0 len A) (K9:∀j,j<len->(A j).ll<=20) :
  Calls prog 27 #[.int .i64 limit,.slice a0 len cap] w fun r w'=>∃s,r=.returned (.pointer (some ⟨s,0,none⟩))/\AtB s 61 60 15360 w w':=by
 have GM:((2 ^ (6+10):Nat):Int)=65536:=by decide
 have kn:=Z1U (Sep.nil C3) 6 (by omega) (by omega) limit D4 (by rw [GM];exact D3) 2 (by omega) (by omega);rw [GM] at kn;have HA:=Q0a hA;have O1:=Q0a K9;have OR:(0:Int)<=(len:Int):=by omega
 have FL:(len:Int)<=60:=by omega
 clear C3 hA K9 GM;go_enter func27,ntmps27;go_wp2_with fail;refine kn.mono ?_;rintro r w1 ⟨S,rfl,hf,st⟩;have ks:=J1b hf st;clear kn hf st;go_wp2_with fail;refine ks.mono ?_;rintro r w2 ⟨s,rfl,AC⟩;have JN:=Q0a AC;clear AC ks;go_wp2_with fail
 go_loopg [6] len (fun gk iv wr=>∃k:Nat,iv=.int .i64 k/\k+gk=len/\AtB s (1+k) k (256*(k:Int)) w wr)
 case atStart=>exact⟨0,rfl,by omega,JN.out⟩
 case round =>
  obtain⟨k,rfl,A7,AC⟩:=hrel;have Bi:=Q0a A7;clear A7;by_cases Ab:k<len
  ·have kp:=Z9v AC (by omega) (by omega) (by omega) (A k) (HA.out k Ab).choose_spec.choose_spec.2.2.2.1 (O1.out k Ab) (HA.out k Ab).choose_spec.choose_spec.2.2.2.2;have hb:Below w.heap.size w wr:=by
    obtain⟨Z,fr,_,_,_,st⟩:=AC;exact st.fresh
   obtain⟨g,off,rfl,hg,AR,_,_⟩:=(HA.out.below hb) k Ab;have c0:wr.cell? ⟨g,off+k*17,none⟩=some (.int .i64 (A k).kind):=AR 0 _ rfl;have c1:wr.cell? ⟨g,off+k*17+1,none⟩=some (.int .i64 (A k).n):=AR 1 _ rfl;have c2:wr.cell? ⟨g,off+k*17+2,none⟩=some (.int .i64 (A k).k):=AR 2 _ rfl;have c3:wr.cell? ⟨g,off+k*17+3,none⟩=some (.int .i64 (A k).m):=AR 3 _ rfl;have c4:wr.cell? ⟨g,off+k*17+4,none⟩=some (.int .i64 (A k).t):=AR 4 _ rfl;have c5:wr.cell? ⟨g,off+k*17+5,none⟩=some (.int .i64 (A k).u):=AR 5 _ rfl;have c6:wr.cell? ⟨g,off+k*17+6,none⟩=some (.int .i64 (A k).s):=AR 6 _ rfl;have c7:wr.cell? ⟨g,off+k*17+7,none⟩=some (.int .i64 (A k).r):=AR 7 _ rfl
   have c8:wr.cell? ⟨g,off+k*17+8,none⟩=some (.bool (A k).self):=AR 8 _ rfl;have c9:wr.cell? ⟨g,off+k*17+9,none⟩=some (.slice (A k).la (A k).ll (A k).lc):=AR 9 _ rfl;have Rp:wr.cell? ⟨g,off+k*17+10,none⟩=some (.int .i64 (A k).i.base):=AR 10 _ rfl;have Su:wr.cell? ⟨g,off+k*17+11,none⟩=some (.int .i64 (A k).i.order):=AR 11 _ rfl;have Rl:wr.cell? ⟨g,off+k*17+12,none⟩=some (.int .i64 (A k).i.r):=AR 12 _ rfl;have Tn:wr.cell? ⟨g,off+k*17+13,none⟩=some (.int .i64 (A k).i.off):=AR 13 _ rfl;have Ry:wr.cell? ⟨g,off+k*17+14,none⟩=some (.bool (A k).i.g):=AR 14 _ rfl;have Lz:wr.cell? ⟨g,off+k*17+15,none⟩=some (.int .i64 (A k).w.base):=AR 15 _ rfl
   have Tq:wr.cell? ⟨g,off+k*17+16,none⟩=some (.int .i64 (A k).w.order):=AR 16 _ rfl;have CE:(k:Int)<(len:Int):=by omega
   have By:(0:Int)<=(k:Int):=by omega
   clear AR AC hb HA O1;go_wp2_with fail;refine kp.mono ?_;rintro r w3 ⟨rfl,AC⟩;have JN:=Q0a AC;clear AC kp c0 c1 c2 c3 c4 c5 c6 c7 c8 c9 Rp Su Rl Tn Ry Lz Tq;go_wp2_with fail;go_roundg (len-(k+1))
   case measure=>have:=Bi.out;omega
   case rel=>exact⟨k+1,by go_num,by have:=Bi.out;omega,by
    obtain⟨Z,fr,e,ok,b,st⟩:=JN.out;exact⟨Z,fr,e,ok.mono (by omega) (by omega) (by omega),b,st⟩⟩
  ·obtain rfl:k=len:=by have:=Bi.out;omega
   have HR:Hid (AtB s 61 60 15360 w wr):=by
    obtain⟨Z,fr,e,ok,b,st⟩:=AC;exact⟨Z,fr,e,ok.mono (by omega) (by omega) (by omega),b,st⟩
   clear AC;go_wp2_with fail
   first|exact⟨s,rfl,HR.out⟩|(go_ret;exact⟨s,rfl,HR.out⟩)
theorem Z0k {m:Nat}:(64:Int)+(m:Int).tmod 65473=((64+m%65473:Nat):Int)/\(64:Int)+(m:Int)%65473=((64+m%65473:Nat):Int)/\64<=64+m%65473/\64+m%65473<=65536:=by
 refine⟨?_,by omega,by omega,by omega⟩;rw [J3Y (by omega)];omega
section
variable {Z:SP} {fr:List Nat} {N K:Nat} {M:Int}
theorem Z7e {x s:Nat} {e:Ent} (h:Q0f Z.S.l Z.tb x s=some e):Q5m Z.S.l Z.tb x (s:Int)=.tuple #[.agg #[.int .u32 (e.h:Int),.int .i64 (e.r:Int)],.int .i64 0]:=by
 obtain⟨p,hp,hk,hs,_⟩:=Q1C h;unfold Q5m;rw [hp];simp only;rw [if_pos hk,if_pos (by omega),J3m,h]
theorem Z7f (ok:Z.Ok fr N K M) {x s:Nat} {e:Ent} (h:Q0f Z.S.l Z.tb x s=some e):Z3G Z.F.N (x:Int) (s:Int)=none∨∃(a b:Nat) (e':Ent),Z3G Z.F.N (x:Int) (s:Int)=some ((a:Int),(b:Int))/\a<4294967296/\Q0f Z.S.l Z.tb a b=some e'/\e'.h=e.h/\e.r&&&e'.r=e.r/\e'.r<16:=by
 obtain⟨n,hn,h1,h2⟩:=ok.fpi.has x s e h;rw [<- h1,<- h2,Z9e ok.fo.n hn];cases hf:find Z.F.N n.q.par with
 | none=>exact .inl rfl
 | some m =>
  right;have hm:=(Q0b hf).1;obtain⟨a,b,p,e',q1,q2,q3,_,_,_,_,q4⟩:=ok.fpi.task ok.fo.n hm;refine⟨a,b,e',by show some (m.q.sp,m.q.sl)=_;rw [q1,q2],q3,q4,?_⟩;have AP:Q0I Z.S.l Z.tb n=some e:=by
   unfold Q0I;rw [h1,h2,J3m,J3m];exact h
  have BS:Q0I Z.S.l Z.tb m=some e':=by
   unfold Q0I;rw [q1,q2,J3m,J3m];exact q4
  obtain⟨u1,u2⟩:=ok.fpi.up n hn m hf e e' AP BS;have:=(ok.fpi.cap a b e' q4).r;exact⟨u1.symm,u2,by omega⟩
end
def Q8E:List (String×DataW Unit):=[("math/bits.deBruijn32tab", Rows.laid_math_bits_deBruijn32tab),("math/bits.deBruijn64tab", Rows.laid_math_bits_deBruijn64tab),("quartermaster/pool.costs", Rows.laid_quartermaster_pool_costs)]
def J2e:List Int:=[0,1,28,2,29,14,24,3,30,22,20,15,25,17,4,8,31,27,13,23,21,19,16,7,26,12,18,6,11,5,10,9]
theorem g32:prog.globalNamed "math/bits.deBruijn32tab" = some 2:=by kernel_rfl
theorem t32:(prog.globals[2]?).map (·.type)=some 380:=by kernel_rfl
theorem g64:prog.globalNamed "math/bits.deBruijn64tab" = some 1:=by kernel_rfl
theorem J1R:prog.globalNamed "quartermaster/pool.costs" = some 0:=by kernel_rfl
theorem t64:(prog.globals[1]?).map (·.type)=some 356:=by kernel_rfl
theorem J2f:(prog.globals[0]?).map (·.type)=some 258:=by kernel_rfl
theorem Q6X {W:World} (h:laidMetH prog Q8E W):Env W:=by
 rw [MakeChecks.laidMetH_plain _ _ _ (by kernel_rfl)] at h;have h1:laidMet prog (("math/bits.deBruijn32tab", Lib.tabData .u8 J2e)::[("math/bits.deBruijn64tab", Rows.laid_math_bits_deBruijn64tab),("quartermaster/pool.costs", Rows.laid_quartermaster_pool_costs)]) W:=h
 have hA:=Lib.tabIs_of_head g32 t32 underlying380 underlying5 (by kernel_rfl) (by kernel_rfl) h1;have h2:laidMet prog (("math/bits.deBruijn64tab", Lib.tabData .u8 (dbt.map fun (n:Nat)=>(n:Int)))::[("quartermaster/pool.costs", Rows.laid_quartermaster_pool_costs)]) W:=laidMet.tail h1
 have h3:laidMet prog (("quartermaster/pool.costs", Lib.tabData .i64 Z4m)::[]) W:=laidMet.tail h2
 have hB:=Lib.tabIs_of_head g64 t64 underlying356 underlying5 (by kernel_rfl) (by kernel_rfl) h2;have hC:=Lib.tabIs_of_head J1R J2f underlying258 underlying3 (by kernel_rfl) (by kernel_rfl) h3;have cB:TabB W:=by
  intro j v hv;have hj:=(J2y.1 hv).1;have:=hB.cell g64 j (by simpa using hj);rw [this];congr 2;simp [List.getD,hv]
 have cC:TabC W:=by
  intro j v hv;have hj:=(J2y.1 hv).1;have:=hC.cell J1R j (by simpa using hj);rw [this];congr 2;simp [List.getD,hv]
 refine⟨?_,cB,cC⟩;have c0:=World.block_lt_of_cell? W ⟨1,0,none⟩ (cB 0 0 rfl);have c1:=World.block_lt_of_cell? W ⟨0,0,none⟩ (cC 0 0 rfl);have c2:=World.block_lt_of_cell? W ⟨2,0,none⟩ (hA.cell g32 0 (by decide));have Oy:1<W.heap.size:=c0;have Rk:0<W.heap.size:=c1;have WF:2<W.heap.size:=c2;unfold GB;omega
end Go.Proofs.YtlakjlmaboioiaaGreatDoor
