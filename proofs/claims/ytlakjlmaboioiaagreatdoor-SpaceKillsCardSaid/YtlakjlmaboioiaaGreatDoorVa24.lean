/- What the laws of spaces share is proved. No condition. Part of a proof. -/
import Derived.Test.YtlakjlmaboioiaaGreatDoorVa23
import Derived.Deep.CutRange
set_option maxHeartbeats 8000000
set_option maxRecDepth 100000
set_option linter.unusedVariables false
namespace Go.Proofs.YtlakjlmaboioiaaGreatDoor
open Go.RowKit Go.Proofs.Tryz
theorem Q9R {l:List Pl} {tb:Nat->TB} {h:Nat} {p:Pl} (hp:pget l 1 h=some p) (hn:(tb (h%256)).Nil) (h' s:Nat):Q0f (l.set (h%256) {p with st:=2}) tb h' s=Q0f l tb h' s:=by
 obtain⟨hi,K8,_⟩:=pget_some.1 hp;by_cases e:h'%256=h%256
 ·have z:∀l',Q0f l' tb h' s=none:=fun l'=>by
   unfold Q0f;split
   ·split
    ·rename_i hc;rw [e];exact hn.2 s hc.2
    ·rfl
   ·rfl
  rw [z,z]
 ·unfold Q0f;rw [Q0A _ hi,if_neg e]
theorem SP.Ok.doom {Z:SP} {fr:List Nat} {N K:Nat} {M:Int} (ok:Z.Ok fr N K M) {x:Nat} {p:Pl} (hp:pget Z.S.l 1 x=some p) (h0:x≠0) (hk:kids Z.S.l x=[]) (hn:∀s:Nat,Z.av.en x s=none) (Ar:∀(h s:Nat) (c:Nat×Nat),Z.av.en h s=some c->c.1≠x) {rv:OV} (Ec:ovOk rv (Z.S.ts.length+1)) :
  (Z.setS (Z.S.doomed x p rv) Z.tb).Ok fr N K M/\(Z.setS (Z.S.doomed x p rv) Z.tb).av=Z.av:=by
 have Cq:(Z.tb (x%256)).Nil:=by
  obtain⟨hi,_,Ap⟩:=pget_some.1 hp;by_cases h2:p.kind=2
  ·refine TB.nil_of (ok.tpi.full _ (J5n _ (by omega))) fun s hs=>?_
   have:=av_none.1 (hn s)
   rwa [Q0h hp h2 hs] at this
  ·exact ok.tpi.nil _ p hi (fun h=>h2 h.2)
 have PN:∀h' s e,Q0f Z.S.l Z.tb h' s=some e->e.h≠x:=fun h' s e he=>Ar h' s (e.h,e.r) (Q9B he)
 refine⟨⟨ok.core.doomed hp h0 hk (ok.tpi.spare ok.core hp Cq) Ec,ok.tpi.doomed ok.core hp Cq rv,ok.fpi.doomed hp Cq PN,ok.fo,ok.next⟩,?_⟩;show (⟨fun h s=>(Q0f (Z.S.l.set (x%256) {p with st:=2}) Z.tb h s).map Ent.c,Z.F.N⟩:AV)=_;unfold SP.av avOf;congr 1;funext h s;rw [Q9R hp Cq]
def Zmb (l:List Pl) (A:List Nat) (l':List Pl):Prop:=∀y,pget l' 2 y=if y∈A then (pget l 1 y).map (fun p=>{p with st:=2}) else pget l 2 y
theorem J0N {l:List Pl} {x:Nat} {p:Pl} (hp:pget l 1 x=some p):Zmb l [x] (l.set (x%256) {p with st:=2}):=fun y=>by
 obtain⟨hi,hn,hs⟩:=pget_some.1 hp;rw [Q0A _ hi];by_cases e:y%256=x%256
 ·rw [if_pos e];by_cases ey:y=x
  ·subst ey;rw [if_pos ⟨hn,rfl⟩,if_pos (by simp),hp];rfl
  ·rw [if_neg (fun h:_/\_=>ey (h.1.symm.trans hn)),if_neg (fun h:y∈[x]=>ey (J4o.1 h))];cases h2:pget l 2 y with
   | none=>rfl
   | some q=>exact absurd (Q0Q h2 hp e).1 ey
 ·rw [if_neg e,if_neg];intro h;rw [J4o] at h;exact e (by rw [h])
def J0O (l:List Pl) (L:List Nat):Prop:=∀A x B,L=A++x::B->∃q,pget l 1 x=some q/\x≠0/\x∉A/\∀y∈kids l x,y∈A
theorem Z1d {l:List Pl} {N:Nat} (t:Tre l N) {h:Nat} {p:Pl} (hp:pget l 1 h=some p) (h0:h≠0):J0O l (Q0w l N h++[h]):=fun A x B e=>by
 by_cases hk:p.kind=1
 ·by_cases hB:B=[]
  ·subst hB;obtain⟨e1,e2⟩:=List.append_inj' e rfl;obtain rfl:h=x:=by simpa using e2
   subst e1;refine⟨p,hp,h0,fun hm=>((Q2D t).1 hm).2 rfl,fun y hy=>?_⟩;obtain⟨p1,q1,a1,a2,a3,a4,a5⟩:=(Q0P t.len).1 hy;rw [hp] at a1;cases a1;refine Z5D t hp hk a3 a4 ?_ (.inl a5);intro e;subst e;rw [hp] at a3;cases a3;have:=t.rise y p hp a4 hk;omega
  ·obtain⟨B',b,rfl⟩:∃B' b,B=B'++[b]:=⟨B.dropLast,B.getLast hB,(List.dropLast_concat_getLast hB).symm⟩
   have e':Q0w l N h++[h]=(A++x::B')++[b]:=by rw [e];simp
   obtain⟨e1,e2⟩:=List.append_inj' e' rfl;obtain⟨q,q1,q2,q3,q4,q5,q6,_⟩:=Z5C t hp hk e1;exact⟨q,q1,q3,fun hm=>q5 x hm rfl,q6⟩
 ·have hu:Q0w l N h=[]:=(Q9e t).2 (Q4G fun q hq=>by rw [hp] at hq;cases hq;exact hk);rw [hu] at e;have:A=[]/\x=h/\B=[]:=by
   cases A with
   | nil=>simp at e;exact⟨rfl,e.1.symm,e.2⟩
   | cons a r=>simp at e
  obtain⟨rfl,rfl,rfl⟩:=this;refine⟨p,hp,h0,by simp,fun y hy=>?_⟩;rw [Q4G fun q hq=>by rw [hp] at hq;cases hq;exact hk] at hy;cases hy
def Z3M (l:List Pl) (A:List Nat):List Pl:=A.foldl (fun l x=>match pget l 1 x with|some p=>l.set (x%256) {p with st:=2}|none=>l) l
theorem Q7N {l:List Pl} {A:List Nat} {x:Nat} {p:Pl} (h:pget (Z3M l A) 1 x=some p):Z3M l (A++[x])=(Z3M l A).set (x%256) {p with st:=2}:=by
 unfold Z3M at h ⊢;rw [List.foldl_append];show (match pget _ 1 x with|some p=>_|none=>_)=_;rw [h]
structure KillI (Z:SP) (fr:List Nat) (N K:Nat) (M:Int) (A:List Nat) (Z1:SP):Prop where
 ok:Z1.Ok fr N K M
 s:Z1.s=Z.s
 c:Z1.S.c=Z.S.c
 t:Z1.S.t=Z.S.t
 g:Z1.S.g=Z.S.g
 f:Z1.F.f=Z.F.f
 nx:Z1.F.next=Z.F.next
 qn:Z1.S.P.q.next=Z.S.P.q.next
 per:Z1.S.period=Z.S.period
 now:Z1.S.now=Z.S.now
 same:SameP Z.S.P Z1.S.P
 acc:Z1.S.P.q.E.map En.id=Z.S.P.q.E.map En.id
 l:Z1.S.l=Z3M Z.S.l A
 live:Dmd Z.S.l A Z1.S.l
 zomb:Zmb Z.S.l A Z1.S.l
 ts:Z1.S.ts=Z.S.ts++A.map fun x=>(x,Z.S.now+Z.S.period)
 less:Lesser Z.av Z1.av Z.F.next
 out:∀x∈A,(∀s:Nat,Z1.av.en x s=none)/\∀(h s:Nat) (c:Nat×Nat),Z1.av.en h s=some c->c.1≠x
theorem KillI.start {Z:SP} {fr:List Nat} {N K:Nat} {M:Int} (ok:Z.Ok fr N K M):KillI Z fr N K M [] Z:=
 ⟨ok,rfl,rfl,rfl,rfl,rfl,rfl,rfl,rfl,rfl,SameP.refl _,rfl,rfl,Dmd.nil _,fun y=>by simp,by simp,Lesser.refl ok.avOk,fun x h=>by cases h⟩
theorem KillI.next {Z Z1 Z2 Z3:SP} {fr:List Nat} {N K:Nat} {M:Int} {A:List Nat} (hlz:Z.S.l.length<=256) (I:KillI Z fr N K M A Z1) {x:Nat} {q p:Pl} (hq:pget Z.S.l 1 x=some q) (h0:x≠0) (hA:x∉A) (hk:∀y∈kids Z.S.l x,y∈A)
  (ok2:Z2.Ok fr N K M) (w2:Z2.av=(Q1P Z1.F.next x Z1.av (Q0n Z1.S.l Z1.tb x)).1) (s2:SameZ Z1 Z2) (ok3:Z3.Ok fr N K M) (w3:Z3.av=(Q1d Z2.av (Q2J Z2.S.l Z2.tb x)).1) (s3:SameZ Z2 Z3) :
  (pget Z3.S.l 1 x=some q/\kids Z3.S.l x=[])/\∀{rv:OV},pget Z3.S.l 1 x=some p->ovOk rv (Z3.S.ts.length+1)->KillI Z fr N K M (A++[x]) (Z3.setS (Z3.S.doomed x p rv) Z3.tb):=by
 have l2:=s2.alt.l;have l3:=s3.alt.l;have Ac:=I.ok.core.inv.len;have Bh:pget Z1.S.l 1 x=some q:=by rw [I.live x,if_neg hA];exact hq
 have Jv:pget Z3.S.l 1 x=some q:=by rw [l3,l2];exact Bh
 have JG:kids Z3.S.l x=[]:=by rw [l3,l2];exact Dmd.none_left hlz (by omega) I.live hk
 refine⟨⟨Jv,JG⟩,fun {rv} hp Ec=>?_⟩;obtain⟨e1,e2⟩:=Z6M (a:=Z1.av) (l:=Z1.S.l) (tb:=Z1.tb) (N:=Z1.F.N) (x:=x) rfl I.ok.avOk;rw [<- w2,I.nx] at e1;rw [<- w2] at e2;have k2:=ok2.avOk;rw [s2.nx,I.nx] at k2;obtain⟨e3,e4⟩:=Q6K (Q2J Z2.S.l Z2.tb x) k2;rw [<- w3] at e3 e4;have hn:∀s:Nat,Z3.av.en x s=none:=fun s=>e3.none (e2 s)
 have Ar:∀(h s:Nat) (c:Nat×Nat),Z3.av.en h s=some c->c.1≠x:=fun h s c hc hx=>by
  rcases e3.en h s with h1|h1
  ·rw [h1] at hc;cases hc
  ·rw [h1] at hc;obtain⟨e,he,rfl⟩:=Q3r hc;obtain⟨r,r1,r2,r3,_⟩:=Q1C he;have hm:((h:Int),(s:Int))∈Q2J Z2.S.l Z2.tb x:=mem_holdL.2 ⟨h,(Q1t (by rw [ok2.core.inv.len];omega)).2 ⟨r,r1⟩,s,rfl,r3,e,he,hx⟩;rw [e4 h s hm] at h1;rw [<- h1] at hc;cases hc
 obtain⟨d1,d2⟩:=ok3.doom hp h0 JG hn Ar Ec;have Fs:Dmd Z3.S.l [x] (Z3.S.doomed x p rv).l:=J0v hp;have VP:Zmb Z3.S.l [x] (Z3.S.doomed x p rv).l:=J0N hp;have Kx:Dmd Z.S.l A Z3.S.l:=by rw [l3,l2];exact I.live
 have VS:Zmb Z.S.l A Z3.S.l:=by rw [l3,l2];exact I.zomb
 have Mx:Lesser Z.av Z3.av Z.F.next:=(I.less.trans e1).trans e3;refine⟨d1,?_,?_,?_,?_,?_,?_,?_,?_,?_,?_,?_,?_,Kx.step Fs,fun y=>?_,?_,by rw [d2];exact Mx,fun y hy=>?_⟩
 ·exact s3.s.trans (s2.s.trans I.s)
 ·exact s3.alt.c.trans (s2.alt.c.trans I.c)
 ·exact s3.alt.t.trans (s2.alt.t.trans I.t)
 ·exact s3.alt.g.trans (s2.alt.g.trans I.g)
 ·exact s3.f.trans (s2.f.trans I.f)
 ·exact s3.nx.trans (s2.nx.trans I.nx)
 ·exact s3.alt.next.trans (s2.alt.next.trans I.qn)
 ·exact s3.alt.per.trans (s2.alt.per.trans I.per)
 ·exact s3.alt.now.trans (s2.alt.now.trans I.now)
 ·exact (I.same.trans s2.alt.same).trans s3.alt.same
 ·exact s3.alt.ids.trans (s2.alt.ids.trans I.acc)
 ·have e:Z3.S.l=Z3M Z.S.l A:=l3.trans (l2.trans I.l);rw [Q7N (p:=p) (by rw [<- e];exact hp),<- e];rfl
 ·show pget (Z3.S.doomed x p rv).l 2 y=_;rw [VP y,VS y,Kx y];by_cases ey:y=x
  ·subst ey;simp [hA]
  ·by_cases hy:y∈A <;> simp [ey,hy]
 ·show Z3.S.ts++[(x,Z3.S.now+Z3.S.period)]=_;rw [s3.alt.ts,s2.alt.ts,I.ts,s3.alt.now,s2.alt.now,I.now,s3.alt.per,s2.alt.per,I.per];simp
 ·rw [d2];rcases J2V.1 hy with hy|hy
  ·obtain⟨o1,o2⟩:=I.out y hy;have Mi:Lesser Z1.av Z3.av Z.F.next:=e1.trans e3;refine⟨fun s=>Mi.none (o1 s),fun h s c hc=>?_⟩;rcases Mi.en h s with h1|h1
   ·rw [h1] at hc;cases hc
   ·rw [h1] at hc;exact o2 h s c hc
  ·rw [J4o] at hy;subst hy;exact⟨hn,Ar⟩
theorem OutH.app {w wr:World} {v:Value} {L:List Nat} (h:OutH w wr v L) (hl:L.length<=16777216) (x:Nat) (ty:TypeId):∃v' w',(Builtin.append_ #[66,66] ty #[v,.slice (some ⟨wr.heap.size,0,none⟩) 1 1]).run prog (wr.alloc (.cells #[.int .u32 x] 27))=.ok v' w'/\OutH w w' v' (L++[x]):=by
 obtain⟨i0,hi,BN,Bt,Bp⟩:=info_parts Q3F;have h2:=h.below ((Below.refl _ _).alloc (J2h _) (.cells #[.int .u32 x] 27));obtain⟨v',w',hr,q1,q2,_,q4⟩:=run_append_own_at (P:=prog) (wr.alloc (.cells #[.int .u32 x] 27)) w.heap.size 66 ty 27 i0 (.int .u32 0) 1 4 underlying66 hi BN Bt Bp rfl (by decide) v L.length (Q1g L) h2.1 ⟨wr.heap.size,0,none⟩ 1 1 [.int .u32 x] rfl (by
  intro j u hj;have:=(Cells.new wr 27 [.int .u32 x]).cell j u hj;have e:(⟨wr.heap.size,0,none⟩:Addr).add j=⟨wr.heap.size,j,none⟩:=by unfold Addr.add;split <;> simp_all
  rw [e];exact this) (fun u hu=>by rw [J4o.1 hu];rfl) (by unfold maxLen;omega) (by omega) h2.2.size
 refine⟨v',w',hr,?_,?_⟩
 ·rw [J2R,hands_app];exact q1
 ·exact h2.2.trans ((Below.refl _ _).mono h2.2.size |>.grown q2 h2.2.size (fun b hb=>(h2.1.lt b hb).1))
def Q0Z (S:CO) (h:Nat):List Nat:=Q0w S.l S.P.q.next.toNat h++[h]
def KillR (Z:SP) (fr:List Nat) (N K:Nat) (M:Int) (h:Nat) (w:World) (r:Ending) (w':World):Prop:=
 (pget Z.S.l 1 h=none/\r=.returned (.tuple #[.slice none 0 0,.int .i64 8])/\Below w.heap.size w w') ∨
 (h=0/\r=.returned (.tuple #[.slice none 0 0,.int .i64 1])/\Below w.heap.size w w') ∨
 (h≠0/\(∃p,pget Z.S.l 1 h=some p)/\∃(a:Option Addr) (cap:Nat),r=.returned (.tuple #[.slice a (Q0Z Z.S h).length cap,.int .i64 0])/\∃Z',KillI Z fr N K M (Q0Z Z.S h) Z'/\Step Z.hl Z'.hl w w'/\Aside Z'.hl (Q0Z Z.S h) a w')
theorem Z3N {wr w:World} {Z Z1:SP} {fr:List Nat} {N K:Nat} {M:Int} {A:List Nat} (hK:K<=1048576) (hlz:Z.S.l.length<=256) (I:KillI Z fr N K M A Z1) (st:Step Z.hl Z1.hl w wr) {x:Nat} (hx:x<4294967296) {q:Pl} (hq:pget Z.S.l 1 x=some q) (h0:x≠0) (hA:x∉A) (hk:∀y∈kids Z.S.l x,y∈A) :
  Calls prog 40 #[.pointer (some ⟨Z.s,0,none⟩),.int .u32 x] wr fun r w2=>∃v:Value,r=.returned v /\
   Calls prog 39 #[.pointer (some ⟨Z.s,0,none⟩),.int .u32 x] w2 fun r w3=>∃v:Value,r=.returned v/\w3.cell? ⟨Z.s,0,none⟩=some (.pointer (some ⟨Z.S.c,0,none⟩)) /\
    Calls prog 98 #[.pointer (some ⟨Z.S.c,0,none⟩),.int .u32 x] w3 fun r w4=>∃v:Value,r=.returned v/\∃Z4,KillI Z fr N K M (A++[x]) Z4/\Step Z1.hl Z4.hl wr w4:=by
 have kw:=Q9O st.sep I.ok hx;rw [I.s] at kw;refine kw.mono ?_;rintro r w2 ⟨rfl,Z2,ok2,a2,s2,st2⟩;refine⟨_,rfl,?_⟩;have kp:=Q7M st2.sep ok2 x;rw [s2.s,I.s] at kp;refine kp.mono ?_;rintro r w3 ⟨rfl,Z3,ok3,a3,s3,st3⟩;obtain⟨⟨Jv,JG⟩,BK⟩:=I.next (p:=q) hlz hq h0 hA hk ok2 a2 s2 ok3 a3 s3;have hc:=SP.c0 st3.sep;rw [s3.s,s2.s,I.s,s3.alt.c,s2.alt.c,I.c] at hc;refine⟨_,rfl,hc,?_⟩;have kd:=Z8H (SP.sS st3.sep) ok3.core hK hx Jv h0 JG;rw [s3.alt.c,s2.alt.c,I.c] at kd;refine kd.mono ?_;rintro r w4 (⟨h1,_⟩|⟨_,h1,_⟩|⟨_,_,h1,_⟩|⟨p,rv,hp,_,_,Ec,rfl,st4⟩)
 ·rw [Jv] at h1;cases h1
 ·exact absurd h1 h0
 ·exact absurd JG h1
 ·rw [Jv] at hp;cases hp;have I4:=BK Jv Ec;refine⟨_,rfl,_,I4,?_⟩;exact (st2.trans st3).trans (SP.stepS st3.sep (Z3.S.doomed x q rv) Z3.tb rfl st4)
theorem Q6L {w:World} {Z:SP} {fr:List Nat} {N K:Nat} {M:Int} (hs:Sep w Z.hl) (ok:Z.Ok fr N K M) (hK:K<=1048576) {h:Nat} (hh:h<4294967296) :
  Calls prog 35 #[.pointer (some ⟨Z.s,0,none⟩),.int .u32 h] w (KillR Z fr N K M h w):=by
 have c0:=SP.c0 hs;cases hp:pget Z.S.l 1 h with
 | none =>
  have ko:=Q3G (SP.sS hs) ok.core.inv.lok hh 0 hp;unfold zobj at ko;have HR:Hid (∀W,Below w.heap.size w W->KillR Z fr N K M h w (.returned (.tuple #[.slice none 0 0,.int .i64 8])) W):=fun W hb=>.inl ⟨hp,rfl,hb⟩
  clear hs ok hp;go_enter func35,ntmps35;go_wp2_with fail;refine ko.mono ?_;rintro r w2 ⟨rfl,Af⟩;have HQ:=Q0a (HR.out _ (Af.alloc Af.size (.cells #[.int .i64 0,.int .i64 0,.int .i64 0] 69)));clear Af HR ko;go_wp2_with fail
  first|exact HQ.out|(go_ret2;exact HQ.out)
 | some p =>
  have ko:=Q1F (SP.sS hs) ok.core.inv.lok hh 0 hp (.inl rfl);unfold Pl.obj at ko;by_cases h0:h=0
  ·subst h0;have HR:Hid (∀W,Below w.heap.size w W->KillR Z fr N K M 0 w (.returned (.tuple #[.slice none 0 0,.int .i64 1])) W):=fun W hb=>.inr (.inl ⟨rfl,rfl,hb⟩)
   clear hs ok hp;go_enter func35,ntmps35;go_wp2_with fail;refine ko.mono ?_;rintro r w2 ⟨rfl,Af⟩;have HQ:=Q0a (HR.out _ (Af.alloc Af.size (.cells #[.int .i64 (p.kind:Int),.int .i64 (p.at_:Int),.int .i64 (p.fac:Int)] 69)));clear Af HR ko;go_wp2_with fail
   first|exact HQ.out|(go_ret2;exact HQ.out)
  ·have HS:=Q0a hs;have Ct:=Q0a ok;have HK:=Q0a hK;have HP:=Q0a hp;have Vy:=Q0a h0;have Bz:(((h:Nat):Int)==0)=false:=by simp;omega
   have HU:Hid (∀W,Below w.heap.size w W->W.cell? ⟨Z.s,0,none⟩=some (.pointer (some ⟨Z.S.c,0,none⟩))/\Calls prog 33 #[.pointer (some ⟨Z.S.c,0,none⟩),.int .u32 h] W (NewHs W (Q0w Z.S.l Z.S.P.q.next.toNat h))):=fun W hb=>by
    have s1:=(hs.grown hb).sep;exact⟨SP.c0 s1,Q7y (SP.sS s1) ok.core hh⟩
   have Fl:=Q0a (Z1d ok.core.inv.tree hp h0);have Q4:(Q0w Z.S.l Z.S.P.q.next.toNat h++[h]).length<=256:=by
    have h1:=Z4l ok.core.inv.tree h;rw [Q4F ok.core.inv.tree,J2S,J6C] at h1
    simpa using h1
   have Se:=Q0a Q4;have Vg:Hid (Z.S.l.length<=256):=by show Z.S.l.length<=256;rw [ok.core.inv.len];omega
   clear hs ok hp h0 hK;go_enter func35,ntmps35;go_wp2_with fail;refine ko.mono ?_;rintro r w2 ⟨rfl,Af⟩;have As:=Af.alloc Af.size (.cells #[.int .i64 (p.kind:Int),.int .i64 (p.at_:Int),.int .i64 (p.fac:Int)] 69);obtain⟨d0,ku⟩:=HU.out _ As;have D8:=Q0a As;clear Af As ko HU;go_wp2_with fail;refine ku.mono ?_;rintro r w4 ⟨v4,rfl,Gk,Gc⟩;have hO:OutH (w2.alloc (.cells #[.int .i64 (p.kind:Int),.int .i64 (p.at_:Int),.int .i64 (p.fac:Int)] 69)) w4 v4 (Q0w Z.S.l Z.S.P.q.next.toNat h):=⟨Gk,Gc⟩
   obtain⟨v5,w5,Br,OQ⟩:=hO.app (by have:=Se.out;rw [J2R] at this;omega) h 66;have Cn:NewHs (w2.alloc (.cells #[.int .i64 (p.kind:Int),.int .i64 (p.at_:Int),.int .i64 (p.fac:Int)] 69)) (Q0w Z.S.l Z.S.P.q.next.toNat h++[h]) (.returned v5) w5:=⟨v5,rfl,OQ.1,OQ.2⟩
   obtain⟨a,cap,e,AH,has⟩:=Cn.aside (HS.out.grown D8.out).sep;obtain rfl:v5=.slice a (Q0w Z.S.l Z.S.P.q.next.toNat h++[h]).length cap:=by cases e;rfl
   have KJ:Hid (Step Z.hl Z.hl w w5/\Aside Z.hl (Q0w Z.S.l Z.S.P.q.next.toNat h++[h]) a w5):=⟨HS.out.grown (D8.out.trans (AH.mono D8.out.size)),has⟩
   have QH:Hid (Q0Z Z.S h=Q0w Z.S.l Z.S.P.q.next.toNat h++[h]):=rfl;generalize hL:Q0w Z.S.l Z.S.P.q.next.toNat h++[h]=L at *
   generalize hn:L.length=n at *
   have HN:=Q0a hn;clear Gk Gc hO OQ Cn AH has e Q4 ku d0;go_wp2_with (at_builtin;refine Lib.wpList_append_run _ rfl _ _ _ _ rfl _ _ rfl rfl _ _ Br ?_);clear Br;go_wp2_with fail
   go_loopg [40] n (fun gk iv wr=>∃(k:Nat) (Z1:SP),iv=.int .i64 k/\k+gk=n/\KillI Z fr N K M (L.take k) Z1/\Step Z.hl Z1.hl w wr/\Aside Z1.hl L a wr)
   case atStart=>exact⟨0,Z,rfl,by omega,KillI.start Ct.out,KJ.out.1,KJ.out.2⟩
   case round =>
    obtain⟨k,Z1,rfl,A7,hI,Ap,has⟩:=hrel;have C0:=Q0a A7;have HI:=Q0a hI;have Bq:=Q0a Ap;have Vo:=Q0a has;by_cases Ab:k<n
    ·obtain⟨x,hx⟩:∃x,L[k]?=some x:=⟨_,J4y (by rw [HN.out];exact Ab)⟩
     obtain⟨g,rfl,_,_,GZ⟩:=has k x hx;have Hk:L=L.take k++x::L.drop (k+1):=by
      obtain⟨Hh,hg⟩:=J2y.1 hx;rw [<- hg,J3f,J3g]
     obtain⟨q,hq,Cj,NV,I9⟩:=Fl.out _ _ _ Hk;have LY:x<4294967296:=by
      obtain⟨a1,a2,_⟩:=pget_some.1 hq;have:=(Ct.out.core.inv.lok.2 q (J4v a1)).2;unfold nm at a2;omega
     have kr:=Z3N HK.out Vg.out HI.out Bq.out LY hq Cj NV I9;have AW:L.take (k+1)=L.take k++[x]:=by rw [J4d,hx];rfl
     rw [<- AW] at kr;have CE:(k:Int)<(n:Int):=by omega
     have By:(0:Int)<=(k:Int):=by omega
     have FP:(k:Int)<=256:=by have:=Se.out;omega
     clear hI Ap has A7 hx Hk hq Cj NV I9 LY AW KJ;go_wp2_with fail;refine kr.mono ?_;rintro r w6 ⟨v6,rfl,k6⟩;have RE:=Q0a k6;clear k6 kr GZ;go_wp2_with fail;refine RE.out.mono ?_;rintro r w7 ⟨v7,rfl,d7,k7⟩;have RF:=Q0a k7;clear k7 RE;go_wp2_with fail;refine RF.out.mono ?_;rintro r w8 ⟨v8,rfl,Z4,Ti,KF⟩;have HX:Hid (KillI Z fr N K M (L.take (k+1)) Z4/\Step Z.hl Z4.hl w w8/\Aside Z4.hl L (some ⟨g,0,none⟩) w8):=⟨Ti,Bq.out.trans KF,Vo.out.step KF⟩
     clear Ti KF RF d7;go_wp2_with fail;go_roundg (n-(k+1))
     case measure=>have:=C0.out;omega
     case rel=>exact⟨k+1,Z4,by go_num,by have:=C0.out;omega,HX.out⟩
    ·obtain rfl:k=n:=by have:=C0.out;omega
     have HR:Hid (KillR Z fr N K M h w (.returned (.tuple #[.slice a k cap,.int .i64 0])) wr):=by
      refine .inr (.inr ⟨Vy.out,⟨p,HP.out⟩,a,cap,?_,Z1,?_,Ap,?_⟩)
      ·rw [QH.out,HN.out]
      ·rw [QH.out,<- J6q (l:=L),HN.out];exact hI
      ·rw [QH.out];exact has
     clear hI Ap has A7;go_wp2_with fail
     first|exact HR.out|(go_ret2;exact HR.out)
def J0P (Z:SP) (fr:List Nat) (N K:Nat) (M:Int) (x s h r:Nat) (par:Int) (w w':World):Prop:=∃Z',Z'.Ok fr N K (M+1)/\SameN Z Z'/\Z'.av.en=setA Z.av.en x s (some (h,r))/\(∃b,Z'.av.N=addN Z.F.N par (Z.F.next+1) b (x:Int) (s:Int))/\Z'.F.next=Z.F.next+1/\Step Z.hl Z'.hl w w'
def J2b (Z:SP) (x:Nat) (z:Int) (h:Nat) (r:Int) (er:Int):Prop:=
 (pget Z.S.l 1 x=none/\er=8)∨∃p,pget Z.S.l 1 x=some p/\((p.kind≠2/\er=10)∨(p.kind=2/\((¬(0<=z/\z<256)/\er=2)∨((0<=z/\z<256)/\((pget Z.S.l 1 h=none/\er=8) ∨
  ∃q,pget Z.S.l 1 h=some q/\((¬((0<r/\r<=15)/\(q.kind=8↔128<=z))/\er=1)∨(((0<r/\r<=15)/\(q.kind=8↔128<=z))/\Q0f Z.S.l Z.tb x z.toNat≠none/\er=7)))))))
def RootR (Z:SP) (fr:List Nat) (N K:Nat) (M:Int) (x:Nat) (z:Int) (h:Nat) (r:Int) (w:World) (er:Int) (w':World):Prop:=
 (er≠0/\J2b Z x z h r er/\Below w.heap.size w w') ∨
 ∃(s rn:Nat) (p q:Pl),z=(s:Int)/\r=(rn:Int)/\s<256/\1<=rn/\rn<=15/\pget Z.S.l 1 x=some p/\p.kind=2/\pget Z.S.l 1 h=some q/\(q.kind=8↔128<=s)/\Q0f Z.S.l Z.tb x s=none /\
  ((er=0/\J0P Z fr N K M x s h rn 0 w w')∨((er=4∨er=5)/\WhyL Z fr p.fac (x%256) s er/\∃P',Tried Z.S.P fr Z.S.l P'/\Step Z.hl (Z.setS (Z.S.setP P') Z.tb).hl w w'))
theorem Z9g {w w5:World} {Z:SP} {fr:List Nat} {N K:Nat} {M:Int} (ok:Z.Ok fr N K M) (hM:M+1<1099511627776) {x s h r:Nat} {p:Pl} (hx:x<4294967296) (hp:pget Z.S.l 1 x=some p) (hk:p.kind=2) (A9:s<256) (h0:Q0f Z.S.l Z.tb x s=none) {nd:Nat} (hc:Q7b Z.S.l s ⟨h,r,nd⟩)
  {S':CO} {t':TB} (T:TurnP Z.S fr N K Z.tb (p.fac:Int) (x%256) s (some ⟨h,r,nd⟩) S' t') (st:Step Z.hl (Z.setS S' (updT Z.tb (x%256) t')).hl w w5) {par:Int} (Be:par=0∨∃m em,find Z.F.N par=some m/\Q0I Z.S.l Z.tb m=some em/\h=em.h/\r&&&em.r=r) {w6:World} (CC:Below w5.heap.size w5 w6) :
  w6.cell? ⟨Z.s,1,none⟩=some (.pointer (some ⟨Z.F.f,0,none⟩))/\Calls prog 79 #[.pointer (some ⟨Z.F.f,0,none⟩),.int .i64 par,.int .i64 x,.int .i64 s] w6 fun rv w'=>rv=.returned (.tuple #[.int .i64 (Z.F.next+1),.int .i64 0])/\J0P Z fr N K M x s h r par w w':=by
 have st6:=st.trans (st.sep.grown CC);have Ar:=ok.fpi.free ok.fo.n h0;have C8:=ok.fpi.few ok.fo.n hp A9 h0;have Mw:par=0∨∃e,find Z.F.N par=some e:=Be.imp id fun ⟨m,_,h,_⟩=>⟨m,h⟩
 have BA:=ok.next;refine⟨SP.c1 (Z:=Z.setS S' (updT Z.tb (x%256) t')) st6.sep,(Q8w (SP.sF (Z:=Z.setS S' (updT Z.tb (x%256) t')) st6.sep) ok.fo (par:=par) (sp:=(x:Int)) (sl:=(s:Int)) Mw (by omega) (by omega) (by omega) (by omega) Ar (by show Z.F.next+1<_;omega) C8).mono ?_⟩;rintro rv w' ⟨rfl,F',A,stf⟩;obtain⟨a1,a2,a3,a4⟩:=ok.added hp hk A9 h0 hc T Be A;exact⟨rfl,_,a1,a2,a3,a4,A.next,st6.trans (SP.stepF (Z:=Z.setS S' (updT Z.tb (x%256) t')) st6.sep F' A.f stf)⟩
def J2c (bh:Bool) (no:Int) (br bc bk full:Bool) (er:Int):Prop:=(bh=false/\er=2)∨(bh=true/\no=8/\er=8)∨(bh=true/\no=0/\br=false/\er=1)∨(bh=true/\no=0/\br=true/\(bc==bk)=true/\er=1)∨(bh=true/\no=0/\br=true/\(bc==bk)=false/\full=true/\er=7)
theorem Q9S {bc:Bool} {k:Int} (h:(bc==(k==8))=true):(bc=true/\k=8)∨(bc=false/\(k==8)=false/\decide (k=8)=false):=by
 by_cases hk:k=8
 ·subst hk;left;simpa using h
 ·right;cases bc <;> simp_all
theorem Q3v {bc:Bool} {k:Int} (h:(bc==(k==8))=false):(bc=true/\(k==8)=false/\decide (k=8)=false)∨(bc=false/\k=8):=by
 by_cases hk:k=8
 ·subst hk;right;cases bc <;> simp_all
 ·left;cases bc <;> simp_all
theorem Q7O {w:World} {Z:SP} {fr:List Nat} {N K:Nat} {M:Int} (hs:Sep w Z.hl) (ok:Z.Ok fr N K M) {x h:Nat} (hx:x<4294967296) (hh:h<4294967296) {p:Pl} (hp:pget Z.S.l 1 x=some p) (hk:p.kind=2) (z r:Int) {Q:Int->World->Prop}
  {k0 a0 f0 no:Int} (hOf:∀W,Below w.heap.size w W->Calls prog 30 #[.pointer (some ⟨Z.S.c,0,none⟩),.int .u32 h,.int .i64 0] W (Told W (.tuple #[.agg #[.int .i64 k0,.int .i64 a0,.int .i64 f0],.int .i64 no])))
  (Ay:(∃er,J2c (decide (0<=z/\z<256)) no (decide (0<r/\r<=15)) (decide (z<128)) (k0==8) ((Z.tb (x%256)).at' z).isSome er/\∀W,Below w.heap.size w W->Q er W) ∨
   (decide (0<=z/\z<256)=true/\no=0/\decide (0<r/\r<=15)=true/\(decide (z<128)==(k0==8))=false/\((Z.tb (x%256)).at' z).isSome=false /\
    ∀W g,Below w.heap.size w W->TblZ Z p g W->Calls prog 78 #[.pointer (some ⟨Z.s,0,none⟩),.agg #[.pointer (some ⟨g,0,none⟩),.int .u32 x,.int .i64 (p.fac:Int)],.int .i64 z,.agg #[.int .u32 h,.int .i64 r]] W fun rv w5=>∃er:Int,rv=.returned (.int .i64 er) /\
     ((er≠0/\Q er w5)∨(er=0/\w5.cell? ⟨Z.s,1,none⟩=some (.pointer (some ⟨Z.F.f,0,none⟩))/\Calls prog 79 #[.pointer (some ⟨Z.F.f,0,none⟩),.int .i64 0,.int .i64 x,.int .i64 z] w5 fun rv w'=>(∃a b:Value,rv=.returned (.tuple #[a,b]))/\Q 0 w')))) :
  Calls prog 18 #[.pointer (some ⟨Z.s,0,none⟩),.int .u32 x,.int .i64 z,.agg #[.int .u32 h,.int .i64 r]] w fun rv w'=>∃er:Int,rv=.returned (.int .i64 er)/\Q er w':=by
 have b1:Below w.heap.size w (w.alloc (.cells #[.int .u32 h,.int .i64 r] 35)):=(Below.refl _ _).alloc (J2h _) _;have s1:=(hs.grown b1).sep;have ks:=Q0U s1 ok.core hx hp hk;have hi:=(pget_some.1 hp).1;have Ap:=(pget_some.1 hp).2.2;obtain⟨ca,cb,Cu⟩:=Q3O ((Z.tb (x%256)).at' z);have AC:(Z.tb (x%256)).at' z=if 0<=z/\z<256 then Q0f Z.S.l Z.tb x z.toNat else none:=by
  unfold TB.at';split
  ·rename_i h;rw [Q0h hp hk (by omega)]
  ·rfl
 have Ez:Hid (∀W g,Below w.heap.size w W->TblZ Z p g W->Calls prog 74 #[.agg #[.pointer (some ⟨g,0,none⟩),.int .u32 x,.int .i64 (p.fac:Int)],.int .i64 z] W (Told W (.tuple #[.agg #[.int .u32 ca,.int .i64 cb],.bool ((Z.tb (x%256)).at' z).isSome]))):=fun W g hb hg=>by
  have T:=(ok.tpi.x (p.fac:Int)).tt ok.core hi Ap hk (SP.sS (hs.grown hb).sep) hg.c;have:=Q1w T (x:Int) (p.fac:Int) z fun e AL=>by
   rw [AC] at AL;split at AL
   ·exact ok.fpi.low ok.core.inv.lok AL
   ·cases AL
  rwa [Cu] at this
 -- the worlds,one behind the other
 have Ms:Hid (∀(w2:World) (g:Nat),Below (w.alloc (.cells #[.int .u32 h,.int .i64 r] 35)).heap.size (w.alloc (.cells #[.int .u32 h,.int .i64 r] 35)) w2->TblZ Z p g w2->∀W,Below (w2.alloc (.cells #[.pointer (some ⟨g,0,none⟩),.int .u32 x,.int .i64 (p.fac:Int)] 155)).heap.size (w2.alloc (.cells #[.pointer (some ⟨g,0,none⟩),.int .u32 x,.int .i64 (p.fac:Int)] 155)) W ->
   Below w.heap.size w W/\TblZ Z p g W/\W.cell? ⟨Z.s,0,none⟩=some (.pointer (some ⟨Z.S.c,0,none⟩))/\W.cell? ⟨w.heap.size,0,none⟩=some (.int .u32 h)/\W.cell? ⟨w.heap.size,1,none⟩=some (.int .i64 r)/\W.cell? ⟨w2.heap.size,0,none⟩=some (.pointer (some ⟨g,0,none⟩))/\W.cell? ⟨w2.heap.size,1,none⟩=some (.int .u32 x)/\W.cell? ⟨w2.heap.size,2,none⟩=some (.int .i64 (p.fac:Int))):=fun w2 g Af hg W Gn=>by
  have Dz:Below w.heap.size w w2:=Q0e Af;have s2:=(hs.grown Dz).sep;have As:Below w2.heap.size w2 W:=Q0e Gn;have CN:Below w.heap.size w W:=Dz.trans (As.mono Dz.size);have h7:=((Cells.new w 35 [.int .u32 h,.int .i64 r]).same (Af.block w.heap.size (by simp))).same (As.block w.heap.size (by have:=Af.size;simp at this;omega));have h9:=(Cells.new w2 155 [.pointer (some ⟨g,0,none⟩),.int .u32 x,.int .i64 (p.fac:Int)]).same (Gn.block w2.heap.size (by simp));exact⟨CN,hg.grown s2 As,SP.c0 (hs.grown CN).sep,h7.cell 0 _ rfl,h7.cell 1 _ rfl,h9.cell 0 _ rfl,h9.cell 1 _ rfl,h9.cell 2 _ rfl⟩
 have FB:=Q0a hOf;have CD:=Q0a Ay;have Bd:Hid (∀W,Calls prog 75 #[.int .i64 z] W fun r w'=>r=.returned (.bool (decide (0<=z/\z<256)))/\W=w'):=fun W=>Q2V W z
 have Bn:Hid (∀W,Calls prog 76 #[.int .i64 r] W fun r' w'=>r'=.returned (.bool (decide (0<r/\r<=15)))/\W=w'):=fun W=>Q3M W r
 have DA:Hid (∀W,Calls prog 77 #[.int .i64 z] W fun r w'=>r=.returned (.bool (decide (z<128)))/\W=w'):=fun W=>Q2I W z
 have Cj:(0:Int)<=(x:Int):=by omega
 have Dg:(x:Int)<4294967296:=by omega
 have MO:IntKind.i64.wrap (x:Int)=(x:Int):=Go.IntWalk.i64_in _ (by omega);generalize ((Z.tb (x%256)).at' z).isSome=full at *
 generalize decide (0<=z/\z<256)=bh at *
 generalize decide (0<r/\r<=15)=br at *
 generalize decide (z<128)=bc at *
 clear hs ok hx hh hp hk hi Ap Cu AC hOf Ay b1 s1;go_enter func18,ntmps18;go_wp2_with fail;refine ks.mono ?_;rintro rv w2 ⟨g,rfl,Af,hg⟩;have HW:=Q0a (Ms.out w2 g Af hg);have HS:Hid (∀W,Below (w2.alloc (.cells #[.pointer (some ⟨g,0,none⟩),.int .u32 x,.int .i64 (p.fac:Int)] 155)).heap.size (w2.alloc (.cells #[.pointer (some ⟨g,0,none⟩),.int .u32 x,.int .i64 (p.fac:Int)] 155)) W->W.cell? ⟨Z.s,0,none⟩=some (.pointer (some ⟨Z.S.c,0,none⟩))/\W.cell? ⟨w.heap.size,0,none⟩=some (.int .u32 h)):=fun W hb=>⟨(HW.out W hb).2.2.1,(HW.out W hb).2.2.2.1⟩
 have HK:Hid (∀W,Below (w2.alloc (.cells #[.pointer (some ⟨g,0,none⟩),.int .u32 x,.int .i64 (p.fac:Int)] 155)).heap.size (w2.alloc (.cells #[.pointer (some ⟨g,0,none⟩),.int .u32 x,.int .i64 (p.fac:Int)] 155)) W->Calls prog 30 #[.pointer (some ⟨Z.S.c,0,none⟩),.int .u32 h,.int .i64 0] W fun r w4=>r=.returned (.tuple #[.agg #[.int .i64 k0,.int .i64 a0,.int .i64 f0],.int .i64 no])/\Below (w2.alloc (.cells #[.pointer (some ⟨g,0,none⟩),.int .u32 x,.int .i64 (p.fac:Int)] 155)).heap.size (w2.alloc (.cells #[.pointer (some ⟨g,0,none⟩),.int .u32 x,.int .i64 (p.fac:Int)] 155)) w4):=fun W hb=>(FB.out W (HW.out W hb).1).mono fun r w4 h=>⟨h.1,hb.trans (h.2.mono hb.size)⟩
 have B5:Hid (∀W,Below (w2.alloc (.cells #[.pointer (some ⟨g,0,none⟩),.int .u32 x,.int .i64 (p.fac:Int)] 155)).heap.size (w2.alloc (.cells #[.pointer (some ⟨g,0,none⟩),.int .u32 x,.int .i64 (p.fac:Int)] 155)) W->∀o,Below (w2.alloc (.cells #[.pointer (some ⟨g,0,none⟩),.int .u32 x,.int .i64 (p.fac:Int)] 155)).heap.size (w2.alloc (.cells #[.pointer (some ⟨g,0,none⟩),.int .u32 x,.int .i64 (p.fac:Int)] 155)) (W.alloc o)):=fun W hb o=>hb.alloc hb.size o
 obtain⟨-,-,c0,q0,-,-,-,-⟩:=HW.out _ (Below.refl _ _);have SG:Hid (∀W,Below (w2.alloc (.cells #[.pointer (some ⟨g,0,none⟩),.int .u32 x,.int .i64 (p.fac:Int)] 155)).heap.size (w2.alloc (.cells #[.pointer (some ⟨g,0,none⟩),.int .u32 x,.int .i64 (p.fac:Int)] 155)) W->Calls prog 30 #[.pointer (some ⟨Z.S.c,0,none⟩),.int .u32 h,.int .i64 0] W (Told W (.tuple #[.agg #[.int .i64 k0,.int .i64 a0,.int .i64 f0],.int .i64 no]))):=fun W hb=>FB.out W (HW.out W hb).1
 clear Af hg Ms ks FB;go_upto_region 4 with fail
 go_cut [11,12] from 16 to 34 (fun o nn wc=>∃b:Nat,o=.pointer (some ⟨b,0,none⟩)/\nn=.int .i64 no/\Below (w2.alloc (.cells #[.pointer (some ⟨g,0,none⟩),.int .u32 x,.int .i64 (p.fac:Int)] 155)).heap.size (w2.alloc (.cells #[.pointer (some ⟨g,0,none⟩),.int .u32 x,.int .i64 (p.fac:Int)] 155)) wc/\b<wc.heap.size/\wc.cell? ⟨b,0,none⟩=some (.int .i64 k0))
 case first =>
  generalize (w2.alloc (.cells #[.pointer (some ⟨g,0,none⟩),.int .u32 x,.int .i64 (p.fac:Int)] 155))=W3 at *
  clear HW Ez CD Bd Bn DA;have cD:W3.drew.cell? ⟨Z.s,0,none⟩=some (.pointer (some ⟨Z.S.c,0,none⟩)):=c0;have qD:W3.drew.cell? ⟨w.heap.size,0,none⟩=some (.int .u32 h):=q0;have IP:Hid (Calls prog 30 #[.pointer (some ⟨Z.S.c,0,none⟩),.int .u32 h,.int .i64 0] (W3.alloc (.cells #[.int .i64 0,.int .i64 0,.int .i64 0] 69)).drew fun r w4=>r=.returned (.tuple #[.agg #[.int .i64 k0,.int .i64 a0,.int .i64 f0],.int .i64 no])/\Below W3.heap.size W3 w4/\Cells w4 W3.heap.size 69 [.int .i64 0,.int .i64 0,.int .i64 0]):=
   (SG.out _ (B5.out _ (Below.refl _ _).drew _)).mono fun r w4 h=>⟨h.1,((B5.out _ (Below.refl _ _).drew _)).trans (h.2.mono (by simp)),(Cells.new W3 69 [.int .i64 0,.int .i64 0,.int .i64 0]).same (h.2.block _ (by simp))⟩
  have HD:Hid (Below W3.heap.size W3 W3.drew):=(Below.refl _ _).drew
  go_region_held3 (fun w'=>w'.cell? ⟨Z.s,0,none⟩=some (.pointer (some ⟨Z.S.c,0,none⟩))/\w'.cell? ⟨w.heap.size,0,none⟩=some (.int .u32 h))
   (first|exact⟨c0,q0⟩|exact⟨cD,qD⟩|exact HS.out _ (B5.out _ HD.out _)|exact HS.out _ Ao.out|exact HS.out _ (B5.out _ Ao.out _)|exact HS.out _ (Ao.out.setCell (by simp) _)|exact HS.out _ ((Ao.out.setCell (by simp) _).setCell (by simp) _)|exact HS.out _ (((Ao.out.setCell (by simp) _).setCell (by simp) _).setCell (by simp) _))
   (first|(go_at_call 30;refine IP.out.mono ?_;rintro rv w4 ⟨rfl,A5,Bs⟩;have Ao:=Q0a A5;have z0:=Bs.cell 0 _ rfl;have z1:=Bs.cell 1 _ rfl;have z2:=Bs.cell 2 _ rfl;have y0:=Bs.free 0;have y1:=Bs.free 1;have y2:=Bs.free 2;have J0:=Q0a Bs;clear A5 Bs)|(go_at_call 30;refine (HK.out _ (by first|exact HD.out|exact B5.out _ HD.out _)).mono ?_;rintro rv w4 ⟨rfl,A5⟩;have Ao:=Q0a A5;clear A5))
  ·go_wp2_with fail;go_meet;exact⟨_,rfl,rfl,B5.out _ Ao.out _,by simp,(Cells.new w4 69 [.int .i64 k0,.int .i64 a0,.int .i64 f0]).cell 0 _ rfl⟩
  ·go_wp2_with fail;go_meet;exact⟨_,rfl,rfl,((Ao.out.setCell (by simp) _).setCell (by simp) _).setCell (by simp) _,by simpa using J0.out.lt,(((J0.out.set 0 (.int .i64 k0)).set 1 (.int .i64 a0)).set 2 (.int .i64 f0)).cell 0 _ rfl⟩
 obtain⟨bo,rfl,rfl,A5,Ab,By⟩:=hcut;have h5:=HW.out wc A5;obtain⟨AH,SE,-,-,-,u0,u1,u2⟩:=h5;have kc:=Ez.out _ g AH SE;have Rq:=Q0a By;have Ao:=Q0a A5;have Rz:Hid (∀W,Below wc.heap.size wc W->(Below w.heap.size w W/\TblZ Z p g W/\W.cell? ⟨Z.s,0,none⟩=some (.pointer (some ⟨Z.S.c,0,none⟩))/\W.cell? ⟨w.heap.size,0,none⟩=some (.int .u32 h)/\W.cell? ⟨w.heap.size,1,none⟩=some (.int .i64 r)/\W.cell? ⟨w2.heap.size,0,none⟩=some (.pointer (some ⟨g,0,none⟩))/\W.cell? ⟨w2.heap.size,1,none⟩=some (.int .u32 x)/\W.cell? ⟨w2.heap.size,2,none⟩=some (.int .i64 (p.fac:Int)))/\W.cell? ⟨bo,0,none⟩=some (.int .i64 k0)):=fun W hb=>⟨HW.out W (Ao.out.trans (hb.mono Ao.out.size)),(hb.cell (p:=⟨bo,0,none⟩) Ab).trans Rq.out⟩
 clear A5 AH SE Ab By Ez HW HS HK B5 SG c0 q0;go_wp2_with fail;refine kc.mono ?_;rintro rv w6 ⟨rfl,CC⟩;go_wp2_with fail;generalize hW7:(w6.alloc (.cells #[.int .u32 ca,.int .i64 cb] 35))=w7;have CT:Below wc.heap.size wc w7:=by rw [<- hW7];exact CC.alloc CC.size _
 have CR:Hid (∀n,(Below w.heap.size w (w7.drewN n)/\TblZ Z p g (w7.drewN n)/\(w7.drewN n).cell? ⟨Z.s,0,none⟩=some (.pointer (some ⟨Z.S.c,0,none⟩))/\(w7.drewN n).cell? ⟨w.heap.size,0,none⟩=some (.int .u32 h)/\(w7.drewN n).cell? ⟨w.heap.size,1,none⟩=some (.int .i64 r)/\(w7.drewN n).cell? ⟨w2.heap.size,0,none⟩=some (.pointer (some ⟨g,0,none⟩))/\(w7.drewN n).cell? ⟨w2.heap.size,1,none⟩=some (.int .u32 x)/\(w7.drewN n).cell? ⟨w2.heap.size,2,none⟩=some (.int .i64 (p.fac:Int)))/\(w7.drewN n).cell? ⟨bo,0,none⟩=some (.int .i64 k0)):=fun n=>Rz.out _ (Q1n CT n)
 have F8:Hid (Below w.heap.size w w7):=(CR.out 0).1.1;have q1:w7.cell? ⟨w.heap.size,1,none⟩=some (.int .i64 r):=(CR.out 0).1.2.2.2.2.1;have k8:w7.cell? ⟨bo,0,none⟩=some (.int .i64 k0):=(CR.out 0).2;have Di:Hid (∀n,Calls prog 76 #[.int .i64 r] (w7.drewN n) fun e w''=>e=.returned (.bool br)/\∃m,w''=w7.drewN m):=fun n=>(Bn.out _).mono fun e w' h=>⟨h.1,n,h.2.symm⟩
 have Lw:Hid (∀n,Calls prog 77 #[.int .i64 z] (w7.drewN n) fun e w''=>e=.returned (.bool bc)/\∃m,w''=w7.drewN m):=fun n=>(DA.out _).mono fun e w' h=>⟨h.1,n,h.2.symm⟩
 have kh:=Bd.out w7;clear hW7 CT CC kc u0 u1 u2 Rz Bn DA Bd Ao Rq;rcases CD.out with ⟨er,hT,hQ⟩|⟨rfl,rfl,rfl,AE,rfl,hl⟩
 ·have HQ:=Q0a hQ;clear hQ CD;rcases hT with ⟨rfl,rfl⟩|⟨rfl,rfl,rfl⟩|⟨rfl,rfl,rfl,rfl⟩|⟨rfl,rfl,rfl,AE,rfl⟩|⟨rfl,rfl,rfl,AE,rfl,rfl⟩
  ·refine kh.mono ?_;rintro rv w' ⟨rfl,rfl⟩;go_wp2_with fail
   first|exact⟨_,rfl,HQ.out _ F8.out⟩|(go_ret;exact⟨_,rfl,HQ.out _ F8.out⟩)
  ·refine kh.mono ?_;rintro rv w' ⟨rfl,rfl⟩;go_wp2_with fail
   first|exact⟨_,rfl,HQ.out _ F8.out⟩|(go_ret;exact⟨_,rfl,HQ.out _ F8.out⟩)
  ·refine kh.mono ?_;rintro rv w' ⟨rfl,rfl⟩;go_wp2_with fail
   go_quiet ((go_at_call 76;exact Di.out _))
   go_wp2_with fail
   first|exact⟨_,rfl,HQ.out _ (CR.out _).1.1⟩|(go_ret;exact⟨_,rfl,HQ.out _ (CR.out _).1.1⟩)
  ·have hc:=Q9S AE;clear AE;rcases hc with ⟨rfl,rfl⟩|⟨rfl,MN,Mf⟩
   ·refine kh.mono ?_;rintro rv w' ⟨rfl,rfl⟩;go_wp2_with fail
    go_quiet (first|(go_at_call 76;exact Di.out _)|(go_at_call 77;exact Lw.out _))
    go_wp2_with fail
    first|exact⟨_,rfl,HQ.out _ (CR.out _).1.1⟩|(go_ret;exact⟨_,rfl,HQ.out _ (CR.out _).1.1⟩)
   ·refine kh.mono ?_;rintro rv w' ⟨rfl,rfl⟩;go_wp2_with fail
    go_quiet (first|(go_at_call 76;exact Di.out _)|(go_at_call 77;exact Lw.out _))
    go_wp2_with fail
    first|exact⟨_,rfl,HQ.out _ (CR.out _).1.1⟩|(go_ret;exact⟨_,rfl,HQ.out _ (CR.out _).1.1⟩)
  ·have hc:=Q3v AE;clear AE;rcases hc with ⟨rfl,MN,Mf⟩|⟨rfl,rfl⟩
   ·refine kh.mono ?_;rintro rv w' ⟨rfl,rfl⟩;go_wp2_with fail
    go_quiet (first|(go_at_call 76;exact Di.out _)|(go_at_call 77;exact Lw.out _))
    go_wp2_with fail
    first|exact⟨_,rfl,HQ.out _ (CR.out _).1.1⟩|(go_ret;exact⟨_,rfl,HQ.out _ (CR.out _).1.1⟩)
   ·refine kh.mono ?_;rintro rv w' ⟨rfl,rfl⟩;go_wp2_with fail
    go_quiet (first|(go_at_call 76;exact Di.out _)|(go_at_call 77;exact Lw.out _))
    go_wp2_with fail
    first|exact⟨_,rfl,HQ.out _ (CR.out _).1.1⟩|(go_ret;exact⟨_,rfl,HQ.out _ (CR.out _).1.1⟩)
 ·have DZ:=Q0a (fun n=>hl (w7.drewN n) g (CR.out n).1.1 (CR.out n).1.2.1);obtain⟨⟨-,-,-,q0,-,v0,v1,v2⟩,-⟩:=CR.out 0;have q0:w7.cell? ⟨w.heap.size,0,none⟩=some (.int .u32 h):=q0;have v0:w7.cell? ⟨w2.heap.size,0,none⟩=some (.pointer (some ⟨g,0,none⟩)):=v0;have v1:w7.cell? ⟨w2.heap.size,1,none⟩=some (.int .u32 x):=v1;have v2:w7.cell? ⟨w2.heap.size,2,none⟩=some (.int .i64 (p.fac:Int)):=v2;clear hl CD;have hc:=Q3v AE;clear AE;rcases hc with ⟨rfl,MN,Mf⟩|⟨rfl,rfl⟩
  ·refine kh.mono ?_;rintro rv w' ⟨rfl,rfl⟩;go_wp2_with fail
   go_quiet (first|(go_at_call 76;exact Di.out _)|(go_at_call 77;exact Lw.out _))
   go_wp2_with fail;refine (DZ.out _).mono ?_;rintro rv w5 ⟨er,rfl,⟨Aa,hq⟩|⟨rfl,VN,BE⟩⟩
   ·have B9:(er != 0)=true:=by simp [Aa]
    have HQ:=Q0a hq;clear hq;go_wp2_with fail
    first|exact⟨_,rfl,HQ.out⟩|(go_ret;exact⟨_,rfl,HQ.out⟩)
   ·have Dv:=Q0a BE;clear BE;go_wp2_with fail;refine Dv.out.mono ?_;rintro rv w8 ⟨⟨ra,rb,rfl⟩,hq⟩;have HQ:=Q0a hq;clear hq;go_wp2_with fail
    first|exact⟨_,rfl,HQ.out⟩|(go_ret;exact⟨_,rfl,HQ.out⟩)
  ·refine kh.mono ?_;rintro rv w' ⟨rfl,rfl⟩;go_wp2_with fail
   go_quiet (first|(go_at_call 76;exact Di.out _)|(go_at_call 77;exact Lw.out _))
   go_wp2_with fail;refine (DZ.out _).mono ?_;rintro rv w5 ⟨er,rfl,⟨Aa,hq⟩|⟨rfl,VN,BE⟩⟩
   ·have B9:(er != 0)=true:=by simp [Aa]
    have HQ:=Q0a hq;clear hq;go_wp2_with fail
    first|exact⟨_,rfl,HQ.out⟩|(go_ret;exact⟨_,rfl,HQ.out⟩)
   ·have Dv:=Q0a BE;clear BE;go_wp2_with fail;refine Dv.out.mono ?_;rintro rv w8 ⟨⟨ra,rb,rfl⟩,hq⟩;have HQ:=Q0a hq;clear hq;go_wp2_with fail
    first|exact⟨_,rfl,HQ.out⟩|(go_ret;exact⟨_,rfl,HQ.out⟩)
theorem Q9T {l:List Pl} (lok:LOk l) {s h:Nat} {q:Pl} (hq:pget l s h=some q):h<4294967295:=by
 have h1:=pget_some.1 hq;have h2:=lok.2 q (Q0z hq);have:nm (h%256) q=h:=h1.2.1;unfold nm at this;omega
theorem Q7P {w:World} {s x h:Nat} {z r e:Int} (he:e≠0) (hS:Calls prog 73 #[.pointer (some ⟨s,0,none⟩),.int .u32 x] (w.alloc (.cells #[.int .u32 h,.int .i64 r] 35)) (Told (w.alloc (.cells #[.int .u32 h,.int .i64 r] 35)) (.tuple #[.agg #[.pointer none,.int .u32 0,.int .i64 0],.int .i64 e]))) :
  Calls prog 18 #[.pointer (some ⟨s,0,none⟩),.int .u32 x,.int .i64 z,.agg #[.int .u32 h,.int .i64 r]] w (Told w (.int .i64 e)):=by
 have Gt:(e != 0)=true:=by simpa using he
 have HB:Hid (∀w1,Below (w.alloc (.cells #[.int .u32 h,.int .i64 r] 35)).heap.size (w.alloc (.cells #[.int .u32 h,.int .i64 r] 35)) w1->∀o,Below w.heap.size w (w1.alloc o)):=fun w1 hb o=>(Q0e hb).alloc (Q0e hb).size o
 go_enter func18,ntmps18;go_wp2_with fail;refine hS.mono ?_;rintro rv w1 ⟨rfl,hb⟩;have HW:=Q0a (HB.out w1 hb);clear hb HB hS;go_wp2_with fail
 first|exact⟨rfl,HW.out _⟩|(go_ret;exact⟨rfl,HW.out _⟩)
theorem Q9U {w:World} {Z:SP} {fr:List Nat} {N K:Nat} {M:Int} (hs:Sep w Z.hl) (ok:Z.Ok fr N K M) (hM:M+1<1099511627776) {x h:Nat} (hx:x<4294967296) (hh:h<4294967296) (z r:Int) :
  Calls prog 18 #[.pointer (some ⟨Z.s,0,none⟩),.int .u32 x,.int .i64 z,.agg #[.int .u32 h,.int .i64 r]] w fun rv w'=>∃er:Int,rv=.returned (.int .i64 er)/\RootR Z fr N K M x z h r w er w':=by
 have s1:=(hs.grown ((Below.refl w.heap.size w).alloc (J2h _) (.cells #[.int .u32 h,.int .i64 r] 35))).sep;cases hp:pget Z.S.l 1 x with
 | none =>
  refine (Q7P (e:=8) (by decide) (Q0J s1 ok.core hx 8 (.inl ⟨hp,rfl⟩))).mono ?_;rintro rv w' ⟨rfl,hb⟩;exact⟨_,rfl,.inl ⟨by decide,.inl ⟨hp,rfl⟩,hb⟩⟩
 | some p =>
  by_cases hk:p.kind=2
  case neg =>
   refine (Q7P (e:=10) (by decide) (Q0J s1 ok.core hx 10 (.inr ⟨p,hp,hk,rfl⟩))).mono ?_;rintro rv w' ⟨rfl,hb⟩;exact⟨_,rfl,.inl ⟨by decide,.inr ⟨p,hp,.inl ⟨hk,rfl⟩⟩,hb⟩⟩
  clear s1;cases hq:pget Z.S.l 1 h with
  | none =>
   refine Q7O hs ok hx hh hp hk z r (k0:=0) (a0:=0) (f0:=0) (no:=8) (fun W hb=>Q3G (SP.sS (hs.grown hb).sep) ok.core.inv.lok hh 0 hq) (.inl ?_);by_cases hz:0<=z/\z<256
   ·exact⟨8,.inr (.inl ⟨by simpa using hz,rfl,rfl⟩),fun W hb=>.inl ⟨by decide,.inr ⟨p,hp,.inr ⟨hk,.inr ⟨hz,.inl ⟨hq,rfl⟩⟩⟩⟩,hb⟩⟩
   ·exact⟨2,.inl ⟨decide_eq_false hz,rfl⟩,fun W hb=>.inl ⟨by decide,.inr ⟨p,hp,.inr ⟨hk,.inl ⟨hz,rfl⟩⟩⟩,hb⟩⟩
  | some q =>
   refine Q7O hs ok hx hh hp hk z r (k0:=(q.kind:Int)) (a0:=(q.at_:Int)) (f0:=(q.fac:Int)) (no:=0) (fun W hb=>Q1F (SP.sS (hs.grown hb).sep) ok.core.inv.lok hh 0 hq (.inl rfl)) ?_;by_cases hz:0<=z/\z<256
   case neg=>exact .inl ⟨2,.inl ⟨decide_eq_false hz,rfl⟩,fun W hb=>.inl ⟨by decide,.inr ⟨p,hp,.inr ⟨hk,.inl ⟨hz,rfl⟩⟩⟩,hb⟩⟩
   have Jf:decide (0<=z/\z<256)=true:=decide_eq_true hz;by_cases hr:0<r/\r<=15
   case neg=>exact .inl ⟨1,.inr (.inr (.inl ⟨Jf,rfl,decide_eq_false hr,rfl⟩)),fun W hb=>.inl ⟨by decide,.inr ⟨p,hp,.inr ⟨hk,.inr ⟨hz,.inr ⟨q,hq,.inl ⟨fun hc=>hr hc.1,rfl⟩⟩⟩⟩⟩,hb⟩⟩
   have Ga:decide (0<r/\r<=15)=true:=decide_eq_true hr;by_cases hm:(q.kind=8↔128<=z)
   case neg =>
    refine .inl ⟨1,.inr (.inr (.inr (.inl ⟨Jf,rfl,Ga,?_,rfl⟩))),fun W hb=>.inl ⟨by decide,.inr ⟨p,hp,.inr ⟨hk,.inr ⟨hz,.inr ⟨q,hq,.inl ⟨fun hc=>hm hc.2,rfl⟩⟩⟩⟩⟩,hb⟩⟩;by_cases h8:q.kind=8
    ·have h9:z<128:=by have:¬128<=z:=fun h=>hm ⟨fun _=>h,fun _=>h8⟩;omega
     simp [h8,h9]
    ·have h9:¬z<128:=by intro h;exact hm ⟨fun h'=>absurd h' h8,fun h'=>by omega⟩
     have NC:¬(q.kind:Int)=8:=by omega
     simp [h9,NC]
   have Fs:(decide (z<128)==((q.kind:Int)==8))=false:=by
    by_cases h8:q.kind=8
    ·have h9:¬z<128:=by have:=hm.1 h8;omega
     simp [h8,h9]
    ·have h9:z<128:=by have:¬128<=z:=fun h=>h8 (hm.2 h);omega
     have NC:¬(q.kind:Int)=8:=by omega
     simp [h9,NC]
   obtain⟨s,rfl⟩:∃s:Nat,z=(s:Int):=⟨z.toNat,by omega⟩
   obtain⟨rn,rfl⟩:∃rn:Nat,r=(rn:Int):=⟨r.toNat,by omega⟩
   have A9:s<256:=by omega
   have AC:(Z.tb (x%256)).at' (s:Int)=Q0f Z.S.l Z.tb x s:=by
    unfold TB.at';rw [if_pos hz,Q0h hp hk (by omega)];rfl
   cases h0:Q0f Z.S.l Z.tb x s with
   | some e0 =>
    refine .inl ⟨7,.inr (.inr (.inr (.inr ⟨Jf,rfl,Ga,Fs,by rw [AC,h0];rfl,rfl⟩))),fun W hb=>.inl ⟨by decide,.inr ⟨p,hp,.inr ⟨hk,.inr ⟨hz,.inr ⟨q,hq,.inr ⟨⟨hr,hm⟩,?_,rfl⟩⟩⟩⟩⟩,hb⟩⟩;rw [J3m,h0];exact Option.some_ne_none _
   | none =>
    refine .inr ⟨Jf,rfl,Ga,Fs,by rw [AC,h0];rfl,fun W g hb hg=>?_⟩;have hi:=(pget_some.1 hp).1;have Ap:=(pget_some.1 hp).2.2;have Dy:(Z.tb (x%256)).en s=none:=by rw [<- Q0h hp hk A9];exact h0
    have Cd:(q.kind=8↔128<=s):=by rw [hm];omega
    have AA:h<4294967295:=Q9T ok.core.inv.lok hq;refine (Q8x (hs.grown hb).sep ok.core ok.tpi (x:=x) hi Ap hk A9 Dy AA (by omega:rn<16) hg).mono ?_;rintro rv w5 ⟨er,rfl,⟨rfl,nd,S',t',T,st⟩|⟨he,FW,P',tr,st⟩⟩
    ·have AM:Q7b Z.S.l s ⟨h,rn,nd⟩:=⟨⟨q,hq,Cd⟩,by dsimp only;omega⟩
     obtain⟨c1,k⟩:=Z9g ok hM hx hp hk A9 h0 AM T ((hs.grown hb).trans st) (par:=0) (.inl rfl) (Below.refl _ _);refine⟨0,rfl,.inr ⟨rfl,c1,k.mono ?_⟩⟩;rintro rv w' ⟨rfl,PZ⟩;exact⟨⟨_,_,rfl⟩,.inr ⟨s,rn,p,q,rfl,rfl,A9,by omega,by omega,hp,hk,hq,Cd,h0,.inl ⟨rfl,PZ⟩⟩⟩
    ·exact⟨er,rfl,.inl ⟨by omega,.inr ⟨s,rn,p,q,rfl,rfl,A9,by omega,by omega,hp,hk,hq,Cd,h0,.inr ⟨he,FW,P',tr,(hs.grown hb).trans st⟩⟩⟩⟩
theorem Z6N (w:World) (k:Int):Calls prog 102 #[.int .i64 k] w fun r w'=>r=.returned (.bool (decide (k=8∨1<=k/\k<=5)))/\w=w':=by
 by_cases h8:k=8
 ·subst h8;go_enter func102,ntmps102;go_wp2_with fail
  first|exact⟨rfl,rfl⟩|(go_ret;exact⟨rfl,rfl⟩)
 ·have b8:(k==8)=false:=by simpa using h8
  have d8:decide (k=8)=false:=decide_eq_false h8;by_cases h1:1<=k
  ·have d1:decide (1<=k)=true:=decide_eq_true h1;by_cases h5:k<=5
   ·have d5:decide (k<=5)=true:=decide_eq_true h5;have hv:decide (k=8∨1<=k/\k<=5)=true:=decide_eq_true (.inr ⟨h1,h5⟩);rw [hv];clear hv;go_enter func102,ntmps102;go_wp2_with fail
    first|exact⟨rfl,rfl⟩|(go_ret;exact⟨rfl,rfl⟩)
   ·have d5:decide (k<=5)=false:=decide_eq_false h5;have hv:decide (k=8∨1<=k/\k<=5)=false:=decide_eq_false (by omega);rw [hv];clear hv;go_enter func102,ntmps102;go_wp2_with fail
    first|exact⟨rfl,rfl⟩|(go_ret;exact⟨rfl,rfl⟩)
  ·have d1:decide (1<=k)=false:=decide_eq_false h1;have hv:decide (k=8∨1<=k/\k<=5)=false:=decide_eq_false (by omega);rw [hv];clear hv;go_enter func102,ntmps102;go_wp2_with fail
   first|exact⟨rfl,rfl⟩|(go_ret;exact⟨rfl,rfl⟩)
theorem Q7Q {w:World} {s x y:Nat} {z k lim e:Int} (he:e≠0) (hS:Calls prog 73 #[.pointer (some ⟨s,0,none⟩),.int .u32 x] w (Told w (.tuple #[.agg #[.pointer none,.int .u32 0,.int .i64 0],.int .i64 e]))) :
  Calls prog 38 #[.pointer (some ⟨s,0,none⟩),.int .u32 x,.int .i64 z,.int .u32 y,.int .i64 k,.int .i64 lim] w (Told w (.tuple #[.int .u32 0,.int .i64 e])):=by
 have Gt:(e != 0)=true:=by simpa using he
 have HB:Hid (∀w1,Below w.heap.size w w1->∀o,Below w.heap.size w (w1.alloc o)):=fun w1 hb o=>hb.alloc hb.size o
 go_enter func38,ntmps38;go_wp2_with fail;refine hS.mono ?_;rintro rv w1 ⟨rfl,hb⟩;have HW:=Q0a (HB.out w1 hb);clear hb HB hS;go_wp2_with fail
 first|exact⟨rfl,HW.out _⟩|(go_ret2;exact⟨rfl,HW.out _⟩)
end Go.Proofs.YtlakjlmaboioiaaGreatDoor
