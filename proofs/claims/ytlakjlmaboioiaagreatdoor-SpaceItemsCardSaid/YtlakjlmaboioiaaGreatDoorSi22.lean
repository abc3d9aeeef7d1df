/- SpaceItems returns true at every input. No condition. Part of its proof. -/
import Derived.Test.YtlakjlmaboioiaaGreatDoorSi21
import Derived.Test.YtlakjlmaboioiaaGreatDoorSi09
import Derived.Test.YtlakjlmaboioiaaGreatDoorSi12
import Derived.Deep.CutRange
import Derived.Deep.QuietTactic
import Derived.BigQuiet
import Derived.Test.YtlakjlmaboioiaaGreatDoorSi01
import Derived.ProofKit
import Derived.Deep.Slices
import Derived.OpenShut
set_option maxHeartbeats 8000000
set_option maxRecDepth 100000
set_option linter.unusedVariables false
namespace Go.Proofs.YtlakjlmaboioiaaGreatDoor
open Go.RowKit Go.Proofs.Tryz
theorem Q8I {l:List Pl} {tb:Nat->TB} {h:Nat} {p:Pl} (hp:pget l 1 h=some p) (hn:(tb (h%256)).Nil) (h' s:Nat):Q0f (l.set (h%256) {p with st:=2}) tb h' s=Q0f l tb h' s:=by
 obtain⟨hi,hnm,_⟩:=pget_some.1 hp;by_cases e:h'%256=h%256
 ·have z:∀l',Q0f l' tb h' s=none:=fun l'=>by
   unfold Q0f;split
   ·split
    ·rename_i hc;rw [e];exact hn.2 s hc.2
    ·rfl
   ·rfl
  rw [z,z]
 ·unfold Q0f;rw [Q1S _ hi,if_neg e]
theorem SP.Ok.doom {Z:SP} {fr:List Nat} {N K:Nat} {M:Int} (ok:Z.Ok fr N K M) {x:Nat} {p:Pl} (hp:pget Z.S.l 1 x=some p) (h0:x≠0) (hk:kids Z.S.l x=[]) (hn:∀s:Nat,Z.av.en x s=none) (hno:∀(h s:Nat) (c:Nat×Nat),Z.av.en h s=some c->c.1≠x) {rv:OV} (hov:ovOk rv (Z.S.ts.length+1)) :
  (Z.setS (Z.S.doomed x p rv) Z.tb).Ok fr N K M/\(Z.setS (Z.S.doomed x p rv) Z.tb).av=Z.av:=by
 have hnil:(Z.tb (x%256)).Nil:=by
  obtain⟨hi,_,hst⟩:=pget_some.1 hp;by_cases h2:p.kind=2
  ·refine TB.nil_of (ok.tpi.full _ (J3x _ (by omega))) fun s hs=>?_
   have:=av_none.1 (hn s)
   rwa [Q0i hp h2 hs] at this
  ·exact ok.tpi.nil _ p hi (fun h=>h2 h.2)
 have hno':∀h' s e,Q0f Z.S.l Z.tb h' s=some e->e.h≠x:=fun h' s e he=>hno h' s (e.h,e.r) (Q6i he)
 refine⟨⟨ok.core.doomed hp h0 hk (ok.tpi.spare ok.core hp hnil) hov,ok.tpi.doomed ok.core hp hnil rv,ok.fpi.doomed hp hnil hno',ok.fo,ok.next⟩,?_⟩;show (⟨fun h s=>(Q0f (Z.S.l.set (x%256) {p with st:=2}) Z.tb h s).map Ent.c,Z.F.N⟩:AV)=_;unfold SP.av avOf;congr 1;funext h s;rw [Q8I hp hnil]
def Zmb (l:List Pl) (A:List Nat) (l':List Pl):Prop:=∀y,pget l' 2 y=if y∈A then (pget l 1 y).map (fun p=>{p with st:=2}) else pget l 2 y
theorem Z9c {l:List Pl} {x:Nat} {p:Pl} (hp:pget l 1 x=some p):Zmb l [x] (l.set (x%256) {p with st:=2}):=fun y=>by
 obtain⟨hi,hn,hs⟩:=pget_some.1 hp;rw [Q1S _ hi];by_cases e:y%256=x%256
 ·rw [if_pos e];by_cases ey:y=x
  ·subst ey;rw [if_pos ⟨hn,rfl⟩,if_pos (by simp),hp];rfl
  ·rw [if_neg (fun h:_/\_=>ey (h.1.symm.trans hn)),if_neg (fun h:y∈[x]=>ey (J2z.1 h))];cases h2:pget l 2 y with
   | none=>rfl
   | some q=>exact absurd (Q1a h2 hp e).1 ey
 ·rw [if_neg e,if_neg];intro h;rw [J2z] at h;exact e (by rw [h])
def Z9d (l:List Pl) (L:List Nat):Prop:=∀A x B,L=A++x::B->∃q,pget l 1 x=some q/\x≠0/\x∉A/\∀y∈kids l x,y∈A
theorem Z9e {l:List Pl} {N:Nat} (t:Tre l N) {h:Nat} {p:Pl} (hp:pget l 1 h=some p) (h0:h≠0):Z9d l (Q0D l N h++[h]):=fun A x B e=>by
 by_cases hk:p.kind=1
 ·by_cases hB:B=[]
  ·subst hB;obtain⟨e1,e2⟩:=List.append_inj' e rfl;obtain rfl:h=x:=by simpa using e2
   subst e1;refine⟨p,hp,h0,fun hm=>((Q2e t).1 hm).2 rfl,fun y hy=>?_⟩;obtain⟨p1,q1,a1,a2,a3,a4,a5⟩:=(Q0H t.len).1 hy;rw [hp] at a1;cases a1;refine Z4e t hp hk a3 a4 ?_ (.inl a5);intro e;subst e;rw [hp] at a3;cases a3;have:=t.rise y p hp a4 hk;omega
  ·obtain⟨B',b,rfl⟩:∃B' b,B=B'++[b]:=⟨B.dropLast,B.getLast hB,(List.dropLast_concat_getLast hB).symm⟩
   have e':Q0D l N h++[h]=(A++x::B')++[b]:=by rw [e];simp
   obtain⟨e1,e2⟩:=List.append_inj' e' rfl;obtain⟨q,q1,q2,q3,q4,q5,q6,_⟩:=Z4d t hp hk e1;exact⟨q,q1,q3,fun hm=>q5 x hm rfl,q6⟩
 ·have hu:Q0D l N h=[]:=(Q7W t).2 (Q4c fun q hq=>by rw [hp] at hq;cases hq;exact hk);rw [hu] at e;have:A=[]/\x=h/\B=[]:=by
   cases A with
   | nil=>simp at e;exact⟨rfl,e.1.symm,e.2⟩
   | cons a r=>simp at e
  obtain⟨rfl,rfl,rfl⟩:=this;refine⟨p,hp,h0,by simp,fun y hy=>?_⟩;rw [Q4c fun q hq=>by rw [hp] at hq;cases hq;exact hk] at hy;cases hy
def Z2w (l:List Pl) (A:List Nat):List Pl:=A.foldl (fun l x=>match pget l 1 x with|some p=>l.set (x%256) {p with st:=2}|none=>l) l
theorem Q6T {l:List Pl} {A:List Nat} {x:Nat} {p:Pl} (h:pget (Z2w l A) 1 x=some p):Z2w l (A++[x])=(Z2w l A).set (x%256) {p with st:=2}:=by
 unfold Z2w at h ⊢;rw [List.foldl_append];show (match pget _ 1 x with|some p=>_|none=>_)=_;rw [h]
structure KillI (Z:SP) (fr:List Nat) (N K:Nat) (M:Int) (A:List Nat) (Z1:SP):Prop where
 ok:Z1.Ok fr N K M
 s:Z1.s=Z.s
 c:Z1.S.c=Z.S.c
 t:Z1.S.t=Z.S.t
 g:Z1.S.g=Z.S.g
 f:Z1.F.f=Z.F.f
 nx:Z1.F.next=Z.F.next
 qn:Z1.S.P.q.next=Z.S.P.q.next
 per:Z1.S.period=Z.S.period
 now:Z1.S.now=Z.S.now
 same:SameP Z.S.P Z1.S.P
 acc:Z1.S.P.q.E.map En.id=Z.S.P.q.E.map En.id
 l:Z1.S.l=Z2w Z.S.l A
 live:Dmd Z.S.l A Z1.S.l
 zomb:Zmb Z.S.l A Z1.S.l
 ts:Z1.S.ts=Z.S.ts++A.map fun x=>(x,Z.S.now+Z.S.period)
 less:Lesser Z.av Z1.av Z.F.next
 out:∀x∈A,(∀s:Nat,Z1.av.en x s=none)/\∀(h s:Nat) (c:Nat×Nat),Z1.av.en h s=some c->c.1≠x
theorem KillI.start {Z:SP} {fr:List Nat} {N K:Nat} {M:Int} (ok:Z.Ok fr N K M):KillI Z fr N K M [] Z:=
 ⟨ok,rfl,rfl,rfl,rfl,rfl,rfl,rfl,rfl,rfl,SameP.refl _,rfl,rfl,Dmd.nil _,fun y=>by simp,by simp,Lesser.refl ok.avOk,fun x h=>by cases h⟩
theorem KillI.next {Z Z1 Z2 Z3:SP} {fr:List Nat} {N K:Nat} {M:Int} {A:List Nat} (hlz:Z.S.l.length<=256) (I:KillI Z fr N K M A Z1) {x:Nat} {q p:Pl} (hq:pget Z.S.l 1 x=some q) (h0:x≠0) (hA:x∉A) (hk:∀y∈kids Z.S.l x,y∈A)
  (ok2:Z2.Ok fr N K M) (w2:Z2.av=(Q1y Z1.F.next x Z1.av (Q0o Z1.S.l Z1.tb x)).1) (s2:SameZ Z1 Z2) (ok3:Z3.Ok fr N K M) (w3:Z3.av=(Q0T Z2.av (Q2v Z2.S.l Z2.tb x)).1) (s3:SameZ Z2 Z3) :
  (pget Z3.S.l 1 x=some q/\kids Z3.S.l x=[])/\∀{rv:OV},pget Z3.S.l 1 x=some p->ovOk rv (Z3.S.ts.length+1)->KillI Z fr N K M (A++[x]) (Z3.setS (Z3.S.doomed x p rv) Z3.tb):=by
 have l2:=s2.alt.l;have l3:=s3.alt.l;have hlen:=I.ok.core.inv.len;have hp1:pget Z1.S.l 1 x=some q:=by rw [I.live x,if_neg hA];exact hq
 have hp3:pget Z3.S.l 1 x=some q:=by rw [l3,l2];exact hp1
 have hk3:kids Z3.S.l x=[]:=by rw [l3,l2];exact Dmd.none_left hlz (by omega) I.live hk
 refine⟨⟨hp3,hk3⟩,fun {rv} hp hov=>?_⟩;obtain⟨e1,e2⟩:=Z5g (a:=Z1.av) (l:=Z1.S.l) (tb:=Z1.tb) (N:=Z1.F.N) (x:=x) rfl I.ok.avOk;rw [<- w2,I.nx] at e1;rw [<- w2] at e2;have k2:=ok2.avOk;rw [s2.nx,I.nx] at k2;obtain⟨e3,e4⟩:=Q5T (Q2v Z2.S.l Z2.tb x) k2;rw [<- w3] at e3 e4;have hn:∀s:Nat,Z3.av.en x s=none:=fun s=>e3.none (e2 s)
 have hno:∀(h s:Nat) (c:Nat×Nat),Z3.av.en h s=some c->c.1≠x:=fun h s c hc hx=>by
  rcases e3.en h s with h1|h1
  ·rw [h1] at hc;cases hc
  ·rw [h1] at hc;obtain⟨e,he,rfl⟩:=Q2t hc;obtain⟨r,r1,r2,r3,_⟩:=Q3h he;have hm:((h:Int),(s:Int))∈Q2v Z2.S.l Z2.tb x:=mem_holdL.2 ⟨h,(Q4v (by rw [ok2.core.inv.len];omega)).2 ⟨r,r1⟩,s,rfl,r3,e,he,hx⟩;rw [e4 h s hm] at h1;rw [<- h1] at hc;cases hc
 obtain⟨d1,d2⟩:=ok3.doom hp h0 hk3 hn hno hov;have hdm:Dmd Z3.S.l [x] (Z3.S.doomed x p rv).l:=Z8N hp;have hzm:Zmb Z3.S.l [x] (Z3.S.doomed x p rv).l:=Z9c hp;have hlv:Dmd Z.S.l A Z3.S.l:=by rw [l3,l2];exact I.live
 have hzv:Zmb Z.S.l A Z3.S.l:=by rw [l3,l2];exact I.zomb
 have hless:Lesser Z.av Z3.av Z.F.next:=(I.less.trans e1).trans e3;refine⟨d1,?_,?_,?_,?_,?_,?_,?_,?_,?_,?_,?_,?_,hlv.step hdm,fun y=>?_,?_,by rw [d2];exact hless,fun y hy=>?_⟩
 ·exact s3.s.trans (s2.s.trans I.s)
 ·exact s3.alt.c.trans (s2.alt.c.trans I.c)
 ·exact s3.alt.t.trans (s2.alt.t.trans I.t)
 ·exact s3.alt.g.trans (s2.alt.g.trans I.g)
 ·exact s3.f.trans (s2.f.trans I.f)
 ·exact s3.nx.trans (s2.nx.trans I.nx)
 ·exact s3.alt.next.trans (s2.alt.next.trans I.qn)
 ·exact s3.alt.per.trans (s2.alt.per.trans I.per)
 ·exact s3.alt.now.trans (s2.alt.now.trans I.now)
 ·exact (I.same.trans s2.alt.same).trans s3.alt.same
 ·exact s3.alt.ids.trans (s2.alt.ids.trans I.acc)
 ·have e:Z3.S.l=Z2w Z.S.l A:=l3.trans (l2.trans I.l);rw [Q6T (p:=p) (by rw [<- e];exact hp),<- e];rfl
 ·show pget (Z3.S.doomed x p rv).l 2 y=_;rw [hzm y,hzv y,hlv y];by_cases ey:y=x
  ·subst ey;simp [hA]
  ·by_cases hy:y∈A <;> simp [ey,hy]
 ·show Z3.S.ts++[(x,Z3.S.now+Z3.S.period)]=_;rw [s3.alt.ts,s2.alt.ts,I.ts,s3.alt.now,s2.alt.now,I.now,s3.alt.per,s2.alt.per,I.per];simp
 ·rw [d2];rcases J1h.1 hy with hy|hy
  ·obtain⟨o1,o2⟩:=I.out y hy;have hl13:Lesser Z1.av Z3.av Z.F.next:=e1.trans e3;refine⟨fun s=>hl13.none (o1 s),fun h s c hc=>?_⟩;rcases hl13.en h s with h1|h1
   ·rw [h1] at hc;cases hc
   ·rw [h1] at hc;exact o2 h s c hc
  ·rw [J2z] at hy;subst hy;exact⟨hn,hno⟩
theorem OutH.app {w wr:World} {v:Value} {L:List Nat} (h:OutH w wr v L) (hl:L.length<=16777216) (x:Nat) (ty:TypeId):∃v' w',(Builtin.append_ #[66,66] ty #[v,.slice (some ⟨wr.heap.size,0,none⟩) 1 1]).run prog (wr.alloc (.cells #[.int .u32 x] 27))=.ok v' w'/\OutH w w' v' (L++[x]):=by
 obtain⟨i0,hi,hz0,hz1,hz2⟩:=info_parts Q3f;have h2:=h.below ((Below.refl _ _).alloc (J0t _) (.cells #[.int .u32 x] 27));obtain⟨v',w',hr,q1,q2,_,q4⟩:=run_append_own_at (P:=prog) (wr.alloc (.cells #[.int .u32 x] 27)) w.heap.size 66 ty 27 i0 (.int .u32 0) 1 4 underlying66 hi hz0 hz1 hz2 rfl (by decide) v L.length (Q1i L) h2.1 ⟨wr.heap.size,0,none⟩ 1 1 [.int .u32 x] rfl (by
  intro j u hj;have:=(Cells.new wr 27 [.int .u32 x]).cell j u hj;have e:(⟨wr.heap.size,0,none⟩:Addr).add j=⟨wr.heap.size,j,none⟩:=by unfold Addr.add;split <;> simp_all
  rw [e];exact this) (fun u hu=>by rw [J2z.1 hu];rfl) (by unfold maxLen;omega) (by omega) h2.2.size
 refine⟨v',w',hr,?_,?_⟩
 ·rw [J1d,hands_app];exact q1
 ·exact h2.2.trans ((Below.refl _ _).mono h2.2.size |>.grown q2 h2.2.size (fun b hb=>(h2.1.lt b hb).1))
def Z2x (S:CO) (h:Nat):List Nat:=Q0D S.l S.P.q.next.toNat h++[h]
def Z7l (Z:SP) (fr:List Nat) (N K:Nat) (M:Int) (h:Nat) (w:World) (r:Ending) (w':World):Prop:=
 (pget Z.S.l 1 h=none/\r=.returned (.tuple #[.slice none 0 0,.int .i64 8])/\Below w.heap.size w w') ∨
 (h=0/\r=.returned (.tuple #[.slice none 0 0,.int .i64 1])/\Below w.heap.size w w') ∨
 (h≠0/\(∃p,pget Z.S.l 1 h=some p)/\∃(a:Option Addr) (cap:Nat),r=.returned (.tuple #[.slice a (Z2x Z.S h).length cap,.int .i64 0])/\∃Z',KillI Z fr N K M (Z2x Z.S h) Z'/\Step Z.hl Z'.hl w w'/\Aside Z'.hl (Z2x Z.S h) a w')
theorem Z2y {wr w:World} {Z Z1:SP} {fr:List Nat} {N K:Nat} {M:Int} {A:List Nat} (hK:K<=1048576) (hlz:Z.S.l.length<=256) (I:KillI Z fr N K M A Z1) (st:Step Z.hl Z1.hl w wr) {x:Nat} (hx:x<4294967296) {q:Pl} (hq:pget Z.S.l 1 x=some q) (h0:x≠0) (hA:x∉A) (hk:∀y∈kids Z.S.l x,y∈A) :
  Calls prog 40 #[.pointer (some ⟨Z.s,0,none⟩),.int .u32 x] wr fun r w2=>∃v:Value,r=.returned v /\
   Calls prog 39 #[.pointer (some ⟨Z.s,0,none⟩),.int .u32 x] w2 fun r w3=>∃v:Value,r=.returned v/\w3.cell? ⟨Z.s,0,none⟩=some (.pointer (some ⟨Z.S.c,0,none⟩)) /\
    Calls prog 98 #[.pointer (some ⟨Z.S.c,0,none⟩),.int .u32 x] w3 fun r w4=>∃v:Value,r=.returned v/\∃Z4,KillI Z fr N K M (A++[x]) Z4/\Step Z1.hl Z4.hl wr w4:=by
 have kw:=Z5e st.sep I.ok hx;rw [I.s] at kw;refine kw.mono ?_;rintro r w2 ⟨rfl,Z2,ok2,a2,s2,st2⟩;refine⟨_,rfl,?_⟩;have kp:=Z2v st2.sep ok2 x;rw [s2.s,I.s] at kp;refine kp.mono ?_;rintro r w3 ⟨rfl,Z3,ok3,a3,s3,st3⟩;obtain⟨⟨hp3,hk3⟩,hnext⟩:=I.next (p:=q) hlz hq h0 hA hk ok2 a2 s2 ok3 a3 s3;have hc:=SP.c0 st3.sep;rw [s3.s,s2.s,I.s,s3.alt.c,s2.alt.c,I.c] at hc;refine⟨_,rfl,hc,?_⟩;have kd:=Z6N (SP.sS st3.sep) ok3.core hK hx hp3 h0 hk3;rw [s3.alt.c,s2.alt.c,I.c] at kd;refine kd.mono ?_;rintro r w4 (⟨h1,_⟩|⟨_,h1,_⟩|⟨_,_,h1,_⟩|⟨p,rv,hp,_,_,hov,rfl,st4⟩)
 ·rw [hp3] at h1;cases h1
 ·exact absurd h1 h0
 ·exact absurd hk3 h1
 ·rw [hp3] at hp;cases hp;have I4:=hnext hp3 hov;refine⟨_,rfl,_,I4,?_⟩;exact (st2.trans st3).trans (SP.stepS st3.sep (Z3.S.doomed x q rv) Z3.tb rfl st4)
theorem Z5h {w:World} {Z:SP} {fr:List Nat} {N K:Nat} {M:Int} (hs:Sep w Z.hl) (ok:Z.Ok fr N K M) (hK:K<=1048576) {h:Nat} (hh:h<4294967296) :
  Calls prog 35 #[.pointer (some ⟨Z.s,0,none⟩),.int .u32 h] w (Z7l Z fr N K M h w):=by
 have c0:=SP.c0 hs;cases hp:pget Z.S.l 1 h with
 | none =>
  have ko:=Q4e (SP.sS hs) ok.core.inv.lok hh 0 hp;unfold zobj at ko;have HR:Hid (∀W,Below w.heap.size w W->Z7l Z fr N K M h w (.returned (.tuple #[.slice none 0 0,.int .i64 8])) W):=fun W hb=>.inl ⟨hp,rfl,hb⟩
  clear hs ok hp;go_enter func35,ntmps35;go_wp2_with fail;refine ko.mono ?_;rintro r w2 ⟨rfl,hb2⟩;have HQ:=Q0a (HR.out _ (hb2.alloc hb2.size (.cells #[.int .i64 0,.int .i64 0,.int .i64 0] 69)));clear hb2 HR ko;go_wp2_with fail
  first|exact HQ.out|(go_ret2;exact HQ.out)
 | some p =>
  have ko:=Q4f (SP.sS hs) ok.core.inv.lok hh 0 hp (.inl rfl);unfold Pl.obj at ko;by_cases h0:h=0
  ·subst h0;have HR:Hid (∀W,Below w.heap.size w W->Z7l Z fr N K M 0 w (.returned (.tuple #[.slice none 0 0,.int .i64 1])) W):=fun W hb=>.inr (.inl ⟨rfl,rfl,hb⟩)
   clear hs ok hp;go_enter func35,ntmps35;go_wp2_with fail;refine ko.mono ?_;rintro r w2 ⟨rfl,hb2⟩;have HQ:=Q0a (HR.out _ (hb2.alloc hb2.size (.cells #[.int .i64 (p.kind:Int),.int .i64 (p.at_:Int),.int .i64 (p.fac:Int)] 69)));clear hb2 HR ko;go_wp2_with fail
   first|exact HQ.out|(go_ret2;exact HQ.out)
  ·have HS:=Q0a hs;have HOk:=Q0a ok;have HK:=Q0a hK;have HP:=Q0a hp;have HH0:=Q0a h0;have hb0:(((h:Nat):Int)==0)=false:=by simp;omega
   have HU:Hid (∀W,Below w.heap.size w W->W.cell? ⟨Z.s,0,none⟩=some (.pointer (some ⟨Z.S.c,0,none⟩))/\Calls prog 33 #[.pointer (some ⟨Z.S.c,0,none⟩),.int .u32 h] W (NewHs W (Q0D Z.S.l Z.S.P.q.next.toNat h))):=fun W hb=>by
    have s1:=(hs.grown hb).sep;exact⟨SP.c0 s1,Z1O (SP.sS s1) ok.core hh⟩
   have HRow:=Q0a (Z9e ok.core.inv.tree hp h0);have hul:(Q0D Z.S.l Z.S.P.q.next.toNat h++[h]).length<=256:=by
    have h1:=Z2O ok.core.inv.tree h;rw [Q4b ok.core.inv.tree,J1e,J4G] at h1
    simpa using h1
   have HUl:=Q0a hul;have HLz:Hid (Z.S.l.length<=256):=by show Z.S.l.length<=256;rw [ok.core.inv.len];omega
   clear hs ok hp h0 hK;go_enter func35,ntmps35;go_wp2_with fail;refine ko.mono ?_;rintro r w2 ⟨rfl,hb2⟩;have hb3:=hb2.alloc hb2.size (.cells #[.int .i64 (p.kind:Int),.int .i64 (p.at_:Int),.int .i64 (p.fac:Int)] 69);obtain⟨d0,ku⟩:=HU.out _ hb3;have HB3:=Q0a hb3;clear hb2 hb3 ko HU;go_wp2_with fail;refine ku.mono ?_;rintro r w4 ⟨v4,rfl,hv1,hv2⟩;have hO:OutH (w2.alloc (.cells #[.int .i64 (p.kind:Int),.int .i64 (p.at_:Int),.int .i64 (p.fac:Int)] 69)) w4 v4 (Q0D Z.S.l Z.S.P.q.next.toNat h):=⟨hv1,hv2⟩
   obtain⟨v5,w5,happ,hO5⟩:=hO.app (by have:=HUl.out;rw [J1d] at this;omega) h 66;have hnew:NewHs (w2.alloc (.cells #[.int .i64 (p.kind:Int),.int .i64 (p.at_:Int),.int .i64 (p.fac:Int)] 69)) (Q0D Z.S.l Z.S.P.q.next.toNat h++[h]) (.returned v5) w5:=⟨v5,rfl,hO5.1,hO5.2⟩
   obtain⟨a,cap,e,hb5,has⟩:=hnew.aside (HS.out.grown HB3.out).sep;obtain rfl:v5=.slice a (Q0D Z.S.l Z.S.P.q.next.toNat h++[h]).length cap:=by cases e;rfl
   have HI0:Hid (Step Z.hl Z.hl w w5/\Aside Z.hl (Q0D Z.S.l Z.S.P.q.next.toNat h++[h]) a w5):=⟨HS.out.grown (HB3.out.trans (hb5.mono HB3.out.size)),has⟩
   have HKL:Hid (Z2x Z.S h=Q0D Z.S.l Z.S.P.q.next.toNat h++[h]):=rfl;generalize hL:Q0D Z.S.l Z.S.P.q.next.toNat h++[h]=L at *
   generalize hn:L.length=n at *
   have HN:=Q0a hn;clear hv1 hv2 hO hO5 hnew hb5 has e hul ku d0;go_wp2_with (at_builtin;refine Lib.wpList_append_run _ rfl _ _ _ _ rfl _ _ rfl rfl _ _ happ ?_);clear happ;go_wp2_with fail
   go_loopg [40] n (fun gk iv wr=>∃(k:Nat) (Z1:SP),iv=.int .i64 k/\k+gk=n/\KillI Z fr N K M (L.take k) Z1/\Step Z.hl Z1.hl w wr/\Aside Z1.hl L a wr)
   case atStart=>exact⟨0,Z,rfl,by omega,KillI.start HOk.out,HI0.out.1,HI0.out.2⟩
   case round =>
    obtain⟨k,Z1,rfl,hkg,hI,hst,has⟩:=hrel;have HKg:=Q0a hkg;have HI:=Q0a hI;have HSt:=Q0a hst;have HAs:=Q0a has;by_cases hlt:k<n
    ·obtain⟨x,hx⟩:∃x,L[k]?=some x:=⟨_,J2J (by rw [HN.out];exact hlt)⟩
     obtain⟨g,rfl,_,_,hcx⟩:=has k x hx;have hsplit:L=L.take k++x::L.drop (k+1):=by
      obtain⟨hlt',hg⟩:=J0K.1 hx;rw [<- hg,J1q,J1r]
     obtain⟨q,hq,hx0,hxA,hxk⟩:=HRow.out _ _ _ hsplit;have hx32:x<4294967296:=by
      obtain⟨a1,a2,_⟩:=pget_some.1 hq;have:=(HOk.out.core.inv.lok.2 q (J2G a1)).2;unfold nm at a2;omega
     have kr:=Z2y HK.out HLz.out HI.out HSt.out hx32 hq hx0 hxA hxk;have htk:L.take (k+1)=L.take k++[x]:=by rw [J2o,hx];rfl
     rw [<- htk] at kr;have hki:(k:Int)<(n:Int):=by omega
     have hk0:(0:Int)<=(k:Int):=by omega
     have hkb:(k:Int)<=256:=by have:=HUl.out;omega
     clear hI hst has hkg hx hsplit hq hx0 hxA hxk hx32 htk HI0;go_wp2_with fail;refine kr.mono ?_;rintro r w6 ⟨v6,rfl,k6⟩;have HK6:=Q0a k6;clear k6 kr hcx;go_wp2_with fail;refine HK6.out.mono ?_;rintro r w7 ⟨v7,rfl,d7,k7⟩;have HK7:=Q0a k7;clear k7 HK6;go_wp2_with fail;refine HK7.out.mono ?_;rintro r w8 ⟨v8,rfl,Z4,hI4,hst4⟩;have HX:Hid (KillI Z fr N K M (L.take (k+1)) Z4/\Step Z.hl Z4.hl w w8/\Aside Z4.hl L (some ⟨g,0,none⟩) w8):=⟨hI4,HSt.out.trans hst4,HAs.out.step hst4⟩
     clear hI4 hst4 HK7 d7;go_wp2_with fail;go_roundg (n-(k+1))
     case measure=>have:=HKg.out;omega
     case rel=>exact⟨k+1,Z4,by go_num,by have:=HKg.out;omega,HX.out⟩
    ·obtain rfl:k=n:=by have:=HKg.out;omega
     have HR:Hid (Z7l Z fr N K M h w (.returned (.tuple #[.slice a k cap,.int .i64 0])) wr):=by
      refine .inr (.inr ⟨HH0.out,⟨p,HP.out⟩,a,cap,?_,Z1,?_,hst,?_⟩)
      ·rw [HKL.out,HN.out]
      ·rw [HKL.out,<- J4v (l:=L),HN.out];exact hI
      ·rw [HKL.out];exact has
     clear hI hst has hkg;go_wp2_with fail
     first|exact HR.out|(go_ret2;exact HR.out)
def Z9f (Z:SP) (fr:List Nat) (N K:Nat) (M:Int) (x s h r:Nat) (par:Int) (w w':World):Prop:=∃Z',Z'.Ok fr N K (M+1)/\SameN Z Z'/\Z'.av.en=setA Z.av.en x s (some (h,r))/\(∃b,Z'.av.N=addN Z.F.N par (Z.F.next+1) b (x:Int) (s:Int))/\Z'.F.next=Z.F.next+1/\Step Z.hl Z'.hl w w'
def J0n (Z:SP) (x:Nat) (z:Int) (h:Nat) (r:Int) (er:Int):Prop:=
 (pget Z.S.l 1 x=none/\er=8)∨∃p,pget Z.S.l 1 x=some p/\((p.kind≠2/\er=10)∨(p.kind=2/\((¬(0<=z/\z<256)/\er=2)∨((0<=z/\z<256)/\((pget Z.S.l 1 h=none/\er=8) ∨
  ∃q,pget Z.S.l 1 h=some q/\((¬((0<r/\r<=15)/\(q.kind=8↔128<=z))/\er=1)∨(((0<r/\r<=15)/\(q.kind=8↔128<=z))/\Q0f Z.S.l Z.tb x z.toNat≠none/\er=7)))))))
def RootR (Z:SP) (fr:List Nat) (N K:Nat) (M:Int) (x:Nat) (z:Int) (h:Nat) (r:Int) (w:World) (er:Int) (w':World):Prop:=
 (er≠0/\J0n Z x z h r er/\Below w.heap.size w w') ∨
 ∃(s rn:Nat) (p q:Pl),z=(s:Int)/\r=(rn:Int)/\s<256/\1<=rn/\rn<=15/\pget Z.S.l 1 x=some p/\p.kind=2/\pget Z.S.l 1 h=some q/\(q.kind=8↔128<=s)/\Q0f Z.S.l Z.tb x s=none /\
  ((er=0/\Z9f Z fr N K M x s h rn 0 w w')∨((er=4∨er=5)/\WhyL Z fr p.fac (x%256) s er/\∃P',Tried Z.S.P fr Z.S.l P'/\Step Z.hl (Z.setS (Z.S.setP P') Z.tb).hl w w'))
theorem Z7m {w w5:World} {Z:SP} {fr:List Nat} {N K:Nat} {M:Int} (ok:Z.Ok fr N K M) (hM:M+1<1099511627776) {x s h r:Nat} {p:Pl} (hx:x<4294967296) (hp:pget Z.S.l 1 x=some p) (hk:p.kind=2) (hs2:s<256) (h0:Q0f Z.S.l Z.tb x s=none) {nd:Nat} (hc:Q8g Z.S.l s ⟨h,r,nd⟩)
  {S':CO} {t':TB} (T:TurnP Z.S fr N K Z.tb (p.fac:Int) (x%256) s (some ⟨h,r,nd⟩) S' t') (st:Step Z.hl (Z.setS S' (updT Z.tb (x%256) t')).hl w w5) {par:Int} (hpar:par=0∨∃m em,find Z.F.N par=some m/\Q0E Z.S.l Z.tb m=some em/\h=em.h/\r&&&em.r=r) {w6:World} (hb6:Below w5.heap.size w5 w6) :
  w6.cell? ⟨Z.s,1,none⟩=some (.pointer (some ⟨Z.F.f,0,none⟩))/\Calls prog 79 #[.pointer (some ⟨Z.F.f,0,none⟩),.int .i64 par,.int .i64 x,.int .i64 s] w6 fun rv w'=>rv=.returned (.tuple #[.int .i64 (Z.F.next+1),.int .i64 0])/\Z9f Z fr N K M x s h r par w w':=by
 have st6:=st.trans (st.sep.grown hb6);have hno:=ok.fpi.free ok.fo.n h0;have hfew:=ok.fpi.few ok.fo.n hp hs2 h0;have hpar':par=0∨∃e,find Z.F.N par=some e:=hpar.imp id fun ⟨m,_,h,_⟩=>⟨m,h⟩
 have hnx:=ok.next;refine⟨SP.c1 (Z:=Z.setS S' (updT Z.tb (x%256) t')) st6.sep,(Z0M (SP.sF (Z:=Z.setS S' (updT Z.tb (x%256) t')) st6.sep) ok.fo (par:=par) (sp:=(x:Int)) (sl:=(s:Int)) hpar' (by omega) (by omega) (by omega) (by omega) hno (by show Z.F.next+1<_;omega) hfew).mono ?_⟩;rintro rv w' ⟨rfl,F',A,stf⟩;obtain⟨a1,a2,a3,a4⟩:=ok.added hp hk hs2 h0 hc T hpar A;exact⟨rfl,_,a1,a2,a3,a4,A.next,st6.trans (SP.stepF (Z:=Z.setS S' (updT Z.tb (x%256) t')) st6.sep F' A.f stf)⟩
def J0o (bh:Bool) (no:Int) (br bc bk full:Bool) (er:Int):Prop:=(bh=false/\er=2)∨(bh=true/\no=8/\er=8)∨(bh=true/\no=0/\br=false/\er=1)∨(bh=true/\no=0/\br=true/\(bc==bk)=true/\er=1)∨(bh=true/\no=0/\br=true/\(bc==bk)=false/\full=true/\er=7)
theorem Z5i {bc:Bool} {k:Int} (h:(bc==(k==8))=true):(bc=true/\k=8)∨(bc=false/\(k==8)=false/\decide (k=8)=false):=by
 by_cases hk:k=8
 ·subst hk;left;simpa using h
 ·right;cases bc <;> simp_all
theorem Q8J {bc:Bool} {k:Int} (h:(bc==(k==8))=false):(bc=true/\(k==8)=false/\decide (k=8)=false)∨(bc=false/\k=8):=by
 by_cases hk:k=8
 ·subst hk;right;cases bc <;> simp_all
 ·left;cases bc <;> simp_all
theorem Q6U {w:World} {Z:SP} {fr:List Nat} {N K:Nat} {M:Int} (hs:Sep w Z.hl) (ok:Z.Ok fr N K M) {x h:Nat} (hx:x<4294967296) (hh:h<4294967296) {p:Pl} (hp:pget Z.S.l 1 x=some p) (hk:p.kind=2) (z r:Int) {Q:Int->World->Prop}
  {k0 a0 f0 no:Int} (hOf:∀W,Below w.heap.size w W->Calls prog 30 #[.pointer (some ⟨Z.S.c,0,none⟩),.int .u32 h,.int .i64 0] W (Told W (.tuple #[.agg #[.int .i64 k0,.int .i64 a0,.int .i64 f0],.int .i64 no])))
  (hcase:(∃er,J0o (decide (0<=z/\z<256)) no (decide (0<r/\r<=15)) (decide (z<128)) (k0==8) ((Z.tb (x%256)).at' z).isSome er/\∀W,Below w.heap.size w W->Q er W) ∨
   (decide (0<=z/\z<256)=true/\no=0/\decide (0<r/\r<=15)=true/\(decide (z<128)==(k0==8))=false/\((Z.tb (x%256)).at' z).isSome=false /\
    ∀W g,Below w.heap.size w W->TblZ Z p g W->Calls prog 78 #[.pointer (some ⟨Z.s,0,none⟩),.agg #[.pointer (some ⟨g,0,none⟩),.int .u32 x,.int .i64 (p.fac:Int)],.int .i64 z,.agg #[.int .u32 h,.int .i64 r]] W fun rv w5=>∃er:Int,rv=.returned (.int .i64 er) /\
     ((er≠0/\Q er w5)∨(er=0/\w5.cell? ⟨Z.s,1,none⟩=some (.pointer (some ⟨Z.F.f,0,none⟩))/\Calls prog 79 #[.pointer (some ⟨Z.F.f,0,none⟩),.int .i64 0,.int .i64 x,.int .i64 z] w5 fun rv w'=>(∃a b:Value,rv=.returned (.tuple #[a,b]))/\Q 0 w')))) :
  Calls prog 18 #[.pointer (some ⟨Z.s,0,none⟩),.int .u32 x,.int .i64 z,.agg #[.int .u32 h,.int .i64 r]] w fun rv w'=>∃er:Int,rv=.returned (.int .i64 er)/\Q er w':=by
 have b1:Below w.heap.size w (w.alloc (.cells #[.int .u32 h,.int .i64 r] 35)):=(Below.refl _ _).alloc (J0t _) _;have s1:=(hs.grown b1).sep;have ks:=Q0X s1 ok.core hx hp hk;have hi:=(pget_some.1 hp).1;have hst:=(pget_some.1 hp).2.2;obtain⟨ca,cb,hcv⟩:=Q4J ((Z.tb (x%256)).at' z);have hat:(Z.tb (x%256)).at' z=if 0<=z/\z<256 then Q0f Z.S.l Z.tb x z.toNat else none:=by
  unfold TB.at';split
  ·rename_i h;rw [Q0i hp hk (by omega)]
  ·rfl
 have HCap:Hid (∀W g,Below w.heap.size w W->TblZ Z p g W->Calls prog 74 #[.agg #[.pointer (some ⟨g,0,none⟩),.int .u32 x,.int .i64 (p.fac:Int)],.int .i64 z] W (Told W (.tuple #[.agg #[.int .u32 ca,.int .i64 cb],.bool ((Z.tb (x%256)).at' z).isSome]))):=fun W g hb hg=>by
  have T:=(ok.tpi.x (p.fac:Int)).tt ok.core hi hst hk (SP.sS (hs.grown hb).sep) hg.c;have:=Q1r T (x:Int) (p.fac:Int) z fun e he'=>by
   rw [hat] at he';split at he'
   ·exact ok.fpi.low ok.core.inv.lok he'
   ·cases he'
  rwa [hcv] at this
 -- the worlds,one behind the other
 have HW2:Hid (∀(w2:World) (g:Nat),Below (w.alloc (.cells #[.int .u32 h,.int .i64 r] 35)).heap.size (w.alloc (.cells #[.int .u32 h,.int .i64 r] 35)) w2->TblZ Z p g w2->∀W,Below (w2.alloc (.cells #[.pointer (some ⟨g,0,none⟩),.int .u32 x,.int .i64 (p.fac:Int)] 155)).heap.size (w2.alloc (.cells #[.pointer (some ⟨g,0,none⟩),.int .u32 x,.int .i64 (p.fac:Int)] 155)) W ->
   Below w.heap.size w W/\TblZ Z p g W/\W.cell? ⟨Z.s,0,none⟩=some (.pointer (some ⟨Z.S.c,0,none⟩))/\W.cell? ⟨w.heap.size,0,none⟩=some (.int .u32 h)/\W.cell? ⟨w.heap.size,1,none⟩=some (.int .i64 r)/\W.cell? ⟨w2.heap.size,0,none⟩=some (.pointer (some ⟨g,0,none⟩))/\W.cell? ⟨w2.heap.size,1,none⟩=some (.int .u32 x)/\W.cell? ⟨w2.heap.size,2,none⟩=some (.int .i64 (p.fac:Int))):=fun w2 g hb2 hg W hbW=>by
  have hb2':Below w.heap.size w w2:=Q0e hb2;have s2:=(hs.grown hb2').sep;have hb3:Below w2.heap.size w2 W:=Q0e hbW;have hbw:Below w.heap.size w W:=hb2'.trans (hb3.mono hb2'.size);have h7:=((Cells.new w 35 [.int .u32 h,.int .i64 r]).same (hb2.block w.heap.size (by simp))).same (hb3.block w.heap.size (by have:=hb2.size;simp at this;omega));have h9:=(Cells.new w2 155 [.pointer (some ⟨g,0,none⟩),.int .u32 x,.int .i64 (p.fac:Int)]).same (hbW.block w2.heap.size (by simp));exact⟨hbw,hg.grown s2 hb3,SP.c0 (hs.grown hbw).sep,h7.cell 0 _ rfl,h7.cell 1 _ rfl,h9.cell 0 _ rfl,h9.cell 1 _ rfl,h9.cell 2 _ rfl⟩
 have HOf:=Q0a hOf;have HCase:=Q0a hcase;have HHas:Hid (∀W,Calls prog 75 #[.int .i64 z] W fun r w'=>r=.returned (.bool (decide (0<=z/\z<256)))/\W=w'):=fun W=>Q3l W z
 have HRight:Hid (∀W,Calls prog 76 #[.int .i64 r] W fun r' w'=>r'=.returned (.bool (decide (0<r/\r<=15)))/\W=w'):=fun W=>Q3m W r
 have HCaps:Hid (∀W,Calls prog 77 #[.int .i64 z] W fun r w'=>r=.returned (.bool (decide (z<128)))/\W=w'):=fun W=>Q2S W z
 have hx0:(0:Int)<=(x:Int):=by omega
 have hx1:(x:Int)<4294967296:=by omega
 have hwx:IntKind.i64.wrap (x:Int)=(x:Int):=Go.IntWalk.i64_in _ (by omega);generalize ((Z.tb (x%256)).at' z).isSome=full at *
 generalize decide (0<=z/\z<256)=bh at *
 generalize decide (0<r/\r<=15)=br at *
 generalize decide (z<128)=bc at *
 clear hs ok hx hh hp hk hi hst hcv hat hOf hcase b1 s1;go_enter func18,ntmps18;go_wp2_with fail;refine ks.mono ?_;rintro rv w2 ⟨g,rfl,hb2,hg⟩;have HW:=Q0a (HW2.out w2 g hb2 hg);have HS:Hid (∀W,Below (w2.alloc (.cells #[.pointer (some ⟨g,0,none⟩),.int .u32 x,.int .i64 (p.fac:Int)] 155)).heap.size (w2.alloc (.cells #[.pointer (some ⟨g,0,none⟩),.int .u32 x,.int .i64 (p.fac:Int)] 155)) W->W.cell? ⟨Z.s,0,none⟩=some (.pointer (some ⟨Z.S.c,0,none⟩))/\W.cell? ⟨w.heap.size,0,none⟩=some (.int .u32 h)):=fun W hb=>⟨(HW.out W hb).2.2.1,(HW.out W hb).2.2.2.1⟩
 have HK:Hid (∀W,Below (w2.alloc (.cells #[.pointer (some ⟨g,0,none⟩),.int .u32 x,.int .i64 (p.fac:Int)] 155)).heap.size (w2.alloc (.cells #[.pointer (some ⟨g,0,none⟩),.int .u32 x,.int .i64 (p.fac:Int)] 155)) W->Calls prog 30 #[.pointer (some ⟨Z.S.c,0,none⟩),.int .u32 h,.int .i64 0] W fun r w4=>r=.returned (.tuple #[.agg #[.int .i64 k0,.int .i64 a0,.int .i64 f0],.int .i64 no])/\Below (w2.alloc (.cells #[.pointer (some ⟨g,0,none⟩),.int .u32 x,.int .i64 (p.fac:Int)] 155)).heap.size (w2.alloc (.cells #[.pointer (some ⟨g,0,none⟩),.int .u32 x,.int .i64 (p.fac:Int)] 155)) w4):=fun W hb=>(HOf.out W (HW.out W hb).1).mono fun r w4 h=>⟨h.1,hb.trans (h.2.mono hb.size)⟩
 have HBA:Hid (∀W,Below (w2.alloc (.cells #[.pointer (some ⟨g,0,none⟩),.int .u32 x,.int .i64 (p.fac:Int)] 155)).heap.size (w2.alloc (.cells #[.pointer (some ⟨g,0,none⟩),.int .u32 x,.int .i64 (p.fac:Int)] 155)) W->∀o,Below (w2.alloc (.cells #[.pointer (some ⟨g,0,none⟩),.int .u32 x,.int .i64 (p.fac:Int)] 155)).heap.size (w2.alloc (.cells #[.pointer (some ⟨g,0,none⟩),.int .u32 x,.int .i64 (p.fac:Int)] 155)) (W.alloc o)):=fun W hb o=>hb.alloc hb.size o
 obtain⟨-,-,c0,q0,-,-,-,-⟩:=HW.out _ (Below.refl _ _);have HOA:Hid (∀W,Below (w2.alloc (.cells #[.pointer (some ⟨g,0,none⟩),.int .u32 x,.int .i64 (p.fac:Int)] 155)).heap.size (w2.alloc (.cells #[.pointer (some ⟨g,0,none⟩),.int .u32 x,.int .i64 (p.fac:Int)] 155)) W->Calls prog 30 #[.pointer (some ⟨Z.S.c,0,none⟩),.int .u32 h,.int .i64 0] W (Told W (.tuple #[.agg #[.int .i64 k0,.int .i64 a0,.int .i64 f0],.int .i64 no]))):=fun W hb=>HOf.out W (HW.out W hb).1
 clear hb2 hg HW2 ks HOf;go_upto_region 4 with fail
 go_cut [11,12] from 16 to 34 (fun o nn wc=>∃b:Nat,o=.pointer (some ⟨b,0,none⟩)/\nn=.int .i64 no/\Below (w2.alloc (.cells #[.pointer (some ⟨g,0,none⟩),.int .u32 x,.int .i64 (p.fac:Int)] 155)).heap.size (w2.alloc (.cells #[.pointer (some ⟨g,0,none⟩),.int .u32 x,.int .i64 (p.fac:Int)] 155)) wc/\b<wc.heap.size/\wc.cell? ⟨b,0,none⟩=some (.int .i64 k0))
 case first =>
  generalize (w2.alloc (.cells #[.pointer (some ⟨g,0,none⟩),.int .u32 x,.int .i64 (p.fac:Int)] 155))=W3 at *
  clear HW HCap HCase HHas HRight HCaps;have cD:W3.drew.cell? ⟨Z.s,0,none⟩=some (.pointer (some ⟨Z.S.c,0,none⟩)):=c0;have qD:W3.drew.cell? ⟨w.heap.size,0,none⟩=some (.int .u32 h):=q0;have HKA:Hid (Calls prog 30 #[.pointer (some ⟨Z.S.c,0,none⟩),.int .u32 h,.int .i64 0] (W3.alloc (.cells #[.int .i64 0,.int .i64 0,.int .i64 0] 69)).drew fun r w4=>r=.returned (.tuple #[.agg #[.int .i64 k0,.int .i64 a0,.int .i64 f0],.int .i64 no])/\Below W3.heap.size W3 w4/\Cells w4 W3.heap.size 69 [.int .i64 0,.int .i64 0,.int .i64 0]):=
   (HOA.out _ (HBA.out _ (Below.refl _ _).drew _)).mono fun r w4 h=>⟨h.1,((HBA.out _ (Below.refl _ _).drew _)).trans (h.2.mono (by simp)),(Cells.new W3 69 [.int .i64 0,.int .i64 0,.int .i64 0]).same (h.2.block _ (by simp))⟩
  have HD:Hid (Below W3.heap.size W3 W3.drew):=(Below.refl _ _).drew
  go_region_held3 (fun w'=>w'.cell? ⟨Z.s,0,none⟩=some (.pointer (some ⟨Z.S.c,0,none⟩))/\w'.cell? ⟨w.heap.size,0,none⟩=some (.int .u32 h))
   (first|exact⟨c0,q0⟩|exact⟨cD,qD⟩|exact HS.out _ (HBA.out _ HD.out _)|exact HS.out _ HB4.out|exact HS.out _ (HBA.out _ HB4.out _)|exact HS.out _ (HB4.out.setCell (by simp) _)|exact HS.out _ ((HB4.out.setCell (by simp) _).setCell (by simp) _)|exact HS.out _ (((HB4.out.setCell (by simp) _).setCell (by simp) _).setCell (by simp) _))
   (first|(go_at_call 30;refine HKA.out.mono ?_;rintro rv w4 ⟨rfl,hb4,hc4⟩;have HB4:=Q0a hb4;have z0:=hc4.cell 0 _ rfl;have z1:=hc4.cell 1 _ rfl;have z2:=hc4.cell 2 _ rfl;have y0:=hc4.free 0;have y1:=hc4.free 1;have y2:=hc4.free 2;have HC4:=Q0a hc4;clear hb4 hc4)|(go_at_call 30;refine (HK.out _ (by first|exact HD.out|exact HBA.out _ HD.out _)).mono ?_;rintro rv w4 ⟨rfl,hb4⟩;have HB4:=Q0a hb4;clear hb4))
  ·go_wp2_with fail;go_meet;exact⟨_,rfl,rfl,HBA.out _ HB4.out _,by simp,(Cells.new w4 69 [.int .i64 k0,.int .i64 a0,.int .i64 f0]).cell 0 _ rfl⟩
  ·go_wp2_with fail;go_meet;exact⟨_,rfl,rfl,((HB4.out.setCell (by simp) _).setCell (by simp) _).setCell (by simp) _,by simpa using HC4.out.lt,(((HC4.out.set 0 (.int .i64 k0)).set 1 (.int .i64 a0)).set 2 (.int .i64 f0)).cell 0 _ rfl⟩
 obtain⟨bo,rfl,rfl,hb4,hlt,hk0⟩:=hcut;have h5:=HW.out wc hb4;obtain⟨hb5,hg5,-,-,-,u0,u1,u2⟩:=h5;have kc:=HCap.out _ g hb5 hg5;have HK0:=Q0a hk0;have HB4:=Q0a hb4;have HW5:Hid (∀W,Below wc.heap.size wc W->(Below w.heap.size w W/\TblZ Z p g W/\W.cell? ⟨Z.s,0,none⟩=some (.pointer (some ⟨Z.S.c,0,none⟩))/\W.cell? ⟨w.heap.size,0,none⟩=some (.int .u32 h)/\W.cell? ⟨w.heap.size,1,none⟩=some (.int .i64 r)/\W.cell? ⟨w2.heap.size,0,none⟩=some (.pointer (some ⟨g,0,none⟩))/\W.cell? ⟨w2.heap.size,1,none⟩=some (.int .u32 x)/\W.cell? ⟨w2.heap.size,2,none⟩=some (.int .i64 (p.fac:Int)))/\W.cell? ⟨bo,0,none⟩=some (.int .i64 k0)):=fun W hb=>⟨HW.out W (HB4.out.trans (hb.mono HB4.out.size)),(hb.cell (p:=⟨bo,0,none⟩) hlt).trans HK0.out⟩
 clear hb4 hb5 hg5 hlt hk0 HCap HW HS HK HBA HOA c0 q0;go_wp2_with fail;refine kc.mono ?_;rintro rv w6 ⟨rfl,hb6⟩;go_wp2_with fail;generalize hW7:(w6.alloc (.cells #[.int .u32 ca,.int .i64 cb] 35))=w7;have hb7:Below wc.heap.size wc w7:=by rw [<- hW7];exact hb6.alloc hb6.size _
 have HW7:Hid (∀n,(Below w.heap.size w (w7.drewN n)/\TblZ Z p g (w7.drewN n)/\(w7.drewN n).cell? ⟨Z.s,0,none⟩=some (.pointer (some ⟨Z.S.c,0,none⟩))/\(w7.drewN n).cell? ⟨w.heap.size,0,none⟩=some (.int .u32 h)/\(w7.drewN n).cell? ⟨w.heap.size,1,none⟩=some (.int .i64 r)/\(w7.drewN n).cell? ⟨w2.heap.size,0,none⟩=some (.pointer (some ⟨g,0,none⟩))/\(w7.drewN n).cell? ⟨w2.heap.size,1,none⟩=some (.int .u32 x)/\(w7.drewN n).cell? ⟨w2.heap.size,2,none⟩=some (.int .i64 (p.fac:Int)))/\(w7.drewN n).cell? ⟨bo,0,none⟩=some (.int .i64 k0)):=fun n=>HW5.out _ (Q0S hb7 n)
 have HB7:Hid (Below w.heap.size w w7):=(HW7.out 0).1.1;have q1:w7.cell? ⟨w.heap.size,1,none⟩=some (.int .i64 r):=(HW7.out 0).1.2.2.2.2.1;have k8:w7.cell? ⟨bo,0,none⟩=some (.int .i64 k0):=(HW7.out 0).2;have HRQ:Hid (∀n,Calls prog 76 #[.int .i64 r] (w7.drewN n) fun e w''=>e=.returned (.bool br)/\∃m,w''=w7.drewN m):=fun n=>(HRight.out _).mono fun e w' h=>⟨h.1,n,h.2.symm⟩
 have HCQ:Hid (∀n,Calls prog 77 #[.int .i64 z] (w7.drewN n) fun e w''=>e=.returned (.bool bc)/\∃m,w''=w7.drewN m):=fun n=>(HCaps.out _).mono fun e w' h=>⟨h.1,n,h.2.symm⟩
 have kh:=HHas.out w7;clear hW7 hb7 hb6 kc u0 u1 u2 HW5 HRight HCaps HHas HB4 HK0;rcases HCase.out with ⟨er,hT,hQ⟩|⟨rfl,rfl,rfl,hbk,rfl,hl⟩
 ·have HQ:=Q0a hQ;clear hQ HCase;rcases hT with ⟨rfl,rfl⟩|⟨rfl,rfl,rfl⟩|⟨rfl,rfl,rfl,rfl⟩|⟨rfl,rfl,rfl,hbk,rfl⟩|⟨rfl,rfl,rfl,hbk,rfl,rfl⟩
  ·refine kh.mono ?_;rintro rv w' ⟨rfl,rfl⟩;go_wp2_with fail
   first|exact⟨_,rfl,HQ.out _ HB7.out⟩|(go_ret;exact⟨_,rfl,HQ.out _ HB7.out⟩)
  ·refine kh.mono ?_;rintro rv w' ⟨rfl,rfl⟩;go_wp2_with fail
   first|exact⟨_,rfl,HQ.out _ HB7.out⟩|(go_ret;exact⟨_,rfl,HQ.out _ HB7.out⟩)
  ·refine kh.mono ?_;rintro rv w' ⟨rfl,rfl⟩;go_wp2_with fail
   go_quiet ((go_at_call 76;exact HRQ.out _))
   go_wp2_with fail
   first|exact⟨_,rfl,HQ.out _ (HW7.out _).1.1⟩|(go_ret;exact⟨_,rfl,HQ.out _ (HW7.out _).1.1⟩)
  ·have hc:=Z5i hbk;clear hbk;rcases hc with ⟨rfl,rfl⟩|⟨rfl,hk8,hk9⟩
   ·refine kh.mono ?_;rintro rv w' ⟨rfl,rfl⟩;go_wp2_with fail
    go_quiet (first|(go_at_call 76;exact HRQ.out _)|(go_at_call 77;exact HCQ.out _))
    go_wp2_with fail
    first|exact⟨_,rfl,HQ.out _ (HW7.out _).1.1⟩|(go_ret;exact⟨_,rfl,HQ.out _ (HW7.out _).1.1⟩)
   ·refine kh.mono ?_;rintro rv w' ⟨rfl,rfl⟩;go_wp2_with fail
    go_quiet (first|(go_at_call 76;exact HRQ.out _)|(go_at_call 77;exact HCQ.out _))
    go_wp2_with fail
    first|exact⟨_,rfl,HQ.out _ (HW7.out _).1.1⟩|(go_ret;exact⟨_,rfl,HQ.out _ (HW7.out _).1.1⟩)
  ·have hc:=Q8J hbk;clear hbk;rcases hc with ⟨rfl,hk8,hk9⟩|⟨rfl,rfl⟩
   ·refine kh.mono ?_;rintro rv w' ⟨rfl,rfl⟩;go_wp2_with fail
    go_quiet (first|(go_at_call 76;exact HRQ.out _)|(go_at_call 77;exact HCQ.out _))
    go_wp2_with fail
    first|exact⟨_,rfl,HQ.out _ (HW7.out _).1.1⟩|(go_ret;exact⟨_,rfl,HQ.out _ (HW7.out _).1.1⟩)
   ·refine kh.mono ?_;rintro rv w' ⟨rfl,rfl⟩;go_wp2_with fail
    go_quiet (first|(go_at_call 76;exact HRQ.out _)|(go_at_call 77;exact HCQ.out _))
    go_wp2_with fail
    first|exact⟨_,rfl,HQ.out _ (HW7.out _).1.1⟩|(go_ret;exact⟨_,rfl,HQ.out _ (HW7.out _).1.1⟩)
 ·have HLn:=Q0a (fun n=>hl (w7.drewN n) g (HW7.out n).1.1 (HW7.out n).1.2.1);obtain⟨⟨-,-,-,q0,-,v0,v1,v2⟩,-⟩:=HW7.out 0;have q0:w7.cell? ⟨w.heap.size,0,none⟩=some (.int .u32 h):=q0;have v0:w7.cell? ⟨w2.heap.size,0,none⟩=some (.pointer (some ⟨g,0,none⟩)):=v0;have v1:w7.cell? ⟨w2.heap.size,1,none⟩=some (.int .u32 x):=v1;have v2:w7.cell? ⟨w2.heap.size,2,none⟩=some (.int .i64 (p.fac:Int)):=v2;clear hl HCase;have hc:=Q8J hbk;clear hbk;rcases hc with ⟨rfl,hk8,hk9⟩|⟨rfl,rfl⟩
  ·refine kh.mono ?_;rintro rv w' ⟨rfl,rfl⟩;go_wp2_with fail
   go_quiet (first|(go_at_call 76;exact HRQ.out _)|(go_at_call 77;exact HCQ.out _))
   go_wp2_with fail;refine (HLn.out _).mono ?_;rintro rv w5 ⟨er,rfl,⟨hne,hq⟩|⟨rfl,cs1,hadd⟩⟩
   ·have hne2:(er != 0)=true:=by simp [hne]
    have HQ:=Q0a hq;clear hq;go_wp2_with fail
    first|exact⟨_,rfl,HQ.out⟩|(go_ret;exact⟨_,rfl,HQ.out⟩)
   ·have HAdd:=Q0a hadd;clear hadd;go_wp2_with fail;refine HAdd.out.mono ?_;rintro rv w8 ⟨⟨ra,rb,rfl⟩,hq⟩;have HQ:=Q0a hq;clear hq;go_wp2_with fail
    first|exact⟨_,rfl,HQ.out⟩|(go_ret;exact⟨_,rfl,HQ.out⟩)
  ·refine kh.mono ?_;rintro rv w' ⟨rfl,rfl⟩;go_wp2_with fail
   go_quiet (first|(go_at_call 76;exact HRQ.out _)|(go_at_call 77;exact HCQ.out _))
   go_wp2_with fail;refine (HLn.out _).mono ?_;rintro rv w5 ⟨er,rfl,⟨hne,hq⟩|⟨rfl,cs1,hadd⟩⟩
   ·have hne2:(er != 0)=true:=by simp [hne]
    have HQ:=Q0a hq;clear hq;go_wp2_with fail
    first|exact⟨_,rfl,HQ.out⟩|(go_ret;exact⟨_,rfl,HQ.out⟩)
   ·have HAdd:=Q0a hadd;clear hadd;go_wp2_with fail;refine HAdd.out.mono ?_;rintro rv w8 ⟨⟨ra,rb,rfl⟩,hq⟩;have HQ:=Q0a hq;clear hq;go_wp2_with fail
    first|exact⟨_,rfl,HQ.out⟩|(go_ret;exact⟨_,rfl,HQ.out⟩)
theorem Z5j {l:List Pl} (lok:LOk l) {s h:Nat} {q:Pl} (hq:pget l s h=some q):h<4294967295:=by
 have h1:=pget_some.1 hq;have h2:=lok.2 q (Q1h hq);have:nm (h%256) q=h:=h1.2.1;unfold nm at this;omega
theorem Q6V {w:World} {s x h:Nat} {z r e:Int} (he:e≠0) (hS:Calls prog 73 #[.pointer (some ⟨s,0,none⟩),.int .u32 x] (w.alloc (.cells #[.int .u32 h,.int .i64 r] 35)) (Told (w.alloc (.cells #[.int .u32 h,.int .i64 r] 35)) (.tuple #[.agg #[.pointer none,.int .u32 0,.int .i64 0],.int .i64 e]))) :
  Calls prog 18 #[.pointer (some ⟨s,0,none⟩),.int .u32 x,.int .i64 z,.agg #[.int .u32 h,.int .i64 r]] w (Told w (.int .i64 e)):=by
 have hnb:(e != 0)=true:=by simpa using he
 have HB:Hid (∀w1,Below (w.alloc (.cells #[.int .u32 h,.int .i64 r] 35)).heap.size (w.alloc (.cells #[.int .u32 h,.int .i64 r] 35)) w1->∀o,Below w.heap.size w (w1.alloc o)):=fun w1 hb o=>(Q0e hb).alloc (Q0e hb).size o
 go_enter func18,ntmps18;go_wp2_with fail;refine hS.mono ?_;rintro rv w1 ⟨rfl,hb⟩;have HW:=Q0a (HB.out w1 hb);clear hb HB hS;go_wp2_with fail
 first|exact⟨rfl,HW.out _⟩|(go_ret;exact⟨rfl,HW.out _⟩)
theorem Q8K {w:World} {Z:SP} {fr:List Nat} {N K:Nat} {M:Int} (hs:Sep w Z.hl) (ok:Z.Ok fr N K M) (hM:M+1<1099511627776) {x h:Nat} (hx:x<4294967296) (hh:h<4294967296) (z r:Int) :
  Calls prog 18 #[.pointer (some ⟨Z.s,0,none⟩),.int .u32 x,.int .i64 z,.agg #[.int .u32 h,.int .i64 r]] w fun rv w'=>∃er:Int,rv=.returned (.int .i64 er)/\RootR Z fr N K M x z h r w er w':=by
 have s1:=(hs.grown ((Below.refl w.heap.size w).alloc (J0t _) (.cells #[.int .u32 h,.int .i64 r] 35))).sep;cases hp:pget Z.S.l 1 x with
 | none =>
  refine (Q6V (e:=8) (by decide) (Q0K s1 ok.core hx 8 (.inl ⟨hp,rfl⟩))).mono ?_;rintro rv w' ⟨rfl,hb⟩;exact⟨_,rfl,.inl ⟨by decide,.inl ⟨hp,rfl⟩,hb⟩⟩
 | some p =>
  by_cases hk:p.kind=2
  case neg =>
   refine (Q6V (e:=10) (by decide) (Q0K s1 ok.core hx 10 (.inr ⟨p,hp,hk,rfl⟩))).mono ?_;rintro rv w' ⟨rfl,hb⟩;exact⟨_,rfl,.inl ⟨by decide,.inr ⟨p,hp,.inl ⟨hk,rfl⟩⟩,hb⟩⟩
  clear s1;cases hq:pget Z.S.l 1 h with
  | none =>
   refine Q6U hs ok hx hh hp hk z r (k0:=0) (a0:=0) (f0:=0) (no:=8) (fun W hb=>Q4e (SP.sS (hs.grown hb).sep) ok.core.inv.lok hh 0 hq) (.inl ?_);by_cases hz:0<=z/\z<256
   ·exact⟨8,.inr (.inl ⟨by simpa using hz,rfl,rfl⟩),fun W hb=>.inl ⟨by decide,.inr ⟨p,hp,.inr ⟨hk,.inr ⟨hz,.inl ⟨hq,rfl⟩⟩⟩⟩,hb⟩⟩
   ·exact⟨2,.inl ⟨decide_eq_false hz,rfl⟩,fun W hb=>.inl ⟨by decide,.inr ⟨p,hp,.inr ⟨hk,.inl ⟨hz,rfl⟩⟩⟩,hb⟩⟩
  | some q =>
   refine Q6U hs ok hx hh hp hk z r (k0:=(q.kind:Int)) (a0:=(q.at_:Int)) (f0:=(q.fac:Int)) (no:=0) (fun W hb=>Q4f (SP.sS (hs.grown hb).sep) ok.core.inv.lok hh 0 hq (.inl rfl)) ?_;by_cases hz:0<=z/\z<256
   case neg=>exact .inl ⟨2,.inl ⟨decide_eq_false hz,rfl⟩,fun W hb=>.inl ⟨by decide,.inr ⟨p,hp,.inr ⟨hk,.inl ⟨hz,rfl⟩⟩⟩,hb⟩⟩
   have hdz:decide (0<=z/\z<256)=true:=decide_eq_true hz;by_cases hr:0<r/\r<=15
   case neg=>exact .inl ⟨1,.inr (.inr (.inl ⟨hdz,rfl,decide_eq_false hr,rfl⟩)),fun W hb=>.inl ⟨by decide,.inr ⟨p,hp,.inr ⟨hk,.inr ⟨hz,.inr ⟨q,hq,.inl ⟨fun hc=>hr hc.1,rfl⟩⟩⟩⟩⟩,hb⟩⟩
   have hdr:decide (0<r/\r<=15)=true:=decide_eq_true hr;by_cases hm:(q.kind=8↔128<=z)
   case neg =>
    refine .inl ⟨1,.inr (.inr (.inr (.inl ⟨hdz,rfl,hdr,?_,rfl⟩))),fun W hb=>.inl ⟨by decide,.inr ⟨p,hp,.inr ⟨hk,.inr ⟨hz,.inr ⟨q,hq,.inl ⟨fun hc=>hm hc.2,rfl⟩⟩⟩⟩⟩,hb⟩⟩;by_cases h8:q.kind=8
    ·have h9:z<128:=by have:¬128<=z:=fun h=>hm ⟨fun _=>h,fun _=>h8⟩;omega
     simp [h8,h9]
    ·have h9:¬z<128:=by intro h;exact hm ⟨fun h'=>absurd h' h8,fun h'=>by omega⟩
     have h10:¬(q.kind:Int)=8:=by omega
     simp [h9,h10]
   have hdm:(decide (z<128)==((q.kind:Int)==8))=false:=by
    by_cases h8:q.kind=8
    ·have h9:¬z<128:=by have:=hm.1 h8;omega
     simp [h8,h9]
    ·have h9:z<128:=by have:¬128<=z:=fun h=>h8 (hm.2 h);omega
     have h10:¬(q.kind:Int)=8:=by omega
     simp [h9,h10]
   obtain⟨s,rfl⟩:∃s:Nat,z=(s:Int):=⟨z.toNat,by omega⟩
   obtain⟨rn,rfl⟩:∃rn:Nat,r=(rn:Int):=⟨r.toNat,by omega⟩
   have hs2:s<256:=by omega
   have hat:(Z.tb (x%256)).at' (s:Int)=Q0f Z.S.l Z.tb x s:=by
    unfold TB.at';rw [if_pos hz,Q0i hp hk (by omega)];rfl
   cases h0:Q0f Z.S.l Z.tb x s with
   | some e0 =>
    refine .inl ⟨7,.inr (.inr (.inr (.inr ⟨hdz,rfl,hdr,hdm,by rw [hat,h0];rfl,rfl⟩))),fun W hb=>.inl ⟨by decide,.inr ⟨p,hp,.inr ⟨hk,.inr ⟨hz,.inr ⟨q,hq,.inr ⟨⟨hr,hm⟩,?_,rfl⟩⟩⟩⟩⟩,hb⟩⟩;rw [J1x,h0];exact Option.some_ne_none _
   | none =>
    refine .inr ⟨hdz,rfl,hdr,hdm,by rw [hat,h0];rfl,fun W g hb hg=>?_⟩;have hi:=(pget_some.1 hp).1;have hst:=(pget_some.1 hp).2.2;have h0':(Z.tb (x%256)).en s=none:=by rw [<- Q0i hp hk hs2];exact h0
    have hm':(q.kind=8↔128<=s):=by rw [hm];omega
    have hlow:h<4294967295:=Z5j ok.core.inv.lok hq;refine (Z0P (hs.grown hb).sep ok.core ok.tpi (x:=x) hi hst hk hs2 h0' hlow (by omega:rn<16) hg).mono ?_;rintro rv w5 ⟨er,rfl,⟨rfl,nd,S',t',T,st⟩|⟨he,hwhy,P',tr,st⟩⟩
    ·have hcap:Q8g Z.S.l s ⟨h,rn,nd⟩:=⟨⟨q,hq,hm'⟩,by dsimp only;omega⟩
     obtain⟨c1,k⟩:=Z7m ok hM hx hp hk hs2 h0 hcap T ((hs.grown hb).trans st) (par:=0) (.inl rfl) (Below.refl _ _);refine⟨0,rfl,.inr ⟨rfl,c1,k.mono ?_⟩⟩;rintro rv w' ⟨rfl,PZ⟩;exact⟨⟨_,_,rfl⟩,.inr ⟨s,rn,p,q,rfl,rfl,hs2,by omega,by omega,hp,hk,hq,hm',h0,.inl ⟨rfl,PZ⟩⟩⟩
    ·exact⟨er,rfl,.inl ⟨by omega,.inr ⟨s,rn,p,q,rfl,rfl,hs2,by omega,by omega,hp,hk,hq,hm',h0,.inr ⟨he,hwhy,P',tr,(hs.grown hb).trans st⟩⟩⟩⟩
section
variable {Z:SP} {fr fr':List Nat} {N K:Nat} {M:Int}
end
end Go.Proofs.YtlakjlmaboioiaaGreatDoor
namespace Go.Proofs.YtlakjlmaboioiaaGreatDoor
open Go.ChangeShapes Go.WideShapes Go.ChangeAt Go.RowKit Go.Deep Go.Proofs.Tryz
abbrev I64 (x:Int):Prop:=-9223372036854775808<=x/\x<=9223372036854775807
structure Mv where
 src:Int
 dst:Int
 r:Int
 g:Bool
def Mv.cells (x:Mv):List Value:=[.int .i64 x.src,.int .i64 x.dst,.int .i64 x.r,.bool x.g]
structure Mv.Wf (x:Mv):Prop where
 src:I64 x.src
 dst:I64 x.dst
 r:I64 x.r
structure It where
 base:Int
 order:Int
 r:Int
 off:Int
 g:Bool
def It.cells (x:It):List Value:=[.int .i64 x.base,.int .i64 x.order,.int .i64 x.r,.int .i64 x.off,.bool x.g]
structure It.Wf (x:It):Prop where
 base:I64 x.base
 order:I64 x.order
 r:I64 x.r
 off:I64 x.off
structure Wi where
 base:Int
 order:Int
def Wi.cells (x:Wi):List Value:=[.int .i64 x.base,.int .i64 x.order]
structure Wi.Wf (x:Wi):Prop where
 base:I64 x.base
 order:I64 x.order
def IsMv (w:World) (a0:Option Addr) (len:Nat) (A:Nat->Mv):Prop:=∀j,j<len->∃g off,a0=some ⟨g,off,none⟩/\g<w.heap.size/\(∀(i:Nat) (v:Value),(A j).cells[i]?=some v->w.cell? ⟨g,off+j*4+i,none⟩=some v)/\(A j).Wf
theorem IsMv.below {w w':World} {a0:Option Addr} {len:Nat} {A:Nat->Mv} (h:IsMv w a0 len A) (hb:Below w.heap.size w w'):IsMv w' a0 len A:=by
 intro j hj;obtain⟨g,off,h1,h2,h3,h4⟩:=h j hj;have e:=hb.block g h2;exact⟨g,off,h1,J0v h2 hb.size,fun i v hv=>(World.cell?_of_block (w:=w) e).trans (h3 i v hv),h4⟩
theorem Z5k:prog.cellsOf 54=5:=by kernel_rfl
theorem Z5l:prog.cellsOf 56=2:=by kernel_rfl
theorem Q6W:prog.cellsOf 3=1:=by kernel_rfl
theorem Q9J:prog.cellsOf 4=1:=by kernel_rfl
theorem Q9K {H:Type} {enc:TypeId×Value->H} {w:World} {n:Nat} {cs:List Value} {y:DataW H×List MemPlace}
  (h:DataW.trod enc prog w 0 (fun _=>true) true n 54 cs=some y):∃x:It,cs=x.cells/\x.Wf:=by
 obtain⟨xs,n',_,_,hlen,hxl,hf⟩:=DataW.trod_struct underlying54 h;rw [Z5k] at hlen
 match cs,hlen with
 | [v0,v1,v2,v3,v4],_ =>
  match xs,hxl with
  | [y0,y1,y2,y3,y4],_ =>
   have g0:DataW.trod enc prog w 0 (fun _=>true) true n' 3 (List.take (prog.cellsOf 3) (List.drop 0 [v0,v1,v2,v3,v4]))=some y0:=hf 0 _ rfl;have g1:DataW.trod enc prog w 0 (fun _=>true) true n' 3 (List.take (prog.cellsOf 3) (List.drop 1 [v0,v1,v2,v3,v4]))=some y1:=hf 1 _ rfl;have g2:DataW.trod enc prog w 0 (fun _=>true) true n' 3 (List.take (prog.cellsOf 3) (List.drop 2 [v0,v1,v2,v3,v4]))=some y2:=hf 2 _ rfl;have g3:DataW.trod enc prog w 0 (fun _=>true) true n' 3 (List.take (prog.cellsOf 3) (List.drop 3 [v0,v1,v2,v3,v4]))=some y3:=hf 3 _ rfl;have g4:DataW.trod enc prog w 0 (fun _=>true) true n' 4 (List.take (prog.cellsOf 4) (List.drop 4 [v0,v1,v2,v3,v4]))=some y4:=hf 4 _ rfl
   rw [Q6W] at g0 g1 g2 g3;rw [Q9J] at g4;simp only [J4i,List.take_succ_cons,J3Q,List.drop_succ_cons] at g0 g1 g2 g3 g4;obtain⟨a0,e0,_,hw0⟩:=DataW.trod_int underlying3 g0;have hb0:=bounds_i64 (n:=a0) (by simp_all);obtain⟨a1,e1,_,hw1⟩:=DataW.trod_int underlying3 g1;have hb1:=bounds_i64 (n:=a1) (by simp_all);obtain⟨a2,e2,_,hw2⟩:=DataW.trod_int underlying3 g2;have hb2:=bounds_i64 (n:=a2) (by simp_all);obtain⟨a3,e3,_,hw3⟩:=DataW.trod_int underlying3 g3;have hb3:=bounds_i64 (n:=a3) (by simp_all);obtain⟨a4,e4,_⟩:=DataW.trod_bool underlying4 g4;simp only [J0x,and_true] at e0 e1 e2 e3 e4;subst e0;subst e1
   subst e2;subst e3;subst e4;exact⟨⟨a0,a1,a2,a3,a4⟩,rfl,⟨by simpa using hb0,by simpa using hb1,by simpa using hb2,by simpa using hb3⟩⟩
theorem Z2z {H:Type} {enc:TypeId×Value->H} {w:World} {n:Nat} {cs:List Value} {y:DataW H×List MemPlace}
  (h:DataW.trod enc prog w 0 (fun _=>true) true n 56 cs=some y):∃x:Wi,cs=x.cells/\x.Wf:=by
 obtain⟨xs,n',_,_,hlen,hxl,hf⟩:=DataW.trod_struct underlying56 h;rw [Z5l] at hlen
 match cs,hlen with
 | [v0,v1],_ =>
  match xs,hxl with
  | [y0,y1],_ =>
   have g0:DataW.trod enc prog w 0 (fun _=>true) true n' 3 (List.take (prog.cellsOf 3) (List.drop 0 [v0,v1]))=some y0:=hf 0 _ rfl;have g1:DataW.trod enc prog w 0 (fun _=>true) true n' 3 (List.take (prog.cellsOf 3) (List.drop 1 [v0,v1]))=some y1:=hf 1 _ rfl;rw [Q6W] at g0 g1;simp only [J4i,List.take_succ_cons,J3Q,List.drop_succ_cons] at g0 g1;obtain⟨a0,e0,_,hw0⟩:=DataW.trod_int underlying3 g0;have hb0:=bounds_i64 (n:=a0) (by simp_all);obtain⟨a1,e1,_,hw1⟩:=DataW.trod_int underlying3 g1;have hb1:=bounds_i64 (n:=a1) (by simp_all);simp only [J0x,and_true] at e0 e1;subst e0;subst e1;exact⟨⟨a0,a1⟩,rfl,⟨by simpa using hb0,by simpa using hb1⟩⟩
end Go.Proofs.YtlakjlmaboioiaaGreatDoor
