/- SpaceCharge returns true at every input. No condition. Part of its proof. -/
import Derived.Test.YtfidemmgofcnmaaGreatDoorSc25
import Derived.RangeFuncWrites
import Derived.Maps.OwnIn
set_option maxHeartbeats 4000000
set_option maxRecDepth 1000000
set_option linter.unusedVariables false
namespace Go.Proofs.YtfidemmgofcnmaaGreatDoor
open Go.RowKit Go.Proofs.Tryz
theorem Q9P {l:List Pl} {tb:Nat->TB} {h:Nat} {p:Pl} (hp:pget l 1 h=some p) (hn:(tb (h%256)).Nil) (h' s:Nat):Q0f (l.set (h%256) {p with st:=2}) tb h' s=Q0f l tb h' s:=by
 obtain⟨hi,JA,_⟩:=pget_some.1 hp;by_cases e:h'%256=h%256
 ·have z:∀l',Q0f l' tb h' s=none:=fun l'=>by
   unfold Q0f;split
   ·split
    ·rename_i hc;rw [e];exact hn.2 s hc.2
    ·rfl
   ·rfl
  rw [z,z]
 ·unfold Q0f;rw [Q0B _ hi,if_neg e]
theorem SP.Ok.doom {Z:SP} {fr:List Nat} {N K:Nat} {M:Int} (ok:Z.Ok fr N K M) {x:Nat} {p:Pl} (hp:pget Z.S.l 1 x=some p) (h0:x≠0) (hk:kids Z.S.l x=[]) (hn:∀s:Nat,Z.av.en x s=none) (Aq:∀(h s:Nat) (c:Nat×Nat),Z.av.en h s=some c->c.1≠x) {rv:OV} (DF:ovOk rv (Z.S.ts.length+1)) :
  (Z.setS (Z.S.doomed x p rv) Z.tb).Ok fr N K M/\(Z.setS (Z.S.doomed x p rv) Z.tb).av=Z.av:=by
 have BK:(Z.tb (x%256)).Nil:=by
  obtain⟨hi,_,Ao⟩:=pget_some.1 hp;by_cases h2:p.kind=2
  ·refine TB.nil_of (ok.tpi.full _ (J5G _ (by omega))) fun s hs=>?_
   have:=av_none.1 (hn s)
   rwa [Q0g hp h2 hs] at this
  ·exact ok.tpi.nil _ p hi (fun h=>h2 h.2)
 have OT:∀h' s e,Q0f Z.S.l Z.tb h' s=some e->e.h≠x:=fun h' s e he=>Aq h' s (e.h,e.r) (Q9l he)
 refine⟨⟨ok.core.doomed hp h0 hk (ok.tpi.spare ok.core hp BK) DF,ok.tpi.doomed ok.core hp BK rv,ok.fpi.doomed hp BK OT,ok.fo,ok.next⟩,?_⟩;show (⟨fun h s=>(Q0f (Z.S.l.set (x%256) {p with st:=2}) Z.tb h s).map Ent.c,Z.F.N⟩:AV)=_;unfold SP.av avOf;congr 1;funext h s;rw [Q9P hp BK]
def Zmb (l:List Pl) (A:List Nat) (l':List Pl):Prop:=∀y,pget l' 2 y=if y∈A then (pget l 1 y).map (fun p=>{p with st:=2}) else pget l 2 y
theorem J0O {l:List Pl} {x:Nat} {p:Pl} (hp:pget l 1 x=some p):Zmb l [x] (l.set (x%256) {p with st:=2}):=fun y=>by
 obtain⟨hi,hn,hs⟩:=pget_some.1 hp;rw [Q0B _ hi];by_cases e:y%256=x%256
 ·rw [if_pos e];by_cases ey:y=x
  ·subst ey;rw [if_pos ⟨hn,rfl⟩,if_pos (by simp),hp];rfl
  ·rw [if_neg (fun h:_/\_=>ey (h.1.symm.trans hn)),if_neg (fun h:y∈[x]=>ey (J4H.1 h))];cases h2:pget l 2 y with
   | none=>rfl
   | some q=>exact absurd (Q0R h2 hp e).1 ey
 ·rw [if_neg e,if_neg];intro h;rw [J4H] at h;exact e (by rw [h])
def J0P (l:List Pl) (L:List Nat):Prop:=∀A x B,L=A++x::B->∃q,pget l 1 x=some q/\x≠0/\x∉A/\∀y∈kids l x,y∈A
theorem Z6G {l:List Pl} {N:Nat} (t:Tre l N) {h:Nat} {p:Pl} (hp:pget l 1 h=some p) (h0:h≠0):J0P l (Q0L l N h++[h]):=fun A x B e=>by
 by_cases hk:p.kind=1
 ·by_cases hB:B=[]
  ·subst hB;obtain⟨e1,e2⟩:=List.append_inj' e rfl;obtain rfl:h=x:=by simpa using e2
   subst e1;refine⟨p,hp,h0,fun hm=>((Q2B t).1 hm).2 rfl,fun y hy=>?_⟩;obtain⟨p1,q1,a1,a2,a3,a4,a5⟩:=(Q0P t.len).1 hy;rw [hp] at a1;cases a1;refine Z5y t hp hk a3 a4 ?_ (.inl a5);intro e;subst e;rw [hp] at a3;cases a3;have:=t.rise y p hp a4 hk;omega
  ·obtain⟨B',b,rfl⟩:∃B' b,B=B'++[b]:=⟨B.dropLast,B.getLast hB,(List.dropLast_concat_getLast hB).symm⟩
   have e':Q0L l N h++[h]=(A++x::B')++[b]:=by rw [e];simp
   obtain⟨e1,e2⟩:=List.append_inj' e' rfl;obtain⟨q,q1,q2,q3,q4,q5,q6,_⟩:=Z5x t hp hk e1;exact⟨q,q1,q3,fun hm=>q5 x hm rfl,q6⟩
 ·have hu:Q0L l N h=[]:=(Q8P t).2 (Q4z fun q hq=>by rw [hp] at hq;cases hq;exact hk);rw [hu] at e;have:A=[]/\x=h/\B=[]:=by
   cases A with
   | nil=>simp at e;exact⟨rfl,e.1.symm,e.2⟩
   | cons a r=>simp at e
  obtain⟨rfl,rfl,rfl⟩:=this;refine⟨p,hp,h0,by simp,fun y hy=>?_⟩;rw [Q4z fun q hq=>by rw [hp] at hq;cases hq;exact hk] at hy;cases hy
def Z3I (l:List Pl) (A:List Nat):List Pl:=A.foldl (fun l x=>match pget l 1 x with|some p=>l.set (x%256) {p with st:=2}|none=>l) l
theorem Q7C {l:List Pl} {A:List Nat} {x:Nat} {p:Pl} (h:pget (Z3I l A) 1 x=some p):Z3I l (A++[x])=(Z3I l A).set (x%256) {p with st:=2}:=by
 unfold Z3I at h ⊢;rw [List.foldl_append];show (match pget _ 1 x with|some p=>_|none=>_)=_;rw [h]
structure KillI (Z:SP) (fr:List Nat) (N K:Nat) (M:Int) (A:List Nat) (Z1:SP):Prop where
 ok:Z1.Ok fr N K M
 s:Z1.s=Z.s
 c:Z1.S.c=Z.S.c
 t:Z1.S.t=Z.S.t
 g:Z1.S.g=Z.S.g
 f:Z1.F.f=Z.F.f
 nx:Z1.F.next=Z.F.next
 qn:Z1.S.P.q.next=Z.S.P.q.next
 per:Z1.S.period=Z.S.period
 now:Z1.S.now=Z.S.now
 same:SameP Z.S.P Z1.S.P
 acc:Z1.S.P.q.E.map En.id=Z.S.P.q.E.map En.id
 l:Z1.S.l=Z3I Z.S.l A
 live:Dmd Z.S.l A Z1.S.l
 zomb:Zmb Z.S.l A Z1.S.l
 ts:Z1.S.ts=Z.S.ts++A.map fun x=>(x,Z.S.now+Z.S.period)
 less:Lesser Z.av Z1.av Z.F.next
 out:∀x∈A,(∀s:Nat,Z1.av.en x s=none)/\∀(h s:Nat) (c:Nat×Nat),Z1.av.en h s=some c->c.1≠x
theorem KillI.start {Z:SP} {fr:List Nat} {N K:Nat} {M:Int} (ok:Z.Ok fr N K M):KillI Z fr N K M [] Z:=
 ⟨ok,rfl,rfl,rfl,rfl,rfl,rfl,rfl,rfl,rfl,SameP.refl _,rfl,rfl,Dmd.nil _,fun y=>by simp,by simp,Lesser.refl ok.avOk,fun x h=>by cases h⟩
theorem KillI.next {Z Z1 Z2 Z3:SP} {fr:List Nat} {N K:Nat} {M:Int} {A:List Nat} (hlz:Z.S.l.length<=256) (I:KillI Z fr N K M A Z1) {x:Nat} {q p:Pl} (hq:pget Z.S.l 1 x=some q) (h0:x≠0) (hA:x∉A) (hk:∀y∈kids Z.S.l x,y∈A)
  (ok2:Z2.Ok fr N K M) (w2:Z2.av=(Q1O Z1.F.next x Z1.av (Q0j Z1.S.l Z1.tb x)).1) (s2:SameZ Z1 Z2) (ok3:Z3.Ok fr N K M) (w3:Z3.av=(Q1d Z2.av (Q2S Z2.S.l Z2.tb x)).1) (s3:SameZ Z2 Z3) :
  (pget Z3.S.l 1 x=some q/\kids Z3.S.l x=[])/\∀{rv:OV},pget Z3.S.l 1 x=some p->ovOk rv (Z3.S.ts.length+1)->KillI Z fr N K M (A++[x]) (Z3.setS (Z3.S.doomed x p rv) Z3.tb):=by
 have l2:=s2.alt.l;have l3:=s3.alt.l;have Ae:=I.ok.core.inv.len;have AY:pget Z1.S.l 1 x=some q:=by rw [I.live x,if_neg hA];exact hq
 have J3:pget Z3.S.l 1 x=some q:=by rw [l3,l2];exact AY
 have Jq:kids Z3.S.l x=[]:=by rw [l3,l2];exact Dmd.none_left hlz (by omega) I.live hk
 refine⟨⟨J3,Jq⟩,fun {rv} hp DF=>?_⟩;obtain⟨e1,e2⟩:=Z6F (a:=Z1.av) (l:=Z1.S.l) (tb:=Z1.tb) (N:=Z1.F.N) (x:=x) rfl I.ok.avOk;rw [<- w2,I.nx] at e1;rw [<- w2] at e2;have k2:=ok2.avOk;rw [s2.nx,I.nx] at k2;obtain⟨e3,e4⟩:=Q6D (Q2S Z2.S.l Z2.tb x) k2;rw [<- w3] at e3 e4;have hn:∀s:Nat,Z3.av.en x s=none:=fun s=>e3.none (e2 s)
 have Aq:∀(h s:Nat) (c:Nat×Nat),Z3.av.en h s=some c->c.1≠x:=fun h s c hc hx=>by
  rcases e3.en h s with h1|h1
  ·rw [h1] at hc;cases hc
  ·rw [h1] at hc;obtain⟨e,he,rfl⟩:=Q3k hc;obtain⟨r,r1,r2,r3,_⟩:=Q3D he;have hm:((h:Int),(s:Int))∈Q2S Z2.S.l Z2.tb x:=mem_holdL.2 ⟨h,(Q2H (by rw [ok2.core.inv.len];omega)).2 ⟨r,r1⟩,s,rfl,r3,e,he,hx⟩;rw [e4 h s hm] at h1;rw [<- h1] at hc;cases hc
 obtain⟨d1,d2⟩:=ok3.doom hp h0 Jq hn Aq DF;have EQ:Dmd Z3.S.l [x] (Z3.S.doomed x p rv).l:=J0y hp;have T5:Zmb Z3.S.l [x] (Z3.S.doomed x p rv).l:=J0O hp;have Ik:Dmd Z.S.l A Z3.S.l:=by rw [l3,l2];exact I.live
 have Tl:Zmb Z.S.l A Z3.S.l:=by rw [l3,l2];exact I.zomb
 have MC:Lesser Z.av Z3.av Z.F.next:=(I.less.trans e1).trans e3;refine⟨d1,?_,?_,?_,?_,?_,?_,?_,?_,?_,?_,?_,?_,Ik.step EQ,fun y=>?_,?_,by rw [d2];exact MC,fun y hy=>?_⟩
 ·exact s3.s.trans (s2.s.trans I.s)
 ·exact s3.alt.c.trans (s2.alt.c.trans I.c)
 ·exact s3.alt.t.trans (s2.alt.t.trans I.t)
 ·exact s3.alt.g.trans (s2.alt.g.trans I.g)
 ·exact s3.f.trans (s2.f.trans I.f)
 ·exact s3.nx.trans (s2.nx.trans I.nx)
 ·exact s3.alt.next.trans (s2.alt.next.trans I.qn)
 ·exact s3.alt.per.trans (s2.alt.per.trans I.per)
 ·exact s3.alt.now.trans (s2.alt.now.trans I.now)
 ·exact (I.same.trans s2.alt.same).trans s3.alt.same
 ·exact s3.alt.ids.trans (s2.alt.ids.trans I.acc)
 ·have e:Z3.S.l=Z3I Z.S.l A:=l3.trans (l2.trans I.l);rw [Q7C (p:=p) (by rw [<- e];exact hp),<- e];rfl
 ·show pget (Z3.S.doomed x p rv).l 2 y=_;rw [T5 y,Tl y,Ik y];by_cases ey:y=x
  ·subst ey;simp [hA]
  ·by_cases hy:y∈A <;> simp [ey,hy]
 ·show Z3.S.ts++[(x,Z3.S.now+Z3.S.period)]=_;rw [s3.alt.ts,s2.alt.ts,I.ts,s3.alt.now,s2.alt.now,I.now,s3.alt.per,s2.alt.per,I.per];simp
 ·rw [d2];rcases J3o.1 hy with hy|hy
  ·obtain⟨o1,o2⟩:=I.out y hy;have Mn:Lesser Z1.av Z3.av Z.F.next:=e1.trans e3;refine⟨fun s=>Mn.none (o1 s),fun h s c hc=>?_⟩;rcases Mn.en h s with h1|h1
   ·rw [h1] at hc;cases hc
   ·rw [h1] at hc;exact o2 h s c hc
  ·rw [J4H] at hy;subst hy;exact⟨hn,Aq⟩
open Go.Sort (Holds putRow holds_putRow holds_ahead putRow_self reverseLoop swp size_swp)
theorem Z0S (blk cap:Nat) (d:Array Nat) (w:World) (hH:Holds encH w blk 0 d) (Bj:d.size<=65536) :
  Calls prog 208 #[.slice (some ⟨blk,0,none⟩) d.size cap] w fun e w'=>e=.returned (.tuple #[])/\∃n,w'=putRow encH (Go.Sort.ahead w n) blk 0 d.reverse:=by
 go_enter func208,ntmps208;go_wp2_with fail
 go_loopg [2,3] d.size (fun k s2 s3 wr=>∃(i jn:Nat) (jz:Int) (dk:Array Nat) (n:Nat),s2=.int .i64 i/\s3=.int .i64 jz/\((i:Int)<jz->jz=jn/\jn<d.size)/\(¬(i:Int)<jz->¬i<jn)/\jn-i<=k /\
  dk.size=d.size/\wr=putRow encH (Go.Sort.ahead w n) blk 0 dk/\reverseLoop i jn dk=reverseLoop 0 (d.size-1) d)
 case atStart=>exact⟨0,d.size-1,(d.size:Int)-1,d,0,rfl,rfl,fun h=>⟨by omega,by omega⟩,fun h=>by omega,by omega,rfl,(putRow_self encH w blk 0 d hH).symm,rfl⟩
 case round =>
  obtain⟨i,jn,jz,dk,n,rfl,rfl,h1,h2,hk,FK,Ij,Eb⟩:=hrel;by_cases Ab:(i:Int)<jz
  ·obtain⟨rfl,Nf⟩:=h1 Ab;have FE:i<jn:=by omega
   have JO:Holds encH wr blk 0 dk:=by rw [Ij];exact holds_putRow encH _ blk 0 d dk (holds_ahead encH w n blk 0 d hH) FK
   obtain⟨ci,fi⟩:=JO i (by omega);obtain⟨cj,fj⟩:=JO jn (by omega);have A:Go.Aside (wr=putRow encH (Go.Sort.ahead w n) blk 0 dk):=Ij;have SW:Hid (((wr.setCell ⟨blk,i,none⟩ (.int .u32 (dk[jn]!:Int))).setCell ⟨blk,jn,none⟩ (.int .u32 (dk[i]!:Int))).drew=putRow encH (Go.Sort.ahead w (n+1)) blk 0 (swp dk i jn)):=by
    have:=swap_world encH (off:=0) (i:=i) (j:=jn) (by omega) (by omega) Ij rfl rfl;rw [J5e,J5e] at this;exact this
   clear Ij JO hH h1 h2;go_wp2_with fail;rw [J5e] at ci fi cj fj;unfold encH at ci cj;go_region
   all_goals
    go_wp2_with fail;go_roundg (jn-1-(i+1))
    case measure=>omega
    case rel =>
     rw [reverseLoop,if_pos FE] at Eb;exact⟨i+1,jn-1,(jn:Int)-1,swp dk i jn,n+1,by go_num,by go_num,fun h=>⟨by omega,by omega⟩,fun h=>by omega,J2y _,by rw [size_swp];exact FK,
      (by have JC:=SW.out;first|exact JC|(simp only [getElem!_pos dk jn (by omega)] at JC;exact JC)),Eb⟩
  ·have D6:=h2 Ab;go_wp2_with fail
   first|go_end0|skip
   refine⟨rfl,n,?_⟩;rw [reverseLoop,if_neg D6] at Eb;rw [<- Go.Lib.reverseLoop_reverse,<- Eb]
end Go.Proofs.YtfidemmgofcnmaaGreatDoor
namespace Go.Proofs.YtfidemmgofcnmaaGreatDoor
open Go.RowKit Go.Proofs.Tryz
theorem Z8R (l:List Pl) (hl:l.length<=256) (x:Nat):(kids l x).length<=256:=by
 unfold kids;split
 ·split
  ·unfold Z7m;refine J2z (J4P _ _) ?_;have:=Q1i l 1 l.length;unfold allL;omega
  ·simp
 ·simp
structure UndI (l:List Pl) (N x:Nat) (ws os:List Nat):Prop where
 eq:os++rest l N ws=pre l N x
theorem UndI.start (l:List Pl) (N x:Nat):UndI l N x [x] []:=⟨by simp [rest]⟩
theorem UndI.step {l:List Pl} {N x y:Nat} {ws os:List Nat} (t:Tre l N) (u:UndI l N x (ws++[y]) os):UndI l N x (ws++kids l y) (os++[y])/\(rest l N (ws++kids l y)).length<(rest l N (ws++[y])).length:=by
 have h:=u.eq;rw [Q8s t] at h ⊢;exact⟨⟨by rw [J3A];exact h⟩,by simp⟩
theorem UndI.len {l:List Pl} {N x:Nat} {ws os:List Nat} (t:Tre l N) (u:UndI l N x ws os):ws.length<=256/\os.length<=256:=by
 have h1:=congrArg List.length u.eq;have h2:=Z4h t x;have h3:=Z7p l N ws;rw [J3j] at h1;omega
theorem UndI.name {l:List Pl} {N x y:Nat} {ws os:List Nat} (t:Tre l N) (ok:LOk l) (hx:x<4294967296) (u:UndI l N x (ws++[y]) os):y<4294967296:=by
 have hy:y∈pre l N x:=by
  rw [<- u.eq,Q8s t];simp
 rcases Q5x t hy with rfl|⟨_,q,hq⟩
 ·exact hx
 ·obtain⟨a1,a2,_⟩:=pget_some.1 hq;have:=(ok.2 q (J4O a1)).2;unfold nm at a2;omega
theorem UndI.done {l:List Pl} {N x:Nat} {os:List Nat} (t:Tre l N) (u:UndI l N x [] os):os.reverse=Q0L l N x++[x]:=by
 have h:=u.eq;rw [show rest l N []=[] from rfl,J4G,Q4y t] at h;rw [h];simp
theorem OutH.single (w:World) (x:Nat):OutH w (w.alloc (.cells #[.int .u32 x] 58)) (.slice (some ⟨w.heap.size,0,none⟩) 1 1) [x]:=
 ⟨⟨rfl,.inr ⟨w.heap.size,1,#[.int .u32 x],rfl,J2y _,Cells.new w 58 [.int .u32 x],J2y 1,(by decide:1<=maxLen),rfl,rfl⟩⟩,(Below.refl _ _).alloc (J2y _) _⟩
theorem Two.start (w:World) (x:Nat):Two w (w.alloc (.cells #[.int .u32 x] 58)) (.slice (some ⟨w.heap.size,0,none⟩) 1 1) [x] (.slice none 0 0) []:=
 ⟨OutH.single w x,(OutH.nil w).alloc _,fun b _ h=>by simp [Value.ownBlock] at h⟩
theorem Two.drew {w wr:World} {v u:Value} {L M:List Nat} (h:Two w wr v L u M):Two w wr.drew v L u M:=h.below (Below.refl _ _).drew
theorem Z1Y (w:World) (y:Nat):IsHs w.heap.size [y] (some ⟨w.heap.size,0,none⟩) (w.alloc (.cells #[.int .u32 y] 58)):=⟨fun j x hj=>by
 match j,hj with
 | 0,hj =>
  cases hj
  exact⟨_,rfl,J2y _,by simp,(Cells.new w 58 [.int .u32 y]).cell 0 _ rfl⟩
 | k+1,hj=>cases hj⟩
theorem Z3J {w:World} {S:CO} {fr:List Nat} {N K:Nat} (h:Sep w S.hl) (ok:S.Ok fr N K) {x:Nat} (hx:x<4294967296) :
  Calls prog 162 #[.pointer (some ⟨S.c,0,none⟩),.int .u32 x] w (NewHs w (Q0L S.l S.P.q.next.toNat x)):=by
 have tre:=ok.inv.tree;have lok:=ok.inv.lok;have HM:Hid (∀(w1:World) (y:Nat),Below w.heap.size w w1->y<4294967296->Calls prog 207 #[.pointer (some ⟨S.c,0,none⟩),.int .u32 y] w1 (NewHs w1 (kids S.l y))):=fun w1 y hb hy=>Q9k (h.grown hb).sep ok hy
 generalize S.P.q.next.toNat=M at *
 have Im:=Q0a tre;have JG:=Q0a lok;have HX:=Q0a hx;have HS:=Q0a (Two.start w x);clear h ok tre lok hx;go_enter func162,ntmps162;go_wp2_with fail
 go_loopg [5,6] (pre S.l M x).length (fun gk ov wv wr=>∃ws os,Two w wr wv ws ov os/\UndI S.l M x ws os/\(rest S.l M ws).length<=gk)
 case atStart=>exact⟨[x],[],HS.out,UndI.start _ _ _,by have:=(UndI.start S.l M x).eq;rw [J4K] at this;rw [this];exact J2y _⟩
 case round =>
  obtain⟨ws,os,Cy,hu,Ex⟩:=hrel;obtain⟨l1,l2⟩:=hu.len Im.out;have A6:ws=[]∨∃(ws':List Nat) (y:Nat),ws=ws'++[y]:=by
   rcases J6W ws with h|⟨a,b,h⟩
   ·exact .inl h
   ·exact .inr ⟨a,b,by rw [h,J6X]⟩
  rcases A6 with rfl|⟨ws',y,rfl⟩
  ·have Bw:=hu.done Im.out;have Aa:os≠[]:=fun e=>by rw [e] at Bw;simp at Bw
   obtain⟨aw,cw,rfl⟩:=Cy.1.shape;obtain⟨g,co,rfl⟩:=Cy.2.1.shape1 Aa;obtain⟨_,_,_,_,KW,_⟩:=Cy.2.1.parts;have D4:=Z0S g co os.toArray wr (Z0F Cy.2.1) (by simp;omega);have AK:∀n,NewHs w (Q0L S.l M x) (.returned (.slice (some ⟨g,0,none⟩) (Q0L S.l M x).length co)) (Go.Sort.putRow encH (Go.Sort.ahead wr n) g 0 os.toArray.reverse):=fun n=>by
    have h1:=Cy.2.1.reversed (k:=n);rw [Bw] at h1;have h2:=h1.cut;exact⟨_,rfl,h2.1,h2.2⟩
   have Ae:os.length=(Q0L S.l M x).length+1:=by
    have:=congrArg List.length Bw
    simpa using this
   have HF:=Q0a AK;rw [show os.toArray.size=os.length from rfl] at D4;rw [Ae] at D4 ⊢;have hm:(Q0L S.l M x).length<=256:=by omega
   have Gl:(((Q0L S.l M x).length:Nat):Int)<=(co:Int):=by omega
   have AE:(Q0L S.l M x).length<=co:=by omega
   have hw:IntKind.i64.wrap ((Q0L S.l M x).length:Int)=((Q0L S.l M x).length:Int):=Go.IntWalk.i64_in _ (by omega);clear AK Cy hu Ex Bw Aa l1 l2 Ae;generalize (Q0L S.l M x).length=m at *
   generalize NewHs w (Q0L S.l M x)=Q at *
   go_wp2_with fail;refine D4.mono ?_;rintro r w1 ⟨rfl,n,rfl⟩;have HQ:=Q0a (HF.out n);clear D4 HF;generalize Go.Sort.putRow encH (Go.Sort.ahead wr n) g 0 os.toArray.reverse=w1 at *
   go_wp2_with fail
   first|exact HQ.out|(go_ret;exact HQ.out)
  ·obtain⟨g,cw,rfl⟩:=Cy.1.shape1 (by simp);obtain⟨_,_,_,_,RK,_⟩:=Cy.1.parts;have AE:ws'.length<=cw:=by
    have:ws'.length+1<=cw:=by simpa using RK
    omega
   have Gl:((ws'.length:Nat):Int)<=(cw:Int):=by omega
   clear RK;obtain⟨Al,_,_⟩:=Cy.1.cellAt (j:=ws'.length) (x:=y) (by simp);have hy:=hu.name Im.out JG.out HX.out;obtain⟨BA,Ab⟩:=hu.step Im.out;have hb:=Cy.1.2;have Me:=HM.out wr.drew y hb.drew hy;have Fs:=Z8R S.l (by rw [JG.out.1];exact J2y _) y;have hl:ws'.length+1<=256:=by simpa using l1
   have Gj:Hid (∀w1 am cm,Below wr.drew.heap.size wr.drew w1->IsHs wr.drew.heap.size (kids S.l y) am w1->(am=none->cm=0)->∃v1 w2,(Builtin.append_ #[51,51] 51 #[.slice (some ⟨g,0,none⟩) ws'.length cw,.slice am (kids S.l y).length cm]).run prog w1=.ok v1 w2/\Two w w2 v1 (ws'++kids S.l y) u5 os):=fun w1 am cm Av hi RZ=>by
    have t1:Two w w1 (.slice (some ⟨g,0,none⟩) ws'.length cw) ws' u5 os:=Cy.cut.drew.below Av;obtain⟨v1,w2,e1,e2,e3,e4⟩:=Z6p (ty:=51) (a:=am) (cap:=cm) t1.1.1 hi RZ (by omega) t1.1.2.size;exact⟨v1,w2,e1,t1.app e2 e3 e4⟩
   have MM:Hid (∀w2 v1 L,Two w w2 v1 L u5 os->∃v2 w3,(Builtin.append_ #[51,51] 51 #[u5,.slice (some ⟨w2.heap.size,0,none⟩) 1 1]).run prog (w2.alloc (.cells #[.int .u32 y] 58))=.ok v2 w3/\Two w w3 v1 L v2 (os++[y])):=fun w2 v1 L t=>by
    have t1:=(t.alloc (.cells #[.int .u32 y] 58)).swap;obtain⟨v2,w3,e1,e2,e3,e4⟩:=Z6n (ty:=51) (a:=some ⟨w2.heap.size,0,none⟩) (cap:=1) t1.1.1 (Z1Y w2 y) (by simp;omega) t1.1.2.size;exact⟨v2,w3,e1,(t1.app e2 e3 e4).swap⟩
   have Bm:=Q0a BA;have TJ:=Q0a (J2A Ab Ex);have hw:IntKind.i64.wrap (ws'.length:Int)=(ws'.length:Int):=Go.IntWalk.i64_in _ (by omega);rw [show (ws'++[y]).length=ws'.length+1 by simp] at *
   clear Cy hu Ex l1 l2 BA Ab hb Fs hy;generalize Nh:kids S.l y=kk at *
   generalize hn:ws'.length=n at *
   go_wp2_with fail
   go_region_law (first|(go_simp;go_at_call 207;refine Me.mono ?_;intro r w1 Ck;obtain⟨am,cm,rfl,GS,I7,Fr⟩:=Ck.shape0;obtain⟨v1,w2,r1,r2⟩:=Gj.out w1 am cm GS I7 Fr;clear Fr;have HR:=Q0a r1;have J8:=Q0a r2;clear r1 r2 GS I7 Ck)|(refine Q0F rfl (.tmp 23) (.tmp 26) 51 51 rfl _ _ (by simp [Act.eval]) (by simp [Act.eval]) HR.out ?_))
   all_goals
    obtain⟨v2,w3,r3,r4⟩:=MM.out _ _ _ J8.out;have Nz:=Q0a r4;clear r4;go_wp2_with (at_builtin;refine Lib.wpList_append_run _ rfl _ _ _ _ rfl _ _ rfl rfl _ _ r3 ?_);go_roundg (rest S.l M (ws'++kk)).length
    case measure=>exact TJ.out
    case rel=>exact⟨_,_,Nz.out,Bm.out,J2y _⟩
theorem Z3K {w w2:World} {S:CO} {fr:List Nat} {N K:Nat} (h:Sep w S.hl) (ok:S.Ok fr N K) (hK:K<=1048576) {x:Nat} (hx:x<4294967296) {p:Pl} (hp:pget S.l 1 x=some p) (h0:x≠0) (hk:kids S.l x=[]) (hb:Below w.heap.size w w2) :
  w2.cell? ⟨S.c,1,none⟩=some (.pointer (some ⟨S.t,0,none⟩))/\Calls prog 209 #[.pointer (some ⟨S.t,0,none⟩),.int .u32 x] w2 fun r w3=>r=.returned (.int .i64 0)/\w3.cell? ⟨S.c,2,none⟩=some (.pointer (some ⟨S.g,0,none⟩))/\S.c<w3.heap.size /\
   Calls prog 210 #[.pointer (some ⟨S.g,0,none⟩),.slice (some ⟨w3.heap.size,0,none⟩) 1 1] (w3.alloc (.cells #[.int .i64 x] 3)) fun r w4=>∃z:Int,r=.returned (.int .i64 z)/\J0A S x w (.returned (.int .i64 0)) w4:=by
 have s2:=h.grown hb;have EA:=ok.now;refine⟨CO.c1 s2.sep,?_⟩;refine Calls.mono (Z2O (h:=S.ht) (CO.sT s2.sep) ok.inv.lok hx hp) ?_;rintro r w3 ⟨rfl,st⟩;have s3:=s2.trans (CO.stepL s2.sep _ st);refine⟨rfl,CO.c2 (S:=S.setL (S.l.set (x%256) {p with st:=2})) s3.sep,(CO.cells s3.sep).lt,?_⟩;have s4:=s3.trans (s3.sep.grown ((Below.refl _ w3).alloc (J2y _) (.cells #[.int .i64 x] 3)));refine Calls.mono (Z8r (CO.sG s4.sep) ok.ov ok.few ok.per.2 (by show S.now<=_;omega) ((Cells.new w3 3 [.int .i64 x]).cell 0 _ rfl)) ?_;rintro r w4 ⟨rv,rfl,DF,st4⟩;have s5:=s4.trans (CO.stepG s4.sep S.now rv (S.ts++[(x,S.now+S.period)]) st4)
 exact⟨_,rfl,.inr (.inr (.inr ⟨p,rv,hp,h0,hk,DF,rfl,s5⟩))⟩
theorem Z8S {w:World} {S:CO} {fr:List Nat} {N K:Nat} (h:Sep w S.hl) (ok:S.Ok fr N K) (hK:K<=1048576) {x:Nat} (hx:x<4294967296) {p:Pl} (hp:pget S.l 1 x=some p) (h0:x≠0) (hk:kids S.l x=[]) :
  Calls prog 165 #[.pointer (some ⟨S.c,0,none⟩),.int .u32 x] w (J0A S x w):=by
 have hO:Calls prog 49 #[.pointer (some ⟨S.c,0,none⟩),.int .u32 x,.int .i64 0] w (Told w (.tuple #[.agg #[.int .i64 (p.kind:Int),.int .i64 (p.at_:Int),.int .i64 (p.fac:Int)],.int .i64 0])):=Q3I h ok.inv.lok hx 0 hp (.inl rfl);have HM:Hid (∀w1,Below w.heap.size w w1->Calls prog 207 #[.pointer (some ⟨S.c,0,none⟩),.int .u32 x] w1 (NewHs w1 (kids S.l x))):=fun w1 hb=>Q9k (h.grown hb).sep ok hx
 rw [hk] at HM;have HC:Hid (∀w2,Below w.heap.size w w2->_):=fun w2 hb=>Z3K (w2:=w2) h ok hK hx hp h0 hk hb
 have Av:(((x:Nat):Int)==0)=false:=by simp;omega
 have hw:IntKind.i64.wrap (x:Int)=(x:Int):=Go.IntWalk.i64_in _ (by omega);generalize J0A S x w=Q at *
 clear h ok hK hx hp h0 hk;go_enter func165,ntmps165;go_wp2_with fail;refine hO.mono ?_;rintro r w1 ⟨rfl,hb⟩;have PB:=hb.alloc hb.size (.cells #[.int .i64 (p.kind:Int),.int .i64 (p.at_:Int),.int .i64 (p.fac:Int)] 54);have hm:=HM.out _ PB;have HB:=Q0a PB;clear hb PB hO HM;go_wp2_with fail;refine hm.mono ?_;intro r w2 hn;obtain⟨am,cm,rfl,GS,I7⟩:=hn.shape;obtain⟨c1,Jc⟩:=HC.out w2 (HB.out.trans (GS.mono (by have:=HB.out.size;omega)));clear hn GS I7 hm HB HC;go_wp2_with fail;refine Jc.mono ?_;rintro r w3 ⟨rfl,c2,Ab,Bz⟩;have HA:=Q0a Bz;clear Bz Jc c1;go_wp2_with fail;refine HA.out.mono ?_
 rintro r w4 ⟨z,rfl,hx⟩;have HX:=Q0a hx;clear hx HA;go_wp2_with fail
 first|exact HX.out|(go_ret;exact HX.out)
theorem Q4Q {F:Fence} (hF:Hid (F=Fence.wide)) {n:Nat} {P:Program} {c:Code} {Q:Exit->Act->World->Prop} {a:Act} {w:World} (h:c.wp P Q a w):c.wpIn F n P Q a w:=by
 have e:F=Fence.wide:=hF.out;subst e;exact wpIn_wide.2 h
structure J1Q (g now x:Nat) (W:World) (J1:World->Prop):Prop where
 it:∃(b off len cap at_:Nat),W.cell? ⟨g,2,none⟩=some (.slice (some ⟨b,off,none⟩) (len+1) cap)/\len+1<=cap/\cap<=maxLen/\W.cell? ⟨b,off,none⟩=some (.int .i64 x)/\W.cell? ⟨b,off+1,none⟩=some (.int .i64 at_)/\at_<=now /\
  J1 (W.setCell ⟨g,2,none⟩ (.slice (if cap=1 then some ⟨b,off,none⟩ else some ⟨b,off+2,none⟩) len (cap-1)))
def Late (g now:Nat) (W:World):Prop:=(∃a cap,W.cell? ⟨g,2,none⟩=some (.slice a 0 cap))∨∃(b off len cap at_:Nat),W.cell? ⟨g,2,none⟩=some (.slice (some ⟨b,off,none⟩) (len+1) cap)/\W.cell? ⟨b,off+1,none⟩=some (.int .i64 at_)/\now<at_
theorem J1R (F:Fence) (hF:Hid (F=Fence.wide)) (n:Nat) (hn:1<=n) (l bx g now D:Nat) (xs:Nat->Nat) (J J1:Nat->World->Prop) (W:World)
  (hread:∀k W,J k W->W.cell? ⟨bx,0,none⟩=some (.pointer (some ⟨g,0,none⟩))/\W.cell? ⟨g,1,none⟩=some (.int .i64 now)/\W.frozen? ⟨g,2,none⟩=false/\k<=D/\(k<D->J1Q g now (xs k) W (J1 k))/\(k=D->Late g now W))
  (hd:∀k W m,J k W->J k (W.drewN m)) (Gr:∀k W m,J1 k W->J1 k (W.drewN m))
  (hY:∀k W1,k<D->J1 k W1->YieldAt F (n-1) prog l #[.int .i64 (xs k:Int)] W1 fun e W'=>e=.returned (.bool true)/\J (k+1) W')
  (h0:J 0 W) :
  CallsIn F n prog 251 #[.func (.yield l) #[] #[],.pointer (some ⟨bx,0,none⟩)] W fun e W'=>(∃v,e=.returned v)/\J D W':=by
 have Fh:F.fn 251:=by rw [hF.out];trivial
 have AS:∀(f:FuncId),(none:Option FuncId)=some f->F.fn f:=fun _ h=>nomatch h
 have Jx:F.round=none:=by rw [hF.out];rfl
 have HR:=Q0a hread;have HD:=Q0a hd;have TO:=Q0a Gr;have HY:=Q0a hY;clear hread hd Gr hY;refine callsIn_of_wp func251 rfl Fh ?_ Jx;simp only [ntmps251,J5f,J3k,J4Z,Nat.reduceAdd,Nat.reduceSub,Array.replicate_succ,Array.replicate_zero,List.push_toArray,List.append_toArray,J4K,J4L]
 gi_wp2
 gi_loopg [3] D (fun gk xv wr=>∃k:Nat,k+gk=D/\J k wr)
 case atStart=>exact⟨0,by omega,h0⟩
 case round =>
  clear h0;obtain⟨k,AH,hj⟩:=hrel;obtain⟨cb,c1,cf,V5,Ab,Iq⟩:=HR.out k wr hj;have HJ:=Q0a hj;have B6:=Q0a AH;clear hj AH;by_cases hk:k<D
  ·obtain⟨b,off,len,cap,at_,c2,CR,BC,e0,e1,AA,Mm⟩:=(Ab hk).it;have M6:decide ((at_:Int)<=(now:Int))=true:=by rw [decide_eq_true_eq];omega
   have Ci:decide ((0:Int)<(len:Int)+1)=true:=by rw [decide_eq_true_eq];omega
   gi_wp2
   refine Q4Q hF ?_
   go_quiet (fail)
   gi_wp2
   refine Q4Q hF ?_;have Dq:(1:Int)<=(len:Int)+1:=by omega
   have Fi:(len:Int)+1<=(cap:Int):=by omega
   have Ld:len+1<=cap:=CR;have V8:IntKind.i64.wrap (len:Int)=(len:Int):=Go.IntWalk.i64_in _ (by unfold maxLen at BC;omega);have Nl:Hid (∀m,J1 k (((wr.drewN m).setCell ⟨g,2,none⟩ (.slice (if cap=1 then some ⟨b,off,none⟩ else some ⟨b,off+2,none⟩) len (cap-1))))):=fun m=>TO.out k _ m Mm
   clear Mm M6 Ci;by_cases AE:cap=1
   ·subst AE;obtain rfl:len=0:=by omega
    simp only [if_true] at Nl;go_region;have F8:=Nl.out (nq+1);obtain⟨fn,tmps,assign,body,hy,Mb⟩:=HY.out k _ hk F8;have Jr:=Q0a Mb;clear Mb F8 c1 cf e0 e1 c2 cb HJ
    gi_wp2_with fail
    refine Jr.out.mono ?_;rintro e W4 ⟨rfl,Lm⟩;have OL:=Q0a Lm;clear Lm Jr hy
    gi_wp2
    gi_roundg (D-(k+1))
    case measure=>have:=B6.out;omega
    case rel=>exact⟨k+1,by omega,OL.out⟩
   ·simp only [if_neg AE] at Nl;go_region;have F8:=Nl.out (nq+1);obtain⟨fn,tmps,assign,body,hy,Mb⟩:=HY.out k _ hk F8;have Jr:=Q0a Mb;clear Mb F8 c1 cf e0 e1 c2 cb HJ
    gi_wp2_with fail
    refine Jr.out.mono ?_;rintro e W4 ⟨rfl,Lm⟩;have OL:=Q0a Lm;clear Lm Jr hy
    gi_wp2
    gi_roundg (D-(k+1))
    case measure=>have:=B6.out;omega
    case rel=>exact⟨k+1,by omega,OL.out⟩
  ·obtain rfl:k=D:=by omega
   rcases Iq rfl with ⟨a0,cap,c2⟩|⟨b,off,len,cap,at_,c2,e1,AA⟩
   ·have Ci:decide ((0:Int)<0)=false:=by decide
    gi_wp2
    refine Q4Q hF ?_
    go_quiet (fail)
    gi_wp2
    go_end0;exact⟨⟨_,rfl⟩,HD.out _ _ _ HJ.out⟩
   ·have M6:decide ((at_:Int)<=(now:Int))=false:=by rw [decide_eq_false_iff_not];omega
    have Ci:decide ((0:Int)<(len:Int)+1)=true:=by rw [decide_eq_true_eq];omega
    gi_wp2
    refine Q4Q hF ?_
    go_quiet (fail)
    gi_wp2
    go_end0;exact⟨⟨_,rfl⟩,HD.out _ _ _ HJ.out⟩
theorem Step.drewN {w w':World} {H H':HL} (h:Step H H' w w') (m:Nat):Step H H' w (w'.drewN m):=⟨h.sep.drewN m,⟨h.chg.os,h.chg.tape,h.chg.output,h.chg.size,h.chg.block⟩,h.new⟩
theorem Step.cons {w w':World} {p:Nat×(Obj->Prop)} {H H':HL} (h:Sep w (p::H)) (s:Step H H' w w'):Step (p::H) (p::H') w w':=by
 have:=Step.frame [p] [] (by simpa using h) s
 simpa using this
def Q2h (g per now bx b0:Nat) (ts:List (Nat×Nat)) (k j:Nat) (rv:OV) (ro:RV):HL:=
 qhl g per now rv (ts.drop k)++(bx,isC 185 [ptr g])::(b0,isC 38 [lvOf ro j])::rowH ro 3 1 (ints ((ts.take j).map Prod.fst))
def TickS (H0:HL) (w:World) (g per now bx b0:Nat) (ts:List (Nat×Nat)) (k j:Nat) (W:World):Prop:=
 ∃rv ro,ovOk rv (ts.drop k).length/\rvOk ro j/\Step H0 (Q2h g per now bx b0 ts k j rv ro) w W
theorem TickS.drewN {H0:HL} {w W:World} {g per now bx b0:Nat} {ts:List (Nat×Nat)} {k j:Nat} (h:TickS H0 w g per now bx b0 ts k j W) (m:Nat):TickS H0 w g per now bx b0 ts k j (W.drewN m):=by
 obtain⟨rv,ro,h1,h2,h3⟩:=h;exact⟨rv,ro,h1,h2,h3.drewN m⟩
theorem Z0T (g per now bx b0:Nat) (ts:List (Nat×Nat)) (k j:Nat) (rv:OV) (ro:RV):(g,isC 305 [.int .i64 per,.int .i64 now,ovOf rv (ts.drop k).length])∈Q2h g per now bx b0 ts k j rv ro:=by
 simp [Q2h,qhl]
theorem Q8m {ts:List (Nat×Nat)} {k:Nat} {x:Nat×Nat} (h:ts[k]?=some x):(ts.take (k+1)).map Prod.fst=(ts.take k).map Prod.fst++[x.1]:=by
 have hk:=J2Q.1 h;rw [J6P hk.1,J6d,hk.2];rfl
theorem Z6H {ts:List (Nat×Nat)} {k:Nat} {x:Nat×Nat} (h:ts[k]?=some x):ts.drop k=x::ts.drop (k+1):=by
 have hk:=J2Q.1 h;rw [J5t hk.1,hk.2]
theorem TickS.front {H0:HL} {w W:World} {g per now bx b0:Nat} {ts:List (Nat×Nat)} {k j:Nat} (h:TickS H0 w g per now bx b0 ts k j W) {x:Nat×Nat} (hx:ts[k]?=some x) (hd:x.2<=now):J1Q g now x.1 W (TickS H0 w g per now bx b0 ts (k+1) j):=by
 obtain⟨rv,ro,h1,h2,st⟩:=h;have Fq:=Z6H hx;obtain⟨b,off,cap,rfl⟩:∃b off cap,rv=some (b,off,cap):=by
  cases rv with
  | none=>rw [Fq] at h1;exact absurd h1 (by simp [ovOk])
  | some q=>exact⟨q.1,q.2.1,q.2.2,rfl⟩
 have hc:=st.sep.cells (Z0T g per now bx b0 ts k j (some (b,off,cap)) ro);have Ae:(ts.drop k).length=(ts.drop (k+1)).length+1:=by rw [Fq];rfl
 rw [Ae] at h1 hc;obtain⟨n,hn⟩:∃n,n=(ts.drop (k+1)).length:=⟨_,rfl⟩
 have OY:Q1j (ts.drop k)=[.int .i64 (x.1:Int),.int .i64 (x.2:Int)]++Q1j (ts.drop (k+1)):=by rw [Fq];rfl
 -- the row ahead
 have e1:Q2h g per now bx b0 ts k j (some (b,off,cap)) ro=(g,isC 305 [.int .i64 per,.int .i64 now,ovOf (some (b,off,cap)) ((ts.drop (k+1)).length+1)])::(ovH (some (b,off,cap)) 331 2 ([.int .i64 (x.1:Int),.int .i64 (x.2:Int)]++Q1j (ts.drop (k+1)))++((bx,isC 185 [ptr g])::(b0,isC 38 [lvOf ro j])::rowH ro 3 1 (ints ((ts.take j).map Prod.fst)))):=by
  unfold Q2h qhl;rw [Ae,OY];rfl
 rw [e1] at st;obtain⟨R,hR⟩:∃R:HL,R=((bx,isC 185 [ptr g])::(b0,isC 38 [lvOf ro j])::rowH ro 3 1 (ints ((ts.take j).map Prod.fst))):=⟨_,rfl⟩
 rw [<- hR] at st;have sR:=st.sep.tail;have cell:∀i v,([.int .i64 (x.1:Int),.int .i64 (x.2:Int)]++Q1j (ts.drop (k+1)))[i]?=some v->W.cell? ⟨b,off+i,none⟩=some v:=fun i v hv=>Z0p sR.left i v hv
 obtain⟨AE,Ii⟩:=h1;refine⟨b,off,n,cap,x.2,?_,by omega,Ii,cell 0 _ rfl,cell 1 _ rfl,hd,?_⟩
 ·rw [hn];exact hc.cell 2 _ rfl
 ·-- taken off
  have key:∀rv',Step (ovH (some (b,off,cap)) 331 2 ([.int .i64 (x.1:Int),.int .i64 (x.2:Int)]++Q1j (ts.drop (k+1)))++R) (ovH rv' 331 2 (Q1j (ts.drop (k+1)))++R) W W->ovOk rv' (ts.drop (k+1)).length ->
    TickS H0 w g per now bx b0 ts (k+1) j (W.setCell ⟨g,2,none⟩ (ovOf rv' (ts.drop (k+1)).length)):=fun rv' s Bh=>by
   have s2:=Step.cons st.sep s;have s23:=s2.trans (Sep.set (A:=[]) s2.sep 2 (ovOf rv' (ts.drop (k+1)).length));refine⟨rv',ro,Bh,h2,?_⟩;have:=st.trans s23;unfold Q2h qhl;rw [<- hR];exact this
  by_cases CR:cap=1
  ·subst CR;have h0:(ts.drop (k+1)).length=0:=by omega
   have BK:ts.drop (k+1)=[]:=J4Q h0;have:=key (some (b,off,0)) (by
    rw [BK];have:=Z8c (w:=W) (B:=R) (g:=b) (off:=off) (T:=331) (size:=2) (x:=[.int .i64 (x.1:Int),.int .i64 (x.2:Int)]) (by rw [BK] at sR;simpa [Q1j] using sR)
    simpa [Q1j] using this) (by rw [h0];exact⟨J2y _,by unfold maxLen;omega⟩)
   rw [if_pos rfl,hn];exact this
  ·have:=key (some (b,off+2,cap-1)) (J0u sR rfl (by omega)) ⟨by omega,by omega⟩;rw [if_neg CR,hn];exact this
theorem TickS.late {H0:HL} {w W:World} {g per now bx b0:Nat} {ts:List (Nat×Nat)} {k j:Nat} (h:TickS H0 w g per now bx b0 ts k j W) (hd:∀x,ts[k]?=some x->now<x.2):Late g now W:=by
 obtain⟨rv,ro,h1,h2,st⟩:=h;have hc:=(st.sep.cells (Z0T g per now bx b0 ts k j rv ro)).cell 2 _ rfl;cases hx:ts[k]? with
 | none =>
  have hl:(ts.drop k).length=0:=by
   have:=List.getElem?_eq_none_iff.1 hx;rw [J4S];omega
  rw [hl] at hc;left;cases rv with
  | none=>exact⟨_,_,hc⟩
  | some q=>exact⟨_,_,hc⟩
 | some x =>
  right;have Fq:=Z6H hx;obtain⟨b,off,cap,rfl⟩:∃b off cap,rv=some (b,off,cap):=by
   cases rv with
   | none=>rw [Fq] at h1;exact absurd h1 (by simp [ovOk])
   | some q=>exact⟨q.1,q.2.1,q.2.2,rfl⟩
  have Ae:(ts.drop k).length=(ts.drop (k+1)).length+1:=by rw [Fq];rfl
  rw [Ae] at hc;have OY:Q1j (ts.drop k)=[.int .i64 (x.1:Int),.int .i64 (x.2:Int)]++Q1j (ts.drop (k+1)):=by rw [Fq];rfl
  refine⟨b,off,_,cap,x.2,hc,?_,hd x hx⟩;have hs:Sep W (ovH (some (b,off,cap)) 331 2 (Q1j (ts.drop k))):=st.sep.sub (by
   unfold Q2h qhl;exact (J3p _ _).trans ((J4F _).trans (J3r _ _) |>.append_right _ |>.trans (J4F _)))
  exact Z0p hs 1 _ (by rw [OY];rfl)
theorem TickS.row {H0:HL} {w W:World} {g per now bx b0:Nat} {ts:List (Nat×Nat)} {k:Nat} (h:TickS H0 w g per now bx b0 ts (k+1) k W) {x:Nat×Nat} (hx:ts[k]?=some x) (o:Obj) :
  ∃v,W.cell? ⟨b0,0,none⟩=some v/\W.frozen? ⟨b0,0,none⟩=false/\(W.alloc o).ownsRow 0 3 1 v k (ints ((ts.take k).map Prod.fst))/\∀v' W1,W1.ownsRow 0 3 1 v' (k+1) (ints ((ts.take k).map Prod.fst)++[.int .i64 (x.1:Int)])->(W.alloc o).grownBy W1 v.ownBlock->(v'.ownBlock=v.ownBlock∨v'.ownBlock=some (W.alloc o).heap.size) ->
   (∃u,W1.cell? ⟨b0,0,none⟩=some u)/\W1.frozen? ⟨b0,0,none⟩=false/\TickS H0 w g per now bx b0 ts (k+1) (k+1) (W1.setCell ⟨b0,0,none⟩ v'):=by
 obtain⟨rv,ro,h1,h2,st⟩:=h;have hk:=(J2Q.1 hx).1;have hc:=(st.sep.cells (b:=b0) (T:=38) (cs:=[lvOf ro k]) (by simp [Q2h]))
 have hl:(ints ((ts.take k).map Prod.fst)).length=k*1:=by simp [ints];omega
 have sA:=st.sep.alloc o;obtain⟨A,hA⟩:∃A:HL,A=qhl g per now rv (ts.drop (k+1))++[(bx,isC 185 [ptr g]),(b0,isC 38 [lvOf ro k])]:=⟨_,rfl⟩
 have e1:Q2h g per now bx b0 ts (k+1) k rv ro=A++rowH ro 3 1 (ints ((ts.take k).map Prod.fst))++[]:=by
  rw [hA];unfold Q2h;simp
 have Ax:=Q7I ((e1 ▸ sA).left.right) h2 hl;refine⟨lvOf ro k,hc.cell 0 _ rfl,hc.free 0,Ax,fun v' W1 ho hg hb=>?_⟩;obtain⟨ro',rfl,Dg,s2⟩:=Q2k (A:=A) (B:=[]) (e1 ▸ sA) ho hg hb;have BC:=s2.sep.cells (b:=b0) (T:=38) (cs:=[lvOf ro k]) (by rw [hA];simp);refine⟨⟨_,BC.cell 0 _ rfl⟩,BC.free 0,rv,ro',h1,Dg,?_⟩;have s1:Step H0 (A++rowH ro 3 1 (ints ((ts.take k).map Prod.fst))++[]) w (W.alloc o):=by
  rw [<- e1];exact st.trans (st.sep.grown ((Below.refl _ _).alloc (J2y _) o))
 have s12:=s1.trans s2;have s3:=Sep.set (A:=qhl g per now rv (ts.drop (k+1))++[(bx,isC 185 [ptr g])]) (b:=b0) (T:=38) (cs:=[lvOf ro k]) (B:=rowH ro' 3 1 (ints ((ts.take k).map Prod.fst)++[.int .i64 (x.1:Int)])) (by rw [hA] at s12;simpa using s12.sep) 0 (lvOf ro' (k+1));have s4:=(s12.perm (J5T _) (K':=qhl g per now rv (ts.drop (k+1))++[(bx,isC 185 [ptr g])]++(b0,isC 38 [lvOf ro k])::rowH ro' 3 1 (ints ((ts.take k).map Prod.fst)++[.int .i64 (x.1:Int)])) (by rw [hA];simp)).trans s3;have e5:ints ((ts.take (k+1)).map Prod.fst)=ints ((ts.take k).map Prod.fst)++[.int .i64 (x.1:Int)]:=by
  rw [Q8m hx];simp [ints]
 unfold Q2h;rw [e5]
 simpa using s4
def Bk (r:Loop) (D:Nat) (W:World):Prop:=W.heap[D+1]?=some (.loop r)/\W.heap[D]?=some (.deferred (some []))
theorem Bk.set {r:Loop} {D:Nat} {W:World} (h:Bk r D W) {g:Nat} (hg:g<D) (i:Nat) (v:Value):Bk r D (W.setCell ⟨g,i,none⟩ v):=
 ⟨(Below.heap_setCell _ _ _ _ (fun e=>by have e':D+1=g:=e;omega)).trans h.1,(Below.heap_setCell _ _ _ _ (fun e=>by have e':D=g:=e;omega)).trans h.2⟩
theorem Z0U {F:Fence} {n:Nat} {P:Program} {g:Operand} {ps:Array Tmp} {assign body:Code} {Q:Exit->Act->World->Prop} {a:Act} {w:World}
  (Jx:F.round=none) (h1:1<=n) {gf:Nat} {lb:Array Value} (hg:a.eval g=.func (.func gf) #[] lb) (hFg:F.fn gf) (eg:∀args w,(callFunc gf args).run P w=.ok (.enter gf args) w)
  {enc:Nat->Array Value} (FW:∀k,(enc k).size=ps.size) (T T1:Nat->World->Prop) (N:Nat)
  (hT:∀k W l o',T k W->w.heap.size<=l->(∃o:Obj,W.heap[l]?=some o/\o.isCells=false)->T k (W.putObj l o')) (hT1:∀k W l o',T1 k W->w.heap.size<=l->(∃o:Obj,W.heap[l]?=some o/\o.isCells=false)->T1 k (W.putObj l o')) (hTa:∀W o,T 0 W->T 0 (W.alloc o))
  (hiter:∀(r:Loop) (D:Nat) (W:World),w.heap.size<=D->T 0 W->Bk r D W ->
   (∀k W1,k<N->T1 k W1->Bk r D W1->YieldAt F (n-1-1) P (D+1) (enc k) W1 fun e W'=>e=.returned (.bool true)/\T (k+1) W'/\Bk r D W') ->
   CallsIn F (n-1) P gf (#[.func (.yield (D+1)) #[] #[]]++lb) W fun e W'=>(∃v,e=.returned v)/\T N W'/\Bk r D W')
  (h0:T 0 w) (a₁:Nat->Act)
  (hassign:∀(l k:Nat) (W:World) (K:Act->World->Prop),K (a₁ k) W ->
   assign.wpIn (F.inRound l) (n-1-1) P (Exit.then K (fun _ _ _=>False)) {tmps:=(ps.zip (enc k)).foldl (fun t (p,v)=>t.setIfInBounds p v) a.tmps,defers:=[]} W)
  (hbody:∀(l k:Nat) (W:World),T1 k W->k<N->body.wpIn (F.inRound l) (n-1-1) P (fun e _ W'=>e=.normal/\KeepsFrom w.heap.size W W'/\T (k+1) W') (a₁ k) W)
  (Bw:∀(D:Nat) (W:World),w.heap.size<=D->T N W->W.heap[D]?=some (.deferred (some []))->Q .normal {a with defers:={target:=.collected D,args:=#[]}::a.defers} W) :
  (Code.rangeFunc g ps assign body).wpIn F n P Q a w:=by
 refine wpIn_rangeFunc fun fn Fh=>?_
 rw [Jx]
 let r:LoopState->Loop:=fun st=>{state:=st,pending:=none,fn,tmps:=a.tmps,params:=ps,assign,body,defers:=w.heap.size}
 let W1:World:=(w.alloc (.deferred (some []))).alloc (.loop (r .ready))
 have bk1:Bk (r .ready) w.heap.size W1:=by
  constructor
  ·have:=World.alloc_heap_new (w.alloc (.deferred (some []))) (.loop (r .ready))
   rwa [World.size_alloc] at this
  ·exact (Below.heap_alloc _ _ _ (by simp)).trans (World.alloc_heap_new w _)
 refine⟨w.heap.size+1,[{target:=.collected w.heap.size,args:=#[]}],W1,{target:=.fn (.func gf) lb,args:=#[.func (.yield (w.heap.size+1)) #[] #[]]},W1,gf,
  #[.func (.yield (w.heap.size+1)) #[] #[]]++lb,W1,run_enterLoop_outer _ _ _ _ _,?_,?_,?_,fun _=>h1,?_⟩
 ·simp only [resolve,hg];simp [go_sem]
 ·intro f' Mg;simp [Target.leads] at Mg;subst Mg;exact hFg
 ·simp [invoke,go_sem,eg]
 refine (hiter (r .ready) w.heap.size W1 (J2y _) (hTa _ _ (hTa _ _ h0)) bk1 ?_).mono ?_
 ·-- a round
  intro k W hk ht bk;have Ab:w.heap.size+1<W.heap.size:=(J6U.1 bk.1).1;refine⟨fn,_,assign,body,run_yield bk.1 (FW k),roundIn_of_wpIn Fh (hassign _ k W _ ⟨_,run_beginRound bk.1 rfl,?_⟩)⟩
  let W2:World:=W.putObj (w.heap.size+1) (.loop (r .busy))
  have bk2:Bk (r .busy) w.heap.size W2:=⟨World.putObj_heap_same Ab,(World.putObj_heap_other (by omega)).trans bk.2⟩
  have Jv:T1 k W2:=hT1 k W _ _ ht (by omega) ⟨_,bk.1,rfl⟩;refine wpIn_mono (hbody _ k W2 Jv hk) ?_;rintro e a3 W3 ⟨rfl,Jq,MI⟩;have bk3:Bk (r .busy) w.heap.size W3:=⟨Jq.same _ _ (by omega) bk2.1 rfl,Jq.same _ _ (J2y _) bk2.2 rfl⟩
  refine⟨_,_,run_endRound none bk3.1,rfl,hT _ _ _ _ MI (by omega) ⟨_,bk3.1,rfl⟩,World.putObj_heap_same (J6U.1 bk3.1).1,(World.putObj_heap_other (by omega)).trans bk3.2⟩
 ·rintro e W2 ⟨⟨v,rfl⟩,ht,bk⟩;exact⟨none,_,run_endLoop bk.1 (by simp [r]),Bw _ _ (J2y _) (hT _ _ _ _ ht (by omega) ⟨_,bk.1,rfl⟩) ((World.putObj_heap_other (by omega)).trans bk.2)⟩
attribute [local go_sem] Oper.semAt_some
theorem Z8T (c:Nat) (w:World):Calls prog 239 #[.pointer (some ⟨c,0,none⟩)] w fun r w' =>
  r=.returned (.func (.func 251) #[] #[.pointer (some ⟨w.heap.size,0,none⟩)])/\w'=w.alloc (.cells #[.pointer (some ⟨c,0,none⟩)] 185):=by
 go_enter func239,ntmps239
 go_wp2
 go_ret;exact⟨rfl,rfl⟩
def dueK (now:Nat) (ts:List (Nat×Nat)):Nat:=(ts.takeWhile fun x=>decide (x.2<=now)).length
theorem Q9Q (now:Nat) (ts:List (Nat×Nat)):ts.take (dueK now ts)=ts.takeWhile (fun x=>decide (x.2<=now)):=by
 have h:ts.takeWhile (fun x=>decide (x.2<=now))++ts.dropWhile (fun x=>decide (x.2<=now))=ts:=J6v;unfold dueK
 conv=>lhs;rw [<- h]
 rw [J4U (by simp [h]),h,J6J]
def Z1Z (g per now:Nat) (rv:OV) (ts:List (Nat×Nat)) (w:World) (r:Ending) (w':World):Prop:=
 ∃rv' ro bx b0,r=.returned (lvOf ro (dueK now ts))/\ovOk rv' (ts.drop (dueK now ts)).length/\rvOk ro (dueK now ts)/\Step (qhl g per (now-1) rv ts) (Q2h g per now bx b0 ts (dueK now ts) (dueK now ts) rv' ro) w w'
theorem J0Q (now:Nat) (ts:List (Nat×Nat)):dueK now ts<=ts.length:=by
 have h:ts.takeWhile (fun x=>decide (x.2<=now))++ts.dropWhile (fun x=>decide (x.2<=now))=ts:=J6v;have:=congrArg List.length h;rw [J3j] at this;unfold dueK;omega
theorem J0R {now:Nat} {ts:List (Nat×Nat)} {k:Nat} {x:Nat×Nat} (hk:k<dueK now ts) (hx:ts[k]?=some x):x.2<=now:=by
 have h:(ts.take (dueK now ts))[k]?=some x:=by rw [J4D,if_pos hk];exact hx
 rw [Q9Q] at h;have:=J4O h;have hm:∀(l:List (Nat×Nat)),∀y∈l.takeWhile (fun x=>decide (x.2<=now)),y.2<=now:=by
  intro l
  induction l with
  | nil=>simp
  | cons z r ih =>
   intro y hy;rw [List.takeWhile_cons] at hy;split at hy
   ·rename_i hc;rcases J2D.1 hy with rfl|hy
    ·simpa using hc
    ·exact ih y hy
   ·cases hy
 exact hm _ _ this
theorem Z8U {now:Nat} {ts:List (Nat×Nat)} (Ek:ts.Pairwise (fun a b=>a.2<=b.2)) {x:Nat×Nat} (hx:ts[dueK now ts]?=some x):now<x.2:=by
 have h:ts.takeWhile (fun x=>decide (x.2<=now))++ts.dropWhile (fun x=>decide (x.2<=now))=ts:=J6v;rw [<- h] at hx;unfold dueK at hx;rw [J5O (by rw [h];exact J2y _)] at hx;exact Q8N Ek now x (J4O hx)
theorem Z0V {W:World} {g per now bx b0:Nat} {ts:List (Nat×Nat)} {k j:Nat} {rv:OV} {ro:RV} (h:Sep W (Q2h g per now bx b0 ts k j rv ro)) {b:Nat} (hb:b∈keys (Q2h g per now bx b0 ts k j rv ro)):∃cs T f,W.heap[b]?=some (.cells cs T f):=by
 obtain⟨p,hp,rfl⟩:=J2E.1 hb;obtain⟨o,ho,hq⟩:=h.at' p hp;have key:(∃T cs,p.2=isC T cs)∨(∃T n cs,p.2=isR T n cs)∨(∃T m off cs,p.2=isS T m off cs):=by
  unfold Q2h qhl at hp;simp only [J4L,J2D,J3o] at hp;rcases hp with rfl|hp|rfl|rfl|hp
  ·exact .inl ⟨_,_,rfl⟩
  ·cases rv with
   | none=>cases hp
   | some q =>
    simp only [ovH,J2D,J2V,or_false] at hp;subst hp;exact .inr (.inr ⟨_,_,_,_,rfl⟩)
  ·exact .inl ⟨_,_,rfl⟩
  ·exact .inl ⟨_,_,rfl⟩
  ·cases ro with
   | none=>cases hp
   | some q =>
    simp only [rowH,J2D,J2V,or_false] at hp;subst hp;exact .inr (.inl ⟨_,_,_,rfl⟩)
 rcases key with ⟨T,cs,e⟩|⟨T,n,cs,e⟩|⟨T,m,off,cs,e⟩
 ·rw [e] at hq;subst hq;exact⟨_,_,_,ho⟩
 ·rw [e] at hq;obtain⟨Aj,rfl,_⟩:=hq;exact⟨_,_,_,ho⟩
 ·rw [e] at hq;obtain⟨Aj,rfl,_⟩:=hq;exact⟨_,_,_,ho⟩
theorem Z2a {H0:HL} {w W:World} {g per now bx b0:Nat} {ts:List (Nat×Nat)} {k j:Nat} {rv:OV} {ro:RV} (st:Step H0 (Q2h g per now bx b0 ts k j rv ro) w W) {l:Nat} (o':Obj) (hl:w.heap.size<=l) (Cm:GB<=w.heap.size) (ho:∃o:Obj,W.heap[l]?=some o/\o.isCells=false):Step H0 (Q2h g per now bx b0 ts k j rv ro) w (W.putObj l o'):=by
 obtain⟨o,ho,PQ⟩:=ho;have hn:l∉keys (Q2h g per now bx b0 ts k j rv ro):=fun hb=>by
  obtain⟨cs,T,f,hc⟩:=Z0V st.sep hb;rw [hc] at ho;cases ho;cases PQ
 have Aa:∀b,b≠l->(W.putObj l o').heap[b]?=W.heap[b]?:=fun b hb=>World.putObj_heap_other hb
 refine⟨st.sep.same (fun b hb=>Aa b (fun e=>hn (e ▸ hb))) (st.sep.env.same (fun b hb=>Aa b (by omega)) (by have:=st.sep.env.gb;simpa [World.putObj] using this)),?_,st.new⟩;exact⟨st.chg.os,st.chg.tape,st.chg.output,by have:=st.chg.size;simpa [World.putObj] using this,fun b hb hF=>(Aa b (by omega)).trans (st.chg.block b hb hF)⟩
theorem TickS.put {H0:HL} {w W:World} {g per now bx b0:Nat} {ts:List (Nat×Nat)} {k j:Nat} (h:TickS H0 w g per now bx b0 ts k j W) {l:Nat} (o':Obj) (hl:w.heap.size<=l) (Cm:GB<=w.heap.size) (ho:∃o:Obj,W.heap[l]?=some o/\o.isCells=false):TickS H0 w g per now bx b0 ts k j (W.putObj l o'):=by
 obtain⟨rv,ro,h1,h2,st⟩:=h;exact⟨rv,ro,h1,h2,Z2a st o' hl Cm ho⟩
theorem Z6I {W w1:World} {B b0 n:Nat} {T:TypeId} {v v':Value} {xs:List Value} {o:Obj} (Ax:(W.alloc o).ownsRow 0 T 1 v n xs) (hg:(W.alloc o).grownBy w1 v.ownBlock) (hb:b0<B):KeepsFrom B W (w1.setCell ⟨b0,0,none⟩ v'):=by
 refine⟨by have:=hg.size;simp at this;simp [World.setCell];omega,fun k o2 hB hk PQ=>?_⟩;have Ab:=(J6U.1 hk).1;refine (Below.heap_setCell _ _ _ _ (fun e=>by have e':k=b0:=e;omega)).trans ?_;have Bu:(W.alloc o).heap[k]?=some o2:=(Below.heap_alloc _ _ _ Ab).trans hk;refine (hg.block k (by simp;omega) (fun e=>?_)).trans Bu;rcases Ax.2 with ⟨rfl,_⟩|⟨g,cap,Aj,rfl,_,Cm,_⟩
 ·cases e
 ·have:k=g:=by simpa [Value.ownBlock] using e
  subst this;rw [Cm] at Bu;cases Bu;cases PQ
theorem Z8V (F:Fence) (hF:Hid (F=Fence.wide)) (n:Nat) (hn:4<=n) {w:World} {g per now:Nat} {rv:OV} {ts:List (Nat×Nat)} (h:Sep w (qhl g per now rv ts)) (Bh:ovOk rv ts.length) (hl:ts.length<=256) (EA:now<1048576) (Ek:ts.Pairwise (fun a b=>a.2<=b.2)) :
  CallsIn F n prog 211 #[.pointer (some ⟨g,0,none⟩)] w (Z1Z g per (now+1) rv ts w):=by
 have h1:F.fn 211:=by rw [hF.out];trivial
 have h2:F.fn 251:=by rw [hF.out];trivial
 have h3:F.fn 239:=by rw [hF.out];trivial
 have Jx:F.round=none:=by rw [hF.out];rfl
 have CP:1<=n:=by omega
 obtain⟨i0,hi,BH,Bi,Be⟩:=info_parts infoint;have hc:Cells w g 305 [.int .i64 per,.int .i64 now,ovOf rv ts.length]:=h.cells (by simp [qhl]);have c1:=hc.cell 1 _ rfl;have f1:=hc.free 1;have Ab:=hc.lt;have hw:IntKind.i64.wrap ((now:Int)+1)=(now:Int)+1:=Go.IntWalk.i64_in _ (by omega);have EP:wrap64 ((now:Int)+1)=(now:Int)+1:=Go.IntWalk.wrap64_in _ (by omega);obtain⟨W5,P7⟩:∃W5,W5=(((w.setCell ⟨g,1,none⟩ (.int .i64 ((now:Int)+1))).alloc (.cells #[.slice none 0 0] 38)).alloc (.cells #[.pointer (some ⟨g,0,none⟩)] 185)):=⟨_,rfl⟩
 have Bj:(w.setCell ⟨g,1,none⟩ (.int .i64 ((now:Int)+1))).heap.size=w.heap.size:=by simp [World.setCell]
 have T0:Hid (TickS (qhl g per now rv ts) w g per (now+1) (w.heap.size+1) w.heap.size ts 0 0 W5/\W5.heap.size=w.heap.size+2):=by
  have s1:Step (qhl g per now rv ts) (qhl g per (now+1) rv ts) w (w.setCell ⟨g,1,none⟩ (.int .i64 ((now:Int)+1))):=by
   have:=Sep.set (A:=[]) (B:=ovH rv 331 2 (Q1j ts)) h 1 (.int .i64 ((now:Int)+1));exact this
  have s2:=s1.sep.new 38 [.slice none 0 0];rw [Bj] at s2;have s3:=s2.sep.new 185 [.pointer (some ⟨g,0,none⟩)];rw [World.size_alloc,Bj] at s3;have s4:=(s1.trans s2).trans s3;rw [P7];refine⟨⟨rv,none,Bh,rfl,s4.perm (J5T _) ?_⟩,by simp [World.setCell]⟩;unfold Q2h;show List.Perm (_::_::qhl g per (now+1) rv ts) (qhl g per (now+1) rv ts++_::_::[]);refine (J5n (l₁:=[_,_]) (l₂:=qhl g per (now+1) rv ts)).trans ?_;exact J5T _
 clear Bj;refine callsIn_of_wp_marks func211 rfl h1 ?_ Jx;simp only [ntmps211,J5f,J3k,J4Z,Nat.reduceAdd,Nat.reduceSub,Array.replicate_succ,Array.replicate_zero,List.push_toArray,List.append_toArray,J4K,J4L]
 gi_wp2_with (gi_at_call 239;refine (J0l hF (Z8T g _)).mono ?_;rintro e w' ⟨rfl,rfl⟩)
 rw [<- P7];clear P7;have Cm:=h.env.gb;have Vv:=T0.out.2;have V1:=J0Q (now+1) ts;have AA:∀k,k<dueK (now+1) ts->∃x,ts[k]?=some x:=fun k hk=>⟨_,J4R (by omega)⟩
 refine Z0U Jx CP (gf:=251) (lb:=#[.pointer (some ⟨w.heap.size+1,0,none⟩)]) rfl h2 (enters_of func251 (by kernel_rfl) rfl)
  (enc:=fun k=>#[.int .i64 (((ts[k]?.getD (0,0)).1:Nat):Int)]) (fun _=>rfl)
  (fun k W=>k<=dueK (now+1) ts/\TickS (qhl g per now rv ts) w g per (now+1) (w.heap.size+1) w.heap.size ts k k W)
  (fun k W=>k<dueK (now+1) ts/\TickS (qhl g per now rv ts) w g per (now+1) (w.heap.size+1) w.heap.size ts (k+1) k W)
  (dueK (now+1) ts)
  (fun k W l o' ht hl ho=>⟨ht.1,ht.2.put o' (by omega) Cm ho⟩) (fun k W l o' ht hl ho=>⟨ht.1,ht.2.put o' (by omega) Cm ho⟩)
  (fun W o ht=>⟨ht.1,by obtain⟨a1,a2,a3,a4,st⟩:=ht.2;exact⟨a1,a2,a3,a4,st.trans (st.sep.grown ((Below.refl _ _).alloc (J2y _) o))⟩⟩)
  ?iter ⟨J4C _,T0.out.1⟩
  (fun k=>{tmps:=#[.pointer (some ⟨g,0,none⟩),undef,.slice none 0 0,.pointer (some ⟨w.heap.size,0,none⟩),.int .i64 (((ts[k]?.getD (0,0)).1:Nat):Int),.pointer (some ⟨g,0,none⟩),.bool false,.pointer (some ⟨g,0,none⟩),.pointer (some ⟨g,0,none⟩),.pointer (some ⟨g,1,none⟩),.int .i64 now,.int .i64 ((now:Int)+1),.pointer (some ⟨g,0,none⟩),.pointer (some ⟨g,1,none⟩),.pointer (some ⟨g,0,none⟩),.func (.func 251) #[] #[.pointer (some ⟨w.heap.size+1,0,none⟩)],.int .i64 (((ts[k]?.getD (0,0)).1:Nat):Int),undef,undef,undef,undef,undef],defers:=[]}) ?assign ?body ?done
 case iter =>
  intro r D W hD ht bk hy;refine J1R F hF (n-1) (by omega) (D+1) (w.heap.size+1) g (now+1) (dueK (now+1) ts) (fun k=>(ts[k]?.getD (0,0)).1)
   (fun k W=>(k<=dueK (now+1) ts/\TickS (qhl g per now rv ts) w g per (now+1) (w.heap.size+1) w.heap.size ts k k W)/\Bk r D W)
   (fun k W=>(k<dueK (now+1) ts/\TickS (qhl g per now rv ts) w g per (now+1) (w.heap.size+1) w.heap.size ts (k+1) k W)/\Bk r D W) W
   (fun k W hj=>?_) (fun k W m hj=>⟨⟨hj.1.1,hj.1.2.drewN m⟩,hj.2⟩) (fun k W m hj=>⟨⟨hj.1.1,hj.1.2.drewN m⟩,hj.2⟩) (fun k W1 hk hj=>hy k W1 hk hj.1 hj.2) ⟨ht,bk⟩
  obtain⟨⟨hk,GA⟩,A9⟩:=hj;obtain⟨rv',ro',q1,q2,st⟩:=GA;have RX:=st.sep.cells (Z0T g per (now+1) (w.heap.size+1) w.heap.size ts k k rv' ro');have E8:=st.sep.cells (b:=w.heap.size+1) (T:=185) (cs:=[ptr g]) (by simp [Q2h]);refine⟨E8.cell 0 _ rfl,RX.cell 1 _ (by rw [Int.natCast_add];rfl),RX.free 2,hk,fun I2=>?_,fun e=>?_⟩
  ·obtain⟨x,hx⟩:=AA k I2;have DC:=TickS.front ⟨rv',ro',q1,q2,st⟩ hx (J0R I2 hx);obtain⟨b,off,len,cap,at_,p1,p2,p3,p4,p5,p6,p7⟩:=DC.it;have Oo:(ts[k]?.getD (0,0)).1=x.1:=by rw [hx];rfl
   exact⟨b,off,len,cap,at_,p1,p2,p3,by rw [Oo];exact p4,p5,p6,⟨⟨I2,p7⟩,A9.set (by omega) 2 _⟩⟩
  ·exact TickS.late ⟨rv',ro',q1,q2,st⟩ fun x hx=>Z8U Ek (by rw [<- e];exact hx)
 case assign =>
  intro l k W K hK;dsimp only at hK ⊢;generalize (ts[k]?.getD (0,0)).1=x at *
  gi_wp2
  exact hK
 case body =>
  rintro l k W ⟨hk,ht⟩ _;obtain⟨x,hx⟩:=AA k hk;have Oo:(ts[k]?.getD (0,0)).1=x.1:=by rw [hx];rfl
  rw [Oo];obtain⟨v,c0,f0,Ax,AK⟩:=ht.row hx (.cells #[.int .i64 (x.1:Int)] 3);have AZ:=Q0a AK;have R5:k<=256:=by omega
  clear AK ht h hc c1 f1 Bh Ek T0 AA
  gi_wp2_with (gi_at_builtin;refine wpListIn_append_own_at _ rfl _ _ 38 rfl 0 3 i0 (.int .i64 0) 1 8 underlying38 hi BH Bi Be rfl (by decide) _ _ _ rfl Ax ⟨W.heap.size,0,none⟩ 1 1 [.int .i64 (x.1:Int)] rfl rfl (cell_one_new _ _ _) (by simp [Value.oneCell']) (by unfold maxLen;omega) (by omega) (J4C _) ?_;intro v' w1 AT BY _ EZ;have De:=BY.size;obtain⟨⟨u0,d0⟩,df,GA⟩:=AZ.out v' w1 AT BY EZ;obtain⟨g',B9,rfl⟩:=ownsRow_succ AT;have Fk:=Q0a GA;have HG:=Q0a BY;have SY:=Q0a Ax;clear GA AT BY EZ Ax)
  exact⟨Z6I SY.out HG.out (by omega),hk,Fk.out⟩
 case done =>
  intro D W hD ht hK;obtain⟨_,rv',ro',q1,q2,st⟩:=ht;have E8:=(st.sep.cells (b:=w.heap.size) (T:=38) (cs:=[lvOf ro' (dueK (now+1) ts)]) (by simp [Q2h])).cell 0 _ rfl
  gi_wp2
  refine⟨by simp,.inl ⟨_,_,rfl,run_takeDeferred hK,?_⟩⟩;refine⟨_,results_tmp rfl _ _ _,?_⟩;exact⟨rv',ro',_,_,rfl,q1,q2,Z2a st _ (by omega) Cm ⟨_,hK,rfl⟩⟩
theorem Z6J {w:World} {g per now:Nat} {rv:OV} {ts:List (Nat×Nat)} (h:Sep w (qhl g per now rv ts)) (Bh:ovOk rv ts.length) (hl:ts.length<=256) (EA:now<1048576) (Ek:ts.Pairwise (fun a b=>a.2<=b.2)) :
  Calls prog 211 #[.pointer (some ⟨g,0,none⟩)] w (Z1Z g per (now+1) rv ts w):=
 (callsIn_wide (n:=4)).1 (Z8V Fence.wide rfl 4 (J2y _) h Bh hl EA Ek)
end Go.Proofs.YtfidemmgofcnmaaGreatDoor
