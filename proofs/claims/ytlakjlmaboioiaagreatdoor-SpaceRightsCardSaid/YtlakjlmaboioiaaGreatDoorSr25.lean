/- SpaceRights returns true at every input. No condition. Part of its proof. -/
import Derived.Test.YtlakjlmaboioiaaGreatDoorSr01
import Derived.Test.YtlakjlmaboioiaaGreatDoorSr24
import Derived.Test.YtlakjlmaboioiaaGreatDoorSr10
import Derived.Test.YtlakjlmaboioiaaGreatDoorSr18
import Derived.Shelf.RegionOpenPlain
import Derived.Test.YtlakjlmaboioiaaGreatDoorSr15
import Derived.Test.YtlakjlmaboioiaaGreatDoorSr14
import Derived.Test.YtlakjlmaboioiaaGreatDoorSr06
import Derived.BigQuiet
import Derived.Deep.QuietTactic
import Derived.Test.YtlakjlmaboioiaaGreatDoorSr09
import Derived.RangeFuncWrites
import Derived.Maps.OwnIn
set_option maxHeartbeats 4000000
set_option maxRecDepth 1000000
set_option linter.unusedVariables false
namespace Go.Proofs.YtlakjlmaboioiaaGreatDoor
open Go.RowKit Go.Proofs.Tryz
theorem Q9z {l:List Pl} {tb:Nat->TB} {h:Nat} {p:Pl} (hp:pget l 1 h=some p) (hn:(tb (h%256)).Nil) (h' s:Nat):Q0f (l.set (h%256) {p with st:=2}) tb h' s=Q0f l tb h' s:=by
 obtain⟨hi,hnm,_⟩:=pget_some.1 hp;by_cases e:h'%256=h%256
 ·have z:∀l',Q0f l' tb h' s=none:=fun l'=>by
   unfold Q0f;split
   ·split
    ·rename_i hc;rw [e];exact hn.2 s hc.2
    ·rfl
   ·rfl
  rw [z,z]
 ·unfold Q0f;rw [Q0z _ hi,if_neg e]
theorem SP.Ok.doom {Z:SP} {fr:List Nat} {N K:Nat} {M:Int} (ok:Z.Ok fr N K M) {x:Nat} {p:Pl} (hp:pget Z.S.l 1 x=some p) (h0:x≠0) (hk:kids Z.S.l x=[]) (hn:∀s:Nat,Z.av.en x s=none) (hno:∀(h s:Nat) (c:Nat×Nat),Z.av.en h s=some c->c.1≠x) {rv:OV} (hov:ovOk rv (Z.S.ts.length+1)) :
  (Z.setS (Z.S.doomed x p rv) Z.tb).Ok fr N K M/\(Z.setS (Z.S.doomed x p rv) Z.tb).av=Z.av:=by
 have hnil:(Z.tb (x%256)).Nil:=by
  obtain⟨hi,_,hst⟩:=pget_some.1 hp;by_cases h2:p.kind=2
  ·refine TB.nil_of (ok.tpi.full _ (J4D _ (by omega))) fun s hs=>?_
   have:=av_none.1 (hn s)
   rwa [Q0g hp h2 hs] at this
  ·exact ok.tpi.nil _ p hi (fun h=>h2 h.2)
 have hno':∀h' s e,Q0f Z.S.l Z.tb h' s=some e->e.h≠x:=fun h' s e he=>hno h' s (e.h,e.r) (Q8W he)
 refine⟨⟨ok.core.doomed hp h0 hk (ok.tpi.spare ok.core hp hnil) hov,ok.tpi.doomed ok.core hp hnil rv,ok.fpi.doomed hp hnil hno',ok.fo,ok.next⟩,?_⟩;show (⟨fun h s=>(Q0f (Z.S.l.set (x%256) {p with st:=2}) Z.tb h s).map Ent.c,Z.F.N⟩:AV)=_;unfold SP.av avOf;congr 1;funext h s;rw [Q9z hp hnil]
def Zmb (l:List Pl) (A:List Nat) (l':List Pl):Prop:=∀y,pget l' 2 y=if y∈A then (pget l 1 y).map (fun p=>{p with st:=2}) else pget l 2 y
theorem J0c {l:List Pl} {x:Nat} {p:Pl} (hp:pget l 1 x=some p):Zmb l [x] (l.set (x%256) {p with st:=2}):=fun y=>by
 obtain⟨hi,hn,hs⟩:=pget_some.1 hp;rw [Q0z _ hi];by_cases e:y%256=x%256
 ·rw [if_pos e];by_cases ey:y=x
  ·subst ey;rw [if_pos ⟨hn,rfl⟩,if_pos (by simp),hp];rfl
  ·rw [if_neg (fun h:_/\_=>ey (h.1.symm.trans hn)),if_neg (fun h:y∈[x]=>ey (J3E.1 h))];cases h2:pget l 2 y with
   | none=>rfl
   | some q=>exact absurd (Q0P h2 hp e).1 ey
 ·rw [if_neg e,if_neg];intro h;rw [J3E] at h;exact e (by rw [h])
def J0d (l:List Pl) (L:List Nat):Prop:=∀A x B,L=A++x::B->∃q,pget l 1 x=some q/\x≠0/\x∉A/\∀y∈kids l x,y∈A
theorem Z6k {l:List Pl} {N:Nat} (t:Tre l N) {h:Nat} {p:Pl} (hp:pget l 1 h=some p) (h0:h≠0):J0d l (Q0L l N h++[h]):=fun A x B e=>by
 by_cases hk:p.kind=1
 ·by_cases hB:B=[]
  ·subst hB;obtain⟨e1,e2⟩:=List.append_inj' e rfl;obtain rfl:h=x:=by simpa using e2
   subst e1;refine⟨p,hp,h0,fun hm=>((Q2B t).1 hm).2 rfl,fun y hy=>?_⟩;obtain⟨p1,q1,a1,a2,a3,a4,a5⟩:=(Q0O t.len).1 hy;rw [hp] at a1;cases a1;refine Z5e t hp hk a3 a4 ?_ (.inl a5);intro e;subst e;rw [hp] at a3;cases a3;have:=t.rise y p hp a4 hk;omega
  ·obtain⟨B',b,rfl⟩:∃B' b,B=B'++[b]:=⟨B.dropLast,B.getLast hB,(List.dropLast_concat_getLast hB).symm⟩
   have e':Q0L l N h++[h]=(A++x::B')++[b]:=by rw [e];simp
   obtain⟨e1,e2⟩:=List.append_inj' e' rfl;obtain⟨q,q1,q2,q3,q4,q5,q6,_⟩:=Z5d t hp hk e1;exact⟨q,q1,q3,fun hm=>q5 x hm rfl,q6⟩
 ·have hu:Q0L l N h=[]:=(Q8D t).2 (Q4w fun q hq=>by rw [hp] at hq;cases hq;exact hk);rw [hu] at e;have:A=[]/\x=h/\B=[]:=by
   cases A with
   | nil=>simp at e;exact⟨rfl,e.1.symm,e.2⟩
   | cons a r=>simp at e
  obtain⟨rfl,rfl,rfl⟩:=this;refine⟨p,hp,h0,by simp,fun y hy=>?_⟩;rw [Q4w fun q hq=>by rw [hp] at hq;cases hq;exact hk] at hy;cases hy
def Z3p (l:List Pl) (A:List Nat):List Pl:=A.foldl (fun l x=>match pget l 1 x with|some p=>l.set (x%256) {p with st:=2}|none=>l) l
theorem Q7t {l:List Pl} {A:List Nat} {x:Nat} {p:Pl} (h:pget (Z3p l A) 1 x=some p):Z3p l (A++[x])=(Z3p l A).set (x%256) {p with st:=2}:=by
 unfold Z3p at h ⊢;rw [List.foldl_append];show (match pget _ 1 x with|some p=>_|none=>_)=_;rw [h]
structure KillI (Z:SP) (fr:List Nat) (N K:Nat) (M:Int) (A:List Nat) (Z1:SP):Prop where
 ok:Z1.Ok fr N K M
 s:Z1.s=Z.s
 c:Z1.S.c=Z.S.c
 t:Z1.S.t=Z.S.t
 g:Z1.S.g=Z.S.g
 f:Z1.F.f=Z.F.f
 nx:Z1.F.next=Z.F.next
 qn:Z1.S.P.q.next=Z.S.P.q.next
 per:Z1.S.period=Z.S.period
 now:Z1.S.now=Z.S.now
 same:SameP Z.S.P Z1.S.P
 acc:Z1.S.P.q.E.map En.id=Z.S.P.q.E.map En.id
 l:Z1.S.l=Z3p Z.S.l A
 live:Dmd Z.S.l A Z1.S.l
 zomb:Zmb Z.S.l A Z1.S.l
 ts:Z1.S.ts=Z.S.ts++A.map fun x=>(x,Z.S.now+Z.S.period)
 less:Lesser Z.av Z1.av Z.F.next
 out:∀x∈A,(∀s:Nat,Z1.av.en x s=none)/\∀(h s:Nat) (c:Nat×Nat),Z1.av.en h s=some c->c.1≠x
theorem KillI.start {Z:SP} {fr:List Nat} {N K:Nat} {M:Int} (ok:Z.Ok fr N K M):KillI Z fr N K M [] Z:=
 ⟨ok,rfl,rfl,rfl,rfl,rfl,rfl,rfl,rfl,rfl,SameP.refl _,rfl,rfl,Dmd.nil _,fun y=>by simp,by simp,Lesser.refl ok.avOk,fun x h=>by cases h⟩
theorem KillI.next {Z Z1 Z2 Z3:SP} {fr:List Nat} {N K:Nat} {M:Int} {A:List Nat} (hlz:Z.S.l.length<=256) (I:KillI Z fr N K M A Z1) {x:Nat} {q p:Pl} (hq:pget Z.S.l 1 x=some q) (h0:x≠0) (hA:x∉A) (hk:∀y∈kids Z.S.l x,y∈A)
  (ok2:Z2.Ok fr N K M) (w2:Z2.av=(Q1K Z1.F.next x Z1.av (Q0o Z1.S.l Z1.tb x)).1) (s2:SameZ Z1 Z2) (ok3:Z3.Ok fr N K M) (w3:Z3.av=(Q1c Z2.av (Q2R Z2.S.l Z2.tb x)).1) (s3:SameZ Z2 Z3) :
  (pget Z3.S.l 1 x=some q/\kids Z3.S.l x=[])/\∀{rv:OV},pget Z3.S.l 1 x=some p->ovOk rv (Z3.S.ts.length+1)->KillI Z fr N K M (A++[x]) (Z3.setS (Z3.S.doomed x p rv) Z3.tb):=by
 have l2:=s2.alt.l;have l3:=s3.alt.l;have hlen:=I.ok.core.inv.len;have hp1:pget Z1.S.l 1 x=some q:=by rw [I.live x,if_neg hA];exact hq
 have hp3:pget Z3.S.l 1 x=some q:=by rw [l3,l2];exact hp1
 have hk3:kids Z3.S.l x=[]:=by rw [l3,l2];exact Dmd.none_left hlz (by omega) I.live hk
 refine⟨⟨hp3,hk3⟩,fun {rv} hp hov=>?_⟩;obtain⟨e1,e2⟩:=Z6j (a:=Z1.av) (l:=Z1.S.l) (tb:=Z1.tb) (N:=Z1.F.N) (x:=x) rfl I.ok.avOk;rw [<- w2,I.nx] at e1;rw [<- w2] at e2;have k2:=ok2.avOk;rw [s2.nx,I.nx] at k2;obtain⟨e3,e4⟩:=Q6y (Q2R Z2.S.l Z2.tb x) k2;rw [<- w3] at e3 e4;have hn:∀s:Nat,Z3.av.en x s=none:=fun s=>e3.none (e2 s)
 have hno:∀(h s:Nat) (c:Nat×Nat),Z3.av.en h s=some c->c.1≠x:=fun h s c hc hx=>by
  rcases e3.en h s with h1|h1
  ·rw [h1] at hc;cases hc
  ·rw [h1] at hc;obtain⟨e,he,rfl⟩:=Q3l hc;obtain⟨r,r1,r2,r3,_⟩:=Q1T he;have hm:((h:Int),(s:Int))∈Q2R Z2.S.l Z2.tb x:=mem_holdL.2 ⟨h,(Q2V (by rw [ok2.core.inv.len];omega)).2 ⟨r,r1⟩,s,rfl,r3,e,he,hx⟩;rw [e4 h s hm] at h1;rw [<- h1] at hc;cases hc
 obtain⟨d1,d2⟩:=ok3.doom hp h0 hk3 hn hno hov;have hdm:Dmd Z3.S.l [x] (Z3.S.doomed x p rv).l:=Z9L hp;have hzm:Zmb Z3.S.l [x] (Z3.S.doomed x p rv).l:=J0c hp;have hlv:Dmd Z.S.l A Z3.S.l:=by rw [l3,l2];exact I.live
 have hzv:Zmb Z.S.l A Z3.S.l:=by rw [l3,l2];exact I.zomb
 have hless:Lesser Z.av Z3.av Z.F.next:=(I.less.trans e1).trans e3;refine⟨d1,?_,?_,?_,?_,?_,?_,?_,?_,?_,?_,?_,?_,hlv.step hdm,fun y=>?_,?_,by rw [d2];exact hless,fun y hy=>?_⟩
 ·exact s3.s.trans (s2.s.trans I.s)
 ·exact s3.alt.c.trans (s2.alt.c.trans I.c)
 ·exact s3.alt.t.trans (s2.alt.t.trans I.t)
 ·exact s3.alt.g.trans (s2.alt.g.trans I.g)
 ·exact s3.f.trans (s2.f.trans I.f)
 ·exact s3.nx.trans (s2.nx.trans I.nx)
 ·exact s3.alt.next.trans (s2.alt.next.trans I.qn)
 ·exact s3.alt.per.trans (s2.alt.per.trans I.per)
 ·exact s3.alt.now.trans (s2.alt.now.trans I.now)
 ·exact (I.same.trans s2.alt.same).trans s3.alt.same
 ·exact s3.alt.ids.trans (s2.alt.ids.trans I.acc)
 ·have e:Z3.S.l=Z3p Z.S.l A:=l3.trans (l2.trans I.l);rw [Q7t (p:=p) (by rw [<- e];exact hp),<- e];rfl
 ·show pget (Z3.S.doomed x p rv).l 2 y=_;rw [hzm y,hzv y,hlv y];by_cases ey:y=x
  ·subst ey;simp [hA]
  ·by_cases hy:y∈A <;> simp [ey,hy]
 ·show Z3.S.ts++[(x,Z3.S.now+Z3.S.period)]=_;rw [s3.alt.ts,s2.alt.ts,I.ts,s3.alt.now,s2.alt.now,I.now,s3.alt.per,s2.alt.per,I.per];simp
 ·rw [d2];rcases J2l.1 hy with hy|hy
  ·obtain⟨o1,o2⟩:=I.out y hy;have hl13:Lesser Z1.av Z3.av Z.F.next:=e1.trans e3;refine⟨fun s=>hl13.none (o1 s),fun h s c hc=>?_⟩;rcases hl13.en h s with h1|h1
   ·rw [h1] at hc;cases hc
   ·rw [h1] at hc;exact o2 h s c hc
  ·rw [J3E] at hy;subst hy;exact⟨hn,hno⟩
open Go.Sort (Holds putRow holds_putRow holds_ahead putRow_self reverseLoop swp size_swp)
theorem Z0A (blk cap:Nat) (d:Array Nat) (w:World) (hH:Holds encH w blk 0 d) (hsz:d.size<=65536) :
  Calls prog 96 #[.slice (some ⟨blk,0,none⟩) d.size cap] w fun e w'=>e=.returned (.tuple #[])/\∃n,w'=putRow encH (Go.Sort.ahead w n) blk 0 d.reverse:=by
 go_enter func96,ntmps96;go_wp2_with fail
 go_loopg [2,3] d.size (fun k s2 s3 wr=>∃(i jn:Nat) (jz:Int) (dk:Array Nat) (n:Nat),s2=.int .i64 i/\s3=.int .i64 jz/\((i:Int)<jz->jz=jn/\jn<d.size)/\(¬(i:Int)<jz->¬i<jn)/\jn-i<=k /\
  dk.size=d.size/\wr=putRow encH (Go.Sort.ahead w n) blk 0 dk/\reverseLoop i jn dk=reverseLoop 0 (d.size-1) d)
 case atStart=>exact⟨0,d.size-1,(d.size:Int)-1,d,0,rfl,rfl,fun h=>⟨by omega,by omega⟩,fun h=>by omega,by omega,rfl,(putRow_self encH w blk 0 d hH).symm,rfl⟩
 case round =>
  obtain⟨i,jn,jz,dk,n,rfl,rfl,h1,h2,hk,hds,hwr,heq⟩:=hrel;by_cases hlt:(i:Int)<jz
  ·obtain⟨rfl,hjn⟩:=h1 hlt;have hij:i<jn:=by omega
   have hHk:Holds encH wr blk 0 dk:=by rw [hwr];exact holds_putRow encH _ blk 0 d dk (holds_ahead encH w n blk 0 d hH) hds
   obtain⟨ci,fi⟩:=hHk i (by omega);obtain⟨cj,fj⟩:=hHk jn (by omega);have A:Go.Aside (wr=putRow encH (Go.Sort.ahead w n) blk 0 dk):=hwr;have SW:Hid (((wr.setCell ⟨blk,i,none⟩ (.int .u32 (dk[jn]!:Int))).setCell ⟨blk,jn,none⟩ (.int .u32 (dk[i]!:Int))).drew=putRow encH (Go.Sort.ahead w (n+1)) blk 0 (swp dk i jn)):=by
    have:=swap_world encH (off:=0) (i:=i) (j:=jn) (by omega) (by omega) hwr rfl rfl;rw [J4b,J4b] at this;exact this
   clear hwr hHk hH h1 h2;go_wp2_with fail;rw [J4b] at ci fi cj fj;unfold encH at ci cj;go_region
   all_goals
    go_wp2_with fail;go_roundg (jn-1-(i+1))
    case measure=>omega
    case rel =>
     rw [reverseLoop,if_pos hij] at heq;exact⟨i+1,jn-1,(jn:Int)-1,swp dk i jn,n+1,by go_num,by go_num,fun h=>⟨by omega,by omega⟩,fun h=>by omega,J1x _,by rw [size_swp];exact hds,
      (by have hsw:=SW.out;first|exact hsw|(simp only [getElem!_pos dk jn (by omega)] at hsw;exact hsw)),heq⟩
  ·have hnot:=h2 hlt;go_wp2_with fail
   first|go_end0|skip
   refine⟨rfl,n,?_⟩;rw [reverseLoop,if_neg hnot] at heq;rw [<- Go.Lib.reverseLoop_reverse,<- heq]
end Go.Proofs.YtlakjlmaboioiaaGreatDoor
namespace Go.Proofs.YtlakjlmaboioiaaGreatDoor
open Go.RowKit Go.Proofs.Tryz
theorem Z8o (l:List Pl) (hl:l.length<=256) (x:Nat):(kids l x).length<=256:=by
 unfold kids;split
 ·split
  ·unfold Z6I;refine J1y (J3M _ _) ?_;have:=Q2u l 1 l.length;unfold allL;omega
  ·simp
 ·simp
structure UndI (l:List Pl) (N x:Nat) (ws os:List Nat):Prop where
 eq:os++rest l N ws=pre l N x
theorem UndI.start (l:List Pl) (N x:Nat):UndI l N x [x] []:=⟨by simp [rest]⟩
theorem UndI.step {l:List Pl} {N x y:Nat} {ws os:List Nat} (t:Tre l N) (u:UndI l N x (ws++[y]) os):UndI l N x (ws++kids l y) (os++[y])/\(rest l N (ws++kids l y)).length<(rest l N (ws++[y])).length:=by
 have h:=u.eq;rw [Q8h t] at h ⊢;exact⟨⟨by rw [J2x];exact h⟩,by simp⟩
theorem UndI.len {l:List Pl} {N x:Nat} {ws os:List Nat} (t:Tre l N) (u:UndI l N x ws os):ws.length<=256/\os.length<=256:=by
 have h1:=congrArg List.length u.eq;have h2:=Z3M t x;have h3:=Z6L l N ws;rw [J2h] at h1;omega
theorem UndI.name {l:List Pl} {N x y:Nat} {ws os:List Nat} (t:Tre l N) (ok:LOk l) (hx:x<4294967296) (u:UndI l N x (ws++[y]) os):y<4294967296:=by
 have hy:y∈pre l N x:=by
  rw [<- u.eq,Q8h t];simp
 rcases Q5s t hy with rfl|⟨_,q,hq⟩
 ·exact hx
 ·obtain⟨a1,a2,_⟩:=pget_some.1 hq;have:=(ok.2 q (J3L a1)).2;unfold nm at a2;omega
theorem UndI.done {l:List Pl} {N x:Nat} {os:List Nat} (t:Tre l N) (u:UndI l N x [] os):os.reverse=Q0L l N x++[x]:=by
 have h:=u.eq;rw [show rest l N []=[] from rfl,J3D,Q4v t] at h;rw [h];simp
theorem OutH.single (w:World) (x:Nat):OutH w (w.alloc (.cells #[.int .u32 x] 27)) (.slice (some ⟨w.heap.size,0,none⟩) 1 1) [x]:=
 ⟨⟨rfl,.inr ⟨w.heap.size,1,#[.int .u32 x],rfl,J1x _,Cells.new w 27 [.int .u32 x],J1x 1,(by decide:1<=maxLen),rfl,rfl⟩⟩,(Below.refl _ _).alloc (J1x _) _⟩
theorem Two.start (w:World) (x:Nat):Two w (w.alloc (.cells #[.int .u32 x] 27)) (.slice (some ⟨w.heap.size,0,none⟩) 1 1) [x] (.slice none 0 0) []:=
 ⟨OutH.single w x,(OutH.nil w).alloc _,fun b _ h=>by simp [Value.ownBlock] at h⟩
theorem Two.drew {w wr:World} {v u:Value} {L M:List Nat} (h:Two w wr v L u M):Two w wr.drew v L u M:=h.below (Below.refl _ _).drew
theorem Z1I (w:World) (y:Nat):IsHs w.heap.size [y] (some ⟨w.heap.size,0,none⟩) (w.alloc (.cells #[.int .u32 y] 27)):=⟨fun j x hj=>by
 match j,hj with
 | 0,hj =>
  cases hj
  exact⟨_,rfl,J1x _,by simp,(Cells.new w 27 [.int .u32 y]).cell 0 _ rfl⟩
 | k+1,hj=>cases hj⟩
theorem Z3q {w:World} {S:CO} {fr:List Nat} {N K:Nat} (h:Sep w S.hl) (ok:S.Ok fr N K) {x:Nat} (hx:x<4294967296) :
  Calls prog 33 #[.pointer (some ⟨S.c,0,none⟩),.int .u32 x] w (NewHs w (Q0L S.l S.P.q.next.toNat x)):=by
 have tre:=ok.inv.tree;have lok:=ok.inv.lok;have HM:Hid (∀(w1:World) (y:Nat),Below w.heap.size w w1->y<4294967296->Calls prog 95 #[.pointer (some ⟨S.c,0,none⟩),.int .u32 y] w1 (NewHs w1 (kids S.l y))):=fun w1 y hb hy=>Q8V (h.grown hb).sep ok hy
 generalize S.P.q.next.toNat=M at *
 have HTre:=Q0a tre;have HLok:=Q0a lok;have HX:=Q0a hx;have HS:=Q0a (Two.start w x);clear h ok tre lok hx;go_enter func33,ntmps33;go_wp2_with fail
 go_loopg [5,6] (pre S.l M x).length (fun gk ov wv wr=>∃ws os,Two w wr wv ws ov os/\UndI S.l M x ws os/\(rest S.l M ws).length<=gk)
 case atStart=>exact⟨[x],[],HS.out,UndI.start _ _ _,by have:=(UndI.start S.l M x).eq;rw [J3H] at this;rw [this];exact J1x _⟩
 case round =>
  obtain⟨ws,os,htwo,hu,hgk⟩:=hrel;obtain⟨l1,l2⟩:=hu.len HTre.out;have hcc:ws=[]∨∃(ws':List Nat) (y:Nat),ws=ws'++[y]:=by
   rcases J5T ws with h|⟨a,b,h⟩
   ·exact .inl h
   ·exact .inr ⟨a,b,by rw [h,J5U]⟩
  rcases hcc with rfl|⟨ws',y,rfl⟩
  ·have hdone:=hu.done HTre.out;have hne:os≠[]:=fun e=>by rw [e] at hdone;simp at hdone
   obtain⟨aw,cw,rfl⟩:=htwo.1.shape;obtain⟨g,co,rfl⟩:=htwo.2.1.shape1 hne;obtain⟨_,_,_,_,hco,_⟩:=htwo.2.1.parts;have hrev:=Z0A g co os.toArray wr (Z0n htwo.2.1) (by simp;omega);have hfin:∀n,NewHs w (Q0L S.l M x) (.returned (.slice (some ⟨g,0,none⟩) (Q0L S.l M x).length co)) (Go.Sort.putRow encH (Go.Sort.ahead wr n) g 0 os.toArray.reverse):=fun n=>by
    have h1:=htwo.2.1.reversed (k:=n);rw [hdone] at h1;have h2:=h1.cut;exact⟨_,rfl,h2.1,h2.2⟩
   have hlen:os.length=(Q0L S.l M x).length+1:=by
    have:=congrArg List.length hdone
    simpa using this
   have HF:=Q0a hfin;rw [show os.toArray.size=os.length from rfl] at hrev;rw [hlen] at hrev ⊢;have hm:(Q0L S.l M x).length<=256:=by omega
   have hcapi:(((Q0L S.l M x).length:Nat):Int)<=(co:Int):=by omega
   have hcap:(Q0L S.l M x).length<=co:=by omega
   have hw:IntKind.i64.wrap ((Q0L S.l M x).length:Int)=((Q0L S.l M x).length:Int):=Go.IntWalk.i64_in _ (by omega);clear hfin htwo hu hgk hdone hne l1 l2 hlen;generalize (Q0L S.l M x).length=m at *
   generalize NewHs w (Q0L S.l M x)=Q at *
   go_wp2_with fail;refine hrev.mono ?_;rintro r w1 ⟨rfl,n,rfl⟩;have HQ:=Q0a (HF.out n);clear hrev HF;generalize Go.Sort.putRow encH (Go.Sort.ahead wr n) g 0 os.toArray.reverse=w1 at *
   go_wp2_with fail
   first|exact HQ.out|(go_ret;exact HQ.out)
  ·obtain⟨g,cw,rfl⟩:=htwo.1.shape1 (by simp);obtain⟨_,_,_,_,hcw,_⟩:=htwo.1.parts;have hcap:ws'.length<=cw:=by
    have:ws'.length+1<=cw:=by simpa using hcw
    omega
   have hcapi:((ws'.length:Nat):Int)<=(cw:Int):=by omega
   clear hcw;obtain⟨hcell,_,_⟩:=htwo.1.cellAt (j:=ws'.length) (x:=y) (by simp);have hy:=hu.name HTre.out HLok.out HX.out;obtain⟨hstep,hlt⟩:=hu.step HTre.out;have hb:=htwo.1.2;have hmade:=HM.out wr.drew y hb.drew hy;have hkl:=Z8o S.l (by rw [HLok.out.1];exact J1x _) y;have hl:ws'.length+1<=256:=by simpa using l1
   have HApp:Hid (∀w1 am cm,Below wr.drew.heap.size wr.drew w1->IsHs wr.drew.heap.size (kids S.l y) am w1->(am=none->cm=0)->∃v1 w2,(Builtin.append_ #[66,66] 66 #[.slice (some ⟨g,0,none⟩) ws'.length cw,.slice am (kids S.l y).length cm]).run prog w1=.ok v1 w2/\Two w w2 v1 (ws'++kids S.l y) u5 os):=fun w1 am cm hb1 hi ha0=>by
    have t1:Two w w1 (.slice (some ⟨g,0,none⟩) ws'.length cw) ws' u5 os:=htwo.cut.drew.below hb1;obtain⟨v1,w2,e1,e2,e3,e4⟩:=Z9X (ty:=66) (a:=am) (cap:=cm) t1.1.1 hi ha0 (by omega) t1.1.2.size;exact⟨v1,w2,e1,t1.app e2 e3 e4⟩
   have HApp2:Hid (∀w2 v1 L,Two w w2 v1 L u5 os->∃v2 w3,(Builtin.append_ #[66,66] 66 #[u5,.slice (some ⟨w2.heap.size,0,none⟩) 1 1]).run prog (w2.alloc (.cells #[.int .u32 y] 27))=.ok v2 w3/\Two w w3 v1 L v2 (os++[y])):=fun w2 v1 L t=>by
    have t1:=(t.alloc (.cells #[.int .u32 y] 27)).swap;obtain⟨v2,w3,e1,e2,e3,e4⟩:=Z5S (ty:=66) (a:=some ⟨w2.heap.size,0,none⟩) (cap:=1) t1.1.1 (Z1I w2 y) (by simp;omega) t1.1.2.size;exact⟨v2,w3,e1,(t1.app e2 e3 e4).swap⟩
   have HStep:=Q0a hstep;have HGk:=Q0a (J1z hlt hgk);have hw:IntKind.i64.wrap (ws'.length:Int)=(ws'.length:Int):=Go.IntWalk.i64_in _ (by omega);rw [show (ws'++[y]).length=ws'.length+1 by simp] at *
   clear htwo hu hgk l1 l2 hstep hlt hb hkl hy;generalize hkk:kids S.l y=kk at *
   generalize hn:ws'.length=n at *
   go_wp2_with fail
   go_region_law (first|(go_simp;go_at_call 95;refine hmade.mono ?_;intro r w1 hnew;obtain⟨am,cm,rfl,hbm,hism,hac⟩:=hnew.shape0;obtain⟨v1,w2,r1,r2⟩:=HApp.out w1 am cm hbm hism hac;clear hac;have HR:=Q0a r1;have HT2:=Q0a r2;clear r1 r2 hbm hism hnew)|(refine Q0E rfl (.tmp 23) (.tmp 26) 66 66 rfl _ _ (by simp [Act.eval]) (by simp [Act.eval]) HR.out ?_))
   all_goals
    obtain⟨v2,w3,r3,r4⟩:=HApp2.out _ _ _ HT2.out;have HT3:=Q0a r4;clear r4;go_wp2_with (at_builtin;refine Lib.wpList_append_run _ rfl _ _ _ _ rfl _ _ rfl rfl _ _ r3 ?_);go_roundg (rest S.l M (ws'++kk)).length
    case measure=>exact HGk.out
    case rel=>exact⟨_,_,HT3.out,HStep.out,J1x _⟩
theorem Z3r {w w2:World} {S:CO} {fr:List Nat} {N K:Nat} (h:Sep w S.hl) (ok:S.Ok fr N K) (hK:K<=1048576) {x:Nat} (hx:x<4294967296) {p:Pl} (hp:pget S.l 1 x=some p) (h0:x≠0) (hk:kids S.l x=[]) (hb:Below w.heap.size w w2) :
  w2.cell? ⟨S.c,1,none⟩=some (.pointer (some ⟨S.t,0,none⟩))/\Calls prog 172 #[.pointer (some ⟨S.t,0,none⟩),.int .u32 x] w2 fun r w3=>r=.returned (.int .i64 0)/\w3.cell? ⟨S.c,2,none⟩=some (.pointer (some ⟨S.g,0,none⟩))/\S.c<w3.heap.size /\
   Calls prog 173 #[.pointer (some ⟨S.g,0,none⟩),.slice (some ⟨w3.heap.size,0,none⟩) 1 1] (w3.alloc (.cells #[.int .i64 x] 3)) fun r w4=>∃z:Int,r=.returned (.int .i64 z)/\Z9N S x w (.returned (.int .i64 0)) w4:=by
 have s2:=h.grown hb;have hnow:=ok.now;refine⟨CO.c1 s2.sep,?_⟩;refine Calls.mono (Z2v (h:=S.ht) (CO.sT s2.sep) ok.inv.lok hx hp) ?_;rintro r w3 ⟨rfl,st⟩;have s3:=s2.trans (CO.stepL s2.sep _ st);refine⟨rfl,CO.c2 (S:=S.setL (S.l.set (x%256) {p with st:=2})) s3.sep,(CO.cells s3.sep).lt,?_⟩;have s4:=s3.trans (s3.sep.grown ((Below.refl _ w3).alloc (J1x _) (.cells #[.int .i64 x] 3)));refine Calls.mono (Z7O (CO.sG s4.sep) ok.ov ok.few ok.per.2 (by show S.now<=_;omega) ((Cells.new w3 3 [.int .i64 x]).cell 0 _ rfl)) ?_;rintro r w4 ⟨rv,rfl,hov,st4⟩;have s5:=s4.trans (CO.stepG s4.sep S.now rv (S.ts++[(x,S.now+S.period)]) st4)
 exact⟨_,rfl,.inr (.inr (.inr ⟨p,rv,hp,h0,hk,hov,rfl,s5⟩))⟩
theorem Z8p {w:World} {S:CO} {fr:List Nat} {N K:Nat} (h:Sep w S.hl) (ok:S.Ok fr N K) (hK:K<=1048576) {x:Nat} (hx:x<4294967296) {p:Pl} (hp:pget S.l 1 x=some p) (h0:x≠0) (hk:kids S.l x=[]) :
  Calls prog 98 #[.pointer (some ⟨S.c,0,none⟩),.int .u32 x] w (Z9N S x w):=by
 have hO:Calls prog 30 #[.pointer (some ⟨S.c,0,none⟩),.int .u32 x,.int .i64 0] w (Told w (.tuple #[.agg #[.int .i64 (p.kind:Int),.int .i64 (p.at_:Int),.int .i64 (p.fac:Int)],.int .i64 0])):=Q2n h ok.inv.lok hx 0 hp (.inl rfl);have HM:Hid (∀w1,Below w.heap.size w w1->Calls prog 95 #[.pointer (some ⟨S.c,0,none⟩),.int .u32 x] w1 (NewHs w1 (kids S.l x))):=fun w1 hb=>Q8V (h.grown hb).sep ok hx
 rw [hk] at HM;have HC:Hid (∀w2,Below w.heap.size w w2->_):=fun w2 hb=>Z3r (w2:=w2) h ok hK hx hp h0 hk hb
 have hb1:(((x:Nat):Int)==0)=false:=by simp;omega
 have hw:IntKind.i64.wrap (x:Int)=(x:Int):=Go.IntWalk.i64_in _ (by omega);generalize Z9N S x w=Q at *
 clear h ok hK hx hp h0 hk;go_enter func98,ntmps98;go_wp2_with fail;refine hO.mono ?_;rintro r w1 ⟨rfl,hb⟩;have hba:=hb.alloc hb.size (.cells #[.int .i64 (p.kind:Int),.int .i64 (p.at_:Int),.int .i64 (p.fac:Int)] 69);have hm:=HM.out _ hba;have HB:=Q0a hba;clear hb hba hO HM;go_wp2_with fail;refine hm.mono ?_;intro r w2 hn;obtain⟨am,cm,rfl,hbm,hism⟩:=hn.shape;obtain⟨c1,hkill⟩:=HC.out w2 (HB.out.trans (hbm.mono (by have:=HB.out.size;omega)));clear hn hbm hism hm HB HC;go_wp2_with fail;refine hkill.mono ?_;rintro r w3 ⟨rfl,c2,hlt,hadd⟩;have HA:=Q0a hadd;clear hadd hkill c1;go_wp2_with fail;refine HA.out.mono ?_
 rintro r w4 ⟨z,rfl,hx⟩;have HX:=Q0a hx;clear hx HA;go_wp2_with fail
 first|exact HX.out|(go_ret;exact HX.out)
theorem Q4L {F:Fence} (hF:Hid (F=Fence.wide)) {n:Nat} {P:Program} {c:Code} {Q:Exit->Act->World->Prop} {a:Act} {w:World} (h:c.wp P Q a w):c.wpIn F n P Q a w:=by
 have e:F=Fence.wide:=hF.out;subst e;exact wpIn_wide.2 h
structure J0X (g now x:Nat) (W:World) (J1:World->Prop):Prop where
 it:∃(b off len cap at_:Nat),W.cell? ⟨g,2,none⟩=some (.slice (some ⟨b,off,none⟩) (len+1) cap)/\len+1<=cap/\cap<=maxLen/\W.cell? ⟨b,off,none⟩=some (.int .i64 x)/\W.cell? ⟨b,off+1,none⟩=some (.int .i64 at_)/\at_<=now /\
  J1 (W.setCell ⟨g,2,none⟩ (.slice (if cap=1 then some ⟨b,off,none⟩ else some ⟨b,off+2,none⟩) len (cap-1)))
def Late (g now:Nat) (W:World):Prop:=(∃a cap,W.cell? ⟨g,2,none⟩=some (.slice a 0 cap))∨∃(b off len cap at_:Nat),W.cell? ⟨g,2,none⟩=some (.slice (some ⟨b,off,none⟩) (len+1) cap)/\W.cell? ⟨b,off+1,none⟩=some (.int .i64 at_)/\now<at_
theorem J0Y (F:Fence) (hF:Hid (F=Fence.wide)) (n:Nat) (hn:1<=n) (l bx g now D:Nat) (xs:Nat->Nat) (J J1:Nat->World->Prop) (W:World)
  (hread:∀k W,J k W->W.cell? ⟨bx,0,none⟩=some (.pointer (some ⟨g,0,none⟩))/\W.cell? ⟨g,1,none⟩=some (.int .i64 now)/\W.frozen? ⟨g,2,none⟩=false/\k<=D/\(k<D->J0X g now (xs k) W (J1 k))/\(k=D->Late g now W))
  (hd:∀k W m,J k W->J k (W.drewN m)) (hd1:∀k W m,J1 k W->J1 k (W.drewN m))
  (hY:∀k W1,k<D->J1 k W1->YieldAt F (n-1) prog l #[.int .i64 (xs k:Int)] W1 fun e W'=>e=.returned (.bool true)/\J (k+1) W')
  (h0:J 0 W) :
  CallsIn F n prog 252 #[.func (.yield l) #[] #[],.pointer (some ⟨bx,0,none⟩)] W fun e W'=>(∃v,e=.returned v)/\J D W':=by
 have hfn:F.fn 252:=by rw [hF.out];trivial
 have hnone:∀(f:FuncId),(none:Option FuncId)=some f->F.fn f:=fun _ h=>nomatch h
 have hro:F.round=none:=by rw [hF.out];rfl
 have HR:=Q0a hread;have HD:=Q0a hd;have HD1:=Q0a hd1;have HY:=Q0a hY;clear hread hd hd1 hY;refine callsIn_of_wp func252 rfl hfn ?_ hro;simp only [ntmps252,J4c,J2i,J3W,Nat.reduceAdd,Nat.reduceSub,Array.replicate_succ,Array.replicate_zero,List.push_toArray,List.append_toArray,J3H,J3I]
 gi_wp2
 gi_loopg [3] D (fun gk xv wr=>∃k:Nat,k+gk=D/\J k wr)
 case atStart=>exact⟨0,by omega,h0⟩
 case round =>
  clear h0;obtain⟨k,hkg,hj⟩:=hrel;obtain⟨cb,c1,cf,hkD,hlt,hend⟩:=HR.out k wr hj;have HJ:=Q0a hj;have HKG:=Q0a hkg;clear hj hkg;by_cases hk:k<D
  ·obtain⟨b,off,len,cap,at_,c2,hc1,hc2,e0,e1,hat,hj1⟩:=(hlt hk).it;have hdec:decide ((at_:Int)<=(now:Int))=true:=by rw [decide_eq_true_eq];omega
   have hpos:decide ((0:Int)<(len:Int)+1)=true:=by rw [decide_eq_true_eq];omega
   gi_wp2
   refine Q4L hF ?_
   go_quiet (fail)
   gi_wp2
   refine Q4L hF ?_;have hl1:(1:Int)<=(len:Int)+1:=by omega
   have hl2:(len:Int)+1<=(cap:Int):=by omega
   have hl3:len+1<=cap:=hc1;have hlw:IntKind.i64.wrap (len:Int)=(len:Int):=Go.IntWalk.i64_in _ (by unfold maxLen at hc2;omega);have hJ1:Hid (∀m,J1 k (((wr.drewN m).setCell ⟨g,2,none⟩ (.slice (if cap=1 then some ⟨b,off,none⟩ else some ⟨b,off+2,none⟩) len (cap-1))))):=fun m=>HD1.out k _ m hj1
   clear hj1 hdec hpos;by_cases hcap:cap=1
   ·subst hcap;obtain rfl:len=0:=by omega
    simp only [if_true] at hJ1;go_region;have hj2:=hJ1.out (nq+1);obtain⟨fn,tmps,assign,body,hy,hR0⟩:=HY.out k _ hk hj2;have HRd:=Q0a hR0;clear hR0 hj2 c1 cf e0 e1 c2 cb HJ
    gi_wp2_with fail
    refine HRd.out.mono ?_;rintro e W4 ⟨rfl,hj4⟩;have HJ4:=Q0a hj4;clear hj4 HRd hy
    gi_wp2
    gi_roundg (D-(k+1))
    case measure=>have:=HKG.out;omega
    case rel=>exact⟨k+1,by omega,HJ4.out⟩
   ·simp only [if_neg hcap] at hJ1;go_region;have hj2:=hJ1.out (nq+1);obtain⟨fn,tmps,assign,body,hy,hR0⟩:=HY.out k _ hk hj2;have HRd:=Q0a hR0;clear hR0 hj2 c1 cf e0 e1 c2 cb HJ
    gi_wp2_with fail
    refine HRd.out.mono ?_;rintro e W4 ⟨rfl,hj4⟩;have HJ4:=Q0a hj4;clear hj4 HRd hy
    gi_wp2
    gi_roundg (D-(k+1))
    case measure=>have:=HKG.out;omega
    case rel=>exact⟨k+1,by omega,HJ4.out⟩
  ·obtain rfl:k=D:=by omega
   rcases hend rfl with ⟨a0,cap,c2⟩|⟨b,off,len,cap,at_,c2,e1,hat⟩
   ·have hpos:decide ((0:Int)<0)=false:=by decide
    gi_wp2
    refine Q4L hF ?_
    go_quiet (fail)
    gi_wp2
    go_end0;exact⟨⟨_,rfl⟩,HD.out _ _ _ HJ.out⟩
   ·have hdec:decide ((at_:Int)<=(now:Int))=false:=by rw [decide_eq_false_iff_not];omega
    have hpos:decide ((0:Int)<(len:Int)+1)=true:=by rw [decide_eq_true_eq];omega
    gi_wp2
    refine Q4L hF ?_
    go_quiet (fail)
    gi_wp2
    go_end0;exact⟨⟨_,rfl⟩,HD.out _ _ _ HJ.out⟩
theorem Step.drewN {w w':World} {H H':HL} (h:Step H H' w w') (m:Nat):Step H H' w (w'.drewN m):=⟨h.sep.drewN m,⟨h.chg.os,h.chg.tape,h.chg.output,h.chg.size,h.chg.block⟩,h.new⟩
theorem Step.cons {w w':World} {p:Nat×(Obj->Prop)} {H H':HL} (h:Sep w (p::H)) (s:Step H H' w w'):Step (p::H) (p::H') w w':=by
 have:=Step.frame [p] [] (by simpa using h) s
 simpa using this
def Q2f (g per now bx b0:Nat) (ts:List (Nat×Nat)) (k j:Nat) (rv:OV) (ro:RV):HL:=
 qhl g per now rv (ts.drop k)++(bx,isC 139 [ptr g])::(b0,isC 36 [lvOf ro j])::rowH ro 3 1 (ints ((ts.take j).map Prod.fst))
def TickS (H0:HL) (w:World) (g per now bx b0:Nat) (ts:List (Nat×Nat)) (k j:Nat) (W:World):Prop:=
 ∃rv ro,ovOk rv (ts.drop k).length/\rvOk ro j/\Step H0 (Q2f g per now bx b0 ts k j rv ro) w W
theorem TickS.drewN {H0:HL} {w W:World} {g per now bx b0:Nat} {ts:List (Nat×Nat)} {k j:Nat} (h:TickS H0 w g per now bx b0 ts k j W) (m:Nat):TickS H0 w g per now bx b0 ts k j (W.drewN m):=by
 obtain⟨rv,ro,h1,h2,h3⟩:=h;exact⟨rv,ro,h1,h2,h3.drewN m⟩
theorem Z0B (g per now bx b0:Nat) (ts:List (Nat×Nat)) (k j:Nat) (rv:OV) (ro:RV):(g,isC 267 [.int .i64 per,.int .i64 now,ovOf rv (ts.drop k).length])∈Q2f g per now bx b0 ts k j rv ro:=by
 simp [Q2f,qhl]
theorem Q8b {ts:List (Nat×Nat)} {k:Nat} {x:Nat×Nat} (h:ts[k]?=some x):(ts.take (k+1)).map Prod.fst=(ts.take k).map Prod.fst++[x.1]:=by
 have hk:=J1O.1 h;rw [J5M hk.1,J5a,hk.2];rfl
theorem Z6l {ts:List (Nat×Nat)} {k:Nat} {x:Nat×Nat} (h:ts[k]?=some x):ts.drop k=x::ts.drop (k+1):=by
 have hk:=J1O.1 h;rw [J4q hk.1,hk.2]
theorem TickS.front {H0:HL} {w W:World} {g per now bx b0:Nat} {ts:List (Nat×Nat)} {k j:Nat} (h:TickS H0 w g per now bx b0 ts k j W) {x:Nat×Nat} (hx:ts[k]?=some x) (hd:x.2<=now):J0X g now x.1 W (TickS H0 w g per now bx b0 ts (k+1) j):=by
 obtain⟨rv,ro,h1,h2,st⟩:=h;have hdr:=Z6l hx;obtain⟨b,off,cap,rfl⟩:∃b off cap,rv=some (b,off,cap):=by
  cases rv with
  | none=>rw [hdr] at h1;exact absurd h1 (by simp [ovOk])
  | some q=>exact⟨q.1,q.2.1,q.2.2,rfl⟩
 have hc:=st.sep.cells (Z0B g per now bx b0 ts k j (some (b,off,cap)) ro);have hlen:(ts.drop k).length=(ts.drop (k+1)).length+1:=by rw [hdr];rfl
 rw [hlen] at h1 hc;obtain⟨n,hn⟩:∃n,n=(ts.drop (k+1)).length:=⟨_,rfl⟩
 have htc:Q1j (ts.drop k)=[.int .i64 (x.1:Int),.int .i64 (x.2:Int)]++Q1j (ts.drop (k+1)):=by rw [hdr];rfl
 -- the row ahead
 have e1:Q2f g per now bx b0 ts k j (some (b,off,cap)) ro=(g,isC 267 [.int .i64 per,.int .i64 now,ovOf (some (b,off,cap)) ((ts.drop (k+1)).length+1)])::(ovH (some (b,off,cap)) 298 2 ([.int .i64 (x.1:Int),.int .i64 (x.2:Int)]++Q1j (ts.drop (k+1)))++((bx,isC 139 [ptr g])::(b0,isC 36 [lvOf ro j])::rowH ro 3 1 (ints ((ts.take j).map Prod.fst)))):=by
  unfold Q2f qhl;rw [hlen,htc];rfl
 rw [e1] at st;obtain⟨R,hR⟩:∃R:HL,R=((bx,isC 139 [ptr g])::(b0,isC 36 [lvOf ro j])::rowH ro 3 1 (ints ((ts.take j).map Prod.fst))):=⟨_,rfl⟩
 rw [<- hR] at st;have sR:=st.sep.tail;have cell:∀i v,([.int .i64 (x.1:Int),.int .i64 (x.2:Int)]++Q1j (ts.drop (k+1)))[i]?=some v->W.cell? ⟨b,off+i,none⟩=some v:=fun i v hv=>Q9X sR.left i v hv
 obtain⟨hcap,hmax⟩:=h1;refine⟨b,off,n,cap,x.2,?_,by omega,hmax,cell 0 _ rfl,cell 1 _ rfl,hd,?_⟩
 ·rw [hn];exact hc.cell 2 _ rfl
 ·-- taken off
  have key:∀rv',Step (ovH (some (b,off,cap)) 298 2 ([.int .i64 (x.1:Int),.int .i64 (x.2:Int)]++Q1j (ts.drop (k+1)))++R) (ovH rv' 298 2 (Q1j (ts.drop (k+1)))++R) W W->ovOk rv' (ts.drop (k+1)).length ->
    TickS H0 w g per now bx b0 ts (k+1) j (W.setCell ⟨g,2,none⟩ (ovOf rv' (ts.drop (k+1)).length)):=fun rv' s hok=>by
   have s2:=Step.cons st.sep s;have s23:=s2.trans (Sep.set (A:=[]) s2.sep 2 (ovOf rv' (ts.drop (k+1)).length));refine⟨rv',ro,hok,h2,?_⟩;have:=st.trans s23;unfold Q2f qhl;rw [<- hR];exact this
  by_cases hc1:cap=1
  ·subst hc1;have h0:(ts.drop (k+1)).length=0:=by omega
   have hnil:ts.drop (k+1)=[]:=J3N h0;have:=key (some (b,off,0)) (by
    rw [hnil];have:=Z7y (w:=W) (B:=R) (g:=b) (off:=off) (T:=298) (size:=2) (x:=[.int .i64 (x.1:Int),.int .i64 (x.2:Int)]) (by rw [hnil] at sR;simpa [Q1j] using sR)
    simpa [Q1j] using this) (by rw [h0];exact⟨J1x _,by unfold maxLen;omega⟩)
   rw [if_pos rfl,hn];exact this
  ·have:=key (some (b,off+2,cap-1)) (Z9H sR rfl (by omega)) ⟨by omega,by omega⟩;rw [if_neg hc1,hn];exact this
theorem TickS.late {H0:HL} {w W:World} {g per now bx b0:Nat} {ts:List (Nat×Nat)} {k j:Nat} (h:TickS H0 w g per now bx b0 ts k j W) (hd:∀x,ts[k]?=some x->now<x.2):Late g now W:=by
 obtain⟨rv,ro,h1,h2,st⟩:=h;have hc:=(st.sep.cells (Z0B g per now bx b0 ts k j rv ro)).cell 2 _ rfl;cases hx:ts[k]? with
 | none =>
  have hl:(ts.drop k).length=0:=by
   have:=List.getElem?_eq_none_iff.1 hx;rw [J3P];omega
  rw [hl] at hc;left;cases rv with
  | none=>exact⟨_,_,hc⟩
  | some q=>exact⟨_,_,hc⟩
 | some x =>
  right;have hdr:=Z6l hx;obtain⟨b,off,cap,rfl⟩:∃b off cap,rv=some (b,off,cap):=by
   cases rv with
   | none=>rw [hdr] at h1;exact absurd h1 (by simp [ovOk])
   | some q=>exact⟨q.1,q.2.1,q.2.2,rfl⟩
  have hlen:(ts.drop k).length=(ts.drop (k+1)).length+1:=by rw [hdr];rfl
  rw [hlen] at hc;have htc:Q1j (ts.drop k)=[.int .i64 (x.1:Int),.int .i64 (x.2:Int)]++Q1j (ts.drop (k+1)):=by rw [hdr];rfl
  refine⟨b,off,_,cap,x.2,hc,?_,hd x hx⟩;have hs:Sep W (ovH (some (b,off,cap)) 298 2 (Q1j (ts.drop k))):=st.sep.sub (by
   unfold Q2f qhl;exact (J2m _ _).trans ((J3C _).trans (J2o _ _) |>.append_right _ |>.trans (J3C _)))
  exact Q9X hs 1 _ (by rw [htc];rfl)
theorem TickS.row {H0:HL} {w W:World} {g per now bx b0:Nat} {ts:List (Nat×Nat)} {k:Nat} (h:TickS H0 w g per now bx b0 ts (k+1) k W) {x:Nat×Nat} (hx:ts[k]?=some x) (o:Obj) :
  ∃v,W.cell? ⟨b0,0,none⟩=some v/\W.frozen? ⟨b0,0,none⟩=false/\(W.alloc o).ownsRow 0 3 1 v k (ints ((ts.take k).map Prod.fst))/\∀v' W1,W1.ownsRow 0 3 1 v' (k+1) (ints ((ts.take k).map Prod.fst)++[.int .i64 (x.1:Int)])->(W.alloc o).grownBy W1 v.ownBlock->(v'.ownBlock=v.ownBlock∨v'.ownBlock=some (W.alloc o).heap.size) ->
   (∃u,W1.cell? ⟨b0,0,none⟩=some u)/\W1.frozen? ⟨b0,0,none⟩=false/\TickS H0 w g per now bx b0 ts (k+1) (k+1) (W1.setCell ⟨b0,0,none⟩ v'):=by
 obtain⟨rv,ro,h1,h2,st⟩:=h;have hk:=(J1O.1 hx).1;have hc:=(st.sep.cells (b:=b0) (T:=36) (cs:=[lvOf ro k]) (by simp [Q2f]))
 have hl:(ints ((ts.take k).map Prod.fst)).length=k*1:=by simp [ints];omega
 have sA:=st.sep.alloc o;obtain⟨A,hA⟩:∃A:HL,A=qhl g per now rv (ts.drop (k+1))++[(bx,isC 139 [ptr g]),(b0,isC 36 [lvOf ro k])]:=⟨_,rfl⟩
 have e1:Q2f g per now bx b0 ts (k+1) k rv ro=A++rowH ro 3 1 (ints ((ts.take k).map Prod.fst))++[]:=by
  rw [hA];unfold Q2f;simp
 have hrow:=Q7z ((e1 ▸ sA).left.right) h2 hl;refine⟨lvOf ro k,hc.cell 0 _ rfl,hc.free 0,hrow,fun v' W1 ho hg hb=>?_⟩;obtain⟨ro',rfl,hok',s2⟩:=Q2h (A:=A) (B:=[]) (e1 ▸ sA) ho hg hb;have hc2:=s2.sep.cells (b:=b0) (T:=36) (cs:=[lvOf ro k]) (by rw [hA];simp);refine⟨⟨_,hc2.cell 0 _ rfl⟩,hc2.free 0,rv,ro',h1,hok',?_⟩;have s1:Step H0 (A++rowH ro 3 1 (ints ((ts.take k).map Prod.fst))++[]) w (W.alloc o):=by
  rw [<- e1];exact st.trans (st.sep.grown ((Below.refl _ _).alloc (J1x _) o))
 have s12:=s1.trans s2;have s3:=Sep.set (A:=qhl g per now rv (ts.drop (k+1))++[(bx,isC 139 [ptr g])]) (b:=b0) (T:=36) (cs:=[lvOf ro k]) (B:=rowH ro' 3 1 (ints ((ts.take k).map Prod.fst)++[.int .i64 (x.1:Int)])) (by rw [hA] at s12;simpa using s12.sep) 0 (lvOf ro' (k+1));have s4:=(s12.perm (J4Q _) (K':=qhl g per now rv (ts.drop (k+1))++[(bx,isC 139 [ptr g])]++(b0,isC 36 [lvOf ro k])::rowH ro' 3 1 (ints ((ts.take k).map Prod.fst)++[.int .i64 (x.1:Int)])) (by rw [hA];simp)).trans s3;have e5:ints ((ts.take (k+1)).map Prod.fst)=ints ((ts.take k).map Prod.fst)++[.int .i64 (x.1:Int)]:=by
  rw [Q8b hx];simp [ints]
 unfold Q2f;rw [e5]
 simpa using s4
def Bk (r:Loop) (D:Nat) (W:World):Prop:=W.heap[D+1]?=some (.loop r)/\W.heap[D]?=some (.deferred (some []))
theorem Bk.set {r:Loop} {D:Nat} {W:World} (h:Bk r D W) {g:Nat} (hg:g<D) (i:Nat) (v:Value):Bk r D (W.setCell ⟨g,i,none⟩ v):=
 ⟨(Below.heap_setCell _ _ _ _ (fun e=>by have e':D+1=g:=e;omega)).trans h.1,(Below.heap_setCell _ _ _ _ (fun e=>by have e':D=g:=e;omega)).trans h.2⟩
theorem Z0C {F:Fence} {n:Nat} {P:Program} {g:Operand} {ps:Array Tmp} {assign body:Code} {Q:Exit->Act->World->Prop} {a:Act} {w:World}
  (hro:F.round=none) (h1:1<=n) {gf:Nat} {lb:Array Value} (hg:a.eval g=.func (.func gf) #[] lb) (hFg:F.fn gf) (eg:∀args w,(callFunc gf args).run P w=.ok (.enter gf args) w)
  {enc:Nat->Array Value} (hps:∀k,(enc k).size=ps.size) (T T1:Nat->World->Prop) (N:Nat)
  (hT:∀k W l o',T k W->w.heap.size<=l->(∃o:Obj,W.heap[l]?=some o/\o.isCells=false)->T k (W.putObj l o')) (hT1:∀k W l o',T1 k W->w.heap.size<=l->(∃o:Obj,W.heap[l]?=some o/\o.isCells=false)->T1 k (W.putObj l o')) (hTa:∀W o,T 0 W->T 0 (W.alloc o))
  (hiter:∀(r:Loop) (D:Nat) (W:World),w.heap.size<=D->T 0 W->Bk r D W ->
   (∀k W1,k<N->T1 k W1->Bk r D W1->YieldAt F (n-1-1) P (D+1) (enc k) W1 fun e W'=>e=.returned (.bool true)/\T (k+1) W'/\Bk r D W') ->
   CallsIn F (n-1) P gf (#[.func (.yield (D+1)) #[] #[]]++lb) W fun e W'=>(∃v,e=.returned v)/\T N W'/\Bk r D W')
  (h0:T 0 w) (a₁:Nat->Act)
  (hassign:∀(l k:Nat) (W:World) (K:Act->World->Prop),K (a₁ k) W ->
   assign.wpIn (F.inRound l) (n-1-1) P (Exit.then K (fun _ _ _=>False)) {tmps:=(ps.zip (enc k)).foldl (fun t (p,v)=>t.setIfInBounds p v) a.tmps,defers:=[]} W)
  (hbody:∀(l k:Nat) (W:World),T1 k W->k<N->body.wpIn (F.inRound l) (n-1-1) P (fun e _ W'=>e=.normal/\KeepsFrom w.heap.size W W'/\T (k+1) W') (a₁ k) W)
  (hdone:∀(D:Nat) (W:World),w.heap.size<=D->T N W->W.heap[D]?=some (.deferred (some []))->Q .normal {a with defers:={target:=.collected D,args:=#[]}::a.defers} W) :
  (Code.rangeFunc g ps assign body).wpIn F n P Q a w:=by
 refine wpIn_rangeFunc fun fn hfn=>?_
 rw [hro]
 let r:LoopState->Loop:=fun st=>{state:=st,pending:=none,fn,tmps:=a.tmps,params:=ps,assign,body,defers:=w.heap.size}
 let W1:World:=(w.alloc (.deferred (some []))).alloc (.loop (r .ready))
 have bk1:Bk (r .ready) w.heap.size W1:=by
  constructor
  ·have:=World.alloc_heap_new (w.alloc (.deferred (some []))) (.loop (r .ready))
   rwa [World.size_alloc] at this
  ·exact (Below.heap_alloc _ _ _ (by simp)).trans (World.alloc_heap_new w _)
 refine⟨w.heap.size+1,[{target:=.collected w.heap.size,args:=#[]}],W1,{target:=.fn (.func gf) lb,args:=#[.func (.yield (w.heap.size+1)) #[] #[]]},W1,gf,
  #[.func (.yield (w.heap.size+1)) #[] #[]]++lb,W1,run_enterLoop_outer _ _ _ _ _,?_,?_,?_,fun _=>h1,?_⟩
 ·simp only [resolve,hg];simp [go_sem]
 ·intro f' hf';simp [Target.leads] at hf';subst hf';exact hFg
 ·simp [invoke,go_sem,eg]
 refine (hiter (r .ready) w.heap.size W1 (J1x _) (hTa _ _ (hTa _ _ h0)) bk1 ?_).mono ?_
 ·-- a round
  intro k W hk ht bk;have hlt:w.heap.size+1<W.heap.size:=(J5R.1 bk.1).1;refine⟨fn,_,assign,body,run_yield bk.1 (hps k),roundIn_of_wpIn hfn (hassign _ k W _ ⟨_,run_beginRound bk.1 rfl,?_⟩)⟩
  let W2:World:=W.putObj (w.heap.size+1) (.loop (r .busy))
  have bk2:Bk (r .busy) w.heap.size W2:=⟨World.putObj_heap_same hlt,(World.putObj_heap_other (by omega)).trans bk.2⟩
  have ht2:T1 k W2:=hT1 k W _ _ ht (by omega) ⟨_,bk.1,rfl⟩;refine wpIn_mono (hbody _ k W2 ht2 hk) ?_;rintro e a3 W3 ⟨rfl,hk3,ht3⟩;have bk3:Bk (r .busy) w.heap.size W3:=⟨hk3.same _ _ (by omega) bk2.1 rfl,hk3.same _ _ (J1x _) bk2.2 rfl⟩
  refine⟨_,_,run_endRound none bk3.1,rfl,hT _ _ _ _ ht3 (by omega) ⟨_,bk3.1,rfl⟩,World.putObj_heap_same (J5R.1 bk3.1).1,(World.putObj_heap_other (by omega)).trans bk3.2⟩
 ·rintro e W2 ⟨⟨v,rfl⟩,ht,bk⟩;exact⟨none,_,run_endLoop bk.1 (by simp [r]),hdone _ _ (J1x _) (hT _ _ _ _ ht (by omega) ⟨_,bk.1,rfl⟩) ((World.putObj_heap_other (by omega)).trans bk.2)⟩
attribute [local go_sem] Oper.semAt_some
theorem Z8q (c:Nat) (w:World):Calls prog 215 #[.pointer (some ⟨c,0,none⟩)] w fun r w' =>
  r=.returned (.func (.func 252) #[] #[.pointer (some ⟨w.heap.size,0,none⟩)])/\w'=w.alloc (.cells #[.pointer (some ⟨c,0,none⟩)] 139):=by
 go_enter func215,ntmps215
 go_wp2
 go_ret;exact⟨rfl,rfl⟩
def dueK (now:Nat) (ts:List (Nat×Nat)):Nat:=(ts.takeWhile fun x=>decide (x.2<=now)).length
theorem Q9A (now:Nat) (ts:List (Nat×Nat)):ts.take (dueK now ts)=ts.takeWhile (fun x=>decide (x.2<=now)):=by
 have h:ts.takeWhile (fun x=>decide (x.2<=now))++ts.dropWhile (fun x=>decide (x.2<=now))=ts:=J5s;unfold dueK
 conv=>lhs;rw [<- h]
 rw [J3R (by simp [h]),h,J5G]
def Z1J (g per now:Nat) (rv:OV) (ts:List (Nat×Nat)) (w:World) (r:Ending) (w':World):Prop:=
 ∃rv' ro bx b0,r=.returned (lvOf ro (dueK now ts))/\ovOk rv' (ts.drop (dueK now ts)).length/\rvOk ro (dueK now ts)/\Step (qhl g per (now-1) rv ts) (Q2f g per now bx b0 ts (dueK now ts) (dueK now ts) rv' ro) w w'
theorem J0e (now:Nat) (ts:List (Nat×Nat)):dueK now ts<=ts.length:=by
 have h:ts.takeWhile (fun x=>decide (x.2<=now))++ts.dropWhile (fun x=>decide (x.2<=now))=ts:=J5s;have:=congrArg List.length h;rw [J2h] at this;unfold dueK;omega
theorem J0f {now:Nat} {ts:List (Nat×Nat)} {k:Nat} {x:Nat×Nat} (hk:k<dueK now ts) (hx:ts[k]?=some x):x.2<=now:=by
 have h:(ts.take (dueK now ts))[k]?=some x:=by rw [J3A,if_pos hk];exact hx
 rw [Q9A] at h;have:=J3L h;have hm:∀(l:List (Nat×Nat)),∀y∈l.takeWhile (fun x=>decide (x.2<=now)),y.2<=now:=by
  intro l
  induction l with
  | nil=>simp
  | cons z r ih =>
   intro y hy;rw [List.takeWhile_cons] at hy;split at hy
   ·rename_i hc;rcases J1C.1 hy with rfl|hy
    ·simpa using hc
    ·exact ih y hy
   ·cases hy
 exact hm _ _ this
theorem Z8r {now:Nat} {ts:List (Nat×Nat)} (hord:ts.Pairwise (fun a b=>a.2<=b.2)) {x:Nat×Nat} (hx:ts[dueK now ts]?=some x):now<x.2:=by
 have h:ts.takeWhile (fun x=>decide (x.2<=now))++ts.dropWhile (fun x=>decide (x.2<=now))=ts:=J5s;rw [<- h] at hx;unfold dueK at hx;rw [J4L (by rw [h];exact J1x _)] at hx;exact Q8B hord now x (J3L hx)
theorem Z0D {W:World} {g per now bx b0:Nat} {ts:List (Nat×Nat)} {k j:Nat} {rv:OV} {ro:RV} (h:Sep W (Q2f g per now bx b0 ts k j rv ro)) {b:Nat} (hb:b∈keys (Q2f g per now bx b0 ts k j rv ro)):∃cs T f,W.heap[b]?=some (.cells cs T f):=by
 obtain⟨p,hp,rfl⟩:=J1D.1 hb;obtain⟨o,ho,hq⟩:=h.at' p hp;have key:(∃T cs,p.2=isC T cs)∨(∃T n cs,p.2=isR T n cs)∨(∃T m off cs,p.2=isS T m off cs):=by
  unfold Q2f qhl at hp;simp only [J3I,J1C,J2l] at hp;rcases hp with rfl|hp|rfl|rfl|hp
  ·exact .inl ⟨_,_,rfl⟩
  ·cases rv with
   | none=>cases hp
   | some q =>
    simp only [ovH,J1C,J1T,or_false] at hp;subst hp;exact .inr (.inr ⟨_,_,_,_,rfl⟩)
  ·exact .inl ⟨_,_,rfl⟩
  ·exact .inl ⟨_,_,rfl⟩
  ·cases ro with
   | none=>cases hp
   | some q =>
    simp only [rowH,J1C,J1T,or_false] at hp;subst hp;exact .inr (.inl ⟨_,_,_,rfl⟩)
 rcases key with ⟨T,cs,e⟩|⟨T,n,cs,e⟩|⟨T,m,off,cs,e⟩
 ·rw [e] at hq;subst hq;exact⟨_,_,_,ho⟩
 ·rw [e] at hq;obtain⟨cur,rfl,_⟩:=hq;exact⟨_,_,_,ho⟩
 ·rw [e] at hq;obtain⟨cur,rfl,_⟩:=hq;exact⟨_,_,_,ho⟩
theorem Z1K {H0:HL} {w W:World} {g per now bx b0:Nat} {ts:List (Nat×Nat)} {k j:Nat} {rv:OV} {ro:RV} (st:Step H0 (Q2f g per now bx b0 ts k j rv ro) w W) {l:Nat} (o':Obj) (hl:w.heap.size<=l) (hgb:GB<=w.heap.size) (ho:∃o:Obj,W.heap[l]?=some o/\o.isCells=false):Step H0 (Q2f g per now bx b0 ts k j rv ro) w (W.putObj l o'):=by
 obtain⟨o,ho,hoc⟩:=ho;have hn:l∉keys (Q2f g per now bx b0 ts k j rv ro):=fun hb=>by
  obtain⟨cs,T,f,hc⟩:=Z0D st.sep hb;rw [hc] at ho;cases ho;cases hoc
 have hne:∀b,b≠l->(W.putObj l o').heap[b]?=W.heap[b]?:=fun b hb=>World.putObj_heap_other hb
 refine⟨st.sep.same (fun b hb=>hne b (fun e=>hn (e ▸ hb))) (st.sep.env.same (fun b hb=>hne b (by omega)) (by have:=st.sep.env.gb;simpa [World.putObj] using this)),?_,st.new⟩;exact⟨st.chg.os,st.chg.tape,st.chg.output,by have:=st.chg.size;simpa [World.putObj] using this,fun b hb hF=>(hne b (by omega)).trans (st.chg.block b hb hF)⟩
theorem TickS.put {H0:HL} {w W:World} {g per now bx b0:Nat} {ts:List (Nat×Nat)} {k j:Nat} (h:TickS H0 w g per now bx b0 ts k j W) {l:Nat} (o':Obj) (hl:w.heap.size<=l) (hgb:GB<=w.heap.size) (ho:∃o:Obj,W.heap[l]?=some o/\o.isCells=false):TickS H0 w g per now bx b0 ts k j (W.putObj l o'):=by
 obtain⟨rv,ro,h1,h2,st⟩:=h;exact⟨rv,ro,h1,h2,Z1K st o' hl hgb ho⟩
theorem Z6m {W w1:World} {B b0 n:Nat} {T:TypeId} {v v':Value} {xs:List Value} {o:Obj} (hrow:(W.alloc o).ownsRow 0 T 1 v n xs) (hg:(W.alloc o).grownBy w1 v.ownBlock) (hb:b0<B):KeepsFrom B W (w1.setCell ⟨b0,0,none⟩ v'):=by
 refine⟨by have:=hg.size;simp at this;simp [World.setCell];omega,fun k o2 hB hk hoc=>?_⟩;have hlt:=(J5R.1 hk).1;refine (Below.heap_setCell _ _ _ _ (fun e=>by have e':k=b0:=e;omega)).trans ?_;have hk':(W.alloc o).heap[k]?=some o2:=(Below.heap_alloc _ _ _ hlt).trans hk;refine (hg.block k (by simp;omega) (fun e=>?_)).trans hk';rcases hrow.2 with ⟨rfl,_⟩|⟨g,cap,cur,rfl,_,hgb,_⟩
 ·cases e
 ·have:k=g:=by simpa [Value.ownBlock] using e
  subst this;rw [hgb] at hk';cases hk';cases hoc
theorem Z8s (F:Fence) (hF:Hid (F=Fence.wide)) (n:Nat) (hn:4<=n) {w:World} {g per now:Nat} {rv:OV} {ts:List (Nat×Nat)} (h:Sep w (qhl g per now rv ts)) (hok:ovOk rv ts.length) (hl:ts.length<=256) (hnow:now<1048576) (hord:ts.Pairwise (fun a b=>a.2<=b.2)) :
  CallsIn F n prog 134 #[.pointer (some ⟨g,0,none⟩)] w (Z1J g per (now+1) rv ts w):=by
 have h1:F.fn 134:=by rw [hF.out];trivial
 have h2:F.fn 252:=by rw [hF.out];trivial
 have h3:F.fn 215:=by rw [hF.out];trivial
 have hro:F.round=none:=by rw [hF.out];rfl
 have hn1:1<=n:=by omega
 obtain⟨i0,hi,hz0,hz1,hz2⟩:=info_parts infoint;have hc:Cells w g 267 [.int .i64 per,.int .i64 now,ovOf rv ts.length]:=h.cells (by simp [qhl]);have c1:=hc.cell 1 _ rfl;have f1:=hc.free 1;have hlt:=hc.lt;have hw:IntKind.i64.wrap ((now:Int)+1)=(now:Int)+1:=Go.IntWalk.i64_in _ (by omega);have hw2:wrap64 ((now:Int)+1)=(now:Int)+1:=Go.IntWalk.wrap64_in _ (by omega);obtain⟨W5,hW5⟩:∃W5,W5=(((w.setCell ⟨g,1,none⟩ (.int .i64 ((now:Int)+1))).alloc (.cells #[.slice none 0 0] 36)).alloc (.cells #[.pointer (some ⟨g,0,none⟩)] 139)):=⟨_,rfl⟩
 have hsz:(w.setCell ⟨g,1,none⟩ (.int .i64 ((now:Int)+1))).heap.size=w.heap.size:=by simp [World.setCell]
 have T0:Hid (TickS (qhl g per now rv ts) w g per (now+1) (w.heap.size+1) w.heap.size ts 0 0 W5/\W5.heap.size=w.heap.size+2):=by
  have s1:Step (qhl g per now rv ts) (qhl g per (now+1) rv ts) w (w.setCell ⟨g,1,none⟩ (.int .i64 ((now:Int)+1))):=by
   have:=Sep.set (A:=[]) (B:=ovH rv 298 2 (Q1j ts)) h 1 (.int .i64 ((now:Int)+1));exact this
  have s2:=s1.sep.new 36 [.slice none 0 0];rw [hsz] at s2;have s3:=s2.sep.new 139 [.pointer (some ⟨g,0,none⟩)];rw [World.size_alloc,hsz] at s3;have s4:=(s1.trans s2).trans s3;rw [hW5];refine⟨⟨rv,none,hok,rfl,s4.perm (J4Q _) ?_⟩,by simp [World.setCell]⟩;unfold Q2f;show List.Perm (_::_::qhl g per (now+1) rv ts) (qhl g per (now+1) rv ts++_::_::[]);refine (J4k (l₁:=[_,_]) (l₂:=qhl g per (now+1) rv ts)).trans ?_;exact J4Q _
 clear hsz;refine callsIn_of_wp_marks func134 rfl h1 ?_ hro;simp only [ntmps134,J4c,J2i,J3W,Nat.reduceAdd,Nat.reduceSub,Array.replicate_succ,Array.replicate_zero,List.push_toArray,List.append_toArray,J3H,J3I]
 gi_wp2_with (gi_at_call 215;refine (Z9y hF (Z8q g _)).mono ?_;rintro e w' ⟨rfl,rfl⟩)
 rw [<- hW5];clear hW5;have hgb:=h.env.gb;have hD5:=T0.out.2;have hKl:=J0e (now+1) ts;have hat:∀k,k<dueK (now+1) ts->∃x,ts[k]?=some x:=fun k hk=>⟨_,J3O (by omega)⟩
 refine Z0C hro hn1 (gf:=252) (lb:=#[.pointer (some ⟨w.heap.size+1,0,none⟩)]) rfl h2 (enters_of func252 (by kernel_rfl) rfl)
  (enc:=fun k=>#[.int .i64 (((ts[k]?.getD (0,0)).1:Nat):Int)]) (fun _=>rfl)
  (fun k W=>k<=dueK (now+1) ts/\TickS (qhl g per now rv ts) w g per (now+1) (w.heap.size+1) w.heap.size ts k k W)
  (fun k W=>k<dueK (now+1) ts/\TickS (qhl g per now rv ts) w g per (now+1) (w.heap.size+1) w.heap.size ts (k+1) k W)
  (dueK (now+1) ts)
  (fun k W l o' ht hl ho=>⟨ht.1,ht.2.put o' (by omega) hgb ho⟩) (fun k W l o' ht hl ho=>⟨ht.1,ht.2.put o' (by omega) hgb ho⟩)
  (fun W o ht=>⟨ht.1,by obtain⟨a1,a2,a3,a4,st⟩:=ht.2;exact⟨a1,a2,a3,a4,st.trans (st.sep.grown ((Below.refl _ _).alloc (J1x _) o))⟩⟩)
  ?iter ⟨J3z _,T0.out.1⟩
  (fun k=>{tmps:=#[.pointer (some ⟨g,0,none⟩),undef,.slice none 0 0,.pointer (some ⟨w.heap.size,0,none⟩),.int .i64 (((ts[k]?.getD (0,0)).1:Nat):Int),.pointer (some ⟨g,0,none⟩),.bool false,.pointer (some ⟨g,0,none⟩),.pointer (some ⟨g,0,none⟩),.pointer (some ⟨g,1,none⟩),.int .i64 now,.int .i64 ((now:Int)+1),.pointer (some ⟨g,0,none⟩),.pointer (some ⟨g,1,none⟩),.pointer (some ⟨g,0,none⟩),.func (.func 252) #[] #[.pointer (some ⟨w.heap.size+1,0,none⟩)],.int .i64 (((ts[k]?.getD (0,0)).1:Nat):Int),undef,undef,undef,undef,undef],defers:=[]}) ?assign ?body ?done
 case iter =>
  intro r D W hD ht bk hy;refine J0Y F hF (n-1) (by omega) (D+1) (w.heap.size+1) g (now+1) (dueK (now+1) ts) (fun k=>(ts[k]?.getD (0,0)).1)
   (fun k W=>(k<=dueK (now+1) ts/\TickS (qhl g per now rv ts) w g per (now+1) (w.heap.size+1) w.heap.size ts k k W)/\Bk r D W)
   (fun k W=>(k<dueK (now+1) ts/\TickS (qhl g per now rv ts) w g per (now+1) (w.heap.size+1) w.heap.size ts (k+1) k W)/\Bk r D W) W
   (fun k W hj=>?_) (fun k W m hj=>⟨⟨hj.1.1,hj.1.2.drewN m⟩,hj.2⟩) (fun k W m hj=>⟨⟨hj.1.1,hj.1.2.drewN m⟩,hj.2⟩) (fun k W1 hk hj=>hy k W1 hk hj.1 hj.2) ⟨ht,bk⟩
  obtain⟨⟨hk,hts⟩,hbk⟩:=hj;obtain⟨rv',ro',q1,q2,st⟩:=hts;have hcg:=st.sep.cells (Z0B g per (now+1) (w.heap.size+1) w.heap.size ts k k rv' ro');have hcb:=st.sep.cells (b:=w.heap.size+1) (T:=139) (cs:=[ptr g]) (by simp [Q2f]);refine⟨hcb.cell 0 _ rfl,hcg.cell 1 _ (by rw [Int.natCast_add];rfl),hcg.free 2,hk,fun hlt'=>?_,fun e=>?_⟩
  ·obtain⟨x,hx⟩:=hat k hlt';have hfr:=TickS.front ⟨rv',ro',q1,q2,st⟩ hx (J0f hlt' hx);obtain⟨b,off,len,cap,at_,p1,p2,p3,p4,p5,p6,p7⟩:=hfr.it;have hxe:(ts[k]?.getD (0,0)).1=x.1:=by rw [hx];rfl
   exact⟨b,off,len,cap,at_,p1,p2,p3,by rw [hxe];exact p4,p5,p6,⟨⟨hlt',p7⟩,hbk.set (by omega) 2 _⟩⟩
  ·exact TickS.late ⟨rv',ro',q1,q2,st⟩ fun x hx=>Z8r hord (by rw [<- e];exact hx)
 case assign =>
  intro l k W K hK;dsimp only at hK ⊢;generalize (ts[k]?.getD (0,0)).1=x at *
  gi_wp2
  exact hK
 case body =>
  rintro l k W ⟨hk,ht⟩ _;obtain⟨x,hx⟩:=hat k hk;have hxe:(ts[k]?.getD (0,0)).1=x.1:=by rw [hx];rfl
  rw [hxe];obtain⟨v,c0,f0,hrow,hfin⟩:=ht.row hx (.cells #[.int .i64 (x.1:Int)] 3);have HFin:=Q0a hfin;have hk256:k<=256:=by omega
  clear hfin ht h hc c1 f1 hok hord T0 hat
  gi_wp2_with (gi_at_builtin;refine wpListIn_append_own_at _ rfl _ _ 36 rfl 0 3 i0 (.int .i64 0) 1 8 underlying36 hi hz0 hz1 hz2 rfl (by decide) _ _ _ rfl hrow ⟨W.heap.size,0,none⟩ 1 1 [.int .i64 (x.1:Int)] rfl rfl (cell_one_new _ _ _) (by simp [Value.oneCell']) (by unfold maxLen;omega) (by omega) (J3z _) ?_;intro v' w1 hown' hgrow _ hbl;have hw1:=hgrow.size;obtain⟨⟨u0,d0⟩,df,hts⟩:=HFin.out v' w1 hown' hgrow hbl;obtain⟨g',cap',rfl⟩:=ownsRow_succ hown';have HTs:=Q0a hts;have HG:=Q0a hgrow;have HOw:=Q0a hrow;clear hts hown' hgrow hbl hrow)
  exact⟨Z6m HOw.out HG.out (by omega),hk,HTs.out⟩
 case done =>
  intro D W hD ht hK;obtain⟨_,rv',ro',q1,q2,st⟩:=ht;have hcb:=(st.sep.cells (b:=w.heap.size) (T:=36) (cs:=[lvOf ro' (dueK (now+1) ts)]) (by simp [Q2f])).cell 0 _ rfl
  gi_wp2
  refine⟨by simp,.inl ⟨_,_,rfl,run_takeDeferred hK,?_⟩⟩;refine⟨_,results_tmp rfl _ _ _,?_⟩;exact⟨rv',ro',_,_,rfl,q1,q2,Z1K st _ (by omega) hgb ⟨_,hK,rfl⟩⟩
theorem Z6n {w:World} {g per now:Nat} {rv:OV} {ts:List (Nat×Nat)} (h:Sep w (qhl g per now rv ts)) (hok:ovOk rv ts.length) (hl:ts.length<=256) (hnow:now<1048576) (hord:ts.Pairwise (fun a b=>a.2<=b.2)) :
  Calls prog 134 #[.pointer (some ⟨g,0,none⟩)] w (Z1J g per (now+1) rv ts w):=
 (callsIn_wide (n:=4)).1 (Z8s Fence.wide rfl 4 (J1x _) h hok hl hnow hord)
end Go.Proofs.YtlakjlmaboioiaaGreatDoor
