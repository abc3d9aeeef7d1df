/- SpaceFails returns true at every input. No condition. Part of its proof. -/
import Derived.Test.YtfidemmgofcnmaaGreatDoorSf06
set_option maxHeartbeats 4000000
set_option maxRecDepth 100000
set_option linter.unusedVariables false
namespace Go.Proofs.YtfidemmgofcnmaaGreatDoor
open Go.RowKit Go.Proofs.Tryz
def CA.pgs(c:CA):List Nat:=c.pg.map Prod.snd
theorem Q7s:∀pg:List (BM×Nat),(∀y∈pg,Q3W y=none)∨∃k x i,pg[k]?=some x/\Q3W x=some i/\∀(j:Nat) y,j<k->pg[j]?=some y->Q3W y=none
 | []=>.inl (by simp)
 | x::r=>by
  cases h:Q3W x with
  | some i=>exact .inr ⟨0,x,i,rfl,h,fun j _ hj=>absurd hj (J6F j)⟩
  | none =>
   rcases Q7s r with h'|⟨k,y,i,h1,h2,h3⟩
   ·left;intro y hy;rcases J3g.1 hy with rfl|hy
    ·exact h
    ·exact h' y hy
   ·right;refine⟨k+1,y,i,h1,h2,fun j z hj hz=>?_⟩;cases j with
    | zero=>simp at hz;subst hz;exact h
    | succ j=>exact h3 j z (by omega) hz
theorem Q6c(f:Nat->Option Nat):∀n,(∀k,k<n->f k=none)∨∃k i,k<n/\f k=some i/\∀j,j<k->f j=none
 | 0=>.inl (fun k hk=>absurd hk (J6F k))
 | n+1=>by
  rcases Q6c f n with h|⟨k,i,h1,h2,h3⟩
  ·cases hn:f n with
   | none =>
    left;intro k hk;rcases J5K k n with e|e
    ·exact h k e
    ·rw[show k=n by omega];exact hn
   | some i=>exact .inr ⟨n,i,by omega,hn,h⟩
  ·exact .inr ⟨k,i,by omega,h2,h3⟩
def J2c(c:CA)(d:BD)(a:Nat)(ps':List Nat):Prop:=
 (∃(k:Nat) (x:BM×Nat) (i:Nat),c.pg[k]?=some x/\Q3W x=some i/\(∀(j:Nat) y,j<k->c.pg[j]?=some y->Q3W y=none)/\a=addr c.size x.2 i/\ps'=d.ps) ∨
 ((∀y∈c.pg,Q3W y=none)/\∃k0 i0,k0<=d.top/\fstG (fre (uOf d.ps) d.top) d.top k0 0=some i0/\(∀k,k<k0->fstG (fre (uOf d.ps) d.top) d.top k 0=none)/\a=addr c.size (i0*2 ^ k0) 0/\ps'=d.ps++[i0*2 ^ k0])
structure Z5r(c:CA)(d:BD)(a:Nat)(c':CA)(d':BD):Prop where
 ok:c'.Ok
 ec:c'.c=c.c
 size:c'.size=c.size
 bb:c'.bb=c.bb
 b:d'.b=d.b
 top:d'.top=d.top
 at':d'.At
 used:∃A B,c.used=A++B/\c'.used=A++a::B
 which:J2c c d a d'.ps
 pages:(c'.pgs=c.pgs/\d'.ps=d.ps)∨∃p,p∉d.ps/\c'.pgs.Perm (p::c.pgs)/\d'.ps=d.ps++[p]
 busy:(∀x∈c.pg,cntB x.1.bits≠0)->∀x∈c'.pg,cntB x.1.bits≠0
def Z5s(c:CA)(d:BD):Prop:=(∀y∈c.pg,Q3W y=none)/\∀k,k<=d.top->fstG (fre (uOf d.ps) d.top) d.top k 0=none
def J2P(c:CA)(d:BD)(w:World)(r:Ending)(w':World):Prop:=
 (∃a c' d',r=.returned (.tuple #[.int .i64 ((a:Nat):Int),.int .i64 0])/\Z5r c d a c' d'/\Step (c.hl++d.hl) (c'.hl++d'.hl) w w')∨(Z5s c d/\r=.returned (.tuple #[.int .i64 0,.int .i64 4])/\Below w.heap.size w w')
theorem Q7t{c:CA}{k:Nat}{x:BM×Nat}(m:BM)(hx:c.pg[k]?=some x):(c.pageTo k x m).pgs=c.pgs:=by
 unfold CA.pgs CA.pageTo;exact Q3k _ _ _ _ _ hx rfl
theorem Q5b{α:Type}{L:List α}{k:Nat}{y z:α}(h:z∈L.set k y):z=y∨z∈L:=by
 obtain⟨j,hj⟩:=J5Q.1 h;rw[J4J] at hj;split at hj
 ·split at hj
  ·left;cases hj;rfl
  ·cases hj
 ·right;exact J5q hj
theorem Z2V(c:CA)(rv':RV)(m:BM)(p:Nat):(c.insert rv' (m,p)).pgs.Perm (p::c.pgs):=by
 unfold CA.pgs CA.insert Q3e;simp only[J6G,J3e];refine J6H.trans (List.Perm.cons _ ?_);rw[<- J6G,J4b]
theorem Q6d{bits:List Bool}{i:Nat}(h:bits[i]?.getD false=true):cntB bits≠0:=by
 intro e;have hi:i<bits.length:=by
  rcases J5K i bits.length with e|e
  ·exact e
  ·rw[J4R e] at h;cases h
 have:=cntB_zero.1 e bits[i] (J6z hi);rw[J5t hi] at h;simp[this] at h
theorem Q7u:∀(l:List Nat) (lo n:Nat),l.Pairwise (·<·)->(∀x∈l,lo<=x/\x<n)->l.length<=n-lo
 | [],_,_,_,_=>J5e _
 | x::r,lo,n,hs,hb=>by
  obtain⟨h1,h2⟩:=J3D.1 hs;have hx:=hb x (by simp);have:=Q7u r (x+1) n h2 (fun y hy=>⟨h1 y hy,(hb y (by simp[hy])).2⟩);simp only[J3N];omega
theorem J0Q{c:CA}{d:BD}(ok:c.Ok)(BN:∀x∈c.pg,x.2∈d.ps)(p:Nat)(hp:p∉d.ps)(ha:d.At)(FK:p<2 ^ d.top):c.pg.length<1048576:=by
 have hs:=Q7m ok.sorted (⟨0,0,[]⟩,p) (fun x hx e=>hp ((show x.2=p from e) ▸ BN x hx));have hl:=insPg_len c.pg (⟨0,0,[]⟩,p);have h1:=Q7u ((Q3e c.pg (⟨0,0,[]⟩,p)).map Prod.snd) 0 (2 ^ d.top) (J3H.2 hs) (by
  intro y hy;obtain⟨x,hx,rfl⟩:=J3h.1 hy;refine⟨J5e _,?_⟩;rcases mem_insPg.1 hx with rfl|hx
  ·exact FK
  ·exact ha.lt _ (BN x hx))
 have h2:2 ^ d.top<=1048576:=J3c (J4q (by omega) ha.is.top) (by decide);rw[J4L,hl] at h1;omega
theorem Z5t{w:World}{c:CA}{d:BD}(h:Sep w (c.hl++d.hl))(ok:c.Ok)(ha:d.At)(DR:c.bb=d.b)(BN:∀x∈c.pg,x.2∈d.ps) :
  Calls prog 69 #[.pointer (some ⟨c.c,0,none⟩)] w (J2P c d w):=by
 rcases Q7s c.pg with By|⟨k,x,i,hx,hf,A3⟩
 ·rcases Q6c (fun k=>fstG (fre (uOf d.ps) d.top) d.top k 0) (d.top+1) with Aq|⟨k0,i0,Bz,hf,hp⟩
  ·refine(Z5l h ok By DR ha.is (fun k hk=>Aq k (by omega))).mono ?_;rintro r w'⟨rfl,hb⟩;exact .inr ⟨⟨By,fun k hk=>Aq k (by omega)⟩,rfl,hb⟩
  ·obtain⟨s1,s2,s3,s4⟩:=Q1F hf;have BJ:i0<2 ^ (d.top-k0):=by simpa using s1
   have Ax:fre (uOf d.ps) d.top k0 i0=true:=by simpa[BJ] using s3
   have FK:i0*2 ^ k0<2 ^ d.top:=by
    have:i0*2 ^ k0<2 ^ (d.top-k0)*2 ^ k0:=J6t BJ (J4r _)
    rwa [<- J4D,show d.top-k0+k0=d.top from by omega] at this
   have FI:i0*2 ^ k0∉d.ps:=by
    have:=Q8P Ax (p:=i0*2 ^ k0) (J6b _ (J4r k0))
    simpa[uOf] using this
   have h2:2 ^ d.top<=1048576:=J3c (J4q (by omega) ha.is.top) (by decide);have DW:=ok.s0;have C5:=ok.s1;have II:0<960/c.size:=Nat.div_pos (by omega) (by omega);refine(Z8w h ok ha By DR (J0Q ok BN _ FI ha FK) k0 i0 (by omega) hf hp (fun x hx e=>FI (e ▸ BN x hx)) (by omega)).mono ?_;rintro r w'⟨rfl,d',m,rv',b1,b2,b3,b4,b5,b6,b7⟩;refine .inl ⟨_,_,d',rfl,⟨b6,rfl,rfl,rfl,b1,b2,b4,Z8j rv' m _ _ II b5,.inr ⟨By,k0,i0,by omega,hf,hp,rfl,b3⟩,.inr ⟨_,FI,Z2V c rv' m _,b3⟩,fun hb y hy=>?_⟩,b7⟩;rcases mem_insPg.1 hy with rfl|hy
   ·show cntB m.bits≠0;rw[b5];exact Q6d (i:=0) (by simp[II])
   ·exact hb y hy
 ·obtain⟨C4,_,NO,_⟩:=Q1F hf;refine(Z8k h.left ok k i x hx hf A3).mono ?_;rintro r w'⟨rfl,Ap⟩;have s':Step (c.hl++d.hl) ((c.pageTo k x {x.1 with bits:=x.1.bits.set i true}).hl++d.hl) w w':=by
   have:=Step.frame [] d.hl (by simpa using h) Ap
   simpa using this
  refine .inl ⟨_,_,d,rfl,⟨CA.ok_page ok k x hx _ (by simp),rfl,rfl,rfl,rfl,rfl,ha,Z8h hx C4 NO,.inl ⟨k,x,i,hx,hf,A3,rfl,rfl⟩,.inl ⟨Q7t _ hx,rfl⟩,fun hb y hy=>?_⟩,s'⟩;rcases Q5b hy with rfl|hy
  ·exact Q6d (i:=i) (by simp[C4])
  ·exact hb y hy
structure Z5u(c:CA)(d:BD)(a:Nat)(c':CA)(d':BD):Prop where
 ok:c'.Ok
 ec:c'.c=c.c
 size:c'.size=c.size
 bb:c'.bb=c.bb
 b:d'.b=d.b
 top:d'.top=d.top
 at':d'.At
 used:∃A B,c.used=A++a::B/\c'.used=A++B
 pages:(c'.pgs=c.pgs/\d'.ps=d.ps)∨∃p,c.pgs.Perm (p::c'.pgs)/\d'.ps=d.ps.erase p
 busy:(∀x∈c.pg,cntB x.1.bits≠0)->∀x∈c'.pg,cntB x.1.bits≠0
theorem Z8z(c:CA)(k:Nat)(x:BM×Nat)(hx:c.pg[k]?=some x):c.pgs.Perm (x.2::(c.dropPg k).pgs):=by
 have hk:=J3t.1 hx;unfold CA.pgs CA.dropPg;rw[J5W];have e:c.pg=c.pg.take k++x::c.pg.drop (k+1):=by
  rw[<- hk.2,J4a,J4b]
 conv=>lhs;rw[e]
 simp only[J6G,J3e];exact J6H
theorem Z5v{w:World}{c:CA}{d:BD}(h:Sep w (c.hl++d.hl))(ok:c.Ok)(ha:d.At)(DR:c.bb=d.b)(BN:∀x∈c.pg,x.2∈d.ps)(a:Nat)(hm:a∈c.used)(CH:a<9223372036854775808) :
  Calls prog 77 #[.pointer (some ⟨c.c,0,none⟩),.int .i64 a] w fun r w'=>r=.returned (.int .i64 0)/\∃c' d',Z5u c d a c' d'/\Step (c.hl++d.hl) (c'.hl++d'.hl) w w':=by
 have JO:=Z1I ok a;rw[decide_eq_true hm] at JO;obtain⟨⟨k,i⟩,hs⟩:=J6I.1 JO;obtain⟨x,hx,hi,rfl⟩:=Q8O hs;have JV:=J5q hx;by_cases Cd:cntB (x.1.bits.set i false)=0
 ·refine(Z5i h ok ha DR _ CH k i x hs hx hi Cd (BN x JV)).mono ?_;rintro r w'⟨rfl,d',b1,b2,b3,b4,b5⟩;have hk:=(J3t.1 hx).1;exact⟨rfl,_,d',⟨CA.ok_drop ok k hk,rfl,rfl,rfl,b1,b2,b4,Z5a hx hi Cd,.inr ⟨x.2,Z8z c k x hx,b3⟩,fun hb y hy=>hb y ((J5L _ _).subset hy)⟩,b5⟩
 ·refine(Z4W h.left ok _ CH k i x hs hx hi Cd).mono ?_;rintro r w'⟨rfl,Ap⟩;have s':Step (c.hl++d.hl) ((c.pageTo k x {x.1 with bits:=x.1.bits.set i false}).hl++d.hl) w w':=by
   have:=Step.frame [] d.hl (by simpa using h) Ap
   simpa using this
  refine⟨rfl,_,d,⟨CA.ok_page ok k x hx _ (by simp),rfl,rfl,rfl,rfl,rfl,ha,Z8i hx hi,.inl ⟨Q7t _ hx,rfl⟩,fun hb y hy=>?_⟩,s'⟩;rcases Q5b hy with rfl|hy
  ·exact Cd
  ·exact hb y hy
theorem Q8i(P:PL)(k:Nat)(c:CA)(h:P.cs[k]?=some c):P.pages.Perm (c.pgs++((P.cs.take k).flatMap CA.pgs++(P.cs.drop (k+1)).flatMap CA.pgs)):=by
 have:P.pages=P.cs.flatMap CA.pgs:=rfl;rw[this,Z2R CA.pgs P.cs k c h,<- J4c,<- J4c];exact J5O _ J5P
theorem Q7v(P:PL)(k:Nat)(c c':CA)(d:BD)(h:P.cs[k]?=some c):(P.setC k c' d).pages.Perm (c'.pgs++((P.cs.take k).flatMap CA.pgs++(P.cs.drop (k+1)).flatMap CA.pgs)):=by
 have hk:=(J3t.1 h).1;have:=Q8i (P.setC k c' d) k c' (by simp[PL.setC,hk])
 simpa only[PL.setC,J4d (J3b k),J4e (Nat.lt_succ_self k)] using this
theorem Q6e{P:PL}{fr:List Nat}(ok:P.Ok fr){k:Nat}{c:CA}(hc:P.cs[k]?=some c):∀x∈c.pg,x.2∈P.d.ps:=by
 intro x hx;refine ok.pages.mem_iff.1 (J3W _ ?_);exact J3C.2 ⟨c,J5q hc,J3U hx⟩
theorem PL.ok_setC{P:PL}{fr fr':List Nat}(ok:P.Ok fr){k:Nat}{c c':CA}{d:BD}(hc:P.cs[k]?=some c)(h1:c'.Ok)(h2:c'.size=c.size)(h3:c'.bb=c.bb)(h4:d.b=P.d.b)(h5:d.top=P.d.top)(h6:d.At)(h7:∀x∈c'.pg,cntB x.1.bits≠0)
  (hp:(fr'++(P.setC k c' d).pages).Perm d.ps):(P.setC k c' d).Ok fr':=by
 have hk:=(J3t.1 hc).1;refine⟨ok.q,h6,?_,?_,ok.bytes,by simp[PL.setC,ok.len],?_,hp,?_⟩
 ·show P.a.mem.length=2 ^ (d.top+10);rw[h5];exact ok.mem
 ·show 6<=d.top;rw[h5];exact ok.top
 ·intro j x hx;simp only[PL.setC] at hx;rw[J4J] at hx;split at hx
  ·rename_i e;subst e;simp at hx;subst hx;obtain⟨a,b,e⟩:=ok.c k c hc;exact⟨h1,h2.trans b,by rw[h3,e];exact h4.symm⟩
  ·obtain⟨a,b,e⟩:=ok.c j x hx;exact⟨a,b,by rw[e];exact h4.symm⟩
 ·intro x hx;rcases Q5b hx with rfl|hx
  ·exact h7
  ·exact ok.busy x hx
theorem PL.busyC{P:PL}{fr:List Nat}(ok:P.Ok fr){k:Nat}{c:CA}(hc:P.cs[k]?=some c):∀x∈c.pg,cntB x.1.bits≠0:=ok.busy c (J5q hc)
theorem PL.ok_take{P:PL}{fr:List Nat}(ok:P.Ok fr){k a:Nat}{c c':CA}{d:BD}(hc:P.cs[k]?=some c)(h:Z5r c P.d a c' d):(P.setC k c' d).Ok fr:=by
 refine PL.ok_setC ok hc h.ok h.size h.bb h.b h.top h.at' (h.busy (PL.busyC ok hc)) ?_;have e1:=Q8i P k c hc;have e2:=Q7v P k c c' d hc;rcases h.pages with ⟨p1,p2⟩|⟨p,_,p1,p2⟩
 ·rw[p2];refine(J5R _ ?_).trans ok.pages;rw[p1] at e2;exact e2.trans e1.symm
 ·rw[p2];have e3:(P.setC k c' d).pages.Perm (p::P.pages):=e2.trans ((J5O _ p1).trans (List.Perm.cons _ e1.symm));exact(J5R _ e3).trans (J6H.trans ((List.Perm.cons _ ok.pages).trans (J6J _ _).symm))
theorem PL.ok_give{P:PL}{fr:List Nat}(ok:P.Ok fr){k a:Nat}{c c':CA}{d:BD}(hc:P.cs[k]?=some c)(h:Z5u c P.d a c' d):(P.setC k c' d).Ok fr:=by
 refine PL.ok_setC ok hc h.ok h.size h.bb h.b h.top h.at' (h.busy (PL.busyC ok hc)) ?_;have e1:=Q8i P k c hc;have e2:=Q7v P k c c' d hc;rcases h.pages with ⟨p1,p2⟩|⟨p,p1,p2⟩
 ·rw[p2];refine(J5R _ ?_).trans ok.pages;rw[p1] at e2;exact e2.trans e1.symm
 ·rw[p2];have e3:P.pages.Perm (p::(P.setC k c' d).pages):=e1.trans ((J5O _ p1).trans (List.Perm.cons _ e2.symm));have e4:(p::(fr++(P.setC k c' d).pages)).Perm P.d.ps:=(J6H.symm.trans (J5R _ e3.symm)).trans ok.pages;have:=List.Perm.erase p e4
  rwa [List.erase_cons_head] at this
theorem Q3H(P:PL)(k:Nat)(c c':CA)(d:BD)(hc:P.Cls k c)(j:Nat):(P.setC (k-1) c' d).usedOf j=if j=k then c'.used else P.usedOf j:=by
 have hk:=(J3t.1 hc.2).1;have h1:=hc.1;unfold PL.usedOf PL.setC;by_cases e:j=k
 ·subst e;simp[h1,hk]
 ·simp only[e,if_false];split
  ·rename_i hj;rw[J6K (by omega)]
  ·rfl
theorem PL.ok_setQ{P:PL}{fr:List Nat}(ok:P.Ok fr){q:QT}(hq:q.Ok):(P.setQ q).Ok fr:=⟨hq,ok.d,ok.mem,ok.top,ok.bytes,ok.len,ok.c,ok.pages,ok.busy⟩
theorem PL.ok_setA{P:PL}{fr:List Nat}(ok:P.Ok fr){m:List Nat}(hm:m.length=P.a.mem.length)(hb:∀b∈m,b<256):(P.setA m).Ok fr:=⟨ok.q,ok.d,by show m.length=_;rw[hm];exact ok.mem,ok.top,hb,ok.len,ok.c,ok.pages,ok.busy⟩
theorem Q3m{q:QT}(ok:q.Ok){id:Int}{e:En Fa}(hf:find q.E id=some e)(f:Fa)(h:0<=f.charged/\0<=f.given/\f.charged+f.given<=f.limit/\f.limit=e.q.limit/\f.kids=e.q.kids):({q with E:=upd q.E id f}:QT).Ok:=by
 refine⟨Q0Q id f (fun a b a' b' _ h1 _ h2 h=>by rw[<- h1,<- h2];exact h) ok.ids,ok.next0,ok.next1,fun j x hx=>?_⟩;obtain⟨a1,a2,a3,a4,a5,a6,a7,a8⟩:=ok.fa id e hf;by_cases hj:j=id
 ·subst hj;have:=Q0h hf f;rw[this] at hx;cases hx;exact⟨h.1,h.2.1,h.2.2.1,by rw[h.2.2.2.1];exact a4,by rw[h.2.2.2.2];exact a5,by rw[h.2.2.2.2];exact a6,a7,a8⟩
 ·have:find (upd q.E id f) j=find q.E j:=Q0w hj f;rw[this] at hx;exact ok.fa j x hx
theorem Q6f{w:World}{v:Value}{r:Ending}{w':World}(h:Told w.drew v r w'):Told w v r w':=⟨h.1,((Below.refl _ _).drew).trans h.2⟩
theorem Z8A{w:World}{P:PL}(h:Sep w P.hl)(f k:Int)(hk:Q1j k=0):Calls prog 15 #[.pointer (some ⟨P.p,0,none⟩),.int .i64 f,.int .i64 k] w fun r w'=>r=.returned (.tuple #[.int .i64 0,.int .i64 1])/\w=w':=by
 have AQ:=Q2T h.env k;rw[hk] at AQ;clear h hk;go_enter func15,ntmps15;go_wp2_with (go_at_call 20;refine AQ.mono ?_;rintro e w'⟨rfl,rfl⟩);go_ret2;exact⟨rfl,rfl⟩
theorem Z1V{w:World}{P:PL}(h:Sep w P.hl)(f k:Int)(hk:Q1j k≠0)(e0:Int)(he:e0=5∨e0=6)
  (CZ:Calls prog 68 #[ptr P.q.t,.int .i64 f,.int .i64 ((Q1j k:Nat):Int)] w.drew (Told w.drew (.int .i64 e0))) :
  Calls prog 15 #[.pointer (some ⟨P.p,0,none⟩),.int .i64 f,.int .i64 k] w (Told w (.tuple #[.int .i64 0,.int .i64 e0])):=by
 have AQ:=Q2T h.env k;have DN:=Q2T h.drew.env k;have c0:=PL.c0 h;have d0:=PL.c0 h.drew;have HT:Hid (∀r w',Told w.drew (.int .i64 e0) r w'->r=.returned (.int .i64 e0)/\w'.cell? ⟨P.p,0,none⟩=some (ptr P.q.t)/\Told w (.tuple #[.int .i64 0,.int .i64 e0]) (.returned (.tuple #[.int .i64 0,.int .i64 e0])) w'):=fun r w' hx=>⟨(Q6f hx).1,PL.c0 (h.grown (Q6f hx).2).sep,rfl,(Q6f hx).2⟩
 have Aa:(((Q1j k:Nat):Int)==0)=false:=by simpa using hk
 clear h hk;unfold ptr at *
 generalize ((Q1j k:Nat):Int)=cst at *
 rcases he with rfl|rfl
 all_goals
  go_enter func15,ntmps15;go_wp2_with (go_at_call 20;refine AQ.mono ?_;rintro e w'⟨rfl,rfl⟩)
  go_region_held3 (fun w'=>w'.cell? ⟨P.p,0,none⟩=some (.pointer (some ⟨P.q.t,0,none⟩))) (first|exact c0|exact d0|exact e1)
   (first|(go_at_call 20;refine DN.mono ?_;rintro e w'⟨rfl,rfl⟩)|(go_at_call 68;refine CZ.mono ?_;intro r w' hx;obtain⟨rfl,e1,hy⟩:=HT.out _ _ hx;have HY:=Q0a hy;clear hx hy))
  go_wp2_with fail
  (try go_ret2);exact HY.out
structure GetOk(P:PL)(fr:List Nat)(f:Int)(n a:Nat)(P':PL):Prop where
 ok:P'.Ok fr
 p:P'.p=P.p
 qt:P'.q.t=P.q.t
 db:P'.d.b=P.d.b
 aa:P'.a.a=P.a.a
 amb:P'.a.mb=P.a.mb
 top:P'.d.top=P.d.top
 q:∃e,find P.q.E f=some e/\((Q0c n:Nat):Int)<=e.q.limit-(e.q.charged+e.q.given)/\P'.q={P.q with E:=upd P.q.E f {e.q with charged:=e.q.charged+((Q0c n:Nat):Int)}}
 mem:P'.a.mem=put_ P.a.mem a (List.replicate (Q0c n) 0)
 used:∃A B,P.usedOf n=A++B/\P'.usedOf n=A++a::B
 other:∀j,j≠n->P'.usedOf j=P.usedOf j
 which:∃c c',P.Cls n c/\P'.cs=P.cs.set (n-1) c'/\Z5r c P.d a c' P'.d
def NoRoom(P:PL)(n:Nat):Prop:=∃c,P.Cls n c/\Z5s c P.d
def GetR(P:PL)(fr:List Nat)(f:Int)(n:Nat)(w:World)(r:Ending)(w':World):Prop:=
 (∃a P',r=.returned (.tuple #[.int .i64 ((a:Nat):Int),.int .i64 0])/\GetOk P fr f n a P'/\Step P.hl P'.hl w w')∨(NoRoom P n/\r=.returned (.tuple #[.int .i64 0,.int .i64 4])/\Step P.hl P.hl w w')
theorem Q0m{P:PL}{fr:List Nat}(ok:P.Ok fr){n a:Nat}(ha:a∈P.usedOf n):a+Q0c n<=P.a.mem.length/\64<=a/\1<=n/\n<=7:=by
 unfold PL.usedOf at ha;split at ha
 ·rename_i h1;split at ha
  ·rename_i c hc;obtain⟨k1,k2,k3,k4⟩:=PL.Cls.facts ok ⟨h1,hc⟩;obtain⟨x,hx,l1,l2⟩:=Q8e k1 ha;have hp:=ok.d.lt _ (Q6e ok hc x hx);rw[k2] at l2;rw[ok.mem,J4D,show(2:Nat) ^ 10=1024 from rfl];omega
  ·cases ha
 ·cases ha
theorem Q8V{m:List Nat}{a n:Nat}(h:∀b∈m,b<256)(v:Nat)(hv:v<256):∀b∈put_ m a (List.replicate n v),b<256:=by
 intro b hb;unfold put_ at hb;simp only[J3Q] at hb;rcases hb with (hb|hb)|hb
 ·exact h b (J6y hb)
 ·rw[J3j hb];exact hv
 ·exact h b (J5F hb)
theorem Q0o{P:PL}{fr:List Nat}(ok:P.Ok fr):P.a.mem.length<=1073741824:=by
 rw[ok.mem];exact J3c (J4q (by omega) (by have:=ok.d.is.top;omega:P.d.top+10<=30)) (by decide)
theorem Z5w{w:World}{P:PL}{fr:List Nat}(h:Sep w P.hl)(ok:P.Ok fr)(f:Int){e:En Fa}(hf:find P.q.E f=some e)(n:Nat)(hq:((Q0c n:Nat):Int)<=e.q.limit-(e.q.charged+e.q.given))(c:CA)(hc:P.Cls n c) :
  Calls prog 68 #[ptr P.q.t,.int .i64 f,.int .i64 ((Q0c n:Nat):Int)] w.drew fun r w1=>r=.returned (.int .i64 0)/\w1.cell? ⟨P.p,0,none⟩=some (ptr P.q.t)/\w1.cell? ⟨P.p,3+n,none⟩=some (ptr c.c) /\
   Calls prog 69 #[ptr c.c] w1 fun r w2 =>
    (∃a:Nat,r=.returned (.tuple #[.int .i64 a,.int .i64 0])/\Env w2/\w2.cell? ⟨P.p,2,none⟩=some (ptr P.a.a) /\
     Calls prog 71 #[ptr P.a.a,.int .i64 a,.int .i64 ((Q0c n:Nat):Int),.int .u8 0] w2.drew fun r w3=>r=.returned (.int .i64 0)/\w3.cell? ⟨P.p,2,none⟩=some (ptr P.a.a)/\GetR P fr f n w (.returned (.tuple #[.int .i64 a,.int .i64 0])) w3)
    ∨ (r=.returned (.tuple #[.int .i64 0,.int .i64 4])/\Env w2/\w2.cell? ⟨P.p,0,none⟩=some (ptr P.q.t) /\
     Calls prog 70 #[ptr P.q.t,.int .i64 f,.int .i64 ((Q0c n:Nat):Int)] w2.drew fun r w3=>r=.returned (.int .i64 0)/\w3.cell? ⟨P.p,0,none⟩=some (ptr P.q.t)/\GetR P fr f n w (.returned (.tuple #[.int .i64 0,.int .i64 4])) w3):=by
 obtain⟨k1,k2,k3,k4⟩:=PL.Cls.facts ok hc;obtain⟨f1,f2,f3,f4,f5,f6,f7,f8⟩:=ok.q.fa f e hf;have Cn:0<Q0c n:=costN_pos.2 ⟨hc.1,k4⟩;have Dk:(0:Int)<=((Q0c n:Nat):Int):=by omega
 refine(Q7q (PL.sQ h.drew) ok.q hf _ Dk hq).mono ?_;rintro r w1⟨rfl,st1⟩;have s1:Step P.hl (P.setQ {P.q with E:=upd P.q.E f {e.q with charged:=e.q.charged+((Q0c n:Nat):Int)}}).hl w w1:=(PL.stepQ h.drew {P.q with E:=upd P.q.E f {e.q with charged:=e.q.charged+((Q0c n:Nat):Int)}} rfl st1).from_drew;have ok1:=PL.ok_setQ ok (Q3m ok.q hf {e.q with charged:=e.q.charged+((Q0c n:Nat):Int)} ⟨by show 0<=e.q.charged+_;omega,f2,by show e.q.charged+_+e.q.given<=e.q.limit;omega,rfl,rfl⟩);have FR:find (upd P.q.E f {e.q with charged:=e.q.charged+((Q0c n:Nat):Int)}) f=some {e with q:={e.q with charged:=e.q.charged+((Q0c n:Nat):Int)}}:=Q0h hf _
 have Ae:=ok.q.ids;obtain⟨q1,EC⟩:∃q1:QT,q1={P.q with E:=upd P.q.E f {e.q with charged:=e.q.charged+((Q0c n:Nat):Int)}}:=⟨_,rfl⟩
 rw[<- EC] at s1 ok1;have A7:=PL.cc s1.sep (n-1) c hc.2;rw[show 3+(n-1+1)=3+n by have:=hc.1;omega] at A7;have EF:=PL.c0 s1.sep;have eqt:(P.setQ q1).q.t=P.q.t:=by subst EC;rfl
 rw[eqt] at EF;refine⟨rfl,EF,A7,?_⟩;refine(Z5t (PL.sC s1.sep (n-1) c hc.2) k1 ok1.d k3 (Q6e ok1 hc.2)).mono ?_;rintro r w2 (⟨a,c',d',rfl,ht,st2⟩|⟨Aq,rfl,hb⟩)
 ·left;have s2:Step (P.setQ q1).hl ((P.setQ q1).setC (n-1) c' d').hl w1 w2:=PL.stepC s1.sep (n-1) c c' d' hc.2 ht.ec ht.b st2;have ok2:=PL.ok_take ok1 hc.2 ht;have hu:=Q3H (P.setQ q1) n c c' d' hc n;rw[if_pos rfl] at hu;obtain⟨A,B,u1,u2⟩:=ht.used;have Pc:a∈((P.setQ q1).setC (n-1) c' d').usedOf n:=by rw[hu,u2];simp
  have Cm:=Q0m ok2 Pc;have s12:=s1.trans s2;have A5:=PL.c2 s2.sep;refine⟨a,rfl,s2.sep.env,A5,?_⟩;have Gv:=Q0o ok2;refine(Z5p (PL.sA s2.sep.drew) a (Q0c n) 0 Cn Cm.1 Gv).mono ?_;rintro r w3⟨rfl,st3⟩;have s3:=PL.stepA s2.sep.drew _ st3;have Ac:(put_ P.a.mem a (List.replicate (Q0c n) 0)).length=P.a.mem.length:=Q2v _ _ _ (by rw[J3l];exact Cm.1);have ok3:=PL.ok_setA ok2 (m:=put_ P.a.mem a (List.replicate (Q0c n) 0)) Ac (Q8V ok.bytes 0 (by omega));have IZ:=PL.c2 s3.sep;refine⟨rfl,IZ,.inl ⟨a,_,rfl,⟨ok3,rfl,eqt,ht.b,rfl,rfl,ht.top,⟨e,hf,hq,EC⟩,rfl,⟨A,B,?_,?_⟩,?_,⟨c,c',hc,rfl,ht⟩⟩,s12.trans s3.from_drew⟩⟩
  ·rw[Q0V hc];exact u1
  ·show((P.setQ q1).setC (n-1) c' d').usedOf n=_;rw[hu];exact u2
  ·intro j hj;have:=Q3H (P.setQ q1) n c c' d' hc j;rw[if_neg hj] at this;exact this
 ·right;have s2:=s1.sep.grown hb;have Ni:=PL.c0 s2.sep;rw[eqt] at Ni;refine⟨rfl,s2.sep.env,Ni,?_⟩;have Ll:=Q3F (PL.sQ s2.sep.drew) ok1.q (id:=f) (e:={e with q:={e.q with charged:=e.q.charged+((Q0c n:Nat):Int)}}) (by subst EC;exact FR) _ Dk (by show _<=e.q.charged+_;omega);rw[eqt] at Ll;refine Ll.mono ?_;rintro r w3⟨rfl,st3⟩;have eback:({(P.setQ q1).q with E:=upd (P.setQ q1).q.E f {(({e with q:={e.q with charged:=e.q.charged+((Q0c n:Nat):Int)}}:En Fa)).q with charged:=e.q.charged+((Q0c n:Nat):Int)-((Q0c n:Nat):Int)}}:QT)=P.q:=by
   subst EC;simp only[PL.setQ,upd_upd,J6L];rw[Z4P Ae hf]
  rw[eback] at st3;have s3:=PL.stepQ s2.sep.drew P.q eqt.symm st3;have eP:(P.setQ q1).setQ P.q=P:=rfl;rw[eP] at s3;exact⟨rfl,PL.c0 s3.sep,.inr ⟨⟨c,hc,Aq⟩,rfl,(s1.trans s2).trans s3.from_drew⟩⟩
theorem Z5x{w:World}{P:PL}{fr:List Nat}(h:Sep w P.hl)(ok:P.Ok fr)(f:Int){e:En Fa}(hf:find P.q.E f=some e)(n:Nat)(hq:((Q0c n:Nat):Int)<=e.q.limit-(e.q.charged+e.q.given))(c:CA)(hc:P.Cls n c) :
  Calls prog 15 #[.pointer (some ⟨P.p,0,none⟩),.int .i64 f,.int .i64 n] w (GetR P fr f n w):=by
 have CZ:=Z5w h ok f hf n hq c hc;obtain⟨k1,k2,k3,k4⟩:=PL.Cls.facts ok hc;have Cn:0<Q0c n:=costN_pos.2 ⟨hc.1,k4⟩;have KF:Q1j (n:Int)=Q0c n:=by unfold Q1j;rw[if_pos (by omega),J4h]
 have Fi:Hid (∀w1,Env w1->Calls prog 20 #[.int .i64 n] w1 fun r w'=>r=.returned (.int .i64 ((Q0c n:Nat):Int))/\w1=w'):=fun w1 he=>by
  have:=Q2T he (n:Int);rw[KF] at this;exact this
 have AQ:=Fi.out w h.env;have DN:=Fi.out w.drew h.drew.env;have c0:=PL.c0 h;have d0:=PL.c0 h.drew;have Aa:(((Q0c n:Nat):Int)==0)=false:=by simp;omega
 have R9:(n:Int)<8:=by omega
 have Ds:(1:Int)<=n:=by have:=hc.1;omega
 have HE:Hid (∀w:World,Env w->Env w.drew):=fun w he=>he.same (fun _ _=>rfl) he.gb
 obtain⟨GR,QY⟩:∃GR:Ending->World->Prop,GR=GetR P fr f n w:=⟨_,rfl⟩
 rw[<- QY] at CZ ⊢;have Kf:=Q0a CZ;clear h ok hf hq hc QY CZ KF k1 k2 k3 k4 Cn;unfold ptr at *
 generalize ((Q0c n:Nat):Int)=cst at *
 generalize P.p=pp at *
 generalize P.q.t=qt at *
 generalize P.a.a=aa at *
 generalize c.c=cc at *
 go_enter func15,ntmps15;go_wp2_with (go_at_call 20;refine AQ.mono ?_;rintro e w'⟨rfl,rfl⟩)
 go_region_held3 (fun w'=>w'.cell? ⟨pp,0,none⟩=some (.pointer (some ⟨qt,0,none⟩))) (first|exact c0|exact d0|exact e1)
  (first|(go_at_call 20;refine DN.mono ?_;rintro e w'⟨rfl,rfl⟩)|(go_at_call 68;refine Kf.out.mono ?_;rintro r w1⟨rfl,e1,e2,hx⟩;have HT:=Q0a hx;clear hx))
 clear c0 d0 AQ DN;go_wp2_with fail;refine HT.out.mono ?_;rintro r w2 (⟨a,rfl,he,e3,hx⟩|⟨rfl,he,e3,hx⟩)
 ·have HX:=Q0a hx;have Fb:=Fi.out w2.drew (HE.out _ he);have d3:w2.drew.cell? ⟨pp,2,none⟩=some (.pointer (some ⟨aa,0,none⟩)):=e3;clear hx he e1 e2;go_wp2_with fail
  go_region_held3 (fun w'=>w'.cell? ⟨pp,2,none⟩=some (.pointer (some ⟨aa,0,none⟩))) (first|exact e3|exact d3|exact e4)
   (first|(go_at_call 20;refine Fb.mono ?_;rintro e w'⟨rfl,rfl⟩)|(go_at_call 71;refine HX.out.mono ?_;rintro r w3⟨rfl,e4,hy⟩;have HY:=Q0a hy;clear hy))
  go_wp2_with fail
  (try go_ret2);exact HY.out
 ·have HX:=Q0a hx;have Fb:=Fi.out w2.drew (HE.out _ he);have d3:w2.drew.cell? ⟨pp,0,none⟩=some (.pointer (some ⟨qt,0,none⟩)):=e3;clear hx he e1 e2;go_wp2_with fail
  go_region_held3 (fun w'=>w'.cell? ⟨pp,0,none⟩=some (.pointer (some ⟨qt,0,none⟩))) (first|exact e3|exact d3|exact e4)
   (first|(go_at_call 20;refine Fb.mono ?_;rintro e w'⟨rfl,rfl⟩)|(go_at_call 70;refine HX.out.mono ?_;rintro r w3⟨rfl,e4,hy⟩;have HY:=Q0a hy;clear hy))
  go_wp2_with fail
  (try go_ret2);exact HY.out
def GetP(P:PL)(fr:List Nat)(f k:Int)(w:World)(r:Ending)(w':World):Prop:=
 (Q1j k=0/\r=.returned (.tuple #[.int .i64 0,.int .i64 1])/\Step P.hl P.hl w w') ∨
 (Q1j k≠0/\find P.q.E f=none/\r=.returned (.tuple #[.int .i64 0,.int .i64 6])/\Step P.hl P.hl w w') ∨
 (Q1j k≠0/\(∃e,find P.q.E f=some e/\e.q.limit-(e.q.charged+e.q.given)<((Q1j k:Nat):Int))/\r=.returned (.tuple #[.int .i64 0,.int .i64 5])/\Step P.hl P.hl w w') ∨
 (∃n e,k=((n:Nat):Int)/\1<=n/\n<=7/\find P.q.E f=some e/\((Q0c n:Nat):Int)<=e.q.limit-(e.q.charged+e.q.given)/\GetR P fr f n w r w')
theorem Q8W{k:Int}(h:Q1j k≠0):∃n:Nat,k=n/\1<=n/\n<=7/\Q1j k=Q0c n:=by
 have h0:0<=k:=by unfold Q1j at h;split at h <;> omega
 obtain⟨n,rfl⟩:=J4G h0;have e:Q1j (n:Int)=Q0c n:=by unfold Q1j;rw[if_pos h0,J4h]
 rw[e] at h;obtain⟨h1,h7⟩:=costN_pos.1 (Nat.pos_of_ne_zero h);exact⟨n,rfl,h1,h7,e⟩
theorem Q5G{w:World}{P:PL}{fr:List Nat}(h:Sep w P.hl)(ok:P.Ok fr)(f k:Int) :
  Calls prog 15 #[.pointer (some ⟨P.p,0,none⟩),.int .i64 f,.int .i64 k] w (GetP P fr f k w):=by
 by_cases hk:Q1j k=0
 ·refine(Z8A h f k hk).mono ?_;rintro r w'⟨rfl,rfl⟩;exact .inl ⟨hk,rfl,Step.refl h⟩
 ·cases hf:find P.q.E f with
  | none =>
   refine(Z1V h f k hk 6 (.inr rfl) ((Q8T (PL.sQ h.drew) hf _).mono fun r w' ⟨e,e'⟩=>⟨e,by rw[<- e'];exact Below.refl _ _⟩)).mono ?_;rintro r w'⟨rfl,hb⟩;exact .inr (.inl ⟨hk,hf,rfl,h.grown hb⟩)
  | some e =>
   by_cases hq:((Q1j k:Nat):Int)<=e.q.limit-(e.q.charged+e.q.given)
   ·obtain⟨n,rfl,h1,h7,hn⟩:=Q8W hk;rw[hn] at hq;obtain⟨c,hc⟩:=PL.cls ok h1 h7;refine(Z5x h ok f hf n hq c hc).mono ?_;intro r w' hr;exact .inr (.inr (.inr ⟨n,e,rfl,h1,h7,hf,hq,hr⟩))
   ·refine(Z1V h f k hk 5 (.inl rfl) (Q4y (PL.sQ h.drew) ok.q hf _ (by omega) (by omega))).mono ?_;rintro r w'⟨rfl,hb⟩;exact .inr (.inr (.inl ⟨hk,⟨e,hf,by omega⟩,rfl,h.grown hb⟩))
theorem Z8B{w:World}(c:CA)(a:Int)(ha:a<0):Calls prog 122 #[.pointer (some ⟨c.c,0,none⟩),.int .i64 a] w (Told w (.bool false)):=by
 have k1:=Z8d (w:=w) c a ha;unfold Q4Z at k1;have HB:Hid (Told w (.bool false) (.returned (.bool false)) w):=⟨rfl,Below.refl _ _⟩
 go_enter func122,ntmps122;go_wp2_with (go_at_call 143;refine k1.mono ?_;rintro e w'⟨rfl,rfl⟩);go_ret;exact HB.out
def Z5y(a:Int):Prop:=a<9223372036854775808
theorem Z8C{w:World}{c:CA}(h:Sep w c.hl)(ok:c.Ok)(a:Int)(ha:Z5y a):Calls prog 122 #[.pointer (some ⟨c.c,0,none⟩),.int .i64 a] w (Told w (.bool (decide (0<=a/\a.toNat∈c.used)))):=by
 unfold Z5y at ha;by_cases h0:a<0
 ·have:decide (0<=a/\a.toNat∈c.used)=false:=by rw[decide_eq_false_iff_not];omega
  rw[this];exact Z8B c a h0
 ·obtain⟨n,rfl⟩:=J4G (by omega:0<=a);have:=J0x h ok n (by omega);rw[Z1I ok n] at this;have e:decide (n∈c.used)=decide (0<=(n:Int)/\(n:Int).toNat∈c.used):=by
   rw[J4h];congr 1;apply propext;exact⟨fun h=>⟨by omega,h⟩,fun h=>h.2⟩
  rw[<- e];exact this
def PL.has(P:PL)(k a:Int):Bool:=decide (0<=a/\a.toNat∈P.usedI k)
theorem Z1W{w:World}{P:PL}{fr:List Nat}(h:Sep w P.hl)(ok:P.Ok fr)(k a:Int)(ha:Z5y a):Calls prog 59 #[.pointer (some ⟨P.p,0,none⟩),.int .i64 k,.int .i64 a] w (Told w (.bool (P.has k a))):=by
 have AQ:=Q2T h.env k;by_cases hz:Q1j k=0
 ·have e:P.has k a=false:=by
   unfold PL.has PL.usedI;rw[decide_eq_false_iff_not];rintro⟨_,hm⟩;split at hm
   ·rename_i h0;unfold Q1j at hz;rw[if_pos h0] at hz;rw[Q1r ok hz] at hm;cases hm
   ·cases hm
  rw[e,];have HB:Hid (Told w (.bool false) (.returned (.bool false)) w):=⟨rfl,Below.refl _ _⟩
  rw[hz] at AQ;clear h ok hz e;go_enter func59,ntmps59;go_wp2_with (go_at_call 20;refine AQ.mono ?_;rintro e w'⟨rfl,rfl⟩);go_ret;exact HB.out
 ·obtain⟨n,rfl,h1,h7,hn⟩:=Q8W hz;obtain⟨c,hc⟩:=PL.cls ok h1 h7;have Ak:=PL.cc h (n-1) c hc.2;rw[show 3+(n-1+1)=3+n by omega] at Ak;have hu:=Z8C (PL.sC h (n-1) c hc.2).left (hc.facts ok).1 a ha;have e:P.has (n:Int) a=decide (0<=a/\a.toNat∈c.used):=by
   unfold PL.has PL.usedI;rw[if_pos (by omega:(0:Int)<=(n:Int)),J4h,Q0V hc]
  rw[e];have Cn:(0:Int)<((Q1j (n:Int):Nat):Int):=by omega
  have R9:(n:Int)<8:=by omega
  have Dk:(0:Int)<=n:=by omega
  generalize decide (0<=a/\a.toNat∈c.used)=b at *
  clear h ok hz e hc ha hn;have HQ:Hid (∀r w',Told w (.bool b) r w'->r=.returned (.bool b)/\Told w (.bool b) (.returned (.bool b)) w'):=fun r w' hx=>⟨hx.1,rfl,hx.2⟩
  unfold ptr at *
  generalize ((Q1j (n:Int):Nat):Int)=cst at *
  go_enter func59,ntmps59;go_wp2_with (first|(go_at_call 20;refine AQ.mono ?_;rintro e w'⟨rfl,rfl⟩)|(go_at_call 122;refine hu.mono ?_;intro r w' hx;obtain⟨rfl,hy⟩:=HQ.out _ _ hx;have HY:=Q0a hy;clear hx hy))
  (try go_ret);exact HY.out
structure PutOk(P:PL)(fr:List Nat)(f:Int)(n a:Nat)(P':PL):Prop where
 ok:P'.Ok fr
 p:P'.p=P.p
 qt:P'.q.t=P.q.t
 db:P'.d.b=P.d.b
 aa:P'.a=P.a
 top:P'.d.top=P.d.top
 q:∃e,find P.q.E f=some e/\((Q0c n:Nat):Int)<=e.q.charged/\P'.q={P.q with E:=upd P.q.E f {e.q with charged:=e.q.charged-((Q0c n:Nat):Int)}}
 used:∃A B,P.usedOf n=A++a::B/\P'.usedOf n=A++B
 other:∀j,j≠n->P'.usedOf j=P.usedOf j
 which:∃c c',P.Cls n c/\P'.cs=P.cs.set (n-1) c'/\Z5u c P.d a c' P'.d
def PutR(P:PL)(fr:List Nat)(f:Int)(n a:Nat)(w:World)(r:Ending)(w':World):Prop:=r=.returned (.int .i64 0)/\∃P',PutOk P fr f n a P'/\Step P.hl P'.hl w w'
theorem Z5z{w w1:World}{P:PL}{fr:List Nat}(h:Sep w P.hl)(hb:Below w.heap.size w w1)(ok:P.Ok fr)(f:Int){e:En Fa}(hf:find P.q.E f=some e)(n:Nat)(hq:((Q0c n:Nat):Int)<=e.q.charged)(c:CA)(hc:P.Cls n c)(a:Nat)(hm:a∈c.used)(CH:a<9223372036854775808) :
  Calls prog 70 #[ptr P.q.t,.int .i64 f,.int .i64 ((Q0c n:Nat):Int)] w1.drew fun r w2=>r=.returned (.int .i64 0)/\w2.cell? ⟨P.p,0,none⟩=some (ptr P.q.t)/\w2.cell? ⟨P.p,3+n,none⟩=some (ptr c.c) /\
   Calls prog 77 #[ptr c.c,.int .i64 a] w2 (PutR P fr f n a w):=by
 have s0:=h.grown hb;obtain⟨k1,k2,k3,k4⟩:=PL.Cls.facts ok hc;obtain⟨f1,f2,f3,f4,f5,f6,f7,f8⟩:=ok.q.fa f e hf;have Dk:(0:Int)<=((Q0c n:Nat):Int):=by omega
 refine(Q3F (PL.sQ s0.sep.drew) ok.q hf _ Dk hq).mono ?_;rintro r w2⟨rfl,st1⟩;have s1:Step P.hl (P.setQ {P.q with E:=upd P.q.E f {e.q with charged:=e.q.charged-((Q0c n:Nat):Int)}}).hl w w2:=s0.trans (PL.stepQ s0.sep.drew {P.q with E:=upd P.q.E f {e.q with charged:=e.q.charged-((Q0c n:Nat):Int)}} rfl st1).from_drew;have ok1:=PL.ok_setQ ok (Q3m ok.q hf {e.q with charged:=e.q.charged-((Q0c n:Nat):Int)} ⟨by show 0<=e.q.charged-_;omega,f2,by show e.q.charged-_+e.q.given<=e.q.limit;omega,rfl,rfl⟩);obtain⟨q1,EC⟩:∃q1:QT,q1={P.q with E:=upd P.q.E f {e.q with charged:=e.q.charged-((Q0c n:Nat):Int)}}:=⟨_,rfl⟩
 rw[<- EC] at s1 ok1;have A7:=PL.cc s1.sep (n-1) c hc.2;rw[show 3+(n-1+1)=3+n by have:=hc.1;omega] at A7;have EF:=PL.c0 s1.sep;have eqt:(P.setQ q1).q.t=P.q.t:=by subst EC;rfl
 rw[eqt] at EF;refine⟨rfl,EF,A7,?_⟩;refine(Z5v (PL.sC s1.sep (n-1) c hc.2) k1 ok1.d k3 (Q6e ok1 hc.2) a hm CH).mono ?_;rintro r w3⟨rfl,c',d',hg,st2⟩;have s2:Step (P.setQ q1).hl ((P.setQ q1).setC (n-1) c' d').hl w2 w3:=PL.stepC s1.sep (n-1) c c' d' hc.2 hg.ec hg.b st2;have ok2:=PL.ok_give ok1 hc.2 hg;have hu:=Q3H (P.setQ q1) n c c' d' hc n;rw[if_pos rfl] at hu;obtain⟨A,B,u1,u2⟩:=hg.used;refine⟨rfl,_,⟨ok2,rfl,eqt,hg.b,rfl,hg.top,⟨e,hf,hq,EC⟩,⟨A,B,?_,?_⟩,?_,⟨c,c',hc,rfl,hg⟩⟩,s1.trans s2⟩
 ·rw[Q0V hc];exact u1
 ·rw[hu];exact u2
 ·intro j hj;have:=Q3H (P.setQ q1) n c c' d' hc j;rw[if_neg hj] at this;exact this
theorem Q4z{w:World}{P:PL}{fr:List Nat}(h:Sep w P.hl)(ok:P.Ok fr)(f:Int){e:En Fa}(hf:find P.q.E f=some e)(n:Nat)(hq:((Q0c n:Nat):Int)<=e.q.charged)(c:CA)(hc:P.Cls n c)(a:Nat)(hm:a∈c.used)(CH:a<9223372036854775808) :
  Calls prog 21 #[.pointer (some ⟨P.p,0,none⟩),.int .i64 f,.int .i64 n,.int .i64 a] w (PutR P fr f n a w):=by
 obtain⟨k1,k2,k3,k4⟩:=PL.Cls.facts ok hc;have Cn:0<Q0c n:=costN_pos.2 ⟨hc.1,k4⟩;have KF:Q1j (n:Int)=Q0c n:=by unfold Q1j;rw[if_pos (by omega),J4h]
 have IO:P.has (n:Int) (a:Int)=true:=by
  unfold PL.has PL.usedI;rw[if_pos (by omega:(0:Int)<=(n:Int)),J4h,J4h,Q0V hc,decide_eq_true_eq];exact⟨by omega,hm⟩
 have AQ:=Q2T h.env (n:Int);rw[KF] at AQ;have hh:=Z1W h ok (n:Int) (a:Int) (by unfold Z5y;omega);rw[IO] at hh;have Aa:(((Q0c n:Nat):Int)==0)=false:=by simp;omega
 have R9:(n:Int)<8:=by omega
 have Ds:(1:Int)<=n:=by have:=hc.1;omega
 obtain⟨PR,N2⟩:∃PR:Ending->World->Prop,PR=PutR P fr f n a w:=⟨_,rfl⟩
 have HQ:Hid (∀r w1,Told w (.bool true) r w1->r=.returned (.bool true)/\w1.cell? ⟨P.p,0,none⟩=some (ptr P.q.t) /\
   (Calls prog 20 #[.int .i64 n] w1.drew fun r w'=>r=.returned (.int .i64 ((Q0c n:Nat):Int))/\w1.drew=w') /\
   Calls prog 70 #[ptr P.q.t,.int .i64 f,.int .i64 ((Q0c n:Nat):Int)] w1.drew fun r w2=>r=.returned (.int .i64 0)/\w2.cell? ⟨P.p,0,none⟩=some (ptr P.q.t)/\w2.cell? ⟨P.p,3+n,none⟩=some (ptr c.c) /\
    Calls prog 77 #[ptr c.c,.int .i64 a] w2 PR):=fun r w1 hx=>by
  subst N2;have A7:=Q2T (h.grown hx.2).sep.drew.env (n:Int);rw[KF] at A7;exact⟨hx.1,PL.c0 (h.grown hx.2).sep,A7,Z5z h hx.2 ok f hf n hq c hc a hm CH⟩
 have HZ:Hid (∀r w',PR r w'->∃w'',r=.returned (.int .i64 0)/\w'=w''/\PR (.returned (.int .i64 0)) w''):=fun r w' hx=>by subst N2;obtain⟨rfl,hy⟩:=hx;exact⟨w',rfl,rfl,rfl,hy⟩
 rw[<- N2];clear h ok hf hq hc N2 KF k1 k2 k3 k4 Cn IO hm CH;unfold ptr at *
 generalize ((Q0c n:Nat):Int)=cst at *
 generalize P.p=pp at *
 generalize P.q.t=qt at *
 generalize c.c=cc at *
 go_enter func21,ntmps21;go_wp2_with (go_at_call 20;refine AQ.mono ?_;rintro e w'⟨rfl,rfl⟩);refine hh.mono ?_;intro r w1 hx;obtain⟨rfl,c0,BF,GY⟩:=HQ.out _ _ hx;have I5:=Q0a BF;have CE:=Q0a GY;have d0:w1.drew.cell? ⟨pp,0,none⟩=some (.pointer (some ⟨qt,0,none⟩)):=c0;clear hx BF GY;go_wp2_with fail
 go_region_held3 (fun w'=>w'.cell? ⟨pp,0,none⟩=some (.pointer (some ⟨qt,0,none⟩))) (first|exact c0|exact d0|exact e1)
  (first|(go_at_call 20;refine I5.out.mono ?_;rintro e w'⟨rfl,rfl⟩)|(go_at_call 70;refine CE.out.mono ?_;rintro r w2⟨rfl,e1,e2,hx⟩;have HT:=Q0a hx;clear hx))
 clear c0 d0;go_wp2_with fail;refine HT.out.mono ?_;intro r w3 hx;obtain⟨w3',rfl,rfl,hy⟩:=HZ.out _ _ hx;have HY:=Q0a hy;clear hx hy;go_wp2_with fail
 (try go_ret);exact HY.out
theorem Step.fresh{w w':World}{H':HL}(h:Step [] H' w w'):Below w.heap.size w w':=h.below (J3b _) (by simp)
theorem Q8j{c:CA}(ok:c.Ok):c.used.Pairwise (·<·):=by
 unfold CA.used;rw[J3E];have DW:=ok.s0
 constructor
 ·intro x hx;unfold Q1q;rw[J3H];refine(Q5q x.1.bits).imp fun {i j} h=>?_
  unfold addr;have:i*c.size+c.size<=j*c.size:=by
   have:=J5Y c.size h;rw[Nat.succ_mul] at this;exact this
  omega
 ·refine J6M (fun {x y} hx hy h=>?_) ok.sorted;intro a ha b hb;have FT:a∈c.used:=J3C.2 ⟨x,hx,ha⟩;unfold Q1q at ha hb;obtain⟨i,hi,rfl⟩:=J3h.1 ha;obtain⟨j,hj,rfl⟩:=J3h.1 hb;have C4:i<x.1.bits.length:=by
   have:=mem_trues.1 hi;rcases J5K i x.1.bits.length with e|e
   ·exact e
   ·rw[J4R e] at this;cases this
  have hp:=Q4v (s:=c.size) (by omega) C4 (ok.many x hx);unfold addr;have JG:x.2<y.2:=h;omega
theorem Q2h{P:PL}{fr:List Nat}(ok:P.Ok fr)(n:Nat):(P.usedOf n).Pairwise (·<·):=by
 unfold PL.usedOf;split
 ·rename_i h1;split
  ·rename_i c hc;exact Q8j (PL.Cls.facts ok ⟨h1,hc⟩).1
  ·exact List.Pairwise.nil
 ·exact List.Pairwise.nil
theorem Z2W{c:CA}(ok:c.Ok):c.used.Pairwise (fun a b=>a+c.size<=b):=by
 unfold CA.used;rw[J3E];have DW:=ok.s0
 constructor
 ·intro x hx;unfold Q1q;rw[J3H];refine(Q5q x.1.bits).imp fun {i j} h=>?_
  unfold addr;have:i*c.size+c.size<=j*c.size:=by
   have:=J5Y c.size h;rw[Nat.succ_mul] at this;exact this
  omega
 ·refine J6M (fun {x y} hx hy h=>?_) ok.sorted;intro a ha b hb;unfold Q1q at ha hb;obtain⟨i,hi,rfl⟩:=J3h.1 ha;obtain⟨j,hj,rfl⟩:=J3h.1 hb;have C4:i<x.1.bits.length:=by
   have:=mem_trues.1 hi;rcases J5K i x.1.bits.length with e|e
   ·exact e
   ·rw[J4R e] at this;cases this
  have hp:=Q4v (s:=c.size) (by omega) C4 (ok.many x hx);unfold addr at *
  have JG:x.2<y.2:=h;omega
theorem Q8X{R:Nat->Nat->Prop}{l:List Nat}(h:l.Pairwise R){a b:Nat}(ha:a∈l)(hb:b∈l)(Aa:a≠b):R a b∨R b a:=by
 induction l with
 | nil=>cases ha
 | cons x r ih =>
  have hp:=J3D.1 h;rcases J3g.1 ha with ea|FT
  ·rcases J3g.1 hb with eb|Al
   ·exact absurd (ea.trans eb.symm) Aa
   ·rw[ea];exact .inl (hp.1 b Al)
  ·rcases J3g.1 hb with eb|Al
   ·rw[eb];exact .inr (hp.1 a FT)
   ·exact ih hp.2 FT Al
theorem Q2D{P:PL}{k a:Nat}(h:a∈P.usedOf k):∃c,P.Cls k c/\a∈c.used:=by
 unfold PL.usedOf at h;split at h
 ·rename_i h1;split at h
  ·rename_i c hc;exact⟨c,⟨h1,hc⟩,h⟩
  ·cases h
 ·cases h
theorem Q8Y{P:PL}{fr:List Nat}(ok:P.Ok fr){j k:Nat}{c d:CA}(KW:j<k)(hc:P.cs[j]?=some c)(hd:P.cs[k]?=some d){x y:BM×Nat}(hx:x∈c.pg)(hy:y∈d.pg):x.2≠y.2:=by
 have AO:P.pages.Nodup:=by
  have h:=(ok.pages.nodup_iff).2 ok.d.nd;exact(J3V.1 h).2.1
 have:(P.cs.flatMap fun c=>c.pg.map Prod.snd).Nodup:=AO;unfold List.Nodup at this;rw[J3E] at this;obtain⟨hj,ej⟩:=J3t.1 hc;obtain⟨hk,ek⟩:=J3t.1 hd;have h2:=J6e.1 this.2 j k hj hk KW;exact h2 x.2 (by rw[ej];exact J3U hx) y.2 (by rw[ek];exact J3U hy)
theorem Q3I{P:PL}{fr:List Nat}(ok:P.Ok fr){j k a b:Nat}(ha:a∈P.usedOf j)(hb:b∈P.usedOf k)(Aa:¬(j=k/\a=b)):a+Q0c j<=b∨b+Q0c k<=a:=by
 obtain⟨c,hc,ha⟩:=Q2D ha;obtain⟨d,hd,hb⟩:=Q2D hb;obtain⟨k1,k2,_,_⟩:=PL.Cls.facts ok hc;obtain⟨l1,l2,_,_⟩:=PL.Cls.facts ok hd;by_cases e:j=k
 ·subst e;obtain rfl:c=d:=by
   have:=hc.2.symm.trans hd.2;exact J3Z this
  have:=Q8X (Z2W k1) ha hb (fun e=>Aa ⟨rfl,e⟩);rw[k2] at this;exact this
 ·obtain⟨x,hx,x1,x2⟩:=Q8e k1 ha;obtain⟨y,hy,y1,y2⟩:=Q8e l1 hb;rw[k2] at x2;rw[l2] at y2;have hp:x.2≠y.2:=by
   have g1:=hc.1;have g2:=hd.1;rcases J5K j k with h|h
   ·exact Q8Y ok (by omega:j-1<k-1) hc.2 hd.2 hx hy
   ·exact(Q8Y ok (by omega:k-1<j-1) hd.2 hc.2 hy hx).symm
  omega
theorem Q8Z{ps:List Nat}{top:Nat}(h:∀k,k<=top->fstG (fre (uOf ps) top) top k 0=none){p:Nat}(hp:p<2 ^ top):p∈ps:=by
 by_cases hu:uOf ps p=true
 ·simpa[uOf] using hu
 ·exfalso;obtain⟨k,hk,hf⟩:=Z5c (uOf ps) top p (by simpa using hu);have Ab:p/2 ^ k<2 ^ (top-k):=by
   rw[J6v (J4r k),<- J4D,show top-k+k=top by omega];exact hp
  have:=Q8J (h k hk) (p/2 ^ k) (J5e _) (by simpa using Ab);rw[J4N,J4P Ab] at this;simp[hf] at this
def Pl.is(p:Pl):Bool:=p.st==1||p.st==2
theorem Pl.is_iff{p:Pl}:p.is=true↔p.st=1∨p.st=2:=by simp[Pl.is]
theorem Pl.not_is{p:Pl}:p.is=false↔p.st≠1/\p.st≠2:=by simp[Pl.is]
def costK(k:Nat):Nat:=if k=8 then 1024 else Q0c k
def atsF(k:Nat)(p:Pl):Option Nat:=if p.is&&p.kind==k then some p.at_ else none
def ownF(p:Pl):Option Int:=if p.is&&p.kind==1 then some (p.own:Int) else none
def Q2i(l:List Pl)(k:Nat):List Nat:=l.filterMap (atsF k)
def Q7w(l:List Pl):List Int:=l.filterMap ownF
def Q3f(a:Int)(p:Pl):Int:=if p.is&&decide ((p.fac:Int)=a) then(costK p.kind:Int) else 0
def Q0y(l:List Pl)(a:Int):Int:=(l.map (Q3f a)).sum
def givF(a:Int)(e:En Fa):Int:=if e.q.parent=a then e.q.limit else 0
def kidF(a:Int)(e:En Fa):Int:=if e.q.parent=a then 1 else 0
def Q1Y(E:List (En Fa))(a:Int):Int:=(E.map (givF a)).sum
def Q1Z(E:List (En Fa))(a:Int):Int:=(E.map (kidF a)).sum
theorem Z1X{α:Type}(f:α->Int){l m:List α}(h:l.Perm m):(l.map f).sum=(m.map f).sum:=by
 induction h with
 | nil=>rfl
 | cons x _ ih=>simp[ih]
 | swap x y l=>simp;omega
 | trans _ _ h1 h2=>exact h1.trans h2
theorem Q5H{α:Type}{l:List α}{i:Nat}{p:α}(q:α)(h:l[i]?=some p):∃R,l.Perm (p::R)/\(l.set i q).Perm (q::R):=by
 have hi:=J3t.1 h;refine⟨l.take i++l.drop (i+1),?_,?_⟩
 ·have e:l=l.take i++p::l.drop (i+1):=by rw[<- hi.2,J4a,J4b]
  conv=>lhs;rw[e]
  exact J6H
 ·have e:l.set i q=l.take i++q::l.drop (i+1):=by rw[List.set_eq_take_append_cons_drop,if_pos hi.1]
  rw[e];exact J6H
theorem Z0A{β:Type}{l:List Pl}{i:Nat}{p q:Pl}(f:Pl->Option β){b:β}(h:l[i]?=some p)(hp:f p=none)(hq:f q=some b):((l.set i q).filterMap f).Perm (b::l.filterMap f):=by
 obtain⟨R,h1,h2⟩:=Q5H q h;have e1:=h1.filterMap f;have e2:=h2.filterMap f;rw[J6N hp] at e1;rw[J6O hq] at e2;exact e2.trans (e1.symm.cons b)
theorem Q1I{β:Type}{l:List Pl}{i:Nat}{p q:Pl}(f:Pl->Option β)(h:l[i]?=some p)(Pv:f q=f p):((l.set i q).filterMap f).Perm (l.filterMap f):=by
 obtain⟨R,h1,h2⟩:=Q5H q h;have e1:=h1.filterMap f;have e2:=h2.filterMap f;refine e2.trans (List.Perm.trans ?_ e1.symm);rw[J3o,J3o,Pv]
theorem Q8k{β:Type}{l:List Pl}{i:Nat}{p q:Pl}(f:Pl->Option β){b:β}(h:l[i]?=some p)(hp:f p=some b)(hq:f q=none):(l.filterMap f).Perm (b::(l.set i q).filterMap f):=by
 obtain⟨R,h1,h2⟩:=Q5H q h;have e1:=h1.filterMap f;have e2:=h2.filterMap f;rw[J6O hp] at e1;rw[J6N hq] at e2;exact e1.trans (e2.symm.cons b)
theorem Q2j{l:List Pl}{i:Nat}{p:Pl}(q:Pl)(h:l[i]?=some p)(a:Int):Q0y (l.set i q) a+Q3f a p=Q0y l a+Q3f a q:=by
 obtain⟨R,h1,h2⟩:=Q5H q h;have e1:=Z1X (Q3f a) h1;have e2:=Z1X (Q3f a) h2;unfold Q0y;rw[e1,e2];simp only[J3e,J6P];omega
theorem Z1Y(a:Int)(p:Pl):0<=Q3f a p:=by
 unfold Q3f;split <;> omega
theorem Q5c:∀(l:List Pl) (a:Int),0<=Q0y l a
 | [],_=>by simp[Q0y]
 | p::r,a=>by
  have:=Q5c r a;have:=Z1Y a p;unfold Q0y at *
  simp only[J3e,J6P];omega
theorem Q7x:∀{l:List Pl} {p:Pl} (a:Int),p∈l->Q3f a p<=Q0y l a
 | [],_,_,h=>by cases h
 | q::r,p,a,h=>by
  have h1:=Q5c r a;have h2:=Z1Y a q;unfold Q0y at *
  simp only[J3e,J6P];rcases J3g.1 h with rfl|h
  ·omega
  ·have:=Q7x a h;unfold Q0y at this;omega
theorem Q2t:∀{l:List Pl} {a:Int},(∀p∈l,p.is=true->(p.fac:Int)≠a)->Q0y l a=0
 | [],_,_=>rfl
 | p::r,a,h=>by
  have ih:=Q2t (l:=r) (a:=a) fun q hq=>h q (by simp[hq])
  have e:Q3f a p=0:=by
   unfold Q3f;cases hi:p.is with
   | false=>rfl
   | true=>simp[h p (by simp) hi]
  unfold Q0y at *
  simp[e,ih]
theorem Q2U:∀{E:List (En Fa)} {a:Int},(∀e∈E,e.q.parent≠a)->Q1Y E a=0/\Q1Z E a=0
 | [],_,_=>⟨rfl,rfl⟩
 | e::r,a,h=>by
  have ih:=Q2U (E:=r) (a:=a) fun x hx=>h x (by simp[hx])
  have:=h e (by simp);unfold Q1Y Q1Z at *
  simp[givF,kidF,this,ih]
theorem Q1U{E:List (En Fa)}(Ae:E.Pairwise (fun a b=>a.id≠b.id)){id:Int}{e:En Fa}(hf:find E id=some e)(x:Fa)(f:En Fa->Int)(hx:f {e with q:=x}=f e):((upd E id x).map f).sum=(E.map f).sum:=by
 obtain⟨A,B,e1,e2,_⟩:=Q3i Ae hf;rw[e2]
 conv=>rhs;rw[e1]
 simp[hx]
theorem Z5A{E:List (En Fa)}(Ae:E.Pairwise (fun a b=>a.id≠b.id)){id:Int}{e:En Fa}(hf:find E id=some e)(f:En Fa->Int):((rem E id).map f).sum+f e=(E.map f).sum:=by
 obtain⟨A,B,e1,_,e3⟩:=Q3i Ae hf;rw[e3]
 conv=>rhs;rw[e1]
 simp;omega
theorem Q1s(E:List (En Fa))(id:Int)(x:Fa):(upd E id x).map En.id=E.map En.id:=by
 unfold upd;rw[J5k]
 apply J5l
 intro e _;show(if e.id=id then _ else _:En Fa).id=e.id;split <;> rfl
theorem Q0Z{E:List (En Fa)}{id j:Int}{e:En Fa}(x:Fa)(h:find E j=some e):∃e',find (upd E id x) j=some e':=by
 by_cases hj:j=id
 ·subst hj;exact⟨_,Q0h h x⟩
 ·exact⟨e,by rw[Q0w hj];exact h⟩
theorem Q0p{E:List (En Fa)}{id j:Int}{e' e0:En Fa}(x:Fa)(h0:find E id=some e0)(h:find (upd E id x) j=some e'):∃e,find E j=some e/\(j=id->e=e0/\e'.q=x)/\(j≠id->e'=e):=by
 by_cases hj:j=id
 ·subst hj;rw[Q0h h0] at h;cases h;exact⟨e0,h0,fun _=>⟨rfl,rfl⟩,fun h=>absurd rfl h⟩
 ·rw[Q0w hj] at h;exact⟨e',h,fun h=>absurd h hj,fun _=>rfl⟩
theorem Q5x{E:List (En Fa)}{j:Int}(h:j∈E.map En.id):∃e,find E j=some e:=by
 induction E with
 | nil=>cases h
 | cons x r ih =>
  by_cases hk:j=x.id
  ·exact⟨x,by simp[find,hk]⟩
  ·simp only[J3e,J3g] at h;rcases h with h|h
   ·exact absurd h hk
   ·obtain⟨e,he⟩:=ih h;exact⟨e,by simp only[find,hk,if_false];exact he⟩
theorem Q2V{E:List (En Fa)}(Ae:E.Pairwise (fun a b=>a.id≠b.id)){e:En Fa}(h:e∈E):find E e.id=some e:=by
 induction E with
 | nil=>cases h
 | cons x r ih =>
  obtain⟨h1,h2⟩:=J3D.1 Ae;rcases J3g.1 h with rfl|h
  ·simp[find]
  ·have Aa:¬e.id=x.id:=fun e'=>h1 e h e'.symm
   simp only[find,Aa,if_false];exact ih h2 h
structure MemI(P:PL)(l:List Pl)(fr:List Nat):Prop where
 pool:P.Ok fr
 kind:∀p∈l,p.is=true->p.kind=8∨(1<=p.kind/\p.kind<=5)
 ats:∀k,1<=k->k<=5->(Q2i l k).Perm (P.usedOf k)
 frs:(Q2i l 8).Perm (fr.map (1024*·))
 word:∀p∈l,p.is=true->p.kind=1->Q0u P.a.mem p.at_=p.own
structure TreI(E:List (En Fa))(l:List Pl)(xc:Int->Int):Prop where
 ids:(E.map En.id).Perm (Q7w l)
 fac:∀p∈l,p.is=true->∃e,find E p.fac=some e
 par:∀p∈l,p.is=true->p.kind=1->∀e,find E p.own=some e->(p.own=0->e.q.parent = -1)/\(p.own≠0->e.q.parent=p.fac/\p.fac<p.own)
 charged:∀id e,find E id=some e->e.q.charged=Q0y l id+xc id
 given:∀id e,find E id=some e->e.q.given=Q1Y E id/\e.q.kids=Q1Z E id
structure QueI(l:List Pl)(xc:Int->Int)(zs:List Nat):Prop where
 root:∃p,l[0]?=some p/\p.kind=1/\p.fac=0/\p.st=1/\p.age=0/\p.own=0
 live:∀i p,l[i]?=some p->i≠0->p.st=1->∃f∈l,f.st=1/\f.kind=1/\f.own=p.fac
 xc:∀id,0<=xc id/\(xc id≠0->∃p∈l,p.st=1/\(p.fac:Int)=id)
 nd:zs.Nodup
 has:∀h,h∈zs↔∃p,pget l 2 h=some p
 ord:zs.Pairwise fun a b=>∀p q,pget l 2 a=some p->pget l 2 b=some q->p.kind=1->q.fac≠p.own
structure Inv(P:PL)(l:List Pl)(fr:List Nat)(xc:Int->Int)(zs:List Nat):Prop where
 len:l.length=256
 st:∀p∈l,p.st<=2/\p.age<=1048575
 mem:MemI P l fr
 tre:TreI P.q.E l xc
 que:QueI l xc zs
theorem Q0z{l:List Pl}{s h:Nat}{p:Pl}(hp:pget l s h=some p):p∈l:=J5q (pget_some.1 hp).1
theorem Q0A{l:List Pl}{i:Nat}{p:Pl}(q:Pl)(hi:l[i]?=some p)(s h:Nat):pget (l.set i q) s h=if h%256=i then(if nm i q=h/\q.st=s then some q else none) else pget l s h:=by
 unfold pget;by_cases e:h%256=i
 ·subst e;simp[(List.getElem?_eq_some_iff.1 hi).1]
 ·rw[if_neg e,J6K (fun h=>e h.symm)]
theorem Q0n{l:List Pl}{i:Nat}{q r:Pl}(h:r∈l.set i q):r=q∨r∈l:=by
 rcases J5J h with h|h
 ·exact .inr h
 ·exact .inl h
theorem Z0B{β:Type}{l:List Pl}(f:Pl->Option β)(hn:(l.filterMap f).Nodup){i j:Nat}{p q:Pl}{b:β}(hi:l[i]?=some p)(hj:l[j]?=some q)(hp:f p=some b)(hq:f q=some b):i=j:=by
 unfold List.Nodup at hn;rw[J3u] at hn;obtain⟨Gq,D8⟩:=J3t.1 hi;obtain⟨MZ,Fr⟩:=J3t.1 hj;rcases J6d i j with h|h|h
 ·exact absurd rfl (J6e.1 hn i j Gq MZ h b (by rw[D8];exact hp) b (by rw[Fr];exact hq))
 ·exact h
 ·exact absurd rfl (J6e.1 hn j i MZ Gq h b (by rw[Fr];exact hq) b (by rw[D8];exact hp))
theorem TreI.owns_nodup{E:List (En Fa)}{l:List Pl}{xc:Int->Int}(t:TreI E l xc)(Ae:E.Pairwise (fun a b=>a.id≠b.id)):(Q7w l).Nodup:=by
 refine t.ids.nodup_iff.1 ?_;unfold List.Nodup;rw[J3H];exact Ae
theorem Q3n{p:Pl}(hi:p.is=true)(hk:p.kind=1):ownF p=some (p.own:Int):=by simp[ownF,hi,hk]
theorem TreI.inj{E:List (En Fa)}{l:List Pl}{xc:Int->Int}(t:TreI E l xc)(Ae:E.Pairwise (fun a b=>a.id≠b.id)){i j:Nat}{p q:Pl}(hi:l[i]?=some p)(hj:l[j]?=some q)(hp:p.is=true)(hq:q.is=true)(kp:p.kind=1)(kq:q.kind=1)(e:p.own=q.own):i=j:=
 Z0B ownF (t.owns_nodup Ae) hi hj (Q3n hp kp) (by rw[Q3n hq kq,e])
theorem TreI.acc{E:List (En Fa)}{l:List Pl}{xc:Int->Int}(t:TreI E l xc){p:Pl}(hp:p∈l)(hi:p.is=true)(hk:p.kind=1):∃e,find E p.own=some e:=
 Q5x (t.ids.mem_iff.2 (J3r.2 ⟨p,hp,Q3n hi hk⟩))
theorem Inv.tree{P:PL}{l:List Pl}{fr:List Nat}{xc:Int->Int}{zs:List Nat}(v:Inv P l fr xc zs):Tre l P.q.next.toNat:=by
 have Ae:=v.mem.pool.q.ids;have As:∀{h p},pget l 1 h=some p->p.is=true:=fun hp=>Pl.is_iff.2 (.inl (pget_some.1 hp).2.2)
 have Np:∀h k p q,pget l 1 h=some p->pget l 1 k=some q->p.kind=1->q.kind=1->p.own=q.own->h=k:=by
  intro h k p q hp hq kp kq e;have:=v.tre.inj Ae (pget_some.1 hp).1 (pget_some.1 hq).1 (As hp) (As hq) kp kq e;exact(Q0S hp hq this).1
 obtain⟨r,r1,r2,r3,r4,r5,r6⟩:=v.que.root;have B6:pget l 1 0=some r:=pget_some.2 ⟨r1,by simp[nm,r5],r4⟩;refine⟨by rw[v.len];omega,fun h p hp hk=>?_,fun h p hp h0 hk=>?_,Np⟩
 ·obtain⟨e,he⟩:=v.tre.acc (Q0z hp) (As hp) hk;have:=(v.mem.pool.q.fa _ e he).2.2.2.2.2.2;omega
 ·obtain⟨e,he⟩:=v.tre.acc (Q0z hp) (As hp) hk;refine((v.tre.par p (Q0z hp) (As hp) hk e he).2 fun e0=>?_).2;exact h0 (Np h 0 p r hp B6 hk r2 (by rw[r6];exact e0))
theorem MemI.at_nd{P:PL}{l:List Pl}{fr:List Nat}(m:MemI P l fr)(k:Nat)(h1:1<=k)(h5:k<=5):(Q2i l k).Nodup:=
 (m.ats k h1 h5).nodup_iff.2 ((Q2h m.pool k).imp fun h e=>by subst e;exact absurd h (by omega))
theorem Q1a{p:Pl}(hi:p.is=true):atsF p.kind p=some p.at_:=by simp[atsF,hi]
theorem MemI.used{P:PL}{l:List Pl}{fr:List Nat}(m:MemI P l fr){p:Pl}(hp:p∈l)(hi:p.is=true)(h8:p.kind≠8):p.at_∈P.usedOf p.kind:=by
 obtain⟨h1,h5⟩:=(m.kind p hp hi).resolve_left h8;exact(m.ats _ h1 h5).mem_iff.1 (J3r.2 ⟨p,hp,Q1a hi⟩)
theorem MemI.frame{P:PL}{l:List Pl}{fr:List Nat}(m:MemI P l fr){p:Pl}(hp:p∈l)(hi:p.is=true)(h8:p.kind=8):∃g∈fr,p.at_=1024*g:=by
 have:p.at_∈fr.map (1024*·):=m.frs.mem_iff.1 (J3r.2 ⟨p,hp,by rw[<- h8];exact Q1a hi⟩);obtain⟨g,hg,e⟩:=J3h.1 this;exact⟨g,hg,e.symm⟩
end Go.Proofs.YtfidemmgofcnmaaGreatDoor
