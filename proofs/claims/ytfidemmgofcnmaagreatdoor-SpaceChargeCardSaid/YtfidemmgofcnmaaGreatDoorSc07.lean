/- SpaceCharge returns true at every input. No condition. Part of its proof. -/
import Derived.Test.YtfidemmgofcnmaaGreatDoorSc06
set_option maxHeartbeats 4000000
set_option maxRecDepth 100000
set_option linter.unusedVariables false
namespace Go.Proofs.YtfidemmgofcnmaaGreatDoor
open Go.RowKit Go.Proofs.Tryz
theorem Q5V {k:Nat} (h:8<=k):Q0c k=0:=by
 unfold Q0c;rw [J4p (by simpa using h)];rfl
theorem Q8F {k:Nat} (h:k<8):Z4i[k]?=some ((Q0c k:Nat):Int):=by
 have:∀k,k<8->Z4i[k]?=some ((Q0c k:Nat):Int):=by decide
 exact this k h
theorem Q2M {w:World} (h:Env w) (k:Int):Calls prog 20 #[.int .i64 k] w fun r w'=>r=.returned (.int .i64 ((Q1g k:Nat):Int))/\w=w':=by
 unfold Q1g;by_cases h0:k<0
 ·rw [if_neg (by omega)];clear h;go_enter func20,ntmps20
  go_wp2
  go_ret;exact⟨rfl,rfl⟩
 ·obtain⟨n,rfl⟩:=J4e (by omega:0<=k);rw [if_pos (by omega),J3F];by_cases h8:n<8
  ·have hc:=h.tabC n _ (Q8F h8);have Ab:(n:Int)<8:=by omega
   clear h;generalize Q0c n=v at *
   go_enter func20,ntmps20
   go_wp2
   go_ret;exact⟨rfl,rfl⟩
  ·rw [Q5V (by omega)];have Kr:(8:Int)<=n:=by omega
   clear h;go_enter func20,ntmps20
   go_wp2
   go_ret;exact⟨rfl,rfl⟩
theorem Q7b {w:World} {P:PL} (h:Sep w P.hl):Calls prog 13 #[.pointer (some ⟨P.p,0,none⟩)] w fun r w'=>r=.returned (ptr P.q.t)/\w=w':=by
 have c0:=PL.c0 h;clear h;unfold ptr at *
 go_enter func13,ntmps13
 go_wp2
 go_ret;exact⟨rfl,rfl⟩
theorem Q1f {w:World} {P:PL} (h:Sep w P.hl):Calls prog 50 #[.pointer (some ⟨P.p,0,none⟩)] w fun r w'=>r=.returned (ptr P.a.a)/\w=w':=by
 have c0:=PL.c2 h;clear h;unfold ptr at *
 go_enter func50,ntmps50
 go_wp2
 go_ret;exact⟨rfl,rfl⟩
theorem costN_pos {k:Nat}:0<Q0c k↔1<=k/\k<=7:=by
 by_cases h:k<8
 ·have:∀k,k<8->(0<Q0c k↔1<=k/\k<=7):=by decide
  exact this k h
 ·rw [Q5V (by omega)];omega
theorem Q7S {k:Nat} (h1:1<=k) (h7:k<=7):32<=Q0c k/\Q0c k<=256/\Q0c k%16=0:=by
 have:∀k,k<8->1<=k->32<=Q0c k/\Q0c k<=256/\Q0c k%16=0:=by decide
 exact this k (by omega) h1
def PL.Cls (P:PL) (k:Nat) (c:CA):Prop:=1<=k/\P.cs[k-1]?=some c
theorem PL.cls {P:PL} {fr:List Nat} (ok:P.Ok fr) {k:Nat} (h1:1<=k) (h7:k<=7):∃c,P.Cls k c:=
 ⟨P.cs[k-1]'(by rw [ok.len];omega),h1,J4R _⟩
theorem PL.Cls.facts {P:PL} {fr:List Nat} (ok:P.Ok fr) {k:Nat} {c:CA} (h:P.Cls k c):c.Ok/\c.size=Q0c k/\c.bb=P.d.b/\k<=7:=by
 obtain⟨h1,h2⟩:=h;obtain⟨a,b,d⟩:=ok.c _ _ h2;have:=(J2Q.1 h2).1;rw [ok.len] at this;rw [show k-1+1=k by omega] at b;exact⟨a,b,d,by omega⟩
def PL.usedOf (P:PL) (k:Nat):List Nat:=if 1<=k then match P.cs[k-1]? with|some c=>c.used|none=>[] else []
theorem Q0U {P:PL} {k:Nat} {c:CA} (h:P.Cls k c):P.usedOf k=c.used:=by
 unfold PL.usedOf;rw [if_pos h.1,h.2]
theorem Q1V {P:PL} {fr:List Nat} (ok:P.Ok fr) {k:Nat} (h:Q0c k=0):P.usedOf k=[]:=by
 unfold PL.usedOf;split
 ·rename_i h1;have:8<=k:=by
   rcases J5i k 8 with e|e
   ·have:=costN_pos.2 ⟨h1,by omega⟩;omega
   ·exact e
  rw [J4p (by rw [ok.len];omega)]
 ·rfl
def PL.usedI (P:PL) (k:Int):List Nat:=if 0<=k then P.usedOf k.toNat else []
def CA.pgs (c:CA):List Nat:=c.pg.map Prod.snd
theorem Q7c:∀pg:List (BM×Nat),(∀y∈pg,Q3Q y=none)∨∃k x i,pg[k]?=some x/\Q3Q x=some i/\∀(j:Nat) y,j<k->pg[j]?=some y->Q3Q y=none
 | []=>.inl (by simp)
 | x::r=>by
  cases h:Q3Q x with
  | some i=>exact .inr ⟨0,x,i,rfl,h,fun j _ hj=>absurd hj (J6c j)⟩
  | none =>
   rcases Q7c r with h'|⟨k,y,i,h1,h2,h3⟩
   ·left;intro y hy;rcases J2D.1 hy with rfl|hy
    ·exact h
    ·exact h' y hy
   ·right;refine⟨k+1,y,i,h1,h2,fun j z hj hz=>?_⟩;cases j with
    | zero=>simp at hz;subst hz;exact h
    | succ j=>exact h3 j z (by omega) hz
theorem Q5W (f:Nat->Option Nat):∀n,(∀k,k<n->f k=none)∨∃k i,k<n/\f k=some i/\∀j,j<k->f j=none
 | 0=>.inl (fun k hk=>absurd hk (J6c k))
 | n+1=>by
  rcases Q5W f n with h|⟨k,i,h1,h2,h3⟩
  ·cases hn:f n with
   | none =>
    left;intro k hk;rcases J5i k n with e|e
    ·exact h k e
    ·rw [show k=n by omega];exact hn
   | some i=>exact .inr ⟨n,i,by omega,hn,h⟩
  ·exact .inr ⟨k,i,by omega,h2,h3⟩
def J1z (c:CA) (d:BD) (a:Nat) (ps':List Nat):Prop:=
 (∃(k:Nat) (x:BM×Nat) (i:Nat),c.pg[k]?=some x/\Q3Q x=some i/\(∀(j:Nat) y,j<k->c.pg[j]?=some y->Q3Q y=none)/\a=addr c.size x.2 i/\ps'=d.ps) ∨
 ((∀y∈c.pg,Q3Q y=none)/\∃k0 i0,k0<=d.top/\fstG (fre (uOf d.ps) d.top) d.top k0 0=some i0/\(∀k,k<k0->fstG (fre (uOf d.ps) d.top) d.top k 0=none)/\a=addr c.size (i0*2 ^ k0) 0/\ps'=d.ps++[i0*2 ^ k0])
structure Z4V (c:CA) (d:BD) (a:Nat) (c':CA) (d':BD):Prop where
 ok:c'.Ok
 ec:c'.c=c.c
 size:c'.size=c.size
 bb:c'.bb=c.bb
 b:d'.b=d.b
 top:d'.top=d.top
 at':d'.At
 used:∃A B,c.used=A++B/\c'.used=A++a::B
 which:J1z c d a d'.ps
 pages:(c'.pgs=c.pgs/\d'.ps=d.ps)∨∃p,p∉d.ps/\c'.pgs.Perm (p::c.pgs)/\d'.ps=d.ps++[p]
 busy:(∀x∈c.pg,cntB x.1.bits≠0)->∀x∈c'.pg,cntB x.1.bits≠0
def Z4W (c:CA) (d:BD):Prop:=(∀y∈c.pg,Q3Q y=none)/\∀k,k<=d.top->fstG (fre (uOf d.ps) d.top) d.top k 0=none
def J2m (c:CA) (d:BD) (w:World) (r:Ending) (w':World):Prop:=
 (∃a c' d',r=.returned (.tuple #[.int .i64 ((a:Nat):Int),.int .i64 0])/\Z4V c d a c' d'/\Step (c.hl++d.hl) (c'.hl++d'.hl) w w')∨(Z4W c d/\r=.returned (.tuple #[.int .i64 0,.int .i64 4])/\Below w.heap.size w w')
theorem Q7d {c:CA} {k:Nat} {x:BM×Nat} (m:BM) (hx:c.pg[k]?=some x):(c.pageTo k x m).pgs=c.pgs:=by
 unfold CA.pgs CA.pageTo;exact Q2Z _ _ _ _ _ hx rfl
theorem Q4V {α:Type} {L:List α} {k:Nat} {y z:α} (h:z∈L.set k y):z=y∨z∈L:=by
 obtain⟨j,hj⟩:=J5o.1 h;rw [J4h] at hj;split at hj
 ·split at hj
  ·left;cases hj;rfl
  ·cases hj
 ·right;exact J4O hj
theorem Z2A (c:CA) (rv':RV) (m:BM) (p:Nat):(c.insert rv' (m,p)).pgs.Perm (p::c.pgs):=by
 unfold CA.pgs CA.insert Q2U;simp only [J6d,J2B];refine J6e.trans (List.Perm.cons _ ?_);rw [<- J6d,J3z]
theorem Q5X {bits:List Bool} {i:Nat} (h:bits[i]?.getD false=true):cntB bits≠0:=by
 intro e;have hi:i<bits.length:=by
  rcases J5i i bits.length with e|e
  ·exact e
  ·rw [J4p e] at h;cases h
 have:=cntB_zero.1 e bits[i] (J5W hi);rw [J4R hi] at h;simp [this] at h
theorem Q7e:∀(l:List Nat) (lo n:Nat),l.Pairwise (·<·)->(∀x∈l,lo<=x/\x<n)->l.length<=n-lo
 | [],_,_,_,_=>J4C _
 | x::r,lo,n,hs,hb=>by
  obtain⟨h1,h2⟩:=J3a.1 hs;have hx:=hb x (by simp);have:=Q7e r (x+1) n h2 (fun y hy=>⟨h1 y hy,(hb y (by simp [hy])).2⟩);simp only [J3k];omega
theorem J0o {c:CA} {d:BD} (ok:c.Ok) (BG:∀x∈c.pg,x.2∈d.ps) (p:Nat) (hp:p∉d.ps) (ha:d.At) (FM:p<2 ^ d.top):c.pg.length<1048576:=by
 have hs:=Q6W ok.sorted (⟨0,0,[]⟩,p) (fun x hx e=>hp ((show x.2=p from e) ▸ BG x hx));have hl:=insPg_len c.pg (⟨0,0,[]⟩,p);have h1:=Q7e ((Q2U c.pg (⟨0,0,[]⟩,p)).map Prod.snd) 0 (2 ^ d.top) (J3e.2 hs) (by
  intro y hy;obtain⟨x,hx,rfl⟩:=J2E.1 hy;refine⟨J4C _,?_⟩;rcases mem_insPg.1 hx with rfl|hx
  ·exact FM
  ·exact ha.lt _ (BG x hx))
 have h2:2 ^ d.top<=1048576:=J2z (J3O (by omega) ha.is.top) (by decide);rw [J4j,hl] at h1;omega
theorem Z4X {w:World} {c:CA} {d:BD} (h:Sep w (c.hl++d.hl)) (ok:c.Ok) (ha:d.At) (Di:c.bb=d.b) (BG:∀x∈c.pg,x.2∈d.ps) :
  Calls prog 69 #[.pointer (some ⟨c.c,0,none⟩)] w (J2m c d w):=by
 rcases Q7c c.pg with Bp|⟨k,x,i,hx,hf,A3⟩
 ·rcases Q5W (fun k=>fstG (fre (uOf d.ps) d.top) d.top k 0) (d.top+1) with Aq|⟨k0,i0,Bs,hf,hp⟩
  ·refine (Z4Q h ok Bp Di ha.is (fun k hk=>Aq k (by omega))).mono ?_;rintro r w' ⟨rfl,hb⟩;exact .inr ⟨⟨Bp,fun k hk=>Aq k (by omega)⟩,rfl,hb⟩
  ·obtain⟨s1,s2,s3,s4⟩:=Q2L hf;have B5:i0<2 ^ (d.top-k0):=by simpa using s1
   have Aw:fre (uOf d.ps) d.top k0 i0=true:=by simpa [B5] using s3
   have FM:i0*2 ^ k0<2 ^ d.top:=by
    have:i0*2 ^ k0<2 ^ (d.top-k0)*2 ^ k0:=J5Q B5 (J3P _)
    rwa [<- J4b,show d.top-k0+k0=d.top from by omega] at this
   have Fm:i0*2 ^ k0∉d.ps:=by
    have:=Q8z Aw (p:=i0*2 ^ k0) (J5z _ (J3P k0))
    simpa [uOf] using this
   have h2:2 ^ d.top<=1048576:=J2z (J3O (by omega) ha.is.top) (by decide);have DJ:=ok.s0;have Ct:=ok.s1;have JY:0<960/c.size:=Nat.div_pos (by omega) (by omega);refine (Z7U h ok ha Bp Di (J0o ok BG _ Fm ha FM) k0 i0 (by omega) hf hp (fun x hx e=>Fm (e ▸ BG x hx)) (by omega)).mono ?_;rintro r w' ⟨rfl,d',m,rv',b1,b2,b3,b4,b5,b6,b7⟩;refine .inl ⟨_,_,d',rfl,⟨b6,rfl,rfl,rfl,b1,b2,b4,Z7H rv' m _ _ JY b5,.inr ⟨Bp,k0,i0,by omega,hf,hp,rfl,b3⟩,.inr ⟨_,Fm,Z2A c rv' m _,b3⟩,fun hb y hy=>?_⟩,b7⟩;rcases mem_insPg.1 hy with rfl|hy
   ·show cntB m.bits≠0;rw [b5];exact Q5X (i:=0) (by simp [JY])
   ·exact hb y hy
 ·obtain⟨Cw,_,NM,_⟩:=Q2L hf;refine (Z7I h.left ok k i x hx hf A3).mono ?_;rintro r w' ⟨rfl,Ao⟩;have s':Step (c.hl++d.hl) ((c.pageTo k x {x.1 with bits:=x.1.bits.set i true}).hl++d.hl) w w':=by
   have:=Step.frame [] d.hl (by simpa using h) Ao
   simpa using this
  refine .inl ⟨_,_,d,rfl,⟨CA.ok_page ok k x hx _ (by simp),rfl,rfl,rfl,rfl,rfl,ha,Z7F hx Cw NM,.inl ⟨k,x,i,hx,hf,A3,rfl,rfl⟩,.inl ⟨Q7d _ hx,rfl⟩,fun hb y hy=>?_⟩,s'⟩;rcases Q4V hy with rfl|hy
  ·exact Q5X (i:=i) (by simp [Cw])
  ·exact hb y hy
structure Z4Y (c:CA) (d:BD) (a:Nat) (c':CA) (d':BD):Prop where
 ok:c'.Ok
 ec:c'.c=c.c
 size:c'.size=c.size
 bb:c'.bb=c.bb
 b:d'.b=d.b
 top:d'.top=d.top
 at':d'.At
 used:∃A B,c.used=A++a::B/\c'.used=A++B
 pages:(c'.pgs=c.pgs/\d'.ps=d.ps)∨∃p,c.pgs.Perm (p::c'.pgs)/\d'.ps=d.ps.erase p
 busy:(∀x∈c.pg,cntB x.1.bits≠0)->∀x∈c'.pg,cntB x.1.bits≠0
theorem Z7Y (c:CA) (k:Nat) (x:BM×Nat) (hx:c.pg[k]?=some x):c.pgs.Perm (x.2::(c.dropPg k).pgs):=by
 have hk:=J2Q.1 hx;unfold CA.pgs CA.dropPg;rw [J5u];have e:c.pg=c.pg.take k++x::c.pg.drop (k+1):=by
  rw [<- hk.2,J3y,J3z]
 conv=>lhs;rw [e]
 simp only [J6d,J2B];exact J6e
theorem Z4Z {w:World} {c:CA} {d:BD} (h:Sep w (c.hl++d.hl)) (ok:c.Ok) (ha:d.At) (Di:c.bb=d.b) (BG:∀x∈c.pg,x.2∈d.ps) (a:Nat) (hm:a∈c.used) (DG:a<9223372036854775808) :
  Calls prog 77 #[.pointer (some ⟨c.c,0,none⟩),.int .i64 a] w fun r w'=>r=.returned (.int .i64 0)/\∃c' d',Z4Y c d a c' d'/\Step (c.hl++d.hl) (c'.hl++d'.hl) w w':=by
 have Ki:=Z1o ok a;rw [decide_eq_true hm] at Ki;obtain⟨⟨k,i⟩,hs⟩:=J6f.1 Ki;obtain⟨x,hx,hi,rfl⟩:=Q8y hs;have FP:=J4O hx;by_cases BW:cntB (x.1.bits.set i false)=0
 ·refine (Z4N h ok ha Di _ DG k i x hs hx hi BW (BG x FP)).mono ?_;rintro r w' ⟨rfl,d',b1,b2,b3,b4,b5⟩;have hk:=(J2Q.1 hx).1;exact⟨rfl,_,d',⟨CA.ok_drop ok k hk,rfl,rfl,rfl,b1,b2,b4,Z4F hx hi BW,.inr ⟨x.2,Z7Y c k x hx,b3⟩,fun hb y hy=>hb y ((J5j _ _).subset hy)⟩,b5⟩
 ·refine (Z4B h.left ok _ DG k i x hs hx hi BW).mono ?_;rintro r w' ⟨rfl,Ao⟩;have s':Step (c.hl++d.hl) ((c.pageTo k x {x.1 with bits:=x.1.bits.set i false}).hl++d.hl) w w':=by
   have:=Step.frame [] d.hl (by simpa using h) Ao
   simpa using this
  refine⟨rfl,_,d,⟨CA.ok_page ok k x hx _ (by simp),rfl,rfl,rfl,rfl,rfl,ha,Z7G hx hi,.inl ⟨Q7d _ hx,rfl⟩,fun hb y hy=>?_⟩,s'⟩;rcases Q4V hy with rfl|hy
  ·exact BW
  ·exact hb y hy
theorem Q7T (P:PL) (k:Nat) (c:CA) (h:P.cs[k]?=some c):P.pages.Perm (c.pgs++((P.cs.take k).flatMap CA.pgs++(P.cs.drop (k+1)).flatMap CA.pgs)):=by
 have:P.pages=P.cs.flatMap CA.pgs:=rfl;rw [this,Z2w CA.pgs P.cs k c h,<- J3A,<- J3A];exact J5m _ J5n
theorem Q7f (P:PL) (k:Nat) (c c':CA) (d:BD) (h:P.cs[k]?=some c):(P.setC k c' d).pages.Perm (c'.pgs++((P.cs.take k).flatMap CA.pgs++(P.cs.drop (k+1)).flatMap CA.pgs)):=by
 have hk:=(J2Q.1 h).1;have:=Q7T (P.setC k c' d) k c' (by simp [PL.setC,hk])
 simpa only [PL.setC,J3B (J2y k),J3C (Nat.lt_succ_self k)] using this
theorem Q5Y {P:PL} {fr:List Nat} (ok:P.Ok fr) {k:Nat} {c:CA} (hc:P.cs[k]?=some c):∀x∈c.pg,x.2∈P.d.ps:=by
 intro x hx;refine ok.pages.mem_iff.1 (J3u _ ?_);exact J2Z.2 ⟨c,J4O hc,J3s hx⟩
theorem PL.ok_setC {P:PL} {fr fr':List Nat} (ok:P.Ok fr) {k:Nat} {c c':CA} {d:BD} (hc:P.cs[k]?=some c) (h1:c'.Ok) (h2:c'.size=c.size) (h3:c'.bb=c.bb) (h4:d.b=P.d.b) (h5:d.top=P.d.top) (h6:d.At) (h7:∀x∈c'.pg,cntB x.1.bits≠0)
  (hp:(fr'++(P.setC k c' d).pages).Perm d.ps):(P.setC k c' d).Ok fr':=by
 have hk:=(J2Q.1 hc).1;refine⟨ok.q,h6,?_,?_,ok.bytes,by simp [PL.setC,ok.len],?_,hp,?_⟩
 ·show P.a.mem.length=2 ^ (d.top+10);rw [h5];exact ok.mem
 ·show 6<=d.top;rw [h5];exact ok.top
 ·intro j x hx;simp only [PL.setC] at hx;rw [J4h] at hx;split at hx
  ·rename_i e;subst e;simp at hx;subst hx;obtain⟨a,b,e⟩:=ok.c k c hc;exact⟨h1,h2.trans b,by rw [h3,e];exact h4.symm⟩
  ·obtain⟨a,b,e⟩:=ok.c j x hx;exact⟨a,b,by rw [e];exact h4.symm⟩
 ·intro x hx;rcases Q4V hx with rfl|hx
  ·exact h7
  ·exact ok.busy x hx
theorem PL.busyC {P:PL} {fr:List Nat} (ok:P.Ok fr) {k:Nat} {c:CA} (hc:P.cs[k]?=some c):∀x∈c.pg,cntB x.1.bits≠0:=ok.busy c (J4O hc)
theorem PL.ok_take {P:PL} {fr:List Nat} (ok:P.Ok fr) {k a:Nat} {c c':CA} {d:BD} (hc:P.cs[k]?=some c) (h:Z4V c P.d a c' d):(P.setC k c' d).Ok fr:=by
 refine PL.ok_setC ok hc h.ok h.size h.bb h.b h.top h.at' (h.busy (PL.busyC ok hc)) ?_;have e1:=Q7T P k c hc;have e2:=Q7f P k c c' d hc;rcases h.pages with ⟨p1,p2⟩|⟨p,_,p1,p2⟩
 ·rw [p2];refine (J5p _ ?_).trans ok.pages;rw [p1] at e2;exact e2.trans e1.symm
 ·rw [p2];have e3:(P.setC k c' d).pages.Perm (p::P.pages):=e2.trans ((J5m _ p1).trans (List.Perm.cons _ e1.symm));exact (J5p _ e3).trans (J6e.trans ((List.Perm.cons _ ok.pages).trans (J6g _ _).symm))
theorem PL.ok_give {P:PL} {fr:List Nat} (ok:P.Ok fr) {k a:Nat} {c c':CA} {d:BD} (hc:P.cs[k]?=some c) (h:Z4Y c P.d a c' d):(P.setC k c' d).Ok fr:=by
 refine PL.ok_setC ok hc h.ok h.size h.bb h.b h.top h.at' (h.busy (PL.busyC ok hc)) ?_;have e1:=Q7T P k c hc;have e2:=Q7f P k c c' d hc;rcases h.pages with ⟨p1,p2⟩|⟨p,p1,p2⟩
 ·rw [p2];refine (J5p _ ?_).trans ok.pages;rw [p1] at e2;exact e2.trans e1.symm
 ·rw [p2];have e3:P.pages.Perm (p::(P.setC k c' d).pages):=e1.trans ((J5m _ p1).trans (List.Perm.cons _ e2.symm));have e4:(p::(fr++(P.setC k c' d).pages)).Perm P.d.ps:=(J6e.symm.trans (J5p _ e3.symm)).trans ok.pages;have:=List.Perm.erase p e4
  rwa [List.erase_cons_head] at this
theorem Q3y (P:PL) (k:Nat) (c c':CA) (d:BD) (hc:P.Cls k c) (j:Nat):(P.setC (k-1) c' d).usedOf j=if j=k then c'.used else P.usedOf j:=by
 have hk:=(J2Q.1 hc.2).1;have h1:=hc.1;unfold PL.usedOf PL.setC;by_cases e:j=k
 ·subst e;simp [h1,hk]
 ·simp only [e,if_false];split
  ·rename_i hj;rw [J6h (by omega)]
  ·rfl
theorem PL.ok_setQ {P:PL} {fr:List Nat} (ok:P.Ok fr) {q:QT} (hq:q.Ok):(P.setQ q).Ok fr:=⟨hq,ok.d,ok.mem,ok.top,ok.bytes,ok.len,ok.c,ok.pages,ok.busy⟩
theorem PL.ok_setA {P:PL} {fr:List Nat} (ok:P.Ok fr) {m:List Nat} (hm:m.length=P.a.mem.length) (hb:∀b∈m,b<256):(P.setA m).Ok fr:=⟨ok.q,ok.d,by show m.length=_;rw [hm];exact ok.mem,ok.top,hb,ok.len,ok.c,ok.pages,ok.busy⟩
theorem Q3b {q:QT} (ok:q.Ok) {id:Int} {e:En Fa} (hf:find q.E id=some e) (f:Fa) (h:0<=f.charged/\0<=f.given/\f.charged+f.given<=f.limit/\f.limit=e.q.limit/\f.kids=e.q.kids):({q with E:=upd q.E id f}:QT).Ok:=by
 refine⟨Q0O id f (fun a b a' b' _ h1 _ h2 h=>by rw [<- h1,<- h2];exact h) ok.ids,ok.next0,ok.next1,fun j x hx=>?_⟩;obtain⟨a1,a2,a3,a4,a5,a6,a7,a8⟩:=ok.fa id e hf;by_cases hj:j=id
 ·subst hj;have:=Q0h hf f;rw [this] at hx;cases hx;exact⟨h.1,h.2.1,h.2.2.1,by rw [h.2.2.2.1];exact a4,by rw [h.2.2.2.2];exact a5,by rw [h.2.2.2.2];exact a6,a7,a8⟩
 ·have:find (upd q.E id f) j=find q.E j:=Q0y hj f;rw [this] at hx;exact ok.fa j x hx
theorem Q5Z {w:World} {v:Value} {r:Ending} {w':World} (h:Told w.drew v r w'):Told w v r w':=⟨h.1,((Below.refl _ _).drew).trans h.2⟩
theorem Z7Z {w:World} {P:PL} (h:Sep w P.hl) (f k:Int) (hk:Q1g k=0):Calls prog 15 #[.pointer (some ⟨P.p,0,none⟩),.int .i64 f,.int .i64 k] w fun r w'=>r=.returned (.tuple #[.int .i64 0,.int .i64 1])/\w=w':=by
 have AI:=Q2M h.env k;rw [hk] at AI;clear h hk;go_enter func15,ntmps15;go_wp2_with (go_at_call 20;refine AI.mono ?_;rintro e w' ⟨rfl,rfl⟩);go_ret2;exact⟨rfl,rfl⟩
theorem Z1A {w:World} {P:PL} (h:Sep w P.hl) (f k:Int) (hk:Q1g k≠0) (e0:Int) (he:e0=5∨e0=6)
  (Dt:Calls prog 68 #[ptr P.q.t,.int .i64 f,.int .i64 ((Q1g k:Nat):Int)] w.drew (Told w.drew (.int .i64 e0))) :
  Calls prog 15 #[.pointer (some ⟨P.p,0,none⟩),.int .i64 f,.int .i64 k] w (Told w (.tuple #[.int .i64 0,.int .i64 e0])):=by
 have AI:=Q2M h.env k;have Dz:=Q2M h.drew.env k;have c0:=PL.c0 h;have d0:=PL.c0 h.drew;have HT:Hid (∀r w',Told w.drew (.int .i64 e0) r w'->r=.returned (.int .i64 e0)/\w'.cell? ⟨P.p,0,none⟩=some (ptr P.q.t)/\Told w (.tuple #[.int .i64 0,.int .i64 e0]) (.returned (.tuple #[.int .i64 0,.int .i64 e0])) w'):=fun r w' hx=>⟨(Q5Z hx).1,PL.c0 (h.grown (Q5Z hx).2).sep,rfl,(Q5Z hx).2⟩
 have Aa:(((Q1g k:Nat):Int)==0)=false:=by simpa using hk
 clear h hk;unfold ptr at *
 generalize ((Q1g k:Nat):Int)=cst at *
 rcases he with rfl|rfl
 all_goals
  go_enter func15,ntmps15;go_wp2_with (go_at_call 20;refine AI.mono ?_;rintro e w' ⟨rfl,rfl⟩)
  go_region_held3 (fun w'=>w'.cell? ⟨P.p,0,none⟩=some (.pointer (some ⟨P.q.t,0,none⟩))) (first|exact c0|exact d0|exact e1)
   (first|(go_at_call 20;refine Dz.mono ?_;rintro e w' ⟨rfl,rfl⟩)|(go_at_call 68;refine Dt.mono ?_;intro r w' hx;obtain⟨rfl,e1,hy⟩:=HT.out _ _ hx;have HY:=Q0a hy;clear hx hy))
  go_wp2_with fail
  first|exact HY.out|(go_ret2;exact HY.out)
structure GetOk (P:PL) (fr:List Nat) (f:Int) (n a:Nat) (P':PL):Prop where
 ok:P'.Ok fr
 p:P'.p=P.p
 qt:P'.q.t=P.q.t
 db:P'.d.b=P.d.b
 aa:P'.a.a=P.a.a
 amb:P'.a.mb=P.a.mb
 top:P'.d.top=P.d.top
 q:∃e,find P.q.E f=some e/\((Q0c n:Nat):Int)<=e.q.limit-(e.q.charged+e.q.given)/\P'.q={P.q with E:=upd P.q.E f {e.q with charged:=e.q.charged+((Q0c n:Nat):Int)}}
 mem:P'.a.mem=put_ P.a.mem a (List.replicate (Q0c n) 0)
 used:∃A B,P.usedOf n=A++B/\P'.usedOf n=A++a::B
 other:∀j,j≠n->P'.usedOf j=P.usedOf j
 which:∃c c',P.Cls n c/\P'.cs=P.cs.set (n-1) c'/\Z4V c P.d a c' P'.d
def NoRoom (P:PL) (n:Nat):Prop:=∃c,P.Cls n c/\Z4W c P.d
def GetR (P:PL) (fr:List Nat) (f:Int) (n:Nat) (w:World) (r:Ending) (w':World):Prop:=
 (∃a P',r=.returned (.tuple #[.int .i64 ((a:Nat):Int),.int .i64 0])/\GetOk P fr f n a P'/\Step P.hl P'.hl w w')∨(NoRoom P n/\r=.returned (.tuple #[.int .i64 0,.int .i64 4])/\Step P.hl P.hl w w')
theorem Q0n {P:PL} {fr:List Nat} (ok:P.Ok fr) {n a:Nat} (ha:a∈P.usedOf n):a+Q0c n<=P.a.mem.length/\64<=a/\1<=n/\n<=7:=by
 unfold PL.usedOf at ha;split at ha
 ·rename_i h1;split at ha
  ·rename_i c hc;obtain⟨k1,k2,k3,k4⟩:=PL.Cls.facts ok ⟨h1,hc⟩;obtain⟨x,hx,l1,l2⟩:=Q7O k1 ha;have hp:=ok.d.lt _ (Q5Y ok hc x hx);rw [k2] at l2;rw [ok.mem,J4b,show (2:Nat) ^ 10=1024 from rfl];omega
  ·cases ha
 ·cases ha
theorem Q8G {m:List Nat} {a n:Nat} (h:∀b∈m,b<256) (v:Nat) (hv:v<256):∀b∈put_ m a (List.replicate n v),b<256:=by
 intro b hb;unfold put_ at hb;simp only [J3o] at hb;rcases hb with (hb|hb)|hb
 ·exact h b (J5V hb)
 ·rw [J2G hb];exact hv
 ·exact h b (J5d hb)
theorem Q0p {P:PL} {fr:List Nat} (ok:P.Ok fr):P.a.mem.length<=1073741824:=by
 rw [ok.mem];exact J2z (J3O (by omega) (by have:=ok.d.is.top;omega:P.d.top+10<=30)) (by decide)
theorem Z5a {w:World} {P:PL} {fr:List Nat} (h:Sep w P.hl) (ok:P.Ok fr) (f:Int) {e:En Fa} (hf:find P.q.E f=some e) (n:Nat) (hq:((Q0c n:Nat):Int)<=e.q.limit-(e.q.charged+e.q.given)) (c:CA) (hc:P.Cls n c) :
  Calls prog 68 #[ptr P.q.t,.int .i64 f,.int .i64 ((Q0c n:Nat):Int)] w.drew fun r w1=>r=.returned (.int .i64 0)/\w1.cell? ⟨P.p,0,none⟩=some (ptr P.q.t)/\w1.cell? ⟨P.p,3+n,none⟩=some (ptr c.c) /\
   Calls prog 69 #[ptr c.c] w1 fun r w2 =>
    (∃a:Nat,r=.returned (.tuple #[.int .i64 a,.int .i64 0])/\Env w2/\w2.cell? ⟨P.p,2,none⟩=some (ptr P.a.a) /\
     Calls prog 71 #[ptr P.a.a,.int .i64 a,.int .i64 ((Q0c n:Nat):Int),.int .u8 0] w2.drew fun r w3=>r=.returned (.int .i64 0)/\w3.cell? ⟨P.p,2,none⟩=some (ptr P.a.a)/\GetR P fr f n w (.returned (.tuple #[.int .i64 a,.int .i64 0])) w3)
    ∨ (r=.returned (.tuple #[.int .i64 0,.int .i64 4])/\Env w2/\w2.cell? ⟨P.p,0,none⟩=some (ptr P.q.t) /\
     Calls prog 70 #[ptr P.q.t,.int .i64 f,.int .i64 ((Q0c n:Nat):Int)] w2.drew fun r w3=>r=.returned (.int .i64 0)/\w3.cell? ⟨P.p,0,none⟩=some (ptr P.q.t)/\GetR P fr f n w (.returned (.tuple #[.int .i64 0,.int .i64 4])) w3):=by
 obtain⟨k1,k2,k3,k4⟩:=PL.Cls.facts ok hc;obtain⟨f1,f2,f3,f4,f5,f6,f7,f8⟩:=ok.q.fa f e hf;have Ci:0<Q0c n:=costN_pos.2 ⟨hc.1,k4⟩;have CQ:(0:Int)<=((Q0c n:Nat):Int):=by omega
 refine (Q7a (PL.sQ h.drew) ok.q hf _ CQ hq).mono ?_;rintro r w1 ⟨rfl,st1⟩;have s1:Step P.hl (P.setQ {P.q with E:=upd P.q.E f {e.q with charged:=e.q.charged+((Q0c n:Nat):Int)}}).hl w w1:=(PL.stepQ h.drew {P.q with E:=upd P.q.E f {e.q with charged:=e.q.charged+((Q0c n:Nat):Int)}} rfl st1).from_drew;have ok1:=PL.ok_setQ ok (Q3b ok.q hf {e.q with charged:=e.q.charged+((Q0c n:Nat):Int)} ⟨by show 0<=e.q.charged+_;omega,f2,by show e.q.charged+_+e.q.given<=e.q.limit;omega,rfl,rfl⟩);have FX:find (upd P.q.E f {e.q with charged:=e.q.charged+((Q0c n:Nat):Int)}) f=some {e with q:={e.q with charged:=e.q.charged+((Q0c n:Nat):Int)}}:=Q0h hf _
 have Ac:=ok.q.ids;obtain⟨q1,Eu⟩:∃q1:QT,q1={P.q with E:=upd P.q.E f {e.q with charged:=e.q.charged+((Q0c n:Nat):Int)}}:=⟨_,rfl⟩
 rw [<- Eu] at s1 ok1;have A6:=PL.cc s1.sep (n-1) c hc.2;rw [show 3+(n-1+1)=3+n by have:=hc.1;omega] at A6;have E3:=PL.c0 s1.sep;have eqt:(P.setQ q1).q.t=P.q.t:=by subst Eu;rfl
 rw [eqt] at E3;refine⟨rfl,E3,A6,?_⟩;refine (Z4X (PL.sC s1.sep (n-1) c hc.2) k1 ok1.d k3 (Q5Y ok1 hc.2)).mono ?_;rintro r w2 (⟨a,c',d',rfl,ht,st2⟩|⟨Aq,rfl,hb⟩)
 ·left;have s2:Step (P.setQ q1).hl ((P.setQ q1).setC (n-1) c' d').hl w1 w2:=PL.stepC s1.sep (n-1) c c' d' hc.2 ht.ec ht.b st2;have ok2:=PL.ok_take ok1 hc.2 ht;have hu:=Q3y (P.setQ q1) n c c' d' hc n;rw [if_pos rfl] at hu;obtain⟨A,B,u1,u2⟩:=ht.used;have Us:a∈((P.setQ q1).setC (n-1) c' d').usedOf n:=by rw [hu,u2];simp
  have Cf:=Q0n ok2 Us;have s12:=s1.trans s2;have A4:=PL.c2 s2.sep;refine⟨a,rfl,s2.sep.env,A4,?_⟩;have GF:=Q0p ok2;refine (Z4T (PL.sA s2.sep.drew) a (Q0c n) 0 Ci Cf.1 GF).mono ?_;rintro r w3 ⟨rfl,st3⟩;have s3:=PL.stepA s2.sep.drew _ st3;have Ae:(put_ P.a.mem a (List.replicate (Q0c n) 0)).length=P.a.mem.length:=Q2q _ _ _ (by rw [J2I];exact Cf.1);have ok3:=PL.ok_setA ok2 (m:=put_ P.a.mem a (List.replicate (Q0c n) 0)) Ae (Q8G ok.bytes 0 (by omega));have J3:=PL.c2 s3.sep;refine⟨rfl,J3,.inl ⟨a,_,rfl,⟨ok3,rfl,eqt,ht.b,rfl,rfl,ht.top,⟨e,hf,hq,Eu⟩,rfl,⟨A,B,?_,?_⟩,?_,⟨c,c',hc,rfl,ht⟩⟩,s12.trans s3.from_drew⟩⟩
  ·rw [Q0U hc];exact u1
  ·show ((P.setQ q1).setC (n-1) c' d').usedOf n=_;rw [hu];exact u2
  ·intro j hj;have:=Q3y (P.setQ q1) n c c' d' hc j;rw [if_neg hj] at this;exact this
 ·right;have s2:=s1.sep.grown hb;have Lu:=PL.c0 s2.sep;rw [eqt] at Lu;refine⟨rfl,s2.sep.env,Lu,?_⟩;have K6:=Q3w (PL.sQ s2.sep.drew) ok1.q (id:=f) (e:={e with q:={e.q with charged:=e.q.charged+((Q0c n:Nat):Int)}}) (by subst Eu;exact FX) _ CQ (by show _<=e.q.charged+_;omega);rw [eqt] at K6;refine K6.mono ?_;rintro r w3 ⟨rfl,st3⟩;have eback:({(P.setQ q1).q with E:=upd (P.setQ q1).q.E f {(({e with q:={e.q with charged:=e.q.charged+((Q0c n:Nat):Int)}}:En Fa)).q with charged:=e.q.charged+((Q0c n:Nat):Int)-((Q0c n:Nat):Int)}}:QT)=P.q:=by
   subst Eu;simp only [PL.setQ,upd_upd,J6i];rw [Z4v Ac hf]
  rw [eback] at st3;have s3:=PL.stepQ s2.sep.drew P.q eqt.symm st3;have eP:(P.setQ q1).setQ P.q=P:=rfl;rw [eP] at s3;exact⟨rfl,PL.c0 s3.sep,.inr ⟨⟨c,hc,Aq⟩,rfl,(s1.trans s2).trans s3.from_drew⟩⟩
theorem Z5b {w:World} {P:PL} {fr:List Nat} (h:Sep w P.hl) (ok:P.Ok fr) (f:Int) {e:En Fa} (hf:find P.q.E f=some e) (n:Nat) (hq:((Q0c n:Nat):Int)<=e.q.limit-(e.q.charged+e.q.given)) (c:CA) (hc:P.Cls n c) :
  Calls prog 15 #[.pointer (some ⟨P.p,0,none⟩),.int .i64 f,.int .i64 n] w (GetR P fr f n w):=by
 have Dt:=Z5a h ok f hf n hq c hc;obtain⟨k1,k2,k3,k4⟩:=PL.Cls.facts ok hc;have Ci:0<Q0c n:=costN_pos.2 ⟨hc.1,k4⟩;have I8:Q1g (n:Int)=Q0c n:=by unfold Q1g;rw [if_pos (by omega),J3F]
 have EW:Hid (∀w1,Env w1->Calls prog 20 #[.int .i64 n] w1 fun r w'=>r=.returned (.int .i64 ((Q0c n:Nat):Int))/\w1=w'):=fun w1 he=>by
  have:=Q2M he (n:Int);rw [I8] at this;exact this
 have AI:=EW.out w h.env;have Dz:=EW.out w.drew h.drew.env;have c0:=PL.c0 h;have d0:=PL.c0 h.drew;have Aa:(((Q0c n:Nat):Int)==0)=false:=by simp;omega
 have Q5:(n:Int)<8:=by omega
 have CP:(1:Int)<=n:=by have:=hc.1;omega
 have HE:Hid (∀w:World,Env w->Env w.drew):=fun w he=>he.same (fun _ _=>rfl) he.gb
 obtain⟨GR,QH⟩:∃GR:Ending->World->Prop,GR=GetR P fr f n w:=⟨_,rfl⟩
 rw [<- QH] at Dt ⊢;have FA:=Q0a Dt;clear h ok hf hq hc QH Dt I8 k1 k2 k3 k4 Ci;unfold ptr at *
 generalize ((Q0c n:Nat):Int)=cst at *
 generalize P.p=pp at *
 generalize P.q.t=qt at *
 generalize P.a.a=aa at *
 generalize c.c=cc at *
 go_enter func15,ntmps15;go_wp2_with (go_at_call 20;refine AI.mono ?_;rintro e w' ⟨rfl,rfl⟩)
 go_region_held3 (fun w'=>w'.cell? ⟨pp,0,none⟩=some (.pointer (some ⟨qt,0,none⟩))) (first|exact c0|exact d0|exact e1)
  (first|(go_at_call 20;refine Dz.mono ?_;rintro e w' ⟨rfl,rfl⟩)|(go_at_call 68;refine FA.out.mono ?_;rintro r w1 ⟨rfl,e1,e2,hx⟩;have HT:=Q0a hx;clear hx))
 clear c0 d0 AI Dz;go_wp2_with fail;refine HT.out.mono ?_;rintro r w2 (⟨a,rfl,he,e3,hx⟩|⟨rfl,he,e3,hx⟩)
 ·have HX:=Q0a hx;have ES:=EW.out w2.drew (HE.out _ he);have d3:w2.drew.cell? ⟨pp,2,none⟩=some (.pointer (some ⟨aa,0,none⟩)):=e3;clear hx he e1 e2;go_wp2_with fail
  go_region_held3 (fun w'=>w'.cell? ⟨pp,2,none⟩=some (.pointer (some ⟨aa,0,none⟩))) (first|exact e3|exact d3|exact e4)
   (first|(go_at_call 20;refine ES.mono ?_;rintro e w' ⟨rfl,rfl⟩)|(go_at_call 71;refine HX.out.mono ?_;rintro r w3 ⟨rfl,e4,hy⟩;have HY:=Q0a hy;clear hy))
  go_wp2_with fail
  first|exact HY.out|(go_ret2;exact HY.out)
 ·have HX:=Q0a hx;have ES:=EW.out w2.drew (HE.out _ he);have d3:w2.drew.cell? ⟨pp,0,none⟩=some (.pointer (some ⟨qt,0,none⟩)):=e3;clear hx he e1 e2;go_wp2_with fail
  go_region_held3 (fun w'=>w'.cell? ⟨pp,0,none⟩=some (.pointer (some ⟨qt,0,none⟩))) (first|exact e3|exact d3|exact e4)
   (first|(go_at_call 20;refine ES.mono ?_;rintro e w' ⟨rfl,rfl⟩)|(go_at_call 70;refine HX.out.mono ?_;rintro r w3 ⟨rfl,e4,hy⟩;have HY:=Q0a hy;clear hy))
  go_wp2_with fail
  first|exact HY.out|(go_ret2;exact HY.out)
def GetP (P:PL) (fr:List Nat) (f k:Int) (w:World) (r:Ending) (w':World):Prop:=
 (Q1g k=0/\r=.returned (.tuple #[.int .i64 0,.int .i64 1])/\Step P.hl P.hl w w') ∨
 (Q1g k≠0/\find P.q.E f=none/\r=.returned (.tuple #[.int .i64 0,.int .i64 6])/\Step P.hl P.hl w w') ∨
 (Q1g k≠0/\(∃e,find P.q.E f=some e/\e.q.limit-(e.q.charged+e.q.given)<((Q1g k:Nat):Int))/\r=.returned (.tuple #[.int .i64 0,.int .i64 5])/\Step P.hl P.hl w w') ∨
 (∃n e,k=((n:Nat):Int)/\1<=n/\n<=7/\find P.q.E f=some e/\((Q0c n:Nat):Int)<=e.q.limit-(e.q.charged+e.q.given)/\GetR P fr f n w r w')
theorem Q8H {k:Int} (h:Q1g k≠0):∃n:Nat,k=n/\1<=n/\n<=7/\Q1g k=Q0c n:=by
 have h0:0<=k:=by unfold Q1g at h;split at h <;> omega
 obtain⟨n,rfl⟩:=J4e h0;have e:Q1g (n:Int)=Q0c n:=by unfold Q1g;rw [if_pos h0,J3F]
 rw [e] at h;obtain⟨h1,h7⟩:=costN_pos.1 (Nat.pos_of_ne_zero h);exact⟨n,rfl,h1,h7,e⟩
theorem Q5B {w:World} {P:PL} {fr:List Nat} (h:Sep w P.hl) (ok:P.Ok fr) (f k:Int) :
  Calls prog 15 #[.pointer (some ⟨P.p,0,none⟩),.int .i64 f,.int .i64 k] w (GetP P fr f k w):=by
 by_cases hk:Q1g k=0
 ·refine (Z7Z h f k hk).mono ?_;rintro r w' ⟨rfl,rfl⟩;exact .inl ⟨hk,rfl,Step.refl h⟩
 ·cases hf:find P.q.E f with
  | none =>
   refine (Z1A h f k hk 6 (.inr rfl) ((Q8E (PL.sQ h.drew) hf _).mono fun r w' ⟨e,e'⟩=>⟨e,by rw [<- e'];exact Below.refl _ _⟩)).mono ?_;rintro r w' ⟨rfl,hb⟩;exact .inr (.inl ⟨hk,hf,rfl,h.grown hb⟩)
  | some e =>
   by_cases hq:((Q1g k:Nat):Int)<=e.q.limit-(e.q.charged+e.q.given)
   ·obtain⟨n,rfl,h1,h7,hn⟩:=Q8H hk;rw [hn] at hq;obtain⟨c,hc⟩:=PL.cls ok h1 h7;refine (Z5b h ok f hf n hq c hc).mono ?_;intro r w' hr;exact .inr (.inr (.inr ⟨n,e,rfl,h1,h7,hf,hq,hr⟩))
   ·refine (Z1A h f k hk 5 (.inl rfl) (Q4t (PL.sQ h.drew) ok.q hf _ (by omega) (by omega))).mono ?_;rintro r w' ⟨rfl,hb⟩;exact .inr (.inr (.inl ⟨hk,⟨e,hf,by omega⟩,rfl,h.grown hb⟩))
theorem Z8a {w:World} (c:CA) (a:Int) (ha:a<0):Calls prog 122 #[.pointer (some ⟨c.c,0,none⟩),.int .i64 a] w (Told w (.bool false)):=by
 have k1:=Z7B (w:=w) c a ha;unfold Q4T at k1;have HB:Hid (Told w (.bool false) (.returned (.bool false)) w):=⟨rfl,Below.refl _ _⟩
 go_enter func122,ntmps122;go_wp2_with (go_at_call 143;refine k1.mono ?_;rintro e w' ⟨rfl,rfl⟩);go_ret;exact HB.out
def Z5c (a:Int):Prop:=a<9223372036854775808
theorem Z8b {w:World} {c:CA} (h:Sep w c.hl) (ok:c.Ok) (a:Int) (ha:Z5c a):Calls prog 122 #[.pointer (some ⟨c.c,0,none⟩),.int .i64 a] w (Told w (.bool (decide (0<=a/\a.toNat∈c.used)))):=by
 unfold Z5c at ha;by_cases h0:a<0
 ·have:decide (0<=a/\a.toNat∈c.used)=false:=by rw [decide_eq_false_iff_not];omega
  rw [this];exact Z8a c a h0
 ·obtain⟨n,rfl⟩:=J4e (by omega:0<=a);have:=Z9V h ok n (by omega);rw [Z1o ok n] at this;have e:decide (n∈c.used)=decide (0<=(n:Int)/\(n:Int).toNat∈c.used):=by
   rw [J3F];congr 1;apply propext;exact⟨fun h=>⟨by omega,h⟩,fun h=>h.2⟩
  rw [<- e];exact this
def PL.has (P:PL) (k a:Int):Bool:=decide (0<=a/\a.toNat∈P.usedI k)
theorem Z1B {w:World} {P:PL} {fr:List Nat} (h:Sep w P.hl) (ok:P.Ok fr) (k a:Int) (ha:Z5c a):Calls prog 59 #[.pointer (some ⟨P.p,0,none⟩),.int .i64 k,.int .i64 a] w (Told w (.bool (P.has k a))):=by
 have AI:=Q2M h.env k;by_cases hz:Q1g k=0
 ·have e:P.has k a=false:=by
   unfold PL.has PL.usedI;rw [decide_eq_false_iff_not];rintro⟨_,hm⟩;split at hm
   ·rename_i h0;unfold Q1g at hz;rw [if_pos h0] at hz;rw [Q1V ok hz] at hm;cases hm
   ·cases hm
  rw [e,];have HB:Hid (Told w (.bool false) (.returned (.bool false)) w):=⟨rfl,Below.refl _ _⟩
  rw [hz] at AI;clear h ok hz e;go_enter func59,ntmps59;go_wp2_with (go_at_call 20;refine AI.mono ?_;rintro e w' ⟨rfl,rfl⟩);go_ret;exact HB.out
 ·obtain⟨n,rfl,h1,h7,hn⟩:=Q8H hz;obtain⟨c,hc⟩:=PL.cls ok h1 h7;have Al:=PL.cc h (n-1) c hc.2;rw [show 3+(n-1+1)=3+n by omega] at Al;have hu:=Z8b (PL.sC h (n-1) c hc.2).left (hc.facts ok).1 a ha;have e:P.has (n:Int) a=decide (0<=a/\a.toNat∈c.used):=by
   unfold PL.has PL.usedI;rw [if_pos (by omega:(0:Int)<=(n:Int)),J3F,Q0U hc]
  rw [e];have Ci:(0:Int)<((Q1g (n:Int):Nat):Int):=by omega
  have Q5:(n:Int)<8:=by omega
  have CQ:(0:Int)<=n:=by omega
  generalize decide (0<=a/\a.toNat∈c.used)=b at *
  clear h ok hz e hc ha hn;have HQ:Hid (∀r w',Told w (.bool b) r w'->r=.returned (.bool b)/\Told w (.bool b) (.returned (.bool b)) w'):=fun r w' hx=>⟨hx.1,rfl,hx.2⟩
  unfold ptr at *
  generalize ((Q1g (n:Int):Nat):Int)=cst at *
  go_enter func59,ntmps59;go_wp2_with (first|(go_at_call 20;refine AI.mono ?_;rintro e w' ⟨rfl,rfl⟩)|(go_at_call 122;refine hu.mono ?_;intro r w' hx;obtain⟨rfl,hy⟩:=HQ.out _ _ hx;have HY:=Q0a hy;clear hx hy))
  first|exact HY.out|(go_ret;exact HY.out)
structure PutOk (P:PL) (fr:List Nat) (f:Int) (n a:Nat) (P':PL):Prop where
 ok:P'.Ok fr
 p:P'.p=P.p
 qt:P'.q.t=P.q.t
 db:P'.d.b=P.d.b
 aa:P'.a=P.a
 top:P'.d.top=P.d.top
 q:∃e,find P.q.E f=some e/\((Q0c n:Nat):Int)<=e.q.charged/\P'.q={P.q with E:=upd P.q.E f {e.q with charged:=e.q.charged-((Q0c n:Nat):Int)}}
 used:∃A B,P.usedOf n=A++a::B/\P'.usedOf n=A++B
 other:∀j,j≠n->P'.usedOf j=P.usedOf j
 which:∃c c',P.Cls n c/\P'.cs=P.cs.set (n-1) c'/\Z4Y c P.d a c' P'.d
def PutR (P:PL) (fr:List Nat) (f:Int) (n a:Nat) (w:World) (r:Ending) (w':World):Prop:=r=.returned (.int .i64 0)/\∃P',PutOk P fr f n a P'/\Step P.hl P'.hl w w'
theorem Z5d {w w1:World} {P:PL} {fr:List Nat} (h:Sep w P.hl) (hb:Below w.heap.size w w1) (ok:P.Ok fr) (f:Int) {e:En Fa} (hf:find P.q.E f=some e) (n:Nat) (hq:((Q0c n:Nat):Int)<=e.q.charged) (c:CA) (hc:P.Cls n c) (a:Nat) (hm:a∈c.used) (DG:a<9223372036854775808) :
  Calls prog 70 #[ptr P.q.t,.int .i64 f,.int .i64 ((Q0c n:Nat):Int)] w1.drew fun r w2=>r=.returned (.int .i64 0)/\w2.cell? ⟨P.p,0,none⟩=some (ptr P.q.t)/\w2.cell? ⟨P.p,3+n,none⟩=some (ptr c.c) /\
   Calls prog 77 #[ptr c.c,.int .i64 a] w2 (PutR P fr f n a w):=by
 have s0:=h.grown hb;obtain⟨k1,k2,k3,k4⟩:=PL.Cls.facts ok hc;obtain⟨f1,f2,f3,f4,f5,f6,f7,f8⟩:=ok.q.fa f e hf;have CQ:(0:Int)<=((Q0c n:Nat):Int):=by omega
 refine (Q3w (PL.sQ s0.sep.drew) ok.q hf _ CQ hq).mono ?_;rintro r w2 ⟨rfl,st1⟩;have s1:Step P.hl (P.setQ {P.q with E:=upd P.q.E f {e.q with charged:=e.q.charged-((Q0c n:Nat):Int)}}).hl w w2:=s0.trans (PL.stepQ s0.sep.drew {P.q with E:=upd P.q.E f {e.q with charged:=e.q.charged-((Q0c n:Nat):Int)}} rfl st1).from_drew;have ok1:=PL.ok_setQ ok (Q3b ok.q hf {e.q with charged:=e.q.charged-((Q0c n:Nat):Int)} ⟨by show 0<=e.q.charged-_;omega,f2,by show e.q.charged-_+e.q.given<=e.q.limit;omega,rfl,rfl⟩);obtain⟨q1,Eu⟩:∃q1:QT,q1={P.q with E:=upd P.q.E f {e.q with charged:=e.q.charged-((Q0c n:Nat):Int)}}:=⟨_,rfl⟩
 rw [<- Eu] at s1 ok1;have A6:=PL.cc s1.sep (n-1) c hc.2;rw [show 3+(n-1+1)=3+n by have:=hc.1;omega] at A6;have E3:=PL.c0 s1.sep;have eqt:(P.setQ q1).q.t=P.q.t:=by subst Eu;rfl
 rw [eqt] at E3;refine⟨rfl,E3,A6,?_⟩;refine (Z4Z (PL.sC s1.sep (n-1) c hc.2) k1 ok1.d k3 (Q5Y ok1 hc.2) a hm DG).mono ?_;rintro r w3 ⟨rfl,c',d',hg,st2⟩;have s2:Step (P.setQ q1).hl ((P.setQ q1).setC (n-1) c' d').hl w2 w3:=PL.stepC s1.sep (n-1) c c' d' hc.2 hg.ec hg.b st2;have ok2:=PL.ok_give ok1 hc.2 hg;have hu:=Q3y (P.setQ q1) n c c' d' hc n;rw [if_pos rfl] at hu;obtain⟨A,B,u1,u2⟩:=hg.used;refine⟨rfl,_,⟨ok2,rfl,eqt,hg.b,rfl,hg.top,⟨e,hf,hq,Eu⟩,⟨A,B,?_,?_⟩,?_,⟨c,c',hc,rfl,hg⟩⟩,s1.trans s2⟩
 ·rw [Q0U hc];exact u1
 ·rw [hu];exact u2
 ·intro j hj;have:=Q3y (P.setQ q1) n c c' d' hc j;rw [if_neg hj] at this;exact this
theorem Q4u {w:World} {P:PL} {fr:List Nat} (h:Sep w P.hl) (ok:P.Ok fr) (f:Int) {e:En Fa} (hf:find P.q.E f=some e) (n:Nat) (hq:((Q0c n:Nat):Int)<=e.q.charged) (c:CA) (hc:P.Cls n c) (a:Nat) (hm:a∈c.used) (DG:a<9223372036854775808) :
  Calls prog 21 #[.pointer (some ⟨P.p,0,none⟩),.int .i64 f,.int .i64 n,.int .i64 a] w (PutR P fr f n a w):=by
 obtain⟨k1,k2,k3,k4⟩:=PL.Cls.facts ok hc;have Ci:0<Q0c n:=costN_pos.2 ⟨hc.1,k4⟩;have I8:Q1g (n:Int)=Q0c n:=by unfold Q1g;rw [if_pos (by omega),J3F]
 have Hy:P.has (n:Int) (a:Int)=true:=by
  unfold PL.has PL.usedI;rw [if_pos (by omega:(0:Int)<=(n:Int)),J3F,J3F,Q0U hc,decide_eq_true_eq];exact⟨by omega,hm⟩
 have AI:=Q2M h.env (n:Int);rw [I8] at AI;have hh:=Z1B h ok (n:Int) (a:Int) (by unfold Z5c;omega);rw [Hy] at hh;have Aa:(((Q0c n:Nat):Int)==0)=false:=by simp;omega
 have Q5:(n:Int)<8:=by omega
 have CP:(1:Int)<=n:=by have:=hc.1;omega
 obtain⟨PR,N0⟩:∃PR:Ending->World->Prop,PR=PutR P fr f n a w:=⟨_,rfl⟩
 have HQ:Hid (∀r w1,Told w (.bool true) r w1->r=.returned (.bool true)/\w1.cell? ⟨P.p,0,none⟩=some (ptr P.q.t) /\
   (Calls prog 20 #[.int .i64 n] w1.drew fun r w'=>r=.returned (.int .i64 ((Q0c n:Nat):Int))/\w1.drew=w') /\
   Calls prog 70 #[ptr P.q.t,.int .i64 f,.int .i64 ((Q0c n:Nat):Int)] w1.drew fun r w2=>r=.returned (.int .i64 0)/\w2.cell? ⟨P.p,0,none⟩=some (ptr P.q.t)/\w2.cell? ⟨P.p,3+n,none⟩=some (ptr c.c) /\
    Calls prog 77 #[ptr c.c,.int .i64 a] w2 PR):=fun r w1 hx=>by
  subst N0;have A6:=Q2M (h.grown hx.2).sep.drew.env (n:Int);rw [I8] at A6;exact⟨hx.1,PL.c0 (h.grown hx.2).sep,A6,Z5d h hx.2 ok f hf n hq c hc a hm DG⟩
 have HZ:Hid (∀r w',PR r w'->∃w'',r=.returned (.int .i64 0)/\w'=w''/\PR (.returned (.int .i64 0)) w''):=fun r w' hx=>by subst N0;obtain⟨rfl,hy⟩:=hx;exact⟨w',rfl,rfl,rfl,hy⟩
 rw [<- N0];clear h ok hf hq hc N0 I8 k1 k2 k3 k4 Ci Hy hm DG;unfold ptr at *
 generalize ((Q0c n:Nat):Int)=cst at *
 generalize P.p=pp at *
 generalize P.q.t=qt at *
 generalize c.c=cc at *
 go_enter func21,ntmps21;go_wp2_with (go_at_call 20;refine AI.mono ?_;rintro e w' ⟨rfl,rfl⟩);refine hh.mono ?_;intro r w1 hx;obtain⟨rfl,c0,BC,KY⟩:=HQ.out _ _ hx;have K0:=Q0a BC;have CX:=Q0a KY;have d0:w1.drew.cell? ⟨pp,0,none⟩=some (.pointer (some ⟨qt,0,none⟩)):=c0;clear hx BC KY;go_wp2_with fail
 go_region_held3 (fun w'=>w'.cell? ⟨pp,0,none⟩=some (.pointer (some ⟨qt,0,none⟩))) (first|exact c0|exact d0|exact e1)
  (first|(go_at_call 20;refine K0.out.mono ?_;rintro e w' ⟨rfl,rfl⟩)|(go_at_call 70;refine CX.out.mono ?_;rintro r w2 ⟨rfl,e1,e2,hx⟩;have HT:=Q0a hx;clear hx))
 clear c0 d0;go_wp2_with fail;refine HT.out.mono ?_;intro r w3 hx;obtain⟨w3',rfl,rfl,hy⟩:=HZ.out _ _ hx;have HY:=Q0a hy;clear hx hy;go_wp2_with fail
 first|exact HY.out|(go_ret;exact HY.out)
theorem Step.fresh {w w':World} {H':HL} (h:Step [] H' w w'):Below w.heap.size w w':=h.below (J2y _) (by simp)
theorem Q7U {c:CA} (ok:c.Ok):c.used.Pairwise (·<·):=by
 unfold CA.used;rw [J3b];have DJ:=ok.s0
 constructor
 ·intro x hx;unfold Q1n;rw [J3e];refine (Q5l x.1.bits).imp fun {i j} h=>?_
  unfold addr;have:i*c.size+c.size<=j*c.size:=by
   have:=J5w c.size h;rw [Nat.succ_mul] at this;exact this
  omega
 ·refine J6j (fun {x y} hx hy h=>?_) ok.sorted;intro a ha b hb;have FN:a∈c.used:=J2Z.2 ⟨x,hx,ha⟩;unfold Q1n at ha hb;obtain⟨i,hi,rfl⟩:=J2E.1 ha;obtain⟨j,hj,rfl⟩:=J2E.1 hb;have Cw:i<x.1.bits.length:=by
   have:=mem_trues.1 hi;rcases J5i i x.1.bits.length with e|e
   ·exact e
   ·rw [J4p e] at this;cases this
  have hp:=Q4q (s:=c.size) (by omega) Cw (ok.many x hx);unfold addr;have Ll:x.2<y.2:=h;omega
theorem Q2a {P:PL} {fr:List Nat} (ok:P.Ok fr) (n:Nat):(P.usedOf n).Pairwise (·<·):=by
 unfold PL.usedOf;split
 ·rename_i h1;split
  ·rename_i c hc;exact Q7U (PL.Cls.facts ok ⟨h1,hc⟩).1
  ·exact List.Pairwise.nil
 ·exact List.Pairwise.nil
theorem Z2B {c:CA} (ok:c.Ok):c.used.Pairwise (fun a b=>a+c.size<=b):=by
 unfold CA.used;rw [J3b];have DJ:=ok.s0
 constructor
 ·intro x hx;unfold Q1n;rw [J3e];refine (Q5l x.1.bits).imp fun {i j} h=>?_
  unfold addr;have:i*c.size+c.size<=j*c.size:=by
   have:=J5w c.size h;rw [Nat.succ_mul] at this;exact this
  omega
 ·refine J6j (fun {x y} hx hy h=>?_) ok.sorted;intro a ha b hb;unfold Q1n at ha hb;obtain⟨i,hi,rfl⟩:=J2E.1 ha;obtain⟨j,hj,rfl⟩:=J2E.1 hb;have Cw:i<x.1.bits.length:=by
   have:=mem_trues.1 hi;rcases J5i i x.1.bits.length with e|e
   ·exact e
   ·rw [J4p e] at this;cases this
  have hp:=Q4q (s:=c.size) (by omega) Cw (ok.many x hx);unfold addr at *
  have Ll:x.2<y.2:=h;omega
theorem Q8I {R:Nat->Nat->Prop} {l:List Nat} (h:l.Pairwise R) {a b:Nat} (ha:a∈l) (hb:b∈l) (Aa:a≠b):R a b∨R b a:=by
 induction l with
 | nil=>cases ha
 | cons x r ih =>
  have hp:=J3a.1 h;rcases J2D.1 ha with ea|FN
  ·rcases J2D.1 hb with eb|Ak
   ·exact absurd (ea.trans eb.symm) Aa
   ·rw [ea];exact .inl (hp.1 b Ak)
  ·rcases J2D.1 hb with eb|Ak
   ·rw [eb];exact .inr (hp.1 a FN)
   ·exact ih hp.2 FN Ak
theorem Q2x {P:PL} {k a:Nat} (h:a∈P.usedOf k):∃c,P.Cls k c/\a∈c.used:=by
 unfold PL.usedOf at h;split at h
 ·rename_i h1;split at h
  ·rename_i c hc;exact⟨c,⟨h1,hc⟩,h⟩
  ·cases h
 ·cases h
theorem Q8J {P:PL} {fr:List Nat} (ok:P.Ok fr) {j k:Nat} {c d:CA} (KZ:j<k) (hc:P.cs[j]?=some c) (hd:P.cs[k]?=some d) {x y:BM×Nat} (hx:x∈c.pg) (hy:y∈d.pg):x.2≠y.2:=by
 have AG:P.pages.Nodup:=by
  have h:=(ok.pages.nodup_iff).2 ok.d.nd;exact (J3t.1 h).2.1
 have:(P.cs.flatMap fun c=>c.pg.map Prod.snd).Nodup:=AG;unfold List.Nodup at this;rw [J3b] at this;obtain⟨hj,ej⟩:=J2Q.1 hc;obtain⟨hk,ek⟩:=J2Q.1 hd;have h2:=J5C.1 this.2 j k hj hk KZ;exact h2 x.2 (by rw [ej];exact J3s hx) y.2 (by rw [ek];exact J3s hy)
theorem Q3z {P:PL} {fr:List Nat} (ok:P.Ok fr) {j k a b:Nat} (ha:a∈P.usedOf j) (hb:b∈P.usedOf k) (Aa:¬(j=k/\a=b)):a+Q0c j<=b∨b+Q0c k<=a:=by
 obtain⟨c,hc,ha⟩:=Q2x ha;obtain⟨d,hd,hb⟩:=Q2x hb;obtain⟨k1,k2,_,_⟩:=PL.Cls.facts ok hc;obtain⟨l1,l2,_,_⟩:=PL.Cls.facts ok hd;by_cases e:j=k
 ·subst e;obtain rfl:c=d:=by
   have:=hc.2.symm.trans hd.2;exact J3x this
  have:=Q8I (Z2B k1) ha hb (fun e=>Aa ⟨rfl,e⟩);rw [k2] at this;exact this
 ·obtain⟨x,hx,x1,x2⟩:=Q7O k1 ha;obtain⟨y,hy,y1,y2⟩:=Q7O l1 hb;rw [k2] at x2;rw [l2] at y2;have hp:x.2≠y.2:=by
   have g1:=hc.1;have g2:=hd.1;rcases J5i j k with h|h
   ·exact Q8J ok (by omega:j-1<k-1) hc.2 hd.2 hx hy
   ·exact (Q8J ok (by omega:k-1<j-1) hd.2 hc.2 hy hx).symm
  omega
theorem Q8K {ps:List Nat} {top:Nat} (h:∀k,k<=top->fstG (fre (uOf ps) top) top k 0=none) {p:Nat} (hp:p<2 ^ top):p∈ps:=by
 by_cases hu:uOf ps p=true
 ·simpa [uOf] using hu
 ·exfalso;obtain⟨k,hk,hf⟩:=Z4H (uOf ps) top p (by simpa using hu);have Ab:p/2 ^ k<2 ^ (top-k):=by
   rw [J5S (J3P k),<- J4b,show top-k+k=top by omega];exact hp
  have:=Z4s (h k hk) (p/2 ^ k) (J4C _) (by simpa using Ab);rw [J4l,J4n Ab] at this;simp [hf] at this
end Go.Proofs.YtfidemmgofcnmaaGreatDoor
