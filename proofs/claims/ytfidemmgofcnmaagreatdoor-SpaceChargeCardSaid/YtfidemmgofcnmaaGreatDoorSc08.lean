/- SpaceCharge returns true at every input. No condition. Part of its proof. -/
import Derived.Test.YtfidemmgofcnmaaGreatDoorSc07
set_option linter.unusedVariables false
namespace Go.Proofs.YtfidemmgofcnmaaGreatDoor
open Go.RowKit Go.Proofs.Tryz
def Pl.is (p:Pl):Bool:=p.st==1||p.st==2
theorem Pl.is_iff {p:Pl}:p.is=true↔p.st=1∨p.st=2:=by simp [Pl.is]
theorem Pl.not_is {p:Pl}:p.is=false↔p.st≠1/\p.st≠2:=by simp [Pl.is]
def costK (k:Nat):Nat:=if k=8 then 1024 else Q0c k
def atsF (k:Nat) (p:Pl):Option Nat:=if p.is&&p.kind==k then some p.at_ else none
def ownF (p:Pl):Option Int:=if p.is&&p.kind==1 then some (p.own:Int) else none
def Q2b (l:List Pl) (k:Nat):List Nat:=l.filterMap (atsF k)
def Q7g (l:List Pl):List Int:=l.filterMap ownF
def Q1M (a:Int) (p:Pl):Int:=if p.is&&decide ((p.fac:Int)=a) then (costK p.kind:Int) else 0
def Q0v (l:List Pl) (a:Int):Int:=(l.map (Q1M a)).sum
def givF (a:Int) (e:En Fa):Int:=if e.q.parent=a then e.q.limit else 0
def kidF (a:Int) (e:En Fa):Int:=if e.q.parent=a then 1 else 0
def Q1v (E:List (En Fa)) (a:Int):Int:=(E.map (givF a)).sum
def Q1Q (E:List (En Fa)) (a:Int):Int:=(E.map (kidF a)).sum
theorem Q7V {α:Type} (f:α->Int) {l m:List α} (h:l.Perm m):(l.map f).sum=(m.map f).sum:=by
 induction h with
 | nil=>rfl
 | cons x _ ih=>simp [ih]
 | swap x y l=>simp;omega
 | trans _ _ h1 h2=>exact h1.trans h2
theorem Q5C {α:Type} {l:List α} {i:Nat} {p:α} (q:α) (h:l[i]?=some p):∃R,l.Perm (p::R)/\(l.set i q).Perm (q::R):=by
 have hi:=J2Q.1 h;refine⟨l.take i++l.drop (i+1),?_,?_⟩
 ·have e:l=l.take i++p::l.drop (i+1):=by rw [<- hi.2,J3y,J3z]
  conv=>lhs;rw [e]
  exact J6e
 ·have e:l.set i q=l.take i++q::l.drop (i+1):=by rw [List.set_eq_take_append_cons_drop,if_pos hi.1]
  rw [e];exact J6e
theorem Z0n {β:Type} {l:List Pl} {i:Nat} {p q:Pl} (f:Pl->Option β) {b:β} (h:l[i]?=some p) (hp:f p=none) (hq:f q=some b):((l.set i q).filterMap f).Perm (b::l.filterMap f):=by
 obtain⟨R,h1,h2⟩:=Q5C q h;have e1:=h1.filterMap f;have e2:=h2.filterMap f;rw [J6k hp] at e1;rw [J6l hq] at e2;exact e2.trans (e1.symm.cons b)
theorem Q1C {β:Type} {l:List Pl} {i:Nat} {p q:Pl} (f:Pl->Option β) (h:l[i]?=some p) (hpq:f q=f p):((l.set i q).filterMap f).Perm (l.filterMap f):=by
 obtain⟨R,h1,h2⟩:=Q5C q h;have e1:=h1.filterMap f;have e2:=h2.filterMap f;refine e2.trans (List.Perm.trans ?_ e1.symm);rw [J2L,J2L,hpq]
theorem Q7W {β:Type} {l:List Pl} {i:Nat} {p q:Pl} (f:Pl->Option β) {b:β} (h:l[i]?=some p) (hp:f p=some b) (hq:f q=none):(l.filterMap f).Perm (b::(l.set i q).filterMap f):=by
 obtain⟨R,h1,h2⟩:=Q5C q h;have e1:=h1.filterMap f;have e2:=h2.filterMap f;rw [J6l hp] at e1;rw [J6k hq] at e2;exact e1.trans (e2.symm.cons b)
theorem Q2c {l:List Pl} {i:Nat} {p:Pl} (q:Pl) (h:l[i]?=some p) (a:Int):Q0v (l.set i q) a+Q1M a p=Q0v l a+Q1M a q:=by
 obtain⟨R,h1,h2⟩:=Q5C q h;have e1:=Q7V (Q1M a) h1;have e2:=Q7V (Q1M a) h2;unfold Q0v;rw [e1,e2];simp only [J2B,J6m];omega
theorem Z1C (a:Int) (p:Pl):0<=Q1M a p:=by
 unfold Q1M;split <;> omega
theorem Q4W:∀(l:List Pl) (a:Int),0<=Q0v l a
 | [],_=>by simp [Q0v]
 | p::r,a=>by
  have:=Q4W r a;have:=Z1C a p;unfold Q0v at *
  simp only [J2B,J6m];omega
theorem Q7h:∀{l:List Pl} {p:Pl} (a:Int),p∈l->Q1M a p<=Q0v l a
 | [],_,_,h=>by cases h
 | q::r,p,a,h=>by
  have h1:=Q4W r a;have h2:=Z1C a q;unfold Q0v at *
  simp only [J2B,J6m];rcases J2D.1 h with rfl|h
  ·omega
  ·have:=Q7h a h;unfold Q0v at this;omega
theorem Q2n:∀{l:List Pl} {a:Int},(∀p∈l,p.is=true->(p.fac:Int)≠a)->Q0v l a=0
 | [],_,_=>rfl
 | p::r,a,h=>by
  have ih:=Q2n (l:=r) (a:=a) fun q hq=>h q (by simp [hq])
  have e:Q1M a p=0:=by
   unfold Q1M;cases hi:p.is with
   | false=>rfl
   | true=>simp [h p (by simp) hi]
  unfold Q0v at *
  simp [e,ih]
theorem Q2N:∀{E:List (En Fa)} {a:Int},(∀e∈E,e.q.parent≠a)->Q1v E a=0/\Q1Q E a=0
 | [],_,_=>⟨rfl,rfl⟩
 | e::r,a,h=>by
  have ih:=Q2N (E:=r) (a:=a) fun x hx=>h x (by simp [hx])
  have:=h e (by simp);unfold Q1v Q1Q at *
  simp [givF,kidF,this,ih]
theorem Q1N {E:List (En Fa)} (Ac:E.Pairwise (fun a b=>a.id≠b.id)) {id:Int} {e:En Fa} (hf:find E id=some e) (x:Fa) (f:En Fa->Int) (hx:f {e with q:=x}=f e):((upd E id x).map f).sum=(E.map f).sum:=by
 obtain⟨A,B,e1,e2,_⟩:=Q2X Ac hf;rw [e2]
 conv=>rhs;rw [e1]
 simp [hx]
theorem Z5e {E:List (En Fa)} (Ac:E.Pairwise (fun a b=>a.id≠b.id)) {id:Int} {e:En Fa} (hf:find E id=some e) (f:En Fa->Int):((rem E id).map f).sum+f e=(E.map f).sum:=by
 obtain⟨A,B,e1,_,e3⟩:=Q2X Ac hf;rw [e3]
 conv=>rhs;rw [e1]
 simp;omega
theorem Q1o (E:List (En Fa)) (id:Int) (x:Fa):(upd E id x).map En.id=E.map En.id:=by
 unfold upd;rw [J4I]
 apply J4J
 intro e _;show (if e.id=id then _ else _:En Fa).id=e.id;split <;> rfl
theorem Q0Z {E:List (En Fa)} {id j:Int} {e:En Fa} (x:Fa) (h:find E j=some e):∃e',find (upd E id x) j=some e':=by
 by_cases hj:j=id
 ·subst hj;exact⟨_,Q0h h x⟩
 ·exact⟨e,by rw [Q0y hj];exact h⟩
theorem Q0q {E:List (En Fa)} {id j:Int} {e' e0:En Fa} (x:Fa) (h0:find E id=some e0) (h:find (upd E id x) j=some e'):∃e,find E j=some e/\(j=id->e=e0/\e'.q=x)/\(j≠id->e'=e):=by
 by_cases hj:j=id
 ·subst hj;rw [Q0h h0] at h;cases h;exact⟨e0,h0,fun _=>⟨rfl,rfl⟩,fun h=>absurd rfl h⟩
 ·rw [Q0y hj] at h;exact⟨e',h,fun h=>absurd h hj,fun _=>rfl⟩
theorem Q5t {E:List (En Fa)} {j:Int} (h:j∈E.map En.id):∃e,find E j=some e:=by
 induction E with
 | nil=>cases h
 | cons x r ih =>
  by_cases hk:j=x.id
  ·exact⟨x,by simp [find,hk]⟩
  ·simp only [J2B,J2D] at h;rcases h with h|h
   ·exact absurd h hk
   ·obtain⟨e,he⟩:=ih h;exact⟨e,by simp only [find,hk,if_false];exact he⟩
theorem Q1z {E:List (En Fa)} (Ac:E.Pairwise (fun a b=>a.id≠b.id)) {e:En Fa} (h:e∈E):find E e.id=some e:=by
 induction E with
 | nil=>cases h
 | cons x r ih =>
  obtain⟨h1,h2⟩:=J3a.1 Ac;rcases J2D.1 h with rfl|h
  ·simp [find]
  ·have Aa:¬e.id=x.id:=fun e'=>h1 e h e'.symm
   simp only [find,Aa,if_false];exact ih h2 h
structure MemI (P:PL) (l:List Pl) (fr:List Nat):Prop where
 pool:P.Ok fr
 kind:∀p∈l,p.is=true->p.kind=8∨(1<=p.kind/\p.kind<=5)
 ats:∀k,1<=k->k<=5->(Q2b l k).Perm (P.usedOf k)
 frs:(Q2b l 8).Perm (fr.map (1024*·))
 word:∀p∈l,p.is=true->p.kind=1->Q0u P.a.mem p.at_=p.own
structure TreI (E:List (En Fa)) (l:List Pl) (xc:Int->Int):Prop where
 ids:(E.map En.id).Perm (Q7g l)
 fac:∀p∈l,p.is=true->∃e,find E p.fac=some e
 par:∀p∈l,p.is=true->p.kind=1->∀e,find E p.own=some e->(p.own=0->e.q.parent = -1)/\(p.own≠0->e.q.parent=p.fac/\p.fac<p.own)
 charged:∀id e,find E id=some e->e.q.charged=Q0v l id+xc id
 given:∀id e,find E id=some e->e.q.given=Q1v E id/\e.q.kids=Q1Q E id
structure QueI (l:List Pl) (xc:Int->Int) (zs:List Nat):Prop where
 root:∃p,l[0]?=some p/\p.kind=1/\p.fac=0/\p.st=1/\p.age=0/\p.own=0
 live:∀i p,l[i]?=some p->i≠0->p.st=1->∃f∈l,f.st=1/\f.kind=1/\f.own=p.fac
 xc:∀id,0<=xc id/\(xc id≠0->∃p∈l,p.st=1/\(p.fac:Int)=id)
 nd:zs.Nodup
 has:∀h,h∈zs↔∃p,pget l 2 h=some p
 ord:zs.Pairwise fun a b=>∀p q,pget l 2 a=some p->pget l 2 b=some q->p.kind=1->q.fac≠p.own
structure Inv (P:PL) (l:List Pl) (fr:List Nat) (xc:Int->Int) (zs:List Nat):Prop where
 len:l.length=256
 st:∀p∈l,p.st<=2/\p.age<=1048575
 mem:MemI P l fr
 tre:TreI P.q.E l xc
 que:QueI l xc zs
theorem Q0A {l:List Pl} {s h:Nat} {p:Pl} (hp:pget l s h=some p):p∈l:=J4O (pget_some.1 hp).1
theorem Q0B {l:List Pl} {i:Nat} {p:Pl} (q:Pl) (hi:l[i]?=some p) (s h:Nat):pget (l.set i q) s h=if h%256=i then (if nm i q=h/\q.st=s then some q else none) else pget l s h:=by
 unfold pget;by_cases e:h%256=i
 ·subst e;simp [(List.getElem?_eq_some_iff.1 hi).1]
 ·rw [if_neg e,J6h (fun h=>e h.symm)]
theorem Q0o {l:List Pl} {i:Nat} {q r:Pl} (h:r∈l.set i q):r=q∨r∈l:=by
 rcases J5h h with h|h
 ·exact .inr h
 ·exact .inl h
theorem Z0o {β:Type} {l:List Pl} (f:Pl->Option β) (hn:(l.filterMap f).Nodup) {i j:Nat} {p q:Pl} {b:β} (hi:l[i]?=some p) (hj:l[j]?=some q) (hp:f p=some b) (hq:f q=some b):i=j:=by
 unfold List.Nodup at hn;rw [J2R] at hn;obtain⟨FU,E6⟩:=J2Q.1 hi;obtain⟨Mm,F8⟩:=J2Q.1 hj;rcases J5B i j with h|h|h
 ·exact absurd rfl (J5C.1 hn i j FU Mm h b (by rw [E6];exact hp) b (by rw [F8];exact hq))
 ·exact h
 ·exact absurd rfl (J5C.1 hn j i Mm FU h b (by rw [F8];exact hq) b (by rw [E6];exact hp))
theorem TreI.owns_nodup {E:List (En Fa)} {l:List Pl} {xc:Int->Int} (t:TreI E l xc) (Ac:E.Pairwise (fun a b=>a.id≠b.id)):(Q7g l).Nodup:=by
 refine t.ids.nodup_iff.1 ?_;unfold List.Nodup;rw [J3e];exact Ac
theorem Q3c {p:Pl} (hi:p.is=true) (hk:p.kind=1):ownF p=some (p.own:Int):=by simp [ownF,hi,hk]
theorem TreI.inj {E:List (En Fa)} {l:List Pl} {xc:Int->Int} (t:TreI E l xc) (Ac:E.Pairwise (fun a b=>a.id≠b.id)) {i j:Nat} {p q:Pl} (hi:l[i]?=some p) (hj:l[j]?=some q) (hp:p.is=true) (hq:q.is=true) (kp:p.kind=1) (kq:q.kind=1) (e:p.own=q.own):i=j:=
 Z0o ownF (t.owns_nodup Ac) hi hj (Q3c hp kp) (by rw [Q3c hq kq,e])
theorem TreI.acc {E:List (En Fa)} {l:List Pl} {xc:Int->Int} (t:TreI E l xc) {p:Pl} (hp:p∈l) (hi:p.is=true) (hk:p.kind=1):∃e,find E p.own=some e:=
 Q5t (t.ids.mem_iff.2 (J2O.2 ⟨p,hp,Q3c hi hk⟩))
theorem Inv.tree {P:PL} {l:List Pl} {fr:List Nat} {xc:Int->Int} {zs:List Nat} (v:Inv P l fr xc zs):Tre l P.q.next.toNat:=by
 have Ac:=v.mem.pool.q.ids;have Ap:∀{h p},pget l 1 h=some p->p.is=true:=fun hp=>Pl.is_iff.2 (.inl (pget_some.1 hp).2.2)
 have Mc:∀h k p q,pget l 1 h=some p->pget l 1 k=some q->p.kind=1->q.kind=1->p.own=q.own->h=k:=by
  intro h k p q hp hq kp kq e;have:=v.tre.inj Ac (pget_some.1 hp).1 (pget_some.1 hq).1 (Ap hp) (Ap hq) kp kq e;exact (Q0R hp hq this).1
 obtain⟨r,r1,r2,r3,r4,r5,r6⟩:=v.que.root;have Bv:pget l 1 0=some r:=pget_some.2 ⟨r1,by simp [nm,r5],r4⟩;refine⟨by rw [v.len];omega,fun h p hp hk=>?_,fun h p hp h0 hk=>?_,Mc⟩
 ·obtain⟨e,he⟩:=v.tre.acc (Q0A hp) (Ap hp) hk;have:=(v.mem.pool.q.fa _ e he).2.2.2.2.2.2;omega
 ·obtain⟨e,he⟩:=v.tre.acc (Q0A hp) (Ap hp) hk;refine ((v.tre.par p (Q0A hp) (Ap hp) hk e he).2 fun e0=>?_).2;exact h0 (Mc h 0 p r hp Bv hk r2 (by rw [r6];exact e0))
theorem MemI.at_nd {P:PL} {l:List Pl} {fr:List Nat} (m:MemI P l fr) (k:Nat) (h1:1<=k) (h5:k<=5):(Q2b l k).Nodup:=
 (m.ats k h1 h5).nodup_iff.2 ((Q2a m.pool k).imp fun h e=>by subst e;exact absurd h (by omega))
theorem Q1a {p:Pl} (hi:p.is=true):atsF p.kind p=some p.at_:=by simp [atsF,hi]
theorem MemI.used {P:PL} {l:List Pl} {fr:List Nat} (m:MemI P l fr) {p:Pl} (hp:p∈l) (hi:p.is=true) (h8:p.kind≠8):p.at_∈P.usedOf p.kind:=by
 obtain⟨h1,h5⟩:=(m.kind p hp hi).resolve_left h8;exact (m.ats _ h1 h5).mem_iff.1 (J2O.2 ⟨p,hp,Q1a hi⟩)
theorem MemI.frame {P:PL} {l:List Pl} {fr:List Nat} (m:MemI P l fr) {p:Pl} (hp:p∈l) (hi:p.is=true) (h8:p.kind=8):∃g∈fr,p.at_=1024*g:=by
 have:p.at_∈fr.map (1024*·):=m.frs.mem_iff.1 (J2O.2 ⟨p,hp,by rw [<- h8];exact Q1a hi⟩);obtain⟨g,hg,e⟩:=J2E.1 this;exact⟨g,hg,e.symm⟩
structure J0p (P:PL) (fr:List Nat) (k a own:Nat) (P':PL) (fr':List Nat):Prop where
 pool:P'.Ok fr'
 used:k≠8->(P'.usedOf k).Perm (a::P.usedOf k)
 other:∀j,j≠k->P'.usedOf j=P.usedOf j
 frs:if k=8 then ∃g,a=1024*g/\fr'=g::fr else fr'=fr
 mem:∀b∈P.usedOf 1,Q0u P'.a.mem b=Q0u P.a.mem b
 own:k=1->Q0u P'.a.mem a=own
structure J0q (P:PL) (fr:List Nat) (k a:Nat) (P':PL) (fr':List Nat):Prop where
 pool:P'.Ok fr'
 used:k≠8->(P.usedOf k).Perm (a::P'.usedOf k)
 other:∀j,j≠k->P'.usedOf j=P.usedOf j
 frs:if k=8 then ∃g,a=1024*g/\fr'=fr.erase g else fr'=fr
 mem:∀b∈P'.usedOf 1,Q0u P'.a.mem b=Q0u P.a.mem b
theorem Q1I {p:Pl} (k:Nat) (h:p.is=false):atsF k p=none:=by simp [atsF,h]
theorem Q6a {p:Pl} {k:Nat} (h:p.kind≠k):atsF k p=none:=by simp [atsF,h]
theorem MemI.add {P P':PL} {l:List Pl} {fr fr':List Nat} (m:MemI P l fr) {i:Nat} {p q:Pl} (g:J0p P fr q.kind q.at_ q.own P' fr') (hi:l[i]?=some p) (hp:p.is=false) (hq:q.is=true) (hk:q.kind=8∨(1<=q.kind/\q.kind<=5)):MemI P' (l.set i q) fr':=by
 refine⟨g.pool,fun r hr Ap=>?_,fun k h1 h5=>?_,?_,fun r hr Ap A0=>?_⟩
 ·rcases Q0o hr with rfl|hr
  ·exact hk
  ·exact m.kind r hr Ap
 ·by_cases e:q.kind=k
  ·subst e;have:=Z0n (atsF q.kind) hi (Q1I _ hp) (Q1a hq);exact this.trans (((m.ats _ h1 h5).cons _).trans (g.used (by omega)).symm)
  ·rw [g.other k fun h=>e h.symm];exact (Q1C (atsF k) hi (by rw [Q6a e,Q1I _ hp])).trans (m.ats k h1 h5)
 ·by_cases e:q.kind=8
  ·have hf:=g.frs;rw [if_pos e] at hf;obtain⟨x,hx,rfl⟩:=hf;have:=Z0n (atsF 8) hi (Q1I _ hp) (by rw [<- e];exact Q1a hq);refine this.trans ?_;rw [hx];exact m.frs.cons _
  ·have hf:=g.frs;rw [if_neg e] at hf;rw [hf];exact (Q1C (atsF 8) hi (by rw [Q6a e,Q1I _ hp])).trans m.frs
 ·rcases Q0o hr with rfl|hr
  ·exact g.own A0
  ·rw [g.mem _ (by have:=m.used hr Ap (by omega);rwa [A0] at this)];exact m.word r hr Ap A0
theorem MemI.drop {P P':PL} {l:List Pl} {fr fr':List Nat} (m:MemI P l fr) {i:Nat} {p q:Pl} (g:J0q P fr p.kind p.at_ P' fr') (hi:l[i]?=some p) (hp:p.is=true) (hq:q.is=false):MemI P' (l.set i q) fr':=by
 have BF:=J4O hi;have LQ:∀k,1<=k->k<=5->(Q2b (l.set i q) k).Perm (P'.usedOf k):=by
  intro k h1 h5;by_cases e:p.kind=k
  ·subst e;have h:=Q7W (q:=q) (atsF p.kind) hi (Q1a hp) (Q1I _ hq);have h2:=h.symm.trans ((m.ats _ h1 h5).trans (g.used (by omega)));exact J6n h2
  ·rw [g.other k fun h=>e h.symm];exact (Q1C (atsF k) hi (by rw [Q6a e,Q1I _ hq])).trans (m.ats k h1 h5)
 refine⟨g.pool,fun r hr Ap=>?_,LQ,?_,fun r hr Ap A0=>?_⟩
 ·rcases Q0o hr with rfl|hr
  ·rw [hq] at Ap;cases Ap
  ·exact m.kind r hr Ap
 ·by_cases e:p.kind=8
  ·have hf:=g.frs;rw [if_pos e] at hf;obtain⟨x,hx,rfl⟩:=hf;obtain⟨y,hy,ey⟩:=m.frame BF hp e;have Ll:x=y:=by omega
   subst Ll;have h:=Q7W (q:=q) (atsF 8) hi (by rw [<- e];exact Q1a hp) (Q1I _ hq);have h3:=(List.perm_cons_erase hy).map (1024*·);have h2:=h.symm.trans (m.frs.trans h3);rw [J2B,<- hx] at h2;exact J6n h2
  ·have hf:=g.frs;rw [if_neg e] at hf;rw [hf];exact (Q1C (atsF 8) hi (by rw [Q6a e,Q1I _ hq])).trans m.frs
 ·have hu:r.at_∈P'.usedOf 1:=by
   refine (LQ 1 (by omega) (by omega)).mem_iff.1 (J2O.2 ⟨r,hr,?_⟩);rw [<- A0];exact Q1a Ap
  rcases Q0o hr with rfl|hr
  ·rw [hq] at Ap;cases Ap
  ·rw [g.mem _ hu];exact m.word r hr Ap A0
theorem MemI.keep {P:PL} {l:List Pl} {fr:List Nat} (m:MemI P l fr) {i:Nat} {p q:Pl} (hi:l[i]?=some p) (hp:p.is=true) (hq:q.is=true) (h1:q.kind=p.kind) (h2:q.at_=p.at_) (h3:q.own=p.own):MemI P (l.set i q) fr:=by
 have BF:=J4O hi;have e:∀k,atsF k q=atsF k p:=fun k=>by unfold atsF;rw [hp,hq,h1,h2]
 refine⟨m.pool,fun r hr Ap=>?_,fun k h1 h5=>(Q1C (atsF k) hi (e k)).trans (m.ats k h1 h5),(Q1C (atsF 8) hi (e 8)).trans m.frs,fun r hr Ap A0=>?_⟩
 ·rcases Q0o hr with rfl|hr
  ·rw [h1];exact m.kind p BF hp
  ·exact m.kind r hr Ap
 ·rcases Q0o hr with rfl|hr
  ·rw [h2,h3];exact m.word p BF hp (by omega)
  ·exact m.word r hr Ap A0
theorem MemI.same {P P':PL} {l:List Pl} {fr:List Nat} (m:MemI P l fr) (h:P'.Ok fr) (hu:∀k,1<=k->k<=5->P'.usedOf k=P.usedOf k) (hw:∀b∈P.usedOf 1,Q0u P'.a.mem b=Q0u P.a.mem b):MemI P' l fr:=by
 refine⟨h,m.kind,fun k h1 h5=>by rw [hu k h1 h5];exact m.ats k h1 h5,m.frs,fun r hr Ap A0=>?_⟩;rw [hw _ (by have:=m.used hr Ap (by omega);rwa [A0] at this)];exact m.word r hr Ap A0
theorem Q3A {p:Pl} (a:Int) (h:p.is=false):Q1M a p=0:=by simp [Q1M,h]
theorem Q2y {p:Pl} (a:Int) (h:p.is=true):Q1M a p=if (p.fac:Int)=a then (costK p.kind:Int) else 0:=by simp [Q1M,h]
theorem TreI.addN {E:List (En Fa)} {l:List Pl} {xc:Int->Int} (t:TreI E l xc) (Ac:E.Pairwise (fun a b=>a.id≠b.id)) {i:Nat} {p q:Pl} (hi:l[i]?=some p) (hp:p.is=false) (hq:q.is=true) (hk:q.kind≠1) {e:En Fa} (hf:find E q.fac=some e) :
  TreI (upd E q.fac {e.q with charged:=e.q.charged+(costK q.kind:Int)}) (l.set i q) xc:=by
 have ho:ownF q=ownF p:=by simp [ownF,hp,hk]
 have Hc:∀a,Q1v (upd E q.fac {e.q with charged:=e.q.charged+(costK q.kind:Int)}) a=Q1v E a:=fun a=>Q1N Ac hf _ _ rfl
 have FS:∀a,Q1Q (upd E q.fac {e.q with charged:=e.q.charged+(costK q.kind:Int)}) a=Q1Q E a:=fun a=>Q1N Ac hf _ _ rfl
 refine⟨?_,fun r hr Ap=>?_,fun r hr Ap A0 x hx=>?_,fun id x hx=>?_,fun id x hx=>?_⟩
 ·rw [Q1o];exact t.ids.trans (Q1C ownF hi ho).symm
 ·rcases Q0o hr with rfl|hr
  ·exact Q0Z _ hf
  ·obtain⟨y,hy⟩:=t.fac r hr Ap;exact Q0Z _ hy
 ·rcases Q0o hr with rfl|hr
  ·exact absurd A0 hk
  ·obtain⟨y,hy,h1,h2⟩:=Q0q _ hf hx;have:=t.par r hr Ap A0 y hy;by_cases hid:(r.own:Int)=q.fac
   ·obtain⟨rfl,e2⟩:=h1 hid;rw [e2];exact this
   ·rw [h2 hid];exact this
 ·obtain⟨y,hy,h1,h2⟩:=Q0q _ hf hx;have hc:=Q2c q hi id;rw [Q3A id hp,Q2y id hq] at hc;have:=t.charged id y hy;by_cases hid:id=q.fac
  ·obtain⟨rfl,e2⟩:=h1 hid;rw [if_pos hid.symm] at hc;rw [e2];show y.q.charged+_=_;omega
  ·rw [if_neg fun h=>hid h.symm] at hc;rw [h2 hid];omega
 ·obtain⟨y,hy,h1,h2⟩:=Q0q _ hf hx;rw [Hc,FS];have:=t.given id y hy;by_cases hid:id=q.fac
  ·obtain⟨rfl,e2⟩:=h1 hid;rw [e2];exact this
  ·rw [h2 hid];exact this
theorem TreI.addF {E:List (En Fa)} {l:List Pl} {xc:Int->Int} (t:TreI E l xc) (Ac:E.Pairwise (fun a b=>a.id≠b.id)) {i b:Nat} {p q:Pl} {limit:Int} (hi:l[i]?=some p) (hp:p.is=false) (hq:q.is=true) (hk:q.kind=1) {e:En Fa} (hf:find E q.fac=some e)
  (Aq:find E q.own=none) (Ab:q.fac<q.own) (hxc:xc q.own=0) (Aa:∀x∈E,x.q.parent≠q.own) (K8:∀r∈l,r.is=true->r.fac≠q.own) :
  TreI (upd E q.fac {e.q with charged:=e.q.charged+(costK q.kind:Int),given:=e.q.given+limit,kids:=e.q.kids+1}++[⟨q.own,b,⟨limit,0,0,q.fac,0⟩⟩]) (l.set i q) xc:=by
 obtain⟨X,hX⟩:∃X:Fa,X={e.q with charged:=e.q.charged+(costK q.kind:Int),given:=e.q.given+limit,kids:=e.q.kids+1}:=⟨_,rfl⟩
 have Ja:X.parent=e.q.parent:=by rw [hX]
 have Nb:X.limit=e.q.limit:=by rw [hX]
 have T4:X.charged=e.q.charged+(costK q.kind:Int):=by rw [hX]
 have UK:X.given=e.q.given+limit:=by rw [hX]
 have SN:X.kids=e.q.kids+1:=by rw [hX]
 rw [<- hX];clear hX;have Hc:∀a,Q1v (upd E q.fac X++[⟨q.own,b,⟨limit,0,0,q.fac,0⟩⟩]) a=Q1v E a+if (q.fac:Int)=a then limit else 0:=fun a=>by
  have:((upd E q.fac X).map (givF a)).sum=(E.map (givF a)).sum:=Q1N Ac hf _ _ (by simp [givF,Ja,Nb]);unfold Q1v;rw [J6d,J6o,this];simp [givF]
 have FS:∀a,Q1Q (upd E q.fac X++[⟨q.own,b,⟨limit,0,0,q.fac,0⟩⟩]) a=Q1Q E a+if (q.fac:Int)=a then 1 else 0:=fun a=>by
  have:((upd E q.fac X).map (kidF a)).sum=(E.map (kidF a)).sum:=Q1N Ac hf _ _ (by simp [kidF,Ja]);unfold Q1Q;rw [J6d,J6o,this];simp [kidF]
 have N5:∀j y,find E j=some y->∃z,find (upd E q.fac X++[⟨q.own,b,⟨limit,0,0,q.fac,0⟩⟩]) j=some z:=fun j y hy=>by
  obtain⟨z,hz⟩:=Q0Z (id:=q.fac) X hy;exact⟨z,by rw [Q1Z,hz]⟩
 have A9:∀j z,find (upd E q.fac X++[⟨q.own,b,⟨limit,0,0,q.fac,0⟩⟩]) j=some z->(j=q.own/\z=⟨q.own,b,⟨limit,0,0,q.fac,0⟩⟩)∨(j≠q.own/\∃y,find E j=some y/\(j=q.fac->y=e/\z.q=X)/\(j≠q.fac->z=y)):=fun j z hz=>by
  rw [Q1Z] at hz;cases hu:find (upd E q.fac X) j with
  | none =>
   rw [hu] at hz;simp only at hz;split at hz
   ·rename_i h;cases hz;exact .inl ⟨h,rfl⟩
   ·cases hz
  | some y =>
   rw [hu] at hz;cases hz;obtain⟨x,hx,h1,h2⟩:=Q0q X hf hu;refine .inr ⟨?_,x,hx,h1,h2⟩;rintro rfl;rw [Aq] at hx;cases hx
 refine⟨?_,fun r hr Ap=>?_,fun r hr Ap A0 x hx=>?_,fun id x hx=>?_,fun id x hx=>?_⟩
 ·rw [J6d,Q1o];have h1:=Z0n ownF hi (by simp [ownF,hp]) (Q3c hq hk);exact (J6g _ _).trans ((t.ids.cons _).trans h1.symm)
 ·rcases Q0o hr with rfl|hr
  ·exact N5 _ _ hf
  ·obtain⟨y,hy⟩:=t.fac r hr Ap;exact N5 _ _ hy
 ·rcases Q0o hr with rfl|hr
  ·rcases A9 _ _ hx with ⟨_,rfl⟩|⟨h,_⟩
   ·exact⟨fun h=>absurd h (by omega),fun _=>⟨rfl,Ab⟩⟩
   ·exact absurd rfl h
  ·rcases A9 _ _ hx with ⟨h,_⟩|⟨_,y,hy,h1,h2⟩
   ·obtain⟨z,hz⟩:=t.acc hr Ap A0;rw [h,Aq] at hz;cases hz
   ·have:=t.par r hr Ap A0 y hy;by_cases hid:(r.own:Int)=q.fac
    ·obtain⟨rfl,e2⟩:=h1 hid;rw [e2,Ja];exact this
    ·rw [h2 hid];exact this
 ·have hc:=Q2c q hi id;rw [Q3A id hp,Q2y id hq] at hc;rcases A9 _ _ hx with ⟨rfl,rfl⟩|⟨_,y,hy,h1,h2⟩
  ·rw [if_neg (by omega)] at hc;have:Q0v l q.own=0:=Q2n fun r hr Ap e=>K8 r hr Ap (by omega)
   show (0:Int)=_;rw [hxc];omega
  ·have:=t.charged id y hy;by_cases hid:id=q.fac
   ·obtain⟨rfl,e2⟩:=h1 hid;rw [if_pos hid.symm] at hc;rw [e2,T4];omega
   ·rw [if_neg fun h=>hid h.symm] at hc;rw [h2 hid];omega
 ·rw [Hc,FS];rcases A9 _ _ hx with ⟨rfl,rfl⟩|⟨_,y,hy,h1,h2⟩
  ·obtain⟨z1,z2⟩:=Q2N Aa;rw [z1,z2,if_neg (by omega),if_neg (by omega)];exact⟨rfl,rfl⟩
  ·have:=t.given id y hy;by_cases hid:id=q.fac
   ·obtain⟨rfl,e2⟩:=h1 hid;rw [if_pos hid.symm,if_pos hid.symm,e2,UK,SN];omega
   ·rw [if_neg fun h=>hid h.symm,if_neg fun h=>hid h.symm,h2 hid];omega
theorem TreI.keep {E:List (En Fa)} {l:List Pl} {xc:Int->Int} (t:TreI E l xc) {i:Nat} {p q:Pl} (hi:l[i]?=some p) (hp:p.is=true) (hq:q.is=true) (h1:q.kind=p.kind) (h2:q.fac=p.fac) (h3:q.own=p.own):TreI E (l.set i q) xc:=by
 have BF:=J4O hi;refine⟨t.ids.trans (Q1C ownF hi (by unfold ownF;rw [hp,hq,h1,h3])).symm,fun r hr Ap=>?_,fun r hr Ap A0 x hx=>?_,fun id x hx=>?_,t.given⟩
 ·rcases Q0o hr with rfl|hr
  ·rw [h2];exact t.fac p BF hp
  ·exact t.fac r hr Ap
 ·rcases Q0o hr with rfl|hr
  ·rw [h2,h3];rw [h3] at hx;exact t.par p BF hp (by omega) x hx
  ·exact t.par r hr Ap A0 x hx
 ·have hc:=Q2c q hi id;have e:Q1M id q=Q1M id p:=by unfold Q1M;rw [hp,hq,h1,h2]
  rw [e] at hc;have:=t.charged id x hx;omega
theorem TreI.pays {E:List (En Fa)} {l:List Pl} {xc:Int->Int} (t:TreI E l xc) {p:Pl} (hp:p∈l) (hi:p.is=true) (hx:0<=xc p.fac) {e:En Fa} (hf:find E p.fac=some e):(costK p.kind:Int)<=e.q.charged:=by
 have h1:=t.charged _ e hf;have h2:=Q7h (p.fac:Int) hp;rw [Q2y _ hi,if_pos rfl] at h2;omega
theorem TreI.dropN {E:List (En Fa)} {l:List Pl} {xc:Int->Int} (t:TreI E l xc) (Ac:E.Pairwise (fun a b=>a.id≠b.id)) {i:Nat} {p q:Pl} (hi:l[i]?=some p) (hp:p.is=true) (hq:q.is=false) (hk:p.kind≠1) {e:En Fa} (hf:find E p.fac=some e) :
  TreI (upd E p.fac {e.q with charged:=e.q.charged-(costK p.kind:Int)}) (l.set i q) xc:=by
 have ho:ownF q=ownF p:=by simp [ownF,hq,hk]
 have Hc:∀a,Q1v (upd E p.fac {e.q with charged:=e.q.charged-(costK p.kind:Int)}) a=Q1v E a:=fun a=>Q1N Ac hf _ _ rfl
 have FS:∀a,Q1Q (upd E p.fac {e.q with charged:=e.q.charged-(costK p.kind:Int)}) a=Q1Q E a:=fun a=>Q1N Ac hf _ _ rfl
 refine⟨?_,fun r hr Ap=>?_,fun r hr Ap A0 x hx=>?_,fun id x hx=>?_,fun id x hx=>?_⟩
 ·rw [Q1o];exact t.ids.trans (Q1C ownF hi ho).symm
 ·rcases Q0o hr with rfl|hr
  ·rw [hq] at Ap;cases Ap
  ·obtain⟨y,hy⟩:=t.fac r hr Ap;exact Q0Z _ hy
 ·rcases Q0o hr with rfl|hr
  ·rw [hq] at Ap;cases Ap
  ·obtain⟨y,hy,h1,h2⟩:=Q0q _ hf hx;have:=t.par r hr Ap A0 y hy;by_cases hid:(r.own:Int)=p.fac
   ·obtain⟨rfl,e2⟩:=h1 hid;rw [e2];exact this
   ·rw [h2 hid];exact this
 ·obtain⟨y,hy,h1,h2⟩:=Q0q _ hf hx;have hc:=Q2c q hi id;rw [Q3A id hq,Q2y id hp] at hc;have:=t.charged id y hy;by_cases hid:id=p.fac
  ·obtain⟨rfl,e2⟩:=h1 hid;rw [if_pos hid.symm] at hc;rw [e2];show y.q.charged-_=_;omega
  ·rw [if_neg fun h=>hid h.symm] at hc;rw [h2 hid];omega
 ·obtain⟨y,hy,h1,h2⟩:=Q0q _ hf hx;rw [Hc,FS];have:=t.given id y hy;by_cases hid:id=p.fac
  ·obtain⟨rfl,e2⟩:=h1 hid;rw [e2];exact this
  ·rw [h2 hid];exact this
theorem TreI.dropF {E:List (En Fa)} {l:List Pl} {xc:Int->Int} (t:TreI E l xc) (Ac:E.Pairwise (fun a b=>a.id≠b.id)) {i:Nat} {p q:Pl} (hi:l[i]?=some p) (hp:p.is=true) (hq:q.is=false) (hk:p.kind=1) (h0:p.own≠0) {e c:En Fa} (hf:find E p.fac=some e) (hc:find E p.own=some c)
  (K8:∀r∈l,r.is=true->r.fac≠p.own) :
  TreI (upd (rem (upd E p.fac {e.q with given:=e.q.given-c.q.limit,kids:=e.q.kids-1}) p.own) p.fac {e.q with given:=e.q.given-c.q.limit,kids:=e.q.kids-1,charged:=e.q.charged-(costK p.kind:Int)}) (l.set i q) xc:=by
 have BF:=J4O hi;obtain⟨Bg,Ab⟩:=(t.par p BF hp hk c hc).2 h0;have Aa:(p.own:Int)≠p.fac:=by omega
 obtain⟨X,hX⟩:∃X:Fa,X={e.q with given:=e.q.given-c.q.limit,kids:=e.q.kids-1}:=⟨_,rfl⟩
 obtain⟨Y,hY⟩:∃Y:Fa,Y={e.q with given:=e.q.given-c.q.limit,kids:=e.q.kids-1,charged:=e.q.charged-(costK p.kind:Int)}:=⟨_,rfl⟩
 have Ja:X.parent=e.q.parent:=by rw [hX]
 have Nb:X.limit=e.q.limit:=by rw [hX]
 have Pe:Y.parent=e.q.parent:=by rw [hY]
 have UM:Y.limit=e.q.limit:=by rw [hY]
 have Tf:Y.charged=e.q.charged-(costK p.kind:Int):=by rw [hY]
 have SB:Y.given=e.q.given-c.q.limit:=by rw [hY]
 have Ur:Y.kids=e.q.kids-1:=by rw [hY]
 rw [<- hX,<- hY];clear hX hY;have pw1:(upd E p.fac X).Pairwise (fun a b=>a.id≠b.id):=Q0O _ _ (fun a b a' b' _ h1 _ h2 h=>by rw [<- h1,<- h2];exact h) Ac;have f1:find (upd E p.fac X) p.own=some c:=by rw [Q0y Aa];exact hc
 have pw2:(rem (upd E p.fac X) p.own).Pairwise (fun a b=>a.id≠b.id):=pw1.sublist (Q1y _ _);have f2:find (rem (upd E p.fac X) p.own) p.fac=some {e with q:=X}:=by
  rw [Q2l pw1,if_neg (fun h=>Aa h.symm)];exact Q0h hf X
 have A9:∀j z,find (upd (rem (upd E p.fac X) p.own) p.fac Y) j=some z->j≠p.own/\∃y,find E j=some y/\(j=p.fac->y=e/\z.q=Y)/\(j≠p.fac->z=y):=fun j z hz=>by
  obtain⟨x,hx,h1,h2⟩:=Q0q Y f2 hz;rw [Q2l pw1] at hx;split at hx
  ·cases hx
  ·rename_i hj;obtain⟨y,hy,h3,h4⟩:=Q0q X hf hx;refine⟨hj,y,hy,fun h=>⟨(h3 h).1,(h1 h).2⟩,fun h=>?_⟩;rw [h2 h,h4 h]
 have N5:∀(j:Int) y,j≠p.own->find E j=some y->∃z,find (upd (rem (upd E p.fac X) p.own) p.fac Y) j=some z:=fun j y hj hy=>by
  obtain⟨z,hz⟩:=Q0Z (id:=p.fac) X hy;exact Q0Z Y (by rw [Q2l pw1,if_neg hj];exact hz)
 have Hc:∀a,Q1v (upd (rem (upd E p.fac X) p.own) p.fac Y) a+givF a c=Q1v E a:=fun a=>by
  have e1:((upd (rem (upd E p.fac X) p.own) p.fac Y).map (givF a)).sum=((rem (upd E p.fac X) p.own).map (givF a)).sum:=Q1N pw2 f2 _ _ (by simp [givF,Ja,Nb,Pe,UM]);have e2:=Z5e pw1 f1 (givF a);have e3:((upd E p.fac X).map (givF a)).sum=(E.map (givF a)).sum:=Q1N Ac hf _ _ (by simp [givF,Ja,Nb]);unfold Q1v;rw [e1,e2,e3]
 have FS:∀a,Q1Q (upd (rem (upd E p.fac X) p.own) p.fac Y) a+kidF a c=Q1Q E a:=fun a=>by
  have e1:((upd (rem (upd E p.fac X) p.own) p.fac Y).map (kidF a)).sum=((rem (upd E p.fac X) p.own).map (kidF a)).sum:=Q1N pw2 f2 _ _ (by simp [kidF,Ja,Pe]);have e2:=Z5e pw1 f1 (kidF a);have e3:((upd E p.fac X).map (kidF a)).sum=(E.map (kidF a)).sum:=Q1N Ac hf _ _ (by simp [kidF,Ja]);unfold Q1Q;rw [e1,e2,e3]
 refine⟨?_,fun r hr Ap=>?_,fun r hr Ap A0 x hx=>?_,fun id x hx=>?_,fun id x hx=>?_⟩
 ·rw [Q1o];have h1:(E.map En.id).Perm ((p.own:Int)::(rem (upd E p.fac X) p.own).map En.id):=by
   obtain⟨A,B,e1,_,e3⟩:=Q2X pw1 f1;rw [<- Q1o E p.fac X,e3]
   conv=>lhs;rw [e1]
   have Hm:c.id=p.own:=(Q0b f1).2;rw [J6d,J2B,J6d,Hm];exact J6e
  have h2:=Q7W (q:=q) ownF hi (Q3c hp hk) (by simp [ownF,hq]);exact J6n (h1.symm.trans (t.ids.trans h2))
 ·rcases Q0o hr with rfl|hr
  ·rw [hq] at Ap;cases Ap
  ·obtain⟨y,hy⟩:=t.fac r hr Ap;exact N5 _ _ (fun h=>K8 r hr Ap (by omega)) hy
 ·rcases Q0o hr with rfl|hr
  ·rw [hq] at Ap;cases Ap
  ·obtain⟨hj,y,hy,h1,h2⟩:=A9 _ _ hx;have:=t.par r hr Ap A0 y hy;by_cases hid:(r.own:Int)=p.fac
   ·obtain⟨rfl,e2⟩:=h1 hid;rw [e2,Pe];exact this
   ·rw [h2 hid];exact this
 ·obtain⟨hj,y,hy,h1,h2⟩:=A9 _ _ hx;have Bt:=Q2c q hi id;rw [Q3A id hq,Q2y id hp] at Bt;have:=t.charged id y hy;by_cases hid:id=p.fac
  ·obtain⟨rfl,e2⟩:=h1 hid;rw [if_pos hid.symm] at Bt;rw [e2,Tf];omega
  ·rw [if_neg fun h=>hid h.symm] at Bt;rw [h2 hid];omega
 ·obtain⟨hj,y,hy,h1,h2⟩:=A9 _ _ hx;have g1:=Hc id;have g2:=FS id;have:=t.given id y hy;unfold givF at g1;unfold kidF at g2;rw [Bg] at g1 g2;by_cases hid:id=p.fac
  ·obtain⟨rfl,e2⟩:=h1 hid;rw [if_pos hid.symm] at g1 g2;rw [e2,SB,Ur];omega
  ·rw [if_neg fun h=>hid h.symm] at g1 g2;rw [h2 hid];omega
theorem Q4X {l:List Pl} {i:Nat} {p f:Pl} (q:Pl) (hi:l[i]?=some p) (hf:f∈l):f∈l.set i q∨f=p:=by
 obtain⟨j,hj⟩:=J5o.1 hf;by_cases e:i=j
 ·subst e;rw [hi] at hj;cases hj;exact .inr rfl
 ·exact .inl (J4O (i:=j) (by rw [J6h e];exact hj))
theorem QueI.add {l:List Pl} {xc:Int->Int} {zs:List Nat} (u:QueI l xc zs) {i:Nat} {p q f:Pl} (hi:l[i]?=some p) (hp:p.st=0) (hq:q.st=1) (hf:f∈l) (h1:f.st=1) (h2:f.kind=1) (h3:f.own=q.fac):QueI (l.set i q) xc zs:=by
 obtain⟨r,r1,r2,r3,r4,r5,r6⟩:=u.root;have B5:i≠0:=by rintro rfl;rw [r1] at hi;cases hi;omega
 have hm:∀x∈l,x.st=1->x∈l.set i q:=fun x hx hs=>(Q4X q hi hx).resolve_right fun e=>by subst e;omega
 have hz:∀h,pget (l.set i q) 2 h=pget l 2 h:=fun h=>by
  rw [Q0B q hi];split
  ·rename_i e;rw [if_neg (by omega)]
   symm
   cases hx:pget l 2 h with
   | none=>rfl
   | some x =>
    obtain⟨a,b,c⟩:=pget_some.1 hx;rw [e,hi] at a;cases a;omega
  ·rfl
 refine⟨⟨r,by rw [J6h B5];exact r1,r2,r3,r4,r5,r6⟩,fun j x hx hj hs=>?_,fun id=>⟨(u.xc id).1,fun h=>?_⟩,u.nd,fun h=>by rw [hz];exact u.has h,?_⟩
 ·by_cases e:i=j
  ·subst e;rw [J6p (J2Q.1 hi).1] at hx;cases hx;exact⟨f,hm f hf h1,h1,h2,h3⟩
  ·rw [J6h e] at hx;obtain⟨g,g1,g2,g3,g4⟩:=u.live j x hx hj hs;exact⟨g,hm g g1 g2,g2,g3,g4⟩
 ·obtain⟨x,hx,hs,he⟩:=(u.xc id).2 h;exact⟨x,hm x hx hs,hs,he⟩
 ·refine u.ord.imp fun h a b ha hb=>?_
  rw [hz] at ha hb;exact h a b ha hb
theorem QueI.doom {E:List (En Fa)} {l:List Pl} {xc xc':Int->Int} {zs:List Nat} (u:QueI l xc zs) (hl:l.length<=256) (t:TreI E l xc) (Ac:E.Pairwise (fun a b=>a.id≠b.id)) {h:Nat} {p:Pl} (hp:pget l 1 h=some p) (h0:h≠0) (hk:kids l h=[])
  (hxc:∀id,0<=xc' id/\(xc' id≠0->∃r∈l.set (h%256) {p with st:=2},r.st=1/\(r.fac:Int)=id)):QueI (l.set (h%256) {p with st:=2}) xc' (zs++[h]):=by
 obtain⟨hi,hn,hs⟩:=pget_some.1 hp;obtain⟨r,r1,r2,r3,r4,r5,r6⟩:=u.root;have B5:h%256≠0:=by
  intro e;rw [e] at hi hn;rw [r1] at hi;cases hi;unfold nm at hn;omega
 obtain⟨i,Hr⟩:∃i,i=h%256:=⟨_,rfl⟩
 rw [<- Hr] at hi hn hxc B5 ⊢;have hz:∀x,x%256≠i->pget (l.set i {p with st:=2}) 2 x=pget l 2 x:=fun x hx=>by
  rw [Q0B _ hi,if_neg hx]
 have EF:∀x∈zs,x%256≠i:=fun x hx e=>by
  obtain⟨y,hy⟩:=(u.has x).1 hx;have:=(Q0R hy hp (by rw [e,Hr])).2.2;omega
 have hm:∀x∈l,x≠p->x∈l.set i {p with st:=2}:=fun x hx Aa=>(Q4X _ hi hx).resolve_right Aa
 have Cn:p.is=true:=Pl.is_iff.2 (.inl hs);refine⟨⟨r,by rw [J6h B5];exact r1,r2,r3,r4,r5,r6⟩,fun j x hx hj FR=>?_,hxc,?_,fun x=>?_,?_⟩
 ·by_cases e:i=j
  ·subst e;rw [J6p (J2Q.1 hi).1] at hx;cases hx;cases FR
  ·rw [J6h e] at hx;obtain⟨g,g1,g2,g3,g4⟩:=u.live j x hx hj FR;refine⟨g,hm g g1 ?_,g2,g3,g4⟩;rintro rfl;have Cc:j<256:=J2A (J2Q.1 hx).1 hl;have:nm j x∈kids l h:=(Q0P hl).2 ⟨g,x,hp,g3,pget_some.2 ⟨by rw [Q1m Cc];exact hx,by rw [Q1m Cc],FR⟩,by unfold nm;omega,g4.symm⟩;rw [hk] at this;cases this
 ·rw [J3t];refine⟨u.nd,by simp,fun x hx y hy e=>?_⟩;rw [J4H] at hy;subst hy;subst e;exact EF x hx Hr.symm
 ·rw [J3o,J4H];by_cases e:x%256=i
  ·rw [Q0B _ hi,if_pos e]
   constructor
   ·rintro (hx|rfl)
    ·exact absurd e (EF x hx)
    ·exact⟨_,if_pos ⟨hn,rfl⟩⟩
   ·rintro⟨y,hy⟩;split at hy
    ·rename_i hc;exact .inr (hc.1.symm.trans hn)
    ·cases hy
  ·rw [hz x e]
   constructor
   ·rintro (hx|rfl)
    ·exact (u.has x).1 hx
    ·exact absurd Hr.symm e
   ·exact fun hx=>.inl ((u.has x).2 hx)
 ·rw [J3n];refine⟨?_,by simp,fun a ha b hb=>?_⟩
  ·refine u.ord.imp_of_mem ?_;intro a b ha hb CI x y hx hy;rw [hz a (EF a ha)] at hx;rw [hz b (EF b hb)] at hy;exact CI x y hx hy
  ·rw [J4H] at hb;subst hb;intro x y hx hy IE;rw [hz a (EF a ha)] at hx;rw [Q0B _ hi,if_pos Hr.symm,if_pos ⟨hn,rfl⟩] at hy;cases hy;show p.fac≠x.own;intro e;obtain⟨g,g1,g2,g3,g4⟩:=u.live i p hi B5 hs;obtain⟨j,hj⟩:=J5o.1 g1;obtain⟨a1,_,a3⟩:=pget_some.1 hx;have:=t.inj Ac hj a1 (Pl.is_iff.2 (.inl g2)) (Pl.is_iff.2 (.inr a3)) g3 IE (by omega);subst this;rw [a1] at hj;cases hj;omega
theorem QueI.free {l:List Pl} {xc:Int->Int} {zs:List Nat} {h:Nat} (u:QueI l xc (h::zs)) {p q:Pl} (hp:pget l 2 h=some p) (hq:q.is=false):QueI (l.set (h%256) q) xc zs:=by
 obtain⟨hi,hn,hs⟩:=pget_some.1 hp;obtain⟨q1,q2⟩:=Pl.not_is.1 hq;obtain⟨r,r1,r2,r3,r4,r5,r6⟩:=u.root;have B5:h%256≠0:=by
  intro e;rw [e,r1] at hi;cases hi;omega
 obtain⟨i,Hr⟩:∃i,i=h%256:=⟨_,rfl⟩
 rw [<- Hr] at hi hn B5 ⊢;have AG:=J3w.1 u.nd;have Ek:=J3a.1 u.ord;have hz:∀x,x%256≠i->pget (l.set i q) 2 x=pget l 2 x:=fun x hx=>by
  rw [Q0B _ hi,if_neg hx]
 have EF:∀x∈zs,x%256≠i:=fun x hx e=>by
  obtain⟨y,hy⟩:=(u.has x).1 (by simp [hx]);have:=(Q0R hy hp (by rw [e,Hr])).1;exact AG.1 (this ▸ hx)
 have hm:∀x∈l,x.st=1->x∈l.set i q:=fun x hx N3=>(Q4X _ hi hx).resolve_right fun e=>by subst e;omega
 refine⟨⟨r,by rw [J6h B5];exact r1,r2,r3,r4,r5,r6⟩,fun j x hx hj FR=>?_,fun id=>⟨(u.xc id).1,fun Aa=>?_⟩,AG.2,fun x=>?_,?_⟩
 ·by_cases e:i=j
  ·subst e;rw [J6p (J2Q.1 hi).1] at hx;cases hx;exact absurd FR q1
  ·rw [J6h e] at hx;obtain⟨g,g1,g2,g3,g4⟩:=u.live j x hx hj FR;exact⟨g,hm g g1 g2,g2,g3,g4⟩
 ·obtain⟨x,hx,N3,he⟩:=(u.xc id).2 Aa;exact⟨x,hm x hx N3,N3,he⟩
 ·by_cases e:x%256=i
  ·rw [Q0B _ hi,if_pos e,if_neg (by omega)]
   constructor
   ·exact fun hx=>absurd e (EF x hx)
   ·rintro⟨_,h⟩;cases h
  ·rw [hz x e,<- u.has x,J2D]
   constructor
   ·exact .inr
   ·rintro (rfl|hx)
    ·exact absurd Hr.symm e
    ·exact hx
 ·refine Ek.2.imp_of_mem ?_;intro a b ha hb CI x y hx hy;rw [hz a (EF a ha)] at hx;rw [hz b (EF b hb)] at hy;exact CI x y hx hy
theorem Inv.last {P:PL} {l:List Pl} {fr:List Nat} {xc:Int->Int} {zs:List Nat} {h:Nat} (v:Inv P l fr xc (h::zs)) {p:Pl} (hp:pget l 2 h=some p) (hk:p.kind=1) :
  p.own≠0/\(∀r∈l,r.is=true->r.fac≠p.own)/\∃c,find P.q.E p.own=some c/\c.q.charged=0/\c.q.given=0/\c.q.kids=0/\c.q.parent=p.fac:=by
 obtain⟨hi,hn,hs⟩:=pget_some.1 hp;have Ac:=v.mem.pool.q.ids;have BF:=Q0A hp;have Cn:p.is=true:=Pl.is_iff.2 (.inr hs);obtain⟨r,r1,r2,r3,r4,r5,r6⟩:=v.que.root;have h0:p.own≠0:=by
  intro e;have:=v.tre.inj Ac hi r1 Cn (Pl.is_iff.2 (.inl r4)) hk r2 (by omega);rw [this,r1] at hi;cases hi;omega
 have live1:∀x∈l,x.st=1->x.fac≠p.own:=by
  intro x hx FR e;obtain⟨j,hj⟩:=J5o.1 hx;by_cases G3:j=0
  ·subst G3;rw [r1] at hj;cases hj;omega
  ·obtain⟨g,g1,g2,g3,g4⟩:=v.que.live j x hj G3 FR;obtain⟨k,Bu⟩:=J5o.1 g1;have:=v.tre.inj Ac Bu hi (Pl.is_iff.2 (.inl g2)) Cn g3 hk (by omega);subst this;rw [Bu] at hi;cases hi;omega
 obtain⟨c,hc⟩:=v.tre.acc BF Cn hk;obtain⟨c1,c2⟩:=(v.tre.par p BF Cn hk c hc).2 h0;have Aq:∀x∈l,x.is=true->x.fac≠p.own:=by
  intro x hx NI;rcases Pl.is_iff.1 NI with FR|FR
  ·exact live1 x hx FR
  ·obtain⟨j,hj⟩:=J5o.1 hx;have Cc:j<256:=by have:=(J2Q.1 hj).1;rw [v.len] at this;exact this
   have Ke:pget l 2 (nm j x)=some x:=pget_some.2 ⟨by rw [Q1m Cc];exact hj,by rw [Q1m Cc],FR⟩;rcases J2D.1 ((v.que.has _).2 ⟨x,Ke⟩) with e|hz
   ·rw [e,hp] at Ke;cases Ke;omega
   ·exact (J3a.1 v.que.ord).1 _ hz p x hp Ke hk
 refine⟨h0,Aq,c,hc,?_,?_,?_,c1⟩
 ·rw [v.tre.charged _ c hc,Q2n fun x hx NI e=>Aq x hx NI (by omega)];by_cases hx:xc p.own=0
  ·omega
  ·obtain⟨x,Du,Ew,Vt⟩:=(v.que.xc p.own).2 hx;exact absurd (by omega) (live1 x Du Ew)
 all_goals
  have hz:=Q2N (E:=P.q.E) (a:=(p.own:Int)) (by
   intro y hy e;have hm:y.id∈Q7g l:=v.tre.ids.mem_iff.1 (J3s hy);obtain⟨x,hx,Ju⟩:=J2O.1 hm;unfold ownF at Ju;split at Ju
   ·rename_i Bd;simp only [J2U,beq_iff_eq] at Bd;have OM:(x.own:Int)=y.id:=J3x Ju;have Sv:find P.q.E x.own=some y:=by rw [OM];exact Q1z Ac hy
    obtain⟨b1,b2⟩:=v.tre.par x hx Bd.1 Bd.2 y Sv;by_cases Cl:x.own=0
    ·have:=b1 Cl;omega
    ·have:=(b2 Cl).1;exact Aq x hx Bd.1 (by omega)
   ·cases Ju)
  have hg:=v.tre.given _ c hc;omega
def Kept (m m':List Nat) (a n:Nat):Prop:=∀i,a<=i->i<a+n->m'[i]?=m[i]?
theorem Kept.word {m m':List Nat} {a:Nat} (h:Kept m m' a 8):Q0u m' a=Q0u m a:=by
 unfold Q0u;congr 1
 apply J4i
 intro i;rw [J4D,J4D];split
 ·rw [J5c,J5c];exact h _ (by omega) (by omega)
 ·rfl
theorem Kept.sub {m m':List Nat} {a n b k:Nat} (h:Kept m m' a n) (h1:a<=b) (h2:b+k<=a+n):Kept m m' b k:=fun i h3 h4=>h i (by omega) (by omega)
theorem Q1D {m bs:List Nat} {a b n:Nat} (hl:a+bs.length<=m.length) (h:b+n<=a∨a+bs.length<=b):Kept m (put_ m a bs) b n:=fun i h1 h2=>by
 rw [Q5U _ _ _ hl];split
 ·rfl
 ·rw [if_neg (by omega)]
theorem Q7i {m bs:List Nat} {a:Nat} (hl:a+bs.length<=m.length) {i:Nat} (hi:i<bs.length):(put_ m a bs)[a+i]?=bs[i]?:=by
 rw [Q5U _ _ _ hl,if_neg (by omega),if_pos (by omega)];congr 1;omega
theorem Kept.trans {m m1 m2:List Nat} {a n:Nat} (h:Kept m m1 a n) (k:Kept m1 m2 a n):Kept m m2 a n:=fun i h1 h2=>(k i h1 h2).trans (h i h1 h2)
theorem Kept.refl (m:List Nat) (a n:Nat):Kept m m a n:=fun _ _ _=>rfl
theorem Q5n {P:PL} {fr:List Nat} (ok:P.Ok fr) {k a:Nat} (ha:a∈P.usedOf k):∃g∈P.pages,1024*g+64<=a/\a+Q0c k<=1024*g+1024:=by
 obtain⟨c,hc,ha⟩:=Q2x ha;obtain⟨k1,k2,_,_⟩:=PL.Cls.facts ok hc;obtain⟨x,hx,x1,x2⟩:=Q7O k1 ha;rw [k2] at x2;refine⟨x.2,?_,x1,x2⟩;exact J2Z.2 ⟨c,J4O hc.2,J3s hx⟩
theorem Q4v {P:PL} {fr:List Nat} (ok:P.Ok fr):fr.Nodup/\(∀g∈fr,g∉P.pages)/\∀g∈fr,g<2 ^ P.d.top:=by
 have h:=(ok.pages.nodup_iff).2 ok.d.nd;obtain⟨h1,h2,h3⟩:=J3t.1 h;exact⟨h1,fun g hg hp=>h3 g hg g hp rfl,fun g hg=>ok.d.lt g (ok.pages.mem_iff.1 (by simp [hg]))⟩
theorem Q2z {P:PL} {fr:List Nat} (ok:P.Ok fr) {k a g:Nat} (hg:g∈fr) (ha:a∈P.usedOf k):a+Q0c k<=1024*g∨1024*g+1024<=a:=by
 obtain⟨p,hp,h1,h2⟩:=Q5n ok ha;have:g≠p:=fun e=>(Q4v ok).2.1 g hg (e ▸ hp)
 omega
theorem Z5f {P:PL} {fr:List Nat} (ok:P.Ok fr) {g:Nat} (hg:g∈fr):1024*g+1024<=P.a.mem.length:=by
 have:=(Q4v ok).2.2 g hg;rw [ok.mem,J4b,show (2:Nat) ^ 10=1024 from rfl];omega
theorem Z5g (n:Nat):Q0c n%8=0:=by
 by_cases h:n<8
 ·have hn:n=0∨n=1∨n=2∨n=3∨n=4∨n=5∨n=6∨n=7:=by omega
  rcases hn with rfl|rfl|rfl|rfl|rfl|rfl|rfl|rfl <;> decide
 ·rw [Q5V (by omega)]
theorem Q2o {P:PL} {fr:List Nat} (ok:P.Ok fr) {k a:Nat} (ha:a∈P.usedOf k):a%8=0:=by
 obtain⟨c,hc,ha⟩:=Q2x ha;obtain⟨_,k2,_,_⟩:=PL.Cls.facts ok hc;unfold CA.used at ha;obtain⟨x,_,ha⟩:=J2Z.1 ha;unfold Q1n at ha;obtain⟨i,_,rfl⟩:=J2E.1 ha;unfold addr;rw [k2];have h0:=Z5g k;have:i*Q0c k%8=0:=by rw [Nat.mul_mod,h0];simp
 omega
theorem Q1W {P:PL} {fr:List Nat} (ok:P.Ok fr) {k a:Nat} (ha:a∈P.usedOf k):1<=k/\k<=7:=by
 obtain⟨c,hc,_⟩:=Q2x ha;exact⟨hc.1,(PL.Cls.facts ok hc).2.2.2⟩
structure SameP (P P':PL):Prop where
 p:P'.p=P.p
 qt:P'.q.t=P.q.t
 db:P'.d.b=P.d.b
 aa:P'.a.a=P.a.a
 amb:P'.a.mb=P.a.mb
 top:P'.d.top=P.d.top
 len:P'.a.mem.length=P.a.mem.length
theorem SameP.refl (P:PL):SameP P P:=⟨rfl,rfl,rfl,rfl,rfl,rfl,rfl⟩
theorem SameP.trans {P P1 P2:PL} (h:SameP P P1) (k:SameP P1 P2):SameP P P2:=
 ⟨k.p.trans h.p,k.qt.trans h.qt,k.db.trans h.db,k.aa.trans h.aa,k.amb.trans h.amb,k.top.trans h.top,k.len.trans h.len⟩
structure GotM (P:PL) (fr:List Nat) (own:Int) (k a:Nat) (P':PL) (fr':List Nat):Prop where
 ok:P'.Ok fr'
 same:SameP P P'
 q:∃e,find P.q.E own=some e/\((costK k:Nat):Int)<=e.q.limit-(e.q.charged+e.q.given)/\P'.q={P.q with E:=upd P.q.E own {e.q with charged:=e.q.charged+((costK k:Nat):Int)}}
 mem:P'.a.mem=put_ P.a.mem a (List.replicate (costK k) 0)
 used:k≠8->(P'.usedOf k).Perm (a::P.usedOf k)
 other:∀j,j≠k->P'.usedOf j=P.usedOf j
 frs:if k=8 then ∃g,a=1024*g/\fr'=g::fr else fr'=fr
 few:P'.d.ps.length<=P.d.ps.length+1
theorem GetOk.gotM {P P':PL} {fr:List Nat} {own:Int} {n a:Nat} (g:GetOk P fr own n a P') (ok:P.Ok fr):GotM P fr own n a P' fr:=by
 obtain⟨c,c',h1,h2,h3⟩:=g.which;obtain⟨A,B,u1,u2⟩:=g.used;have ha:a∈P'.usedOf n:=by rw [u2];simp
 have hn:=Q1W g.ok ha;have D1:costK n=Q0c n:=by unfold costK;rw [if_neg (by omega)]
 obtain⟨e,q1,q2,q3⟩:=g.q;refine⟨g.ok,⟨g.p,g.qt,g.db,g.aa,g.amb,g.top,?_⟩,⟨e,q1,by rw [D1];exact q2,by rw [D1];exact q3⟩,by rw [D1];exact g.mem,fun _=>?_,g.other,by rw [if_neg (by omega)],?_⟩
 ·rw [g.ok.mem,ok.mem,g.top]
 ·rw [u1,u2];exact J6e
 ·rcases h3.pages with ⟨_,e⟩|⟨p,_,_,e⟩
  ·rw [e];omega
  ·rw [e];simp
theorem GotM.room {P P':PL} {fr fr':List Nat} {own:Int} {k a:Nat} (g:GotM P fr own k a P' fr'):a+costK k<=P.a.mem.length/\a%8=0:=by
 by_cases h:k=8
 ·have hf:=g.frs;rw [if_pos h] at hf;obtain⟨x,rfl,hx⟩:=hf;have:=Z5f g.ok (g:=x) (by rw [hx];simp);rw [g.same.len] at this;have:costK k=1024:=by unfold costK;rw [if_pos h]
  omega
 ·have ha:a∈P'.usedOf k:=(g.used h).mem_iff.2 (by simp);have h1:=Q0n g.ok ha;have:costK k=Q0c k:=by unfold costK;rw [if_neg h]
  have h2:=Q2o g.ok ha;have h3:=g.same.len;omega
theorem GotM.apart {P P':PL} {fr fr':List Nat} {own:Int} {k a:Nat} (g:GotM P fr own k a P' fr') (ok:P.Ok fr):(∀j b,b∈P.usedOf j->a+costK k<=b∨b+Q0c j<=a)/\∀x∈fr,a+costK k<=1024*x∨1024*x+1024<=a:=by
 by_cases h:k=8
 ·have D1:costK k=1024:=by unfold costK;rw [if_pos h]
  have hf:=g.frs;rw [if_pos h] at hf;obtain⟨y,rfl,hy⟩:=hf;have Hl:y∈fr':=by rw [hy];simp
  refine⟨fun j b hb=>?_,fun x hx=>?_⟩
  ·have hj:=Q1W ok hb;have Ak:b∈P'.usedOf j:=by rw [g.other j (by omega)];exact hb
   have:=Q2z g.ok Hl Ak;omega
  ·have AG:=(Q4v g.ok).1;rw [hy] at AG;have:x≠y:=fun e=>(J3w.1 AG).1 (e ▸ hx)
   omega
 ·have D1:costK k=Q0c k:=by unfold costK;rw [if_neg h]
  have hf:=g.frs;rw [if_neg h] at hf;have ha:a∈P'.usedOf k:=(g.used h).mem_iff.2 (by simp);refine⟨fun j b hb=>?_,fun x hx=>?_⟩
  ·rw [D1];by_cases e:j=k
   ·subst e;have AG:(P'.usedOf j).Nodup:=(Q2a g.ok j).imp fun h=>Nat.ne_of_lt h
    have Oq:=(g.used h).nodup_iff.1 AG;have Aa:a≠b:=fun e=>(J3w.1 Oq).1 (e ▸ hb)
    have Ak:b∈P'.usedOf j:=(g.used h).mem_iff.2 (by simp [hb]);exact Q3z g.ok ha Ak (fun e=>Aa e.2)
   ·have Ak:b∈P'.usedOf j:=by rw [g.other j e];exact hb
    exact Q3z g.ok ha Ak (fun e'=>e e'.1.symm)
  ·rw [D1];exact Q2z g.ok (by rw [hf];exact hx) ha
theorem GotM.grewM {P P':PL} {fr fr':List Nat} {own:Int} {k a:Nat} (g:GotM P fr own k a P' fr') (ok:P.Ok fr) (hk:k≠1):J0p P fr k a 0 P' fr':=by
 have hr:=g.room.1;refine⟨g.ok,g.used,g.other,g.frs,fun b hb=>?_,fun h=>absurd h hk⟩;have h1:=(g.apart ok).1 1 b hb;rw [g.mem];exact (Q1D (by rw [J2I];exact hr) (by rw [J2I];have:Q0c 1=64:=rfl;omega)).word
theorem GotM.grewF {P P' P2:PL} {fr fr':List Nat} {own:Int} {a:Nat} (g:GotM P fr own 1 a P' fr') (ok:P.Ok fr) {x:Nat} (hx:x<18446744073709551616) (hm:P2.a.mem=put_ P'.a.mem a (Q0d x)) (hu:∀j,P2.usedOf j=P'.usedOf j) (Bh:P2.Ok fr'):J0p P fr 1 a x P2 fr':=by
 have hr:=g.room.1;have Dp:costK 1=64:=rfl;have GV:(Q0d x).length=8:=rfl;have hl:=g.same.len;refine⟨Bh,fun h=>by rw [hu];exact g.used h,fun j hj=>by rw [hu];exact g.other j hj,g.frs,fun b hb=>?_,fun _=>?_⟩
 ·have h1:=(g.apart ok).1 1 b hb;have Sc:Q0c 1=64:=rfl;have k1:Kept P.a.mem P'.a.mem b 8:=by
   rw [g.mem];exact Q1D (by rw [J2I];exact hr) (by rw [J2I];omega)
  have k2:Kept P'.a.mem P2.a.mem b 8:=by
   rw [hm];exact Q1D (by rw [GV];omega) (by rw [GV];omega)
  exact (k1.trans k2).word
 ·rw [hm];unfold Q0u;have:((put_ P'.a.mem a (Q0d x)).drop a).take 8=Q0d x:=by
   apply J4i
   intro i;rw [J4D];split
   ·rw [J5c];exact Q7i (by rw [GV];omega) (by rw [GV];assumption)
   ·rw [J4p (by rw [GV];omega)]
  rw [this];exact Q3x x hx
structure BackM (P:PL) (fr:List Nat) (own:Int) (k a:Nat) (P':PL) (fr':List Nat):Prop where
 ok:P'.Ok fr'
 same:SameP P P'
 q:∃e,find P.q.E own=some e/\((costK k:Nat):Int)<=e.q.charged/\P'.q={P.q with E:=upd P.q.E own {e.q with charged:=e.q.charged-((costK k:Nat):Int)}}
 mem:P'.a.mem=P.a.mem
 used:k≠8->(P.usedOf k).Perm (a::P'.usedOf k)
 other:∀j,j≠k->P'.usedOf j=P.usedOf j
 frs:if k=8 then ∃g,a=1024*g/\fr'=fr.erase g else fr'=fr
 few:P'.d.ps.length<=P.d.ps.length
theorem BackM.goneM {P P':PL} {fr fr':List Nat} {own:Int} {k a:Nat} (g:BackM P fr own k a P' fr'):J0q P fr k a P' fr':=
 ⟨g.ok,g.used,g.other,g.frs,fun b _=>by rw [g.mem]⟩
theorem PutOk.backM {P P':PL} {fr:List Nat} {own:Int} {n a:Nat} (g:PutOk P fr own n a P') (ok:P.Ok fr):BackM P fr own n a P' fr:=by
 obtain⟨c,c',h1,h2,h3⟩:=g.which;obtain⟨A,B,u1,u2⟩:=g.used;have ha:a∈P.usedOf n:=by rw [u1];simp
 have hn:=Q1W ok ha;have D1:costK n=Q0c n:=by unfold costK;rw [if_neg (by omega)]
 obtain⟨e,q1,q2,q3⟩:=g.q;refine⟨g.ok,⟨g.p,g.qt,g.db,by rw [g.aa],by rw [g.aa],g.top,by rw [g.aa]⟩,⟨e,q1,by rw [D1];exact q2,by rw [D1];exact q3⟩,by rw [g.aa],fun _=>?_,g.other,by rw [if_neg (by omega)],?_⟩
 ·rw [u1,u2];exact J6e
 ·rcases h3.pages with ⟨_,e⟩|⟨p,_,e⟩
  ·rw [e];omega
  ·rw [e];exact List.length_erase_le
end Go.Proofs.YtfidemmgofcnmaaGreatDoor
