/- SpaceCharge returns true at every input. No condition. Part of its proof. -/
import Derived.Test.YtfidemmgofcnmaaGreatDoorSc08
import Derived.Laws.BitsAllLaws
import Derived.Laws.Rows
import Derived.Deep.AppendSrc
set_option maxHeartbeats 400000
set_option linter.unusedVariables false
namespace Go.Proofs.YtfidemmgofcnmaaGreatDoor
open Go.RowKit Go.Proofs.Tryz
theorem GotM.high {P P':PL} {fr fr':List Nat} {own:Int} {k a:Nat} (g:GotM P fr own k a P' fr') (ok:P.Ok fr) (hk:k=8∨k<=5):∀j,6<=j->(P'.usedOf j).Perm (P.usedOf j):=fun j hj=>by
 by_cases e:j=k
 ·have h8:j=8:=by omega
  rw [Q1V g.ok (by rw [h8];rfl),Q1V ok (by rw [h8];rfl)]
 ·rw [g.other j e]
theorem BackM.high {P P':PL} {fr fr':List Nat} {own:Int} {k a:Nat} (g:BackM P fr own k a P' fr') (ok:P.Ok fr) (hk:k=8∨k<=5):∀j,6<=j->(P'.usedOf j).Perm (P.usedOf j):=fun j hj=>by
 by_cases e:j=k
 ·have h8:j=8:=by omega
  rw [Q1V g.ok (by rw [h8];rfl),Q1V ok (by rw [h8];rfl)]
 ·rw [g.other j e]
abbrev x0:Int->Int:=fun _=>0
def KeptL (m m':List Nat) (l:List Pl):Prop:=∀r∈l,r.is=true->Kept m m' r.at_ (costK r.kind)
theorem costK_8:costK 8=1024:=rfl
theorem Q1R {k:Nat} (h:k≠8):costK k=Q0c k:=by unfold costK;rw [if_neg h]
theorem KeptL.of_apart {P:PL} {l:List Pl} {fr:List Nat} (m:MemI P l fr) {a n:Nat} {m':List Nat} (hm:∀b k,b+k<=a∨a+n<=b->Kept P.a.mem m' b k)
  (h:(∀j b,b∈P.usedOf j->a+n<=b∨b+Q0c j<=a)/\∀x∈fr,a+n<=1024*x∨1024*x+1024<=a):KeptL P.a.mem m' l:=fun r hr Ap=>by
 by_cases h8:r.kind=8
 ·obtain⟨g,hg,e⟩:=m.frame hr Ap h8;have:=h.2 g hg;rw [h8,costK_8];exact hm _ _ (by omega)
 ·have hu:=m.used hr Ap h8;have:=h.1 _ _ hu;rw [Q1R h8];exact hm _ _ (by omega)
theorem Inv.kind {P:PL} {l:List Pl} {fr:List Nat} {xc:Int->Int} {zs:List Nat} (v:Inv P l fr xc zs) {s h:Nat} {p:Pl} (hp:pget l s h=some p) (hs:s=1∨s=2):p.kind=8∨(1<=p.kind/\p.kind<=5):=
 v.mem.kind p (Q0A hp) (Pl.is_iff.2 (by have:=(pget_some.1 hp).2.2;omega))
theorem Q8L {l:List Pl} {i:Nat} {q:Pl} (h:∀p∈l,p.st<=2/\p.age<=1048575) (hq:q.st<=2/\q.age<=1048575):∀p∈l.set i q,p.st<=2/\p.age<=1048575:=fun p hp=>by
 rcases Q0o hp with rfl|hp
 ·exact hq
 ·exact h p hp
theorem GotM.keptL {P P':PL} {l:List Pl} {fr fr':List Nat} {own:Int} {k a:Nat} (g:GotM P fr own k a P' fr') (m:MemI P l fr):KeptL P.a.mem P'.a.mem l:=
 KeptL.of_apart m (n:=costK k) (a:=a) (fun b j h=>by
  rw [g.mem];exact Q1D (by rw [J2I];exact g.room.1) (by rw [J2I];exact h)) (g.apart m.pool)
def Z5h (P P':PL):Prop:=∀j a,6<=j->a∈P.usedOf j->Kept P.a.mem P'.a.mem a (Q0c j)
theorem GotM.keptH {P P':PL} {fr fr':List Nat} {own:Int} {k a:Nat} (g:GotM P fr own k a P' fr') (ok:P.Ok fr):Z5h P P':=fun j b _ hb=>by
 have:=(g.apart ok).1 j b hb;rw [g.mem];exact Q1D (by rw [J2I];exact g.room.1) (by rw [J2I];omega)
theorem Inv.addN {P P':PL} {l:List Pl} {fr fr':List Nat} {xc:Int->Int} {zs:List Nat} (v:Inv P l fr xc zs) {i k a h:Nat} {p f:Pl} (g:GotM P fr f.own k a P' fr') (hi:l[i]?=some p) (hp:p.st=0) (hk:k=8∨(2<=k/\k<=5)) (hf:pget l 1 h=some f) (Dd:f.kind=1) :
  Inv P' (l.set i ⟨k,a,f.own,1,p.age,0⟩) fr' xc zs:=by
 have Fm:p.is=false:=Pl.not_is.2 ⟨by omega,by omega⟩;obtain⟨e,q1,q2,q3⟩:=g.q;refine⟨by rw [J4m];exact v.len,Q8L v.st ⟨by show (1:Nat)<=2;omega,(v.st p (J4O hi)).2⟩,?_,?_,?_⟩
 ·exact v.mem.add (q:=⟨k,a,f.own,1,p.age,0⟩) (g.grewM v.mem.pool (by omega)) hi Fm rfl (by show k=8∨(1<=k/\k<=5);omega)
 ·rw [q3];exact v.tre.addN (q:=⟨k,a,f.own,1,p.age,0⟩) v.mem.pool.q.ids hi Fm rfl (by show k≠1;omega) q1
 ·exact v.que.add hi hp rfl (Q0A hf) (pget_some.1 hf).2.2 Dd rfl
theorem TreI.parent_lt {E:List (En Fa)} {l:List Pl} {xc:Int->Int} (t:TreI E l xc) (Ac:E.Pairwise (fun a b=>a.id≠b.id)) {N:Int} (h0:0<N) (hN:∀id e,find E id=some e->0<=id/\id<N) {x:En Fa} (hx:x∈E):x.q.parent<N/\x.q.parent≠N:=by
 have hm:x.id∈Q7g l:=t.ids.mem_iff.1 (J3s hx);obtain⟨p,hp,Hj⟩:=J2O.1 hm;unfold ownF at Hj;split at Hj
 ·rename_i hc;simp only [J2U,beq_iff_eq] at hc;have hid:(p.own:Int)=x.id:=J3x Hj;have FG:find E p.own=some x:=by rw [hid];exact Q1z Ac hx
  obtain⟨b1,b2⟩:=t.par p hp hc.1 hc.2 x FG;have:=hN _ _ FG;by_cases Cl:p.own=0
  ·have:=b1 Cl;omega
  ·have:=b2 Cl;omega
 ·cases Hj
theorem Inv.addF {P P' P2:PL} {l:List Pl} {fr fr':List Nat} {xc:Int->Int} {zs:List Nat} (v:Inv P l fr xc zs) {i a h b x:Nat} {limit:Int} {p f:Pl} {e:En Fa} (g:GotM P fr f.own 1 a P' fr') (hi:l[i]?=some p) (hp:p.st=0) (hf:pget l 1 h=some f) (Dd:f.kind=1)
  (hx:(x:Int)=P.q.next) (he:find P.q.E f.own=some e)
  (hq:P2.q.E=upd P.q.E f.own {e.q with charged:=e.q.charged+64,given:=e.q.given+limit,kids:=e.q.kids+1}++[⟨x,b,⟨limit,0,0,f.own,0⟩⟩]) (hm:P2.a.mem=put_ P'.a.mem a (Q0d x)) (hu:∀j,P2.usedOf j=P'.usedOf j) (Bh:P2.Ok fr') :
  Inv P2 (l.set i ⟨1,a,f.own,1,p.age,x⟩) fr' xc zs:=by
 have Fm:p.is=false:=Pl.not_is.2 ⟨by omega,by omega⟩;have Ac:=v.mem.pool.q.ids;have hN:∀id e,find P.q.E id=some e->0<=id/\id<P.q.next:=fun id e h=>by
  have:=v.mem.pool.q.fa id e h;exact⟨this.2.2.2.2.2.2.1,this.2.2.2.2.2.2.2⟩
 have CP:=v.mem.pool.q.next1;have Aq:find P.q.E (x:Int)=none:=by
  cases hc:find P.q.E (x:Int) with
  | none=>rfl
  | some y=>have:=hN _ _ hc;omega
 have Ab:f.own<x:=by have:=hN _ _ he;omega
 refine⟨by rw [J4m];exact v.len,Q8L v.st ⟨by show (1:Nat)<=2;omega,(v.st p (J4O hi)).2⟩,?_,?_,?_⟩
 ·exact v.mem.add (q:=⟨1,a,f.own,1,p.age,x⟩) (g.grewF v.mem.pool (by show x<_;omega) hm hu Bh) hi Fm rfl (.inr ⟨J2y 1,by show (1:Nat)<=5;omega⟩)
 ·rw [hq];refine v.tre.addF (q:=⟨1,a,f.own,1,p.age,x⟩) Ac hi Fm rfl rfl he Aq Ab ?_ (fun y hy=>?_) (fun r hr Ap=>?_)
  ·apply Classical.byContradiction
   intro Aa;obtain⟨r,hr,hs,K6⟩:=(v.que.xc (x:Int)).2 Aa;obtain⟨y,hy⟩:=v.tre.fac r hr (Pl.is_iff.2 (.inl hs));rw [K6,Aq] at hy;cases hy
  ·have:=(v.tre.parent_lt Ac v.mem.pool.q.next0 hN hy).2;show y.q.parent≠(x:Int);rw [hx];exact this
  ·obtain⟨y,hy⟩:=v.tre.fac r hr Ap;have:=hN _ _ hy;show r.fac≠x;omega
 ·exact v.que.add hi hp rfl (Q0A hf) (pget_some.1 hf).2.2 Dd rfl
theorem Inv.doom {P:PL} {l:List Pl} {fr:List Nat} {xc:Int->Int} {zs:List Nat} (v:Inv P l fr xc zs) {h:Nat} {p:Pl} (hp:pget l 1 h=some p) (h0:h≠0) (hk:kids l h=[]) (hxc:∀id,xc id≠0->∃r∈l.set (h%256) {p with st:=2},r.st=1/\(r.fac:Int)=id):Inv P (l.set (h%256) {p with st:=2}) fr xc (zs++[h]):=by
 obtain⟨hi,hn,hs⟩:=pget_some.1 hp;have Cn:p.is=true:=Pl.is_iff.2 (.inl hs);have BF:=J4O hi;exact⟨by rw [J4m];exact v.len,Q8L v.st ⟨by show (2:Nat)<=2;omega,(v.st p BF).2⟩,v.mem.keep hi Cn rfl rfl rfl rfl,v.tre.keep hi Cn rfl rfl rfl rfl,
  v.que.doom (by rw [v.len];omega) v.tre v.mem.pool.q.ids hp h0 hk fun id=>⟨(v.que.xc id).1,hxc id⟩⟩
def noPl (age:Nat):Pl:=⟨0,0,0,0,age,0⟩
theorem Inv.freeN {P P':PL} {l:List Pl} {fr fr':List Nat} {xc:Int->Int} {zs:List Nat} {h:Nat} (v:Inv P l fr xc (h::zs)) {p:Pl} (hp:pget l 2 h=some p) (hk:p.kind≠1) (g:BackM P fr p.fac p.kind p.at_ P' fr') (D2:p.age+1<=1048575) :
  Inv P' (l.set (h%256) (noPl (p.age+1))) fr' xc zs:=by
 obtain⟨hi,hn,hs⟩:=pget_some.1 hp;have Cn:p.is=true:=Pl.is_iff.2 (.inr hs);obtain⟨e,q1,q2,q3⟩:=g.q;refine⟨by rw [J4m];exact v.len,Q8L v.st ⟨by show (0:Nat)<=2;omega,D2⟩,v.mem.drop g.goneM hi Cn rfl,?_,v.que.free hp rfl⟩;rw [q3];exact v.tre.dropN v.mem.pool.q.ids hi Cn rfl hk q1
theorem Inv.freeF {P P1 P':PL} {l:List Pl} {fr fr':List Nat} {xc:Int->Int} {zs:List Nat} {h:Nat} (v:Inv P l fr xc (h::zs)) {p:Pl} (hp:pget l 2 h=some p) (hk:p.kind=1) {e c:En Fa} (he:find P.q.E p.fac=some e) (hc:find P.q.E p.own=some c)
  (h1:P1=P.setQ {P.q with E:=rem (upd P.q.E p.fac {e.q with given:=e.q.given-c.q.limit,kids:=e.q.kids-1}) p.own}) (g:BackM P1 fr p.fac 1 p.at_ P' fr') (D2:p.age+1<=1048575) :
  Inv P' (l.set (h%256) (noPl (p.age+1))) fr' xc zs:=by
 obtain⟨hi,hn,hs⟩:=pget_some.1 hp;have Cn:p.is=true:=Pl.is_iff.2 (.inr hs);obtain⟨h0,Aq,c',Bd,c1,c2,c3,c4⟩:=v.last hp hk;rw [hc] at Bd;cases Bd;have Ac:=v.mem.pool.q.ids;have Bg:=(v.tre.par p (Q0A hp) Cn hk c hc).2 h0;have Aa:(p.own:Int)≠p.fac:=by omega
 obtain⟨y,q1,q2,q3⟩:=g.q;have RF:P1.q.E=rem (upd P.q.E p.fac {e.q with given:=e.q.given-c.q.limit,kids:=e.q.kids-1}) p.own:=by rw [h1];rfl
 have pw1:(upd P.q.E p.fac {e.q with given:=e.q.given-c.q.limit,kids:=e.q.kids-1}).Pairwise (fun a b=>a.id≠b.id):=Q0O _ _ (fun a b a' b' _ h1 _ h2 h=>by rw [<- h1,<- h2];exact h) Ac;have hy:y.q={e.q with given:=e.q.given-c.q.limit,kids:=e.q.kids-1}:=by
  rw [RF,Q2l pw1,if_neg (fun h=>Aa h.symm),Q0h he] at q1;cases q1;rfl
 refine⟨by rw [J4m];exact v.len,Q8L v.st ⟨by show (0:Nat)<=2;omega,D2⟩,?_,?_,v.que.free hp rfl⟩
 ·have gm:J0q P fr p.kind p.at_ P' fr':=by
   have:=g.goneM;rw [hk];refine⟨this.pool,fun h=>?_,fun j hj=>?_,this.frs,fun b hb=>?_⟩
   ·have:=this.used h;rw [h1] at this;exact this
   ·have:=this.other j hj;rw [h1] at this;exact this
   ·have:=this.mem b hb;rw [h1] at this;exact this
  exact v.mem.drop gm hi Cn rfl
 ·rw [q3];show TreI (upd P1.q.E _ _) _ _;rw [RF,hy];have:=v.tre.dropF Ac hi Cn (q:=noPl (p.age+1)) rfl hk h0 he hc Aq;rw [hk] at this;exact this
structure Tried (P:PL) (fr:List Nat) (l:List Pl) (P':PL):Prop where
 ok:P'.Ok fr
 same:SameP P P'
 q:P'.q=P.q
 used:∀k,(P'.usedOf k).Perm (P.usedOf k)
 ps:P'.d.ps.Perm P.d.ps
 mem:KeptL P.a.mem P'.a.mem l
 memH:Z5h P P'
theorem Tried.refl {P:PL} {fr:List Nat} (ok:P.Ok fr) (l:List Pl):Tried P fr l P:=⟨ok,SameP.refl P,rfl,fun _=>J5T _,J5T _,fun _ _ _=>Kept.refl _ _ _,fun _ _ _ _=>Kept.refl _ _ _⟩
theorem Q4Y {P:PL} {fr:List Nat} (ok:P.Ok fr) (g:Nat):g∈P.pages↔∃k a,a∈P.usedOf k/\a/1024=g:=by
 constructor
 ·intro hg;obtain⟨c,hc,Cl⟩:=J2Z.1 hg;obtain⟨x,hx,rfl⟩:=J2E.1 Cl;obtain⟨k,hk⟩:=J5o.1 hc;have I0:P.Cls (k+1) c:=⟨by omega,by simpa using hk⟩
  obtain⟨k1,k2,_,_⟩:=PL.Cls.facts ok I0;have hb:=ok.busy c hc x hx;obtain⟨i,hi⟩:∃i,i∈Q2Y x.1.bits:=by
   cases ht:Q2Y x.1.bits with
   | nil =>
    exfalso
    apply hb
    have:cntB x.1.bits=(Q2Y x.1.bits).length:=(Q5R _).symm;rw [this,ht];rfl
   | cons i r=>exact⟨i,by simp⟩
  have hu:addr c.size x.2 i∈c.used:=J2Z.2 ⟨x,hx,J3s hi⟩;refine⟨k+1,addr c.size x.2 i,by rw [Q0U I0];exact hu,?_⟩;have Cw:i<x.1.bits.length:=by
   have:=mem_trues.1 hi;rcases J5i i x.1.bits.length with e|e
   ·exact e
   ·rw [J4p e] at this;cases this
  have DJ:=k1.s0;have hp:=Q4q (s:=c.size) (by omega) Cw (k1.many x hx);unfold addr;omega
 ·rintro⟨k,a,ha,rfl⟩;obtain⟨p,hp,h1,h2⟩:=Q5n ok ha;have:=Q1W ok ha;have:=Q7S this.1 this.2;have e:a/1024=p:=by omega
  rw [e];exact hp
theorem J0r {P P':PL} {fr fr':List Nat} (ok:P.Ok fr) (ok':P'.Ok fr') (hu:∀k,(P'.usedOf k).Perm (P.usedOf k)) (hf:fr'.Perm fr):P'.d.ps.Perm P.d.ps:=by
 have h1:=(ok.pages.nodup_iff).2 ok.d.nd;have h2:=(ok'.pages.nodup_iff).2 ok'.d.nd;have hp:P'.pages.Perm P.pages:=by
  rw [List.perm_ext_iff_of_nodup (J3t.1 h2).2.1 (J3t.1 h1).2.1];intro g;rw [Q4Y ok',Q4Y ok]
  constructor
  ·rintro⟨k,a,ha,e⟩;exact⟨k,a,(hu k).mem_iff.1 ha,e⟩
  ·rintro⟨k,a,ha,e⟩;exact⟨k,a,(hu k).mem_iff.2 ha,e⟩
 exact ok'.pages.symm.trans ((hf.append hp).trans ok.pages)
theorem GotM.back {P P' P2:PL} {l:List Pl} {fr fr' fr2:List Nat} {own:Int} {k a:Nat} (g:GotM P fr own k a P' fr') (m:MemI P l fr) (b:BackM P' fr' own k a P2 fr2):Tried P fr l P2:=by
 obtain⟨e,q1,q2,q3⟩:=g.q;obtain⟨e',r1,r2,r3⟩:=b.q;have Ac:=m.pool.q.ids;have hE:P'.q.E=upd P.q.E own {e.q with charged:=e.q.charged+((costK k:Nat):Int)}:=by rw [q3]
 have AM:e'={e with q:={e.q with charged:=e.q.charged+((costK k:Nat):Int)}}:=by
  rw [hE,Q0h q1] at r1;exact (J3x r1).symm
 have hq:P2.q=P.q:=by
  have h1:upd P'.q.E own {e'.q with charged:=e'.q.charged-((costK k:Nat):Int)}=P.q.E:=by
   rw [hE,upd_upd,AM];have:({e.q with charged:=e.q.charged+((costK k:Nat):Int)-((costK k:Nat):Int)}:Fa)=e.q:=by
    rw [J6i]
   show upd P.q.E own ({e.q with charged:=e.q.charged+((costK k:Nat):Int)-((costK k:Nat):Int)}:Fa)=_;rw [this];exact Z4v Ac q1
  rw [r3,h1,q3]
 have hu:∀j,(P2.usedOf j).Perm (P.usedOf j):=fun j=>by
  by_cases e:j=k
  ·subst e;by_cases h8:j=8
   ·have z:∀{Q:PL} {f:List Nat},Q.Ok f->Q.usedOf j=[]:=fun hQ=>Q1V hQ (by rw [h8];rfl)
    rw [z b.ok,z m.pool]
   ·have h1:=(g.used h8).symm.trans (b.used h8);exact (J6n h1).symm
  ·rw [b.other j e,g.other j e]
 have DC:fr2=fr:=by
  have h1:=g.frs;have h2:=b.frs;by_cases h8:k=8
  ·rw [if_pos h8] at h1 h2;obtain⟨x,rfl,hx⟩:=h1;obtain⟨y,hy,rfl⟩:=h2;have:x=y:=by omega
   subst this;rw [hx];simp
  ·rw [if_neg h8] at h1 h2;rw [h2,h1]
 have Bh:P2.Ok fr:=by rw [<- DC];exact b.ok
 exact⟨Bh,g.same.trans b.same,hq,hu,J0r m.pool Bh hu (J5T _),fun r hr Ap=>by rw [b.mem];exact g.keptL m r hr Ap,fun j c hj hc=>by rw [b.mem];exact g.keptH m.pool j c hj hc⟩
theorem Inv.tried {P P':PL} {l:List Pl} {fr:List Nat} {xc:Int->Int} {zs:List Nat} (v:Inv P l fr xc zs) (t:Tried P fr l P'):Inv P' l fr xc zs:=by
 refine⟨v.len,v.st,⟨t.ok,v.mem.kind,fun k h1 h5=>(v.mem.ats k h1 h5).trans (t.used k).symm,v.mem.frs,fun r hr Ap hk=>?_⟩,by rw [t.q];exact v.tre,v.que⟩;have:=t.mem r hr Ap;rw [hk] at this;rw [(this.sub (J2y _) (by show r.at_+8<=r.at_+64;omega)).word];exact v.mem.word r hr Ap hk
structure HT where
 t:Nat
 l:List Pl
def Pl.cells (p:Pl):List Value:=[.int .i64 (p.kind:Int),.int .i64 (p.at_:Int),.int .i64 (p.fac:Int),.int .i64 (p.st:Int),.int .u32 (p.age:Int)]
def HT.hl (h:HT):HL:=[(h.t,isC 302 (h.l.flatMap Pl.cells))]
theorem Q4a:∀{l:List Pl} {i:Nat} {p:Pl},l[i]?=some p->∀(j:Nat) (v:Value),j<5->p.cells[j]?=some v->(l.flatMap Pl.cells)[i*5+j]?=some v
 | [],i,p,h,j,v,_,_=>by simp at h
 | x::r,0,p,h,j,v,hj,hv=>by
  simp at h;subst h;rw [J2W,J6q,J5e,J5N (by simpa [Pl.cells] using hj)];exact hv
 | x::r,i+1,p,h,j,v,hj,hv=>by
  rw [J5M] at h;have:=Q4a (l:=r) h j v hj hv;rw [J2W,J5O (by simp [Pl.cells];omega)];rw [<- this];congr 1;simp [Pl.cells];omega
theorem Q4b:∀{l:List Pl} {i:Nat} {p q:Pl},l[i]?=some p->∀(j:Nat) (v:Value),j<5->p.cells.set j v=q.cells->(l.flatMap Pl.cells).set (i*5+j) v=(l.set i q).flatMap Pl.cells
 | [],i,p,q,h,j,v,_,_=>by simp at h
 | x::r,0,p,q,h,j,v,hj,hv=>by
  simp at h;subst h;rw [J2W,J6q,J5e,List.set_append_left _ _ (by simpa [Pl.cells] using hj),hv];rfl
 | x::r,i+1,p,q,h,j,v,hj,hv=>by
  rw [J5M] at h;have:=Q4b (l:=r) h j v hj hv;rw [J2W,J6r _ _ (by simp [Pl.cells];omega)];rw [J5k,J2W,<- this];congr 2;simp [Pl.cells];omega
theorem J0s (l:List Pl):(l.flatMap Pl.cells).length=l.length*5:=by
 induction l with
 | nil=>rfl
 | cons x r ih=>rw [J2W,J3j,ih];simp [Pl.cells];omega
section
variable {w:World} {h:HT}
theorem HT.cells (s:Sep w h.hl):Cells w h.t 302 (h.l.flatMap Pl.cells):=s.cells (by simp [HT.hl])
theorem HT.cell (s:Sep w h.hl) {i:Nat} {p:Pl} (hi:h.l[i]?=some p):w.cell? ⟨h.t,i*5,none⟩=some (.int .i64 (p.kind:Int))/\w.cell? ⟨h.t,i*5+1,none⟩=some (.int .i64 (p.at_:Int))/\w.cell? ⟨h.t,i*5+2,none⟩=some (.int .i64 (p.fac:Int))/\w.cell? ⟨h.t,i*5+3,none⟩=some (.int .i64 (p.st:Int))/\w.cell? ⟨h.t,i*5+4,none⟩=some (.int .u32 (p.age:Int))/\∀j,w.frozen? ⟨h.t,j,none⟩=false:=
 ⟨(HT.cells s).cell (i*5) _ (Q4a hi 0 _ (by omega) rfl),(HT.cells s).cell (i*5+1) _ (Q4a hi 1 _ (by omega) rfl),(HT.cells s).cell (i*5+2) _ (Q4a hi 2 _ (by omega) rfl),(HT.cells s).cell (i*5+3) _ (Q4a hi 3 _ (by omega) rfl),(HT.cells s).cell (i*5+4) _ (Q4a hi 4 _ (by omega) rfl),(HT.cells s).free⟩
theorem HT.set (s:Sep w h.hl) {i:Nat} {p q:Pl} (hi:h.l[i]?=some p) (j:Nat) (v:Value) (hj:j<5) (hq:p.cells.set j v=q.cells):Step h.hl ({h with l:=h.l.set i q}:HT).hl w (w.setCell ⟨h.t,i*5+j,none⟩ v):=by
 have:=Sep.set (A:=[]) (B:=[]) (by simpa [HT.hl] using s) (i*5+j) v;rw [Q4b hi j v hj hq] at this;exact this
end
theorem J0t (a i:Nat) (hi:i<256) (ha:a<=1048575):bits BinOp.or IntKind.u32 ((a*256:Nat):Int) (i:Int)=((a*256+i:Nat):Int):=by
 rw [u32_or_nat _ _ (by omega) (by omega)];congr 1;have:=J5U (i:=8) (b:=i) (by omega) a;rw [J5A] at this;exact this.symm
theorem Q8M (h:Nat) (hh:h<4294967296):bits BinOp.and IntKind.u32 (h:Int) 255=((h%256:Nat):Int):=by
 have:=u32_and_nat h 255 hh (by omega);rw [show ((255:Nat):Int)=255 from rfl] at this;rw [this];congr 1;exact J4f h 8
theorem Q4w {w:World} {h:HT} (s:Sep w h.hl) {i:Nat} {p:Pl} (hi:h.l[i]?=some p) (Am:i<256) (ha:p.age<=1048575):Calls prog 202 #[.pointer (some ⟨h.t,0,none⟩),.int .i64 i] w fun r w'=>r=.returned (.int .u32 ((nm i p:Nat):Int))/\w=w':=by
 obtain⟨-,-,-,-,c4,-⟩:=HT.cell s hi;have HO:=Q0a (J0t p.age i Am ha);unfold nm;clear s hi;generalize p.age=a at *
 go_enter func202,ntmps202
 go_wp2
 go_ret;refine⟨?_,rfl⟩;have e:=HO.out;rw [J3E] at e;exact congrArg (fun z=>Ending.returned (.int .u32 z)) e
abbrev OV:=Option (Nat×Nat×Nat)
def ovOf (rv:OV) (n:Nat):Value:=match rv with
 | none=>.slice none 0 0
 | some (g,off,cap)=>.slice (some ⟨g,off,none⟩) n cap
def isS (T:TypeId) (m off:Nat) (cs:List Value):Obj->Prop:=fun o=>∃Aj:Array Value,o=.cells Aj T (0,0)/\off+m<=Aj.size/\(Aj.toList.drop off).take cs.length=cs
def ovH (rv:OV) (T:TypeId) (size:Nat) (xs:List Value):HL:=match rv with
 | none=>[]
 | some (g,off,cap)=>[(g,isS T (cap*size) off xs)]
def ovOk (rv:OV) (n:Nat):Prop:=match rv with
 | none=>n=0
 | some (_,_,cap)=>n<=cap/\cap<=maxLen
theorem Z0p {w:World} {g off cap:Nat} {T:TypeId} {size:Nat} {xs:List Value} (h:Sep w (ovH (some (g,off,cap)) T size xs)) (j:Nat) (v:Value) (hv:xs[j]?=some v):w.cell? ⟨g,off+j,none⟩=some v:=by
 obtain⟨o,ho,Aj,rfl,hn,hr⟩:=h.get (b:=g) (q:=isS T (cap*size) off xs) (by simp [ovH]);rw [<- hr,J4D] at hv;split at hv
 ·rw [J5c] at hv;simp only [World.cell?,ho,J5D,J6s,if_false];rw [<- J5a];exact hv
 ·cases hv
theorem Sep.weak {w:World} {A B:HL} {b:Nat} {q q':Obj->Prop} (h:Sep w (A++(b,q)::B)) (hq:∀o,q o->q' o):Step (A++(b,q)::B) (A++(b,q')::B) w w:=by
 obtain⟨o,ho,JY⟩:=h.get (b:=b) (q:=q) (by simp);exact Sep.turn h ⟨rfl,rfl,rfl,J2y _,fun _ _ _=>rfl⟩ ⟨o,ho,hq _ JY⟩
theorem Step.more {w w':World} {A B H':HL} (s:Step B H' w w'):Step (A++B) H' w w':=
 ⟨s.sep,s.chg.mono fun b hb=>.inl (by simp [hb]),fun b hb=>by rcases s.new b hb with h'|h';exact .inl (by simp [h']);exact .inr h'⟩
theorem J0u {w:World} {B:HL} {g off cap:Nat} {T:TypeId} {size:Nat} {x xs:List Value} (h:Sep w (ovH (some (g,off,cap)) T size (x++xs)++B)) (hx:x.length=size) (hc:1<cap) :
  Step (ovH (some (g,off,cap)) T size (x++xs)++B) (ovH (some (g,off+size,cap-1)) T size xs++B) w w:=by
 refine Sep.weak (A:=[]) (B:=B) h ?_;rintro o ⟨Aj,rfl,hn,hr⟩;obtain⟨c,rfl⟩:∃c,cap=c+1:=⟨cap-1,by omega⟩
 refine⟨Aj,rfl,?_,?_⟩
 ·rw [Nat.add_sub_cancel];rw [J5x] at hn;omega
 ·have e:Aj.toList.drop (off+size)=(Aj.toList.drop off).drop size:=by rw [List.drop_drop]
  have h2:((Aj.toList.drop off).take (x++xs).length).drop size=(x++xs).drop size:=by rw [hr]
  rw [List.drop_take,J3j,hx,J5y] at h2;rw [e,h2,<- hx];simp
theorem Z8c {w:World} {B:HL} {g off:Nat} {T:TypeId} {size:Nat} {x:List Value} (h:Sep w (ovH (some (g,off,1)) T size x++B)) :
  Step (ovH (some (g,off,1)) T size x++B) (ovH (some (g,off,0)) T size []++B) w w:=by
 refine Sep.weak (A:=[]) (B:=B) h ?_;rintro o ⟨Aj,rfl,hn,hr⟩;exact⟨Aj,rfl,by omega,by simp⟩
theorem Z5i {P:Program} {w:World} {B:HL} {rv:OV} {T t ty:TypeId} {size n m:Nat} {xs news:List Value} (h:Sep w (ovH rv T size xs++B)) (Bh:ovOk rv n) (hl:xs.length=n*size)
  (i:TypeInfo) (z:Value) (bytes:Nat) (ht:P.underlying t=some (.slice T)) (hi:P.info? T=some i) (hz:i.zero=some z) (hsize:i.size=size) (hby:i.bytes=bytes) (EF:z.cells.size=size)
  (x:Value) (hs:Src P size t x m news w) (hm:0<m) (Ae:n+m<=1048576) (hb:bytes<=64) :
  ∃rv' w',(Builtin.append_ #[t,t] ty #[ovOf rv n,x]).run P w=.ok (ovOf rv' (n+m)) w'/\ovOk rv' (n+m)/\Step (ovH rv T size xs++B) (ovH rv' T size (xs++news)++B) w w':=by
 subst hsize;subst hby;have Qs:=hs.newsLen;have Fi:(xs++news).length=(n+m)*i.size:=by rw [J3j,hl,Qs,J5x]
 have Gw:(n+m)*i.bytes<=140737488355328:=J2z (J3D Ae hb) (by decide)
 -- a new row
 have grown:∀(bs:Option Addr) (sc:Nat),ovOf rv n=.slice bs n sc->sc<n+m->(Builtin.firstCells i.size n (.slice bs n sc)).run P w.drew=.ok xs.toArray w.drew ->
   ∃rv' w',(Builtin.append_ #[t,t] ty #[ovOf rv n,x]).run P w=.ok (ovOf rv' (n+m)) w'/\ovOk rv' (n+m)/\Step (ovH rv T i.size xs++B) (ovH rv' T i.size (xs++news)++B) w w':=by
  intro bs sc he KB BX;have DZ:=run_append_grow_src (P:=P) w t t ty T i z ht hi hz bs n sc xs BX x m news hs KB (by omega) (growslice_fits (by omega) Gw);have Kr:=grownCap_ge w (n+m) sc T;have Dc:grownCap w (n+m) sc T<=maxLen:=grownCap_le_maxLen w (n+m) sc T (by unfold maxLen;omega);obtain⟨cap,AE⟩:∃cap,cap=grownCap w (n+m) sc T:=⟨_,rfl⟩
  rw [<- AE] at DZ Kr Dc;refine⟨some (w.heap.size,0,cap),_,by rw [he];exact DZ,⟨Kr,Dc⟩,?_⟩;refine Step.more ?_;have s1:=(h.right.drew.new T ((xs++news).toArray++Builtin.zeroCells z.cells (cap-(n+m))).toList).from_drew;rw [Array.toArray_toList] at s1;refine s1.trans (Sep.weak (A:=[]) s1.sep ?_);rintro o rfl;refine⟨_,rfl,?_,?_⟩
  ·simp only [Array.toArray_toList,Array.size_append,J5f,size_zeroCells,EF,Fi,<- J5x];rw [J5e];exact J5w _ (by omega)
  ·simp only [Array.toList_append,J6t];exact J4Y
 cases rv with
 | none =>
  have h0:n=0:=Bh;subst h0;have hx:xs=[]:=J4Q (by simpa using hl);subst hx;exact grown none 0 rfl (by omega) (run_firstCells_none w.drew i.size 0 0 0)
 | some p =>
  obtain⟨g,off,cap⟩:=p;obtain⟨CR,BC⟩:=Bh;by_cases Cr:n+m<=cap
  ·obtain⟨o,ho,Aj,rfl,hn,hr⟩:=h.left.get (b:=g) (q:=isS T (cap*i.size) off xs) (by simp [ovH]);have CN:(n+m)*i.size<=cap*i.size:=J5w _ Cr;have An:off+n*i.size+news.length<=Aj.size:=by rw [Qs];rw [J5x] at CN;omega
   have Ao:=run_storeCells_at P g (off+n*i.size) T news 0 Aj w ho (by simpa using An) hs.one;simp only [J2H] at Ao;refine⟨some (g,off,cap),w.setRow g (Aj.toList.take (off+n*i.size)++news++Aj.toList.drop (off+n*i.size+news.length)).toArray,?_,⟨Cr,BC⟩,?_⟩
   ·unfold ovOf;rcases hs.kind with ⟨e',hk⟩|hk <;> simp [Builtin.append_,run_underlying ht,sizeOf,typeInfo,hi,hs.len,Cr,hs.cells,Addr.add_lit,Ao]
   ·refine Sep.turn (A:=[]) h ⟨rfl,rfl,rfl,by simp,fun k _ hk=>setRow_other w g k _ (fun e=>hk (by simp [e]))⟩ ⟨_,setRow_heap w g Aj _ T _ ho,_,rfl,?_,?_⟩
    ·simp only [J5f,J3j,J4T,J4S,Array.length_toList];omega
    ·have e1:(Aj.toList.take (off+n*i.size)).drop off=xs:=by
      rw [List.drop_take,J5y,<- hl];exact hr
     have e2:off<=(Aj.toList.take (off+n*i.size)).length:=by
      simp only [J4T,Array.length_toList];omega
     show (List.drop off (_++news++_)).take _=_;rw [J3A,J4W e2,e1,<- J3A];exact J4Y
  ·refine grown (some ⟨g,off,none⟩) cap rfl (by omega) ?_;refine run_firstCells_some w.drew i.size n ⟨g,off,none⟩ n cap xs hl (fun j u hu=>?_);rw [Addr.add_lit];exact Z0p h.left j u hu
structure CO where
 c:Nat
 P:PL
 t:Nat
 l:List Pl
 g:Nat
 period:Nat
 now:Nat
 rv:OV
 ts:List (Nat×Nat)
 xc:Int->Int
def Q1j (ts:List (Nat×Nat)):List Value:=ts.flatMap fun x=>[.int .i64 (x.1:Int),.int .i64 (x.2:Int)]
def qhl (g period now:Nat) (rv:OV) (ts:List (Nat×Nat)):HL:=(g,isC 305 [.int .i64 period,.int .i64 now,ovOf rv ts.length])::ovH rv 331 2 (Q1j ts)
def CO.qh (S:CO):HL:=qhl S.g S.period S.now S.rv S.ts
def CO.ht (S:CO):HT:=⟨S.t,S.l⟩
def CO.head (S:CO):Nat×(Obj->Prop):=(S.c,isC 187 [ptr S.P.p,ptr S.t,ptr S.g])
def CO.hl (S:CO):HL:=S.head::(S.P.hl++(S.ht.hl++S.qh))
structure CO.Ok (S:CO) (fr:List Nat) (N K:Nat):Prop where
 inv:Inv S.P S.l fr S.xc (S.ts.map Prod.fst)
 per:1<=S.period/\S.period<=16
 due:∀x∈S.ts,S.now<x.2/\x.2<=S.now+S.period
 ord:S.ts.Pairwise (fun a b=>a.2<=b.2)
 ov:ovOk S.rv S.ts.length
 next:S.P.q.next<=N
 now:S.now<=K
 age:∀p∈S.l,p.age<=S.now
structure Went (S S':CO):Prop where
 c:S'.c=S.c
 t:S'.t=S.t
 g:S'.g=S.g
 per:S'.period=S.period
 same:SameP S.P S'.P
 now:S.now<=S'.now
 age:∀(i:Nat) (p:Pl),S.l[i]?=some p->∃p':Pl,S'.l[i]?=some p'/\p.age<=p'.age
 queue:S'.now=S.now->∃T,S'.ts=S.ts++T/\∀x∈T,x.2=S.now+S.period
 root:S'.l[0]?=S.l[0]?
 high:∀j,6<=j->(S'.P.usedOf j).Perm (S.P.usedOf j)
 memH:Z5h S.P S'.P
 xc:S'.xc=S.xc
 zombie:S'.now=S.now->∀(x:Nat) (p:Pl),pget S.l 2 x=some p->pget S'.l 2 x=some p/\Kept S.P.a.mem S'.P.a.mem p.at_ (costK p.kind)
theorem CO.permP (S:CO):S.hl.Perm (S.P.hl++(S.head::(S.ht.hl++S.qh))):=by
 unfold CO.hl;exact J6e.symm
theorem CO.permT (S:CO):S.hl.Perm (S.ht.hl++(S.head::(S.P.hl++S.qh))):=by
 unfold CO.hl;refine (List.Perm.cons _ ?_).trans J6e.symm;rw [<- J3A,<- J3A];exact J5n.append_right _
theorem CO.permG (S:CO):S.hl.Perm (S.qh++(S.head::(S.P.hl++S.ht.hl))):=by
 unfold CO.hl;refine (List.Perm.cons _ ?_).trans J6e.symm;rw [<- J3A];exact J5n
section
variable {w:World} {S:CO}
theorem CO.sP (h:Sep w S.hl):Sep w S.P.hl:=h.part S.permP
theorem CO.sT (h:Sep w S.hl):Sep w S.ht.hl:=h.part S.permT
theorem CO.sG (h:Sep w S.hl):Sep w S.qh:=h.part S.permG
theorem CO.cells (h:Sep w S.hl):Cells w S.c 187 [ptr S.P.p,ptr S.t,ptr S.g]:=h.cells (by simp [CO.hl,CO.head])
theorem CO.c0 (h:Sep w S.hl):w.cell? ⟨S.c,0,none⟩=some (.pointer (some ⟨S.P.p,0,none⟩)):=(CO.cells h).cell 0 _ rfl
theorem CO.c1 (h:Sep w S.hl):w.cell? ⟨S.c,1,none⟩=some (.pointer (some ⟨S.t,0,none⟩)):=(CO.cells h).cell 1 _ rfl
theorem CO.c2 (h:Sep w S.hl):w.cell? ⟨S.c,2,none⟩=some (.pointer (some ⟨S.g,0,none⟩)):=(CO.cells h).cell 2 _ rfl
end
def CO.setP (S:CO) (P:PL):CO:={S with P:=P}
def CO.setL (S:CO) (l:List Pl):CO:={S with l:=l}
def CO.setG (S:CO) (now:Nat) (rv:OV) (ts:List (Nat×Nat)):CO:={S with now:=now,rv:=rv,ts:=ts}
theorem CO.stepP {w w':World} {S:CO} (h:Sep w S.hl) (P:PL) (e:P.p=S.P.p) (s:Step S.P.hl P.hl w w'):Step S.hl (S.setP P).hl w w':=by
 have hp:=(S.setP P).permP;have e1:(S.setP P).head=S.head:=by unfold CO.head CO.setP;rw [e]
 rw [e1] at hp;exact Step.lift S.permP hp h s
theorem CO.stepL {w w':World} {S:CO} (h:Sep w S.hl) (l:List Pl) (s:Step S.ht.hl (⟨S.t,l⟩:HT).hl w w'):Step S.hl (S.setL l).hl w w':=
 Step.lift S.permT (S.setL l).permT h s
theorem CO.stepG {w w':World} {S:CO} (h:Sep w S.hl) (now:Nat) (rv:OV) (ts:List (Nat×Nat)) (s:Step S.qh (qhl S.g S.period now rv ts) w w'):Step S.hl (S.setG now rv ts).hl w w':=
 Step.lift S.permG (S.setG now rv ts).permG h s
def PL.setD (P:PL) (d:BD):PL:={P with d:=d}
theorem PL.stepD {w w':World} {P:PL} (h:Sep w P.hl) (d:BD) (e:d.b=P.d.b) (s:Step P.d.hl d.hl w w'):Step P.hl (P.setD d).hl w w':=by
 have B8:=PL.permD (P.setD d);have e1:(P.setD d).cells=P.cells:=by unfold PL.cells PL.setD;simp only [e]
 rw [e1] at B8;exact Step.lift (PL.permD P) B8 h s
theorem PL.ok_setD {P:PL} {fr fr':List Nat} (ok:P.Ok fr) {d:BD} (h1:d.b=P.d.b) (h2:d.top=P.d.top) (h3:d.At) (h4:(fr'++P.pages).Perm d.ps):(P.setD d).Ok fr':=by
 refine⟨ok.q,h3,?_,?_,ok.bytes,ok.len,fun k c hc=>?_,h4,ok.busy⟩
 ·show P.a.mem.length=2 ^ (d.top+10);rw [h2];exact ok.mem
 ·show 6<=d.top;rw [h2];exact ok.top
 ·obtain⟨a1,a2,a3⟩:=ok.c k c hc;exact⟨a1,a2,by show c.bb=d.b;rw [h1];exact a3⟩
theorem Z5j {P:PL} {fr:List Nat} (ok:P.Ok fr) {own:Int} {e:En Fa} (hf:find P.q.E own=some e) (hq:(1024:Int)<=e.q.limit-(e.q.charged+e.q.given)) {g:Nat} {d:BD} (h1:d.b=P.d.b) (h2:d.top=P.d.top) (h3:d.ps=P.d.ps++[g]) (h4:d.At) :
  GotM P fr own 8 (1024*g) (((P.setQ {P.q with E:=upd P.q.E own {e.q with charged:=e.q.charged+1024}}).setD d).setA (put_ P.a.mem (1024*g) (List.replicate 1024 0))) (g::fr):=by
 obtain⟨f1,f2,f3,f4,f5,f6,f7,f8⟩:=ok.q.fa own e hf;have ok1:=PL.ok_setQ ok (Q3b ok.q hf {e.q with charged:=e.q.charged+1024} ⟨by show 0<=e.q.charged+_;omega,f2,by show e.q.charged+_+e.q.given<=e.q.limit;omega,rfl,rfl⟩);have DI:((g::fr)++P.pages).Perm d.ps:=by
  rw [h3];refine (ok.pages.cons g).trans ?_;exact (J6g _ _).symm
 have ok2:=PL.ok_setD (fr':=g::fr) ok1 (d:=d) h1 h2 h4 DI;have hg:g<2 ^ P.d.top:=by rw [<- h2];exact h4.lt g (by rw [h3];simp)
 have hl:1024*g+(List.replicate 1024 0).length<=P.a.mem.length:=by
  rw [J2I,ok.mem,J4b,show (2:Nat) ^ 10=1024 from rfl];omega
 have Ae:=Q2q P.a.mem (1024*g) (List.replicate 1024 0) hl;have ok3:=PL.ok_setA ok2 (m:=put_ P.a.mem (1024*g) (List.replicate 1024 0)) Ae (Q8G ok.bytes 0 (by omega));refine⟨ok3,⟨rfl,rfl,h1,rfl,rfl,h2,Ae⟩,⟨e,hf,hq,rfl⟩,rfl,fun h=>absurd rfl h,fun j _=>rfl,?_,?_⟩
 ·rw [if_pos rfl];exact⟨g,rfl,rfl⟩
 ·show d.ps.length<=_;rw [h3];simp
theorem Z2C {P:PL} {fr:List Nat} (ok:P.Ok fr) {own:Int} {e:En Fa} (hf:find P.q.E own=some e) (hq:(1024:Int)<=e.q.charged) {g:Nat} (hg:g∈fr) {d:BD} (h1:d.b=P.d.b) (h2:d.top=P.d.top) (h3:d.ps=P.d.ps.erase g) (h4:d.At) :
  BackM P fr own 8 (1024*g) ((P.setQ {P.q with E:=upd P.q.E own {e.q with charged:=e.q.charged-1024}}).setD d) (fr.erase g):=by
 obtain⟨f1,f2,f3,f4,f5,f6,f7,f8⟩:=ok.q.fa own e hf;have ok1:=PL.ok_setQ ok (Q3b ok.q hf {e.q with charged:=e.q.charged-1024} ⟨by show 0<=e.q.charged-_;omega,f2,by show e.q.charged-_+e.q.given<=e.q.limit;omega,rfl,rfl⟩);have DI:(fr.erase g++P.pages).Perm d.ps:=by
  rw [h3];have:=ok.pages.erase g;rw [List.erase_append_left _ hg] at this;exact this
 have ok2:=PL.ok_setD (fr':=fr.erase g) ok1 (d:=d) h1 h2 h4 DI;refine⟨ok2,⟨rfl,rfl,h1,rfl,rfl,h2,rfl⟩,⟨e,hf,hq,rfl⟩,rfl,fun h=>absurd rfl h,fun j _=>rfl,?_,?_⟩
 ·rw [if_pos rfl];exact⟨g,rfl,rfl⟩
 ·show d.ps.length<=_;rw [h3];exact List.length_erase_le
def NoPage (P:PL):Prop:=∀p,p<2 ^ P.d.top->p∈P.d.ps
theorem NoPage.len {P:PL} (h:NoPage P):2 ^ P.d.top<=P.d.ps.length:=by
 have h1:(List.range (2 ^ P.d.top)).Nodup:=J6u;have h2:=h1.length_le_of_subset (l₂:=P.d.ps) (fun x hx=>h x (J2P.1 hx))
 simpa using h2
theorem NoRoom.page {P:PL} {n:Nat} (h:NoRoom P n):NoPage P:=by
 obtain⟨c,_,_,hn⟩:=h;exact fun p hp=>Q8K hn hp
theorem Z5k (d:BD):(∀k,k<=d.top->fstG (fre (uOf d.ps) d.top) d.top k 0=none)∨∃k0 i0,k0<=d.top/\fstG (fre (uOf d.ps) d.top) d.top k0 0=some i0/\∀k,k<k0->fstG (fre (uOf d.ps) d.top) d.top k 0=none:=by
 have key:∀n,(∀k,k<n->fstG (fre (uOf d.ps) d.top) d.top k 0=none)∨∃k0 i0,k0<n/\fstG (fre (uOf d.ps) d.top) d.top k0 0=some i0/\∀k,k<k0->fstG (fre (uOf d.ps) d.top) d.top k 0=none:=by
  intro n
  induction n with
  | zero=>left;intro k hk;omega
  | succ n ih =>
   rcases ih with h|⟨k0,i0,h1,h2,h3⟩
   ·cases hc:fstG (fre (uOf d.ps) d.top) d.top n 0 with
    | none =>
     left;intro k hk;by_cases e:k=n
     ·rw [e];exact hc
     ·exact h k (by omega)
    | some i=>right;exact⟨n,i,by omega,hc,h⟩
   ·right;exact⟨k0,i0,by omega,h2,h3⟩
 rcases key (d.top+1) with h|⟨k0,i0,h1,h2,h3⟩
 ·left;exact fun k hk=>h k (by omega)
 ·right;exact⟨k0,i0,by omega,h2,h3⟩
theorem Z5l {l:List Pl} {xc:Int->Int} {zs:List Nat} (u:QueI l xc zs) {i:Nat} {p:Pl} (hi:l[i]?=some p) (hp:p.st≠1):i≠0:=by
 obtain⟨r,r1,_,_,r4,_,_⟩:=u.root;rintro rfl;rw [r1] at hi;cases hi;exact hp r4
theorem CO.Ok.made {S:CO} {fr fr':List Nat} {N N' K:Nat} (ok:S.Ok fr N K) {P':PL} {l':List Pl} (hi:Inv P' l' fr' S.xc (S.ts.map Prod.fst)) (hn:P'.q.next<=N') (ha:∀p∈l',p.age<=S.now):((S.setP P').setL l').Ok fr' N' K:=
 ⟨hi,ok.per,ok.due,ok.ord,ok.ov,hn,ok.now,ha⟩
theorem Z5m {l:List Pl} {i n:Nat} {q:Pl} (h:∀p∈l,p.age<=n) (hq:q.age<=n):∀p∈l.set i q,p.age<=n:=fun p hp=>by
 rcases Q0o hp with rfl|hp
 ·exact hq
 ·exact h p hp
theorem Z1D {l:List Pl} {i:Nat} {p q:Pl} (hi:l[i]?=some p) (h:p.age<=q.age):∀(j:Nat) (r:Pl),l[j]?=some r->∃r':Pl,(l.set i q)[j]?=some r'/\r.age<=r'.age:=fun j r hr=>by
 by_cases e:i=j
 ·subst e;rw [hi] at hr;cases hr;exact⟨q,J6p (J2Q.1 hi).1,h⟩
 ·exact⟨r,by rw [J6h e];exact hr,J2y _⟩
theorem Went.made {S:CO} {fr:List Nat} {N K:Nat} (ok:S.Ok fr N K) {P':PL} (hs:SameP S.P P') {i:Nat} {p q:Pl} (hi:S.l[i]?=some p) (hp:p.st=0) (hq:q.age=p.age) (hk:KeptL S.P.a.mem P'.a.mem S.l) (hh:∀j,6<=j->(P'.usedOf j).Perm (S.P.usedOf j)) (hm:Z5h S.P P'):Went S ((S.setP P').setL (S.l.set i q)):=by
 have B5:=Z5l ok.inv.que hi (by omega);refine⟨rfl,rfl,rfl,rfl,hs,J2y _,Z1D hi (by omega),fun _=>⟨[],by simp [CO.setL,CO.setP],by simp⟩,J6h B5,hh,hm,rfl,fun _ x r hr=>?_⟩;obtain⟨a,b,c⟩:=pget_some.1 hr;refine⟨?_,hk r (Q0A hr) (Pl.is_iff.2 (.inr c))⟩;show pget (S.l.set i q) 2 x=some r;rw [Q0B q hi,if_neg]
 ·exact hr
 ·intro e;rw [e,hi] at a;cases a;omega
theorem CO.Ok.tried {S:CO} {fr:List Nat} {N K:Nat} (ok:S.Ok fr N K) {P':PL} (t:Tried S.P fr S.l P'):(S.setP P').Ok fr N K:=
 ⟨ok.inv.tried t,ok.per,ok.due,ok.ord,ok.ov,by show P'.q.next<=N;rw [t.q];exact ok.next,ok.now,ok.age⟩
def CO.doomed (S:CO) (h:Nat) (p:Pl) (rv:OV):CO:=(S.setL (S.l.set (h%256) {p with st:=2})).setG S.now rv (S.ts++[(h,S.now+S.period)])
def CO.Spare (S:CO) (h:Nat) (p:Pl):Prop:=∀id,S.xc id≠0->∃r∈S.l.set (h%256) {p with st:=2},r.st=1/\(r.fac:Int)=id
theorem CO.Ok.doomed {S:CO} {fr:List Nat} {N K:Nat} (ok:S.Ok fr N K) {h:Nat} {p:Pl} (hp:pget S.l 1 h=some p) (h0:h≠0) (hk:kids S.l h=[]) (Ki:S.Spare h p) {rv:OV} (DF:ovOk rv (S.ts.length+1)):(S.doomed h p rv).Ok fr N K:=by
 have Od:=ok.per;refine⟨?_,ok.per,fun x hx=>?_,?_,?_,ok.next,ok.now,Z5m ok.age (ok.age p (Q0A hp))⟩
 ·have:=ok.inv.doom hp h0 hk Ki;show Inv S.P _ fr S.xc ((S.ts++[_]).map Prod.fst);rw [J6d];exact this
 ·have BS:x∈S.ts++[(h,S.now+S.period)]:=hx;show S.now<x.2/\x.2<=S.now+S.period;rcases J3o.1 BS with BS|BS
  ·exact ok.due x BS
  ·rw [J4H] at BS;subst BS;show S.now<S.now+S.period/\S.now+S.period<=S.now+S.period;omega
 ·show (S.ts++[_]).Pairwise _;rw [J3n];refine⟨ok.ord,by simp,fun x hx y hy=>?_⟩;rw [J4H] at hy;subst hy;exact (ok.due x hx).2
 ·show ovOk rv (S.ts++[_]).length;rw [J3j];exact DF
structure Mid (S:CO) (fr:List Nat) (N K:Nat) (zs:List Nat):Prop where
 inv:Inv S.P S.l fr S.xc (zs++S.ts.map Prod.fst)
 per:1<=S.period/\S.period<=16
 due:∀x∈S.ts,S.now<x.2/\x.2<=S.now+S.period
 ord:S.ts.Pairwise (fun a b=>a.2<=b.2)
 ov:ovOk S.rv S.ts.length
 next:S.P.q.next<=N
 now:S.now<=K
 age:∀p∈S.l,p.age<=S.now/\(p.st=2->p.age+1<=S.now)
theorem Mid.ok {S:CO} {fr:List Nat} {N K:Nat} (m:Mid S fr N K []):S.Ok fr N K:=⟨m.inv,m.per,m.due,m.ord,m.ov,m.next,m.now,fun p hp=>(m.age p hp).1⟩
def dueN (S:CO):List Nat:=(S.ts.takeWhile fun x=>decide (x.2<=S.now+1)).map Prod.fst
def dueT (S:CO):List (Nat×Nat):=S.ts.dropWhile fun x=>decide (x.2<=S.now+1)
theorem Q8N {l:List (Nat×Nat)} (h:l.Pairwise (fun a b=>a.2<=b.2)) (n:Nat):∀x∈l.dropWhile (fun x=>decide (x.2<=n)),n<x.2:=by
 induction l with
 | nil=>simp
 | cons y r ih =>
  obtain⟨h1,h2⟩:=J3a.1 h;rw [List.dropWhile_cons];split
  ·exact ih h2
  ·rename_i hc;simp only [decide_eq_true_eq] at hc;intro x hx;rcases J2D.1 hx with rfl|hx
   ·omega
   ·have:=h1 x hx;omega
theorem Z5n (S:CO):S.ts.map Prod.fst=dueN S++(dueT S).map Prod.fst:=by
 unfold dueN dueT;rw [<- J6d,J6v]
theorem CO.Ok.mid {S:CO} {fr:List Nat} {N K:Nat} (ok:S.Ok fr N K) {rv:OV} (DF:ovOk rv (dueT S).length):Mid (S.setG (S.now+1) rv (dueT S)) fr N (K+1) (dueN S):=by
 refine⟨?_,ok.per,fun x hx=>?_,ok.ord.sublist (J6w _),DF,ok.next,by have:=ok.now;show S.now+1<=K+1;omega,fun p hp=>?_⟩
 ·have:=ok.inv;rw [Z5n S] at this;exact this
 ·have h1:=Q8N ok.ord (S.now+1) x hx;have h2:=ok.due x ((J6w _).subset hx);show S.now+1<x.2/\x.2<=S.now+1+S.period;omega
 ·have:=ok.age p hp;show p.age<=S.now+1/\(_->p.age+1<=S.now+1);omega
structure Ticked (S S':CO) (D:List Nat):Prop where
 c:S'.c=S.c
 t:S'.t=S.t
 g:S'.g=S.g
 per:S'.period=S.period
 same:SameP S.P S'.P
 now:S'.now=S.now
 ts:S'.ts=S.ts
 rv:S'.rv=S.rv
 next:S'.P.q.next=S.P.q.next
 mem:S'.P.a.mem=S.P.a.mem
 xc:S'.xc=S.xc
 high:∀j,6<=j->(S'.P.usedOf j).Perm (S.P.usedOf j)
 few:S'.P.d.ps.length<=S.P.d.ps.length
 age:∀(i:Nat) (p:Pl),S.l[i]?=some p->∃p':Pl,S'.l[i]?=some p'/\p.age<=p'.age
 root:S'.l[0]?=S.l[0]?
 keep:∀x p,x∉D->pget S.l 2 x=some p->pget S'.l 2 x=some p
 gone:∀x∈D,∃p':Pl,S'.l[x%256]?=some p'/\x/256<p'.age
 live:∀x,pget S'.l 1 x=pget S.l 1 x
theorem Ticked.refl (S:CO):Ticked S S []:=⟨rfl,rfl,rfl,rfl,SameP.refl _,rfl,rfl,rfl,rfl,rfl,rfl,fun _ _=>J5T _,J2y _,fun _ p h=>⟨p,h,J2y _⟩,rfl,fun _ _ _ h=>h,by simp,fun _=>rfl⟩
theorem Ticked.trans {S S1 S2:CO} {D E:List Nat} (h:Ticked S S1 D) (k:Ticked S1 S2 E):Ticked S S2 (D++E):=by
 refine⟨k.c.trans h.c,k.t.trans h.t,k.g.trans h.g,k.per.trans h.per,h.same.trans k.same,k.now.trans h.now,k.ts.trans h.ts,k.rv.trans h.rv,k.next.trans h.next,k.mem.trans h.mem,k.xc.trans h.xc,fun j hj=>(k.high j hj).trans (h.high j hj),J2z k.few h.few,fun i p hp=>?_,k.root.trans h.root,fun x p hx hp=>?_,fun x hx=>?_,fun x=>(k.live x).trans (h.live x)⟩
 ·obtain⟨p1,a1,a2⟩:=h.age i p hp;obtain⟨p2,b1,b2⟩:=k.age i p1 a1;exact⟨p2,b1,J2z a2 b2⟩
 ·rw [J3o,not_or] at hx;exact k.keep x p hx.2 (h.keep x p hx.1 hp)
 ·rcases J3o.1 hx with hx|hx
  ·obtain⟨p1,a1,a2⟩:=h.gone x hx;obtain⟨p2,b1,b2⟩:=k.age _ p1 a1;exact⟨p2,b1,by omega⟩
  ·exact k.gone x hx
theorem Mid.freed {S:CO} {fr fr':List Nat} {N K h:Nat} {zs:List Nat} (m:Mid S fr N K (h::zs)) {p:Pl} (hp:pget S.l 2 h=some p) {P':PL} (hs:SameP S.P P') (Az:P'.a.mem=S.P.a.mem) (hn:P'.q.next=S.P.q.next) (hh:∀j,6<=j->(P'.usedOf j).Perm (S.P.usedOf j)) (hw:P'.d.ps.length<=S.P.d.ps.length)
  (EB:Inv P' (S.l.set (h%256) (noPl (p.age+1))) fr' S.xc (zs++S.ts.map Prod.fst)) :
  Mid ((S.setP P').setL (S.l.set (h%256) (noPl (p.age+1)))) fr' N K zs/\Ticked S ((S.setP P').setL (S.l.set (h%256) (noPl (p.age+1)))) [h]:=by
 obtain⟨hi,JA,Ao⟩:=pget_some.1 hp;have ha:=(m.age p (Q0A hp)).2 Ao;refine⟨⟨EB,m.per,m.due,m.ord,m.ov,by show P'.q.next<=N;rw [hn];exact m.next,m.now,fun q hq=>?_⟩,⟨rfl,rfl,rfl,rfl,hs,rfl,rfl,rfl,hn,Az,rfl,hh,hw,Z1D hi (by show p.age<=p.age+1;omega),J6h (Z5l m.inv.que hi (by omega)),fun x q hx hq=>?_,fun x hx=>?_,fun x=>?_⟩⟩
 ·rcases Q0o hq with rfl|hq
  ·exact⟨ha,fun h=>by cases h⟩
  ·exact m.age q hq
 ·show pget (S.l.set (h%256) _) 2 x=some q;rw [Q0B _ hi,if_neg]
  ·exact hq
  ·intro e;exact hx (by rw [(Q0R hq hp e).1];simp)
 ·rw [J4H] at hx;subst hx;refine⟨noPl (p.age+1),J6p (J2Q.1 hi).1,?_⟩;show x/256<p.age+1;unfold nm at JA;omega
 ·show pget (S.l.set (h%256) _) 1 x=_;rw [Q0B _ hi];split
  ·rename_i e;rw [if_neg (by rintro⟨_,h⟩;cases h)];cases hx:pget S.l 1 x with
   | none=>rfl
   | some q =>
    obtain⟨a,b,c⟩:=pget_some.1 hx;rw [e,hi] at a;cases a;omega
  ·rfl
theorem Ticked.went {S S':CO} {rv:OV} {D:List Nat} (t:Ticked (S.setG (S.now+1) rv (dueT S)) S' D):Went S S':=by
 have h0:=t.now;have h1:(S.setG (S.now+1) rv (dueT S)).now=S.now+1:=rfl;exact⟨t.c,t.t,t.g,t.per,t.same,by omega,t.age,fun e=>by omega,t.root,t.high,fun j a _ _=>by rw [t.mem];exact Kept.refl _ _ _,t.xc,fun e=>by omega⟩
structure Ent where
 h:Nat
 r:Nat
 nd:Nat
def Ent.a (e:Ent):Nat:=e.h+1+4294967296*e.r
def Q0s:Option Ent->Nat
 | none=>0
 | some e=>e.a
def Q0W:Option Ent->Nat
 | none=>0
 | some e=>e.nd
theorem codeA_zero {o:Option Ent}:Q0s o=0↔o=none:=by
 cases o with
 | none=>simp [Q0s]
 | some e=>simp [Q0s,Ent.a]
structure TB where
 lf:Nat->Nat
 en:Nat->Option Ent
def TB.emp:TB:=⟨fun _=>0,fun _=>none⟩
structure TB.In (t:TB) (m:List Nat) (a:Nat):Prop where
 root:∀k,k<16->Q0u m (a+8*k)=t.lf k
 ent:∀s,s<256->t.lf (s/16)≠0->Q0u m (t.lf (s/16)+16*(s%16))=Q0s (t.en s)/\Q0u m (t.lf (s/16)+16*(s%16)+8)=Q0W (t.en s)
 hole:∀s,s<256->t.lf (s/16)=0->t.en s=Option.none
def TB.Full (t:TB):Prop:=∀k,k<16->t.lf k≠0->∃s,s<256/\s/16=k/\t.en s≠none
def TB.Nil (t:TB):Prop:=(∀k,k<16->t.lf k=0)/\∀s,s<256->t.en s=none
theorem TB.emp_nil:TB.emp.Nil:=⟨fun _ _=>rfl,fun _ _=>rfl⟩
theorem TB.In.kept {t:TB} {m m':List Nat} {a:Nat} (h:t.In m a) (k1:Kept m m' a 128) (k2:∀k,k<16->t.lf k≠0->Kept m m' (t.lf k) 256):t.In m' a:=by
 refine⟨fun k hk=>?_,fun s hs hl=>?_,h.hole⟩
 ·rw [(k1.sub (b:=a+8*k) (k:=8) (by omega) (by omega)).word];exact h.root k hk
 ·have:=k2 (s/16) (by omega) hl;rw [(this.sub (b:=t.lf (s/16)+16*(s%16)) (k:=8) (by omega) (by omega)).word,(this.sub (b:=t.lf (s/16)+16*(s%16)+8) (k:=8) (by omega) (by omega)).word];exact h.ent s hs hl
theorem TB.Nil.new {t:TB} (hn:t.Nil) {m:List Nat} {a:Nat} (h:∀j,a<=j->j<a+128->m[j]?=some 0):t.In m a:=by
 refine⟨fun k hk=>?_,fun s hs hl=>absurd (hn.1 (s/16) (by omega)) hl,fun s hs _=>hn.2 s hs⟩;have:(m.drop (a+8*k)).take 8=List.replicate 8 0:=by
  apply J4i
  intro j;rw [J4D,J4B];split
  ·rw [J5c];exact h _ (by omega) (by omega)
  ·rfl
 unfold Q0u;rw [this,hn.1 k hk];rfl
theorem TB.Nil.full {t:TB} (hn:t.Nil):t.Full:=fun k hk h=>absurd (hn.1 k hk) h
def TB.setE (t:TB) (s:Nat) (o:Option Ent):TB:={t with en:=fun x=>if x=s then o else t.en x}
def TB.setL (t:TB) (k a:Nat):TB:={t with lf:=fun x=>if x=k then a else t.lf x}
theorem TB.In.set {t:TB} {m m':List Nat} {a s:Nat} {o:Option Ent} (h:t.In m a) (hs:s<256) (hl:t.lf (s/16)≠0) (hk:∀b n,b+n<=t.lf (s/16)+16*(s%16)∨t.lf (s/16)+16*(s%16)+16<=b->Kept m m' b n)
  (ha:Q0u m' (t.lf (s/16)+16*(s%16))=Q0s o) (hb:Q0u m' (t.lf (s/16)+16*(s%16)+8)=Q0W o) (AA:a+128<=t.lf (s/16)∨t.lf (s/16)+256<=a)
  (F7:∀k,k<16->k≠s/16->t.lf k≠0->t.lf k+256<=t.lf (s/16)∨t.lf (s/16)+256<=t.lf k):(t.setE s o).In m' a:=by
 refine⟨fun k Bu=>?_,fun x hx Dr=>?_,fun x hx Dr=>?_⟩
 ·show Q0u m' _=t.lf k;rw [(hk (a+8*k) 8 (by omega)).word];exact h.root k Bu
 ·have EG:t.lf (x/16)≠0:=Dr;show Q0u m' (t.lf (x/16)+_)=Q0s (if x=s then o else t.en x)/\Q0u m' (t.lf (x/16)+_+8)=Q0W (if x=s then o else t.en x);by_cases e:x=s
  ·subst e;rw [if_pos rfl];exact⟨ha,hb⟩
  ·rw [if_neg e];by_cases e2:x/16=s/16
   ·rw [e2] at EG ⊢;have Aa:x%16≠s%16:=by omega
    have h0:=h.ent x hx (by rw [e2];exact EG);rw [e2] at h0;rw [(hk (t.lf (s/16)+16*(x%16)) 8 (by omega)).word,(hk (t.lf (s/16)+16*(x%16)+8) 8 (by omega)).word];exact h0
   ·have:=F7 (x/16) (by omega) e2 EG;rw [(hk (t.lf (x/16)+16*(x%16)) 8 (by omega)).word,(hk (t.lf (x/16)+16*(x%16)+8) 8 (by omega)).word];exact h.ent x hx EG
 ·have EG:t.lf (x/16)=0:=Dr;show (if x=s then o else t.en x)=none;by_cases e:x=s
  ·subst e;exact absurd EG hl
  ·rw [if_neg e];exact h.hole x hx EG
theorem TB.In.grow {t:TB} {m m':List Nat} {a k L:Nat} (h:t.In m a) (hk:k<16) (hl:t.lf k=0) (hL:L≠0) (Bv:Q0u m' (a+8*k)=L) (hz:∀j,L<=j->j<L+256->m'[j]?=some 0)
  (hr:∀x,x<16->x≠k->Kept m m' (a+8*x) 8) (F7:∀x,x<16->t.lf x≠0->Kept m m' (t.lf x) 256):(t.setL k L).In m' a:=by
 refine⟨fun x hx=>?_,fun s hs Eh=>?_,fun s hs Eh=>?_⟩
 ·show Q0u m' _=if x=k then L else t.lf x
  by_cases e:x=k
  ·subst e;rw [if_pos rfl];exact Bv
  ·rw [if_neg e,(hr x hx e).word];exact h.root x hx
 ·show Q0u m' ((if s/16=k then L else t.lf (s/16))+_)=Q0s (t.en s)/\Q0u m' ((if s/16=k then L else t.lf (s/16))+_+8)=Q0W (t.en s);by_cases e:s/16=k
  ·rw [if_pos e];have hn:=h.hole s hs (by rw [e];exact hl);rw [hn];have zw:∀b,L<=b->b+8<=L+256->Q0u m' b=0:=fun b h1 h2=>by
    have:(m'.drop b).take 8=List.replicate 8 0:=by
     apply J4i
     intro j;rw [J4D,J4B];split
     ·rw [J5c];exact hz _ (by omega) (by omega)
     ·rfl
    unfold Q0u;rw [this];rfl
   exact⟨zw _ (by omega) (by omega),zw _ (by omega) (by omega)⟩
  ·rw [if_neg e];have EJ:t.lf (s/16)≠0:=by
    have:(if s/16=k then L else t.lf (s/16))≠0:=Eh
    rwa [if_neg e] at this
   have:=F7 (s/16) (by omega) EJ;rw [(this.sub (b:=t.lf (s/16)+16*(s%16)) (k:=8) (by omega) (by omega)).word,(this.sub (b:=t.lf (s/16)+16*(s%16)+8) (k:=8) (by omega) (by omega)).word];exact h.ent s hs EJ
 ·have EJ:(if s/16=k then L else t.lf (s/16))=0:=Eh;show t.en s=none;by_cases e:s/16=k
  ·rw [if_pos e] at EJ;exact absurd EJ hL
  ·rw [if_neg e] at EJ;exact h.hole s hs EJ
theorem TB.In.drop {t:TB} {m m':List Nat} {a k:Nat} (h:t.In m a) (hk:k<16) (he:∀s,s<256->s/16=k->t.en s=none) (Bv:Q0u m' (a+8*k)=0)
  (hr:∀x,x<16->x≠k->Kept m m' (a+8*x) 8) (F7:∀x,x<16->x≠k->t.lf x≠0->Kept m m' (t.lf x) 256):(t.setL k 0).In m' a:=by
 refine⟨fun x hx=>?_,fun s hs Eh=>?_,fun s hs Eh=>?_⟩
 ·show Q0u m' _=if x=k then 0 else t.lf x
  by_cases e:x=k
  ·subst e;rw [if_pos rfl];exact Bv
  ·rw [if_neg e,(hr x hx e).word];exact h.root x hx
 ·have EO:(if s/16=k then 0 else t.lf (s/16))≠0:=Eh;have e:s/16≠k:=fun e=>EO (by rw [if_pos e])
  rw [if_neg e] at EO;show Q0u m' ((if s/16=k then 0 else t.lf (s/16))+_)=Q0s (t.en s)/\Q0u m' ((if s/16=k then 0 else t.lf (s/16))+_+8)=Q0W (t.en s);rw [if_neg e];have:=F7 (s/16) (by omega) e EO;rw [(this.sub (b:=t.lf (s/16)+16*(s%16)) (k:=8) (by omega) (by omega)).word,(this.sub (b:=t.lf (s/16)+16*(s%16)+8) (k:=8) (by omega) (by omega)).word];exact h.ent s hs EO
 ·have EO:(if s/16=k then 0 else t.lf (s/16))=0:=Eh;show t.en s=none;by_cases e:s/16=k
  ·exact he s hs e
  ·rw [if_neg e] at EO;exact h.hole s hs EO
def TB.lvs (t:TB):List Nat:=(List.range 16).filterMap fun k=>if t.lf k=0 then none else some (t.lf k)
def TB.nds (t:TB):List Nat:=(List.range 256).filterMap fun s=>(t.en s).map Ent.nd
def TB.cost (t:TB):Int:=256*(t.lvs.length:Int)+48*(t.nds.length:Int)
theorem mem_lvs {t:TB} {a:Nat}:a∈t.lvs↔∃k,k<16/\t.lf k=a/\a≠0:=by
 unfold TB.lvs;simp only [J2O,J2P]
 constructor
 ·rintro⟨k,hk,h⟩;split at h
  ·cases h
  ·rename_i h0;cases h;exact⟨k,hk,rfl,h0⟩
 ·rintro⟨k,hk,rfl,h0⟩;exact⟨k,hk,by rw [if_neg h0]⟩
theorem mem_nds {t:TB} {a:Nat}:a∈t.nds↔∃s e,s<256/\t.en s=some e/\e.nd=a:=by
 unfold TB.nds;simp only [J2O,J2P]
 constructor
 ·rintro⟨s,hs,h⟩;obtain⟨e,h1,h2⟩:=J6x.1 h;exact⟨s,e,hs,h1,h2⟩
 ·rintro⟨s,e,hs,h1,h2⟩;exact⟨s,hs,by rw [h1,<- h2];rfl⟩
theorem Q4x {α β:Type} {f g:α->Option β}:∀{l:List α},(∀x∈l,f x=g x)->l.filterMap f=l.filterMap g
 | [],_=>rfl
 | x::r,h=>by rw [J2L,J2L,h x (by simp),Q4x (l:=r) fun y hy=>h y (by simp [hy])]
theorem Q7X {α β:Type} (f g:Nat->Option β) (n i:Nat) (hi:i<n) (h:∀j,j<n->j≠i->g j=f j):∃A B,(List.range n).filterMap f=A++(f i).toList++B/\(List.range n).filterMap g=A++(g i).toList++B:=by
 have e:List.range n=List.range i++i::(List.range' (i+1) (n-(i+1))):=by
  rw [List.range_eq_range',List.range_eq_range'];have h1:List.range' 0 n=List.range' 0 i++List.range' i (n-i):=by
   have:=List.range'_append (s:=0) (m:=i) (n:=n-i) (step:=1);simp only [Nat.one_mul,J5e] at this;rw [this];congr 1;omega
  rw [h1];congr 1;have:n-i=(n-(i+1))+1:=by omega
  rw [this,List.range'_succ]
 have s1:∀(f:Nat->Option β),(List.range n).filterMap f=(List.range i).filterMap f++(f i).toList++(List.range' (i+1) (n-(i+1))).filterMap f:=fun f=>by
  rw [e,J2K,J2L];cases f i <;> simp
 refine⟨(List.range i).filterMap f,(List.range' (i+1) (n-(i+1))).filterMap f,s1 f,?_⟩;rw [s1 g];have c1:(List.range i).filterMap g=(List.range i).filterMap f:=Q4x fun j hj=>h j (by have:=J2P.1 hj;omega) (by have:=J2P.1 hj;omega)
 have c2:(List.range' (i+1) (n-(i+1))).filterMap g=(List.range' (i+1) (n-(i+1))).filterMap f:=Q4x fun j hj=>by
  have:=List.mem_range'_1.1 hj;exact h j (by omega) (by omega)
 rw [c1,c2]
theorem TB.nds_set {t:TB} {s:Nat} (hs:s<256) {e:Ent} (h0:t.en s=none):(t.setE s (some e)).nds.Perm (e.nd::t.nds):=by
 obtain⟨A,B,e1,e2⟩:=Q7X (α:=Nat) (fun s=>(t.en s).map Ent.nd) (fun x=>((t.setE s (some e)).en x).map Ent.nd) 256 s hs (fun j _ hj=>by simp [TB.setE,hj]);unfold TB.nds;rw [e1,e2];simp only [TB.setE,if_true,h0,J4o,Option.map_none,J6y,J6z,J4G];rw [J3A];exact J6e
theorem TB.nds_clr {t:TB} {s:Nat} (hs:s<256) {e:Ent} (h0:t.en s=some e):t.nds.Perm (e.nd::(t.setE s none).nds):=by
 obtain⟨A,B,e1,e2⟩:=Q7X (α:=Nat) (fun s=>(t.en s).map Ent.nd) (fun x=>((t.setE s none).en x).map Ent.nd) 256 s hs (fun j _ hj=>by simp [TB.setE,hj]);unfold TB.nds;rw [e1,e2];simp only [TB.setE,if_true,h0,J4o,Option.map_none,J6y,J6z,J4G];rw [J3A];exact J6e
theorem TB.nds_same {t:TB} {s:Nat} (hs:s<256) {e e':Ent} (h0:t.en s=some e) (hn:e'.nd=e.nd):(t.setE s (some e')).nds=t.nds:=by
 unfold TB.nds;refine Q4x fun x _=>?_
 by_cases h:x=s
 ·subst h;simp [TB.setE,h0,hn]
 ·simp [TB.setE,h]
theorem TB.lvs_new {t:TB} {k a:Nat} (hk:k<16) (h0:t.lf k=0) (ha:a≠0):(t.setL k a).lvs.Perm (a::t.lvs):=by
 obtain⟨A,B,e1,e2⟩:=Q7X (α:=Nat) (fun k=>if t.lf k=0 then none else some (t.lf k)) (fun x=>if (t.setL k a).lf x=0 then none else some ((t.setL k a).lf x)) 16 k hk (fun j _ hj=>by simp [TB.setL,hj]);unfold TB.lvs;rw [e1,e2];simp only [TB.setL,if_true,h0,if_neg ha,J6y,J6z,J4G];rw [J3A];exact J6e
theorem TB.lvs_drop {t:TB} {k:Nat} (hk:k<16) (h0:t.lf k≠0):t.lvs.Perm (t.lf k::(t.setL k 0).lvs):=by
 obtain⟨A,B,e1,e2⟩:=Q7X (α:=Nat) (fun k=>if t.lf k=0 then none else some (t.lf k)) (fun x=>if (t.setL k 0).lf x=0 then none else some ((t.setL k 0).lf x)) 16 k hk (fun j _ hj=>by simp [TB.setL,hj]);unfold TB.lvs;rw [e1,e2];simp only [TB.setL,if_true,if_neg h0,J6y,J6z,J4G];rw [J3A];exact J6e
theorem TB.Nil.lists {t:TB} (hn:t.Nil):t.lvs=[]/\t.nds=[]/\t.cost=0:=by
 have h1:t.lvs=[]:=by
  apply J6A.2
  intro a ha;obtain⟨k,hk,e,h0⟩:=mem_lvs.1 ha;rw [hn.1 k hk] at e;exact h0 e.symm
 have h2:t.nds=[]:=by
  apply J6A.2
  intro a ha;obtain⟨s,e,hs,h,_⟩:=mem_nds.1 ha;rw [hn.2 s hs] at h;cases h
 refine⟨h1,h2,?_⟩;unfold TB.cost;rw [h1,h2];rfl
theorem TB.nil_of {t:TB} (hf:t.Full) (h:∀s,s<256->t.en s=none):t.Nil:=by
 refine⟨fun k hk=>?_,h⟩
 apply Classical.byContradiction
 intro h0;obtain⟨s,hs,_,Aa⟩:=hf k hk h0;exact Aa (h s hs)
theorem TB.cost_nn (t:TB):0<=t.cost:=by unfold TB.cost;omega
end Go.Proofs.YtfidemmgofcnmaaGreatDoor
