/- CarryPages returns true at every input. No condition. Part of its proof. -/
import Derived.Test.YtfidemmgofcnmaaGreatDoorCg07
import Derived.Laws.BitsAllLaws
import Derived.Laws.Rows
import Derived.Deep.AppendSrc
set_option maxHeartbeats 4000000
set_option maxRecDepth 100000
set_option linter.unusedVariables false
namespace Go.Proofs.YtfidemmgofcnmaaGreatDoor
open Go.RowKit Go.Proofs.Tryz
def Kept(m m':List Nat)(a n:Nat):Prop:=∀i,a<=i->i<a+n->m'[i]?=m[i]?
theorem Kept.word{m m':List Nat}{a:Nat}(h:Kept m m' a 8):Q0j m' a=Q0j m a:=by
 unfold Q0j;congr 1
 apply J0R
 intro i;rw[J1m,J1m];split
 ·rw[J1L,J1L];exact h _ (by omega) (by omega)
 ·rfl
theorem Kept.sub{m m':List Nat}{a n b k:Nat}(h:Kept m m' a n)(h1:a<=b)(h2:b+k<=a+n):Kept m m' b k:=fun i h3 h4=>h i (by omega) (by omega)
theorem Q1j{m bs:List Nat}{a b n:Nat}(hl:a+bs.length<=m.length)(h:b+n<=a∨a+bs.length<=b):Kept m (put_ m a bs) b n:=fun i h1 h2=>by
 rw[Q3S _ _ _ hl];split
 ·rfl
 ·rw[if_neg (by omega)]
theorem Q5P{m bs:List Nat}{a:Nat}(hl:a+bs.length<=m.length){i:Nat}(hi:i<bs.length):(put_ m a bs)[a+i]?=bs[i]?:=by
 rw[Q3S _ _ _ hl,if_neg (by omega),if_pos (by omega)];congr 1;omega
theorem Kept.trans{m m1 m2:List Nat}{a n:Nat}(h:Kept m m1 a n)(k:Kept m1 m2 a n):Kept m m2 a n:=fun i h1 h2=>(k i h1 h2).trans (h i h1 h2)
theorem Kept.refl(m:List Nat)(a n:Nat):Kept m m a n:=fun _ _ _=>rfl
theorem Q4j{P:PL}{fr:List Nat}(ok:P.Ok fr){k a:Nat}(ha:a∈P.usedOf k):∃g∈P.pages,1024*g+64<=a/\a+Q0d k<=1024*g+1024:=by
 obtain⟨c,hc,ha⟩:=Q1V ha;obtain⟨k1,k2,_,_⟩:=PL.Cls.facts ok hc;obtain⟨x,hx,x1,x2⟩:=Q6q k1 ha;rw[k2] at x2;refine⟨x.2,?_,x1,x2⟩;exact Z9P.2 ⟨c,J1x hc.2,J0b hx⟩
theorem Q2w{P:PL}{fr:List Nat}(ok:P.Ok fr):fr.Nodup/\(∀g∈fr,g∉P.pages)/\∀g∈fr,g<2 ^ P.d.top:=by
 have h:=(ok.pages.nodup_iff).2 ok.d.nd;obtain⟨h1,h2,h3⟩:=J0c.1 h;exact⟨h1,fun g hg hp=>h3 g hg g hp rfl,fun g hg=>ok.d.lt g (ok.pages.mem_iff.1 (by simp[hg]))⟩
theorem Q1w{P:PL}{fr:List Nat}(ok:P.Ok fr){k a g:Nat}(hg:g∈fr)(ha:a∈P.usedOf k):a+Q0d k<=1024*g∨1024*g+1024<=a:=by
 obtain⟨p,hp,h1,h2⟩:=Q4j ok ha;have:g≠p:=fun e=>(Q2w ok).2.1 g hg (e ▸ hp)
 omega
theorem Z2g{P:PL}{fr:List Nat}(ok:P.Ok fr){g:Nat}(hg:g∈fr):1024*g+1024<=P.a.mem.length:=by
 have:=(Q2w ok).2.2 g hg;rw[ok.mem,J0K,show(2:Nat) ^ 10=1024 from rfl];omega
theorem Z2h(n:Nat):Q0d n%8=0:=by
 by_cases h:n<8
 ·have hn:n=0∨n=1∨n=2∨n=3∨n=4∨n=5∨n=6∨n=7:=by omega
  rcases hn with rfl|rfl|rfl|rfl|rfl|rfl|rfl|rfl <;> decide
 ·rw[Q4L (by omega)]
theorem Q1N{P:PL}{fr:List Nat}(ok:P.Ok fr){k a:Nat}(ha:a∈P.usedOf k):a%8=0:=by
 obtain⟨c,hc,ha⟩:=Q1V ha;obtain⟨_,k2,_,_⟩:=PL.Cls.facts ok hc;unfold CA.used at ha;obtain⟨x,_,ha⟩:=Z9P.1 ha;unfold Q0W at ha;obtain⟨i,_,rfl⟩:=Z9y.1 ha;unfold addr;rw[k2];have h0:=Z2h k;have:i*Q0d k%8=0:=by rw[Nat.mul_mod,h0];simp
 omega
theorem Q1x{P:PL}{fr:List Nat}(ok:P.Ok fr){k a:Nat}(ha:a∈P.usedOf k):1<=k/\k<=7:=by
 obtain⟨c,hc,_⟩:=Q1V ha;exact⟨hc.1,(PL.Cls.facts ok hc).2.2.2⟩
structure SameP(P P':PL):Prop where
 p:P'.p=P.p
 qt:P'.q.t=P.q.t
 db:P'.d.b=P.d.b
 aa:P'.a.a=P.a.a
 amb:P'.a.mb=P.a.mb
 top:P'.d.top=P.d.top
 len:P'.a.mem.length=P.a.mem.length
theorem SameP.refl(P:PL):SameP P P:=⟨rfl,rfl,rfl,rfl,rfl,rfl,rfl⟩
theorem SameP.trans{P P1 P2:PL}(h:SameP P P1)(k:SameP P1 P2):SameP P P2:=
 ⟨k.p.trans h.p,k.qt.trans h.qt,k.db.trans h.db,k.aa.trans h.aa,k.amb.trans h.amb,k.top.trans h.top,k.len.trans h.len⟩
structure GotM(P:PL)(fr:List Nat)(own:Int)(k a:Nat)(P':PL)(fr':List Nat):Prop where
 ok:P'.Ok fr'
 same:SameP P P'
 q:∃e,find P.q.E own=some e/\((costK k:Nat):Int)<=e.q.limit-(e.q.charged+e.q.given)/\P'.q={P.q with E:=upd P.q.E own {e.q with charged:=e.q.charged+((costK k:Nat):Int)}}
 mem:P'.a.mem=put_ P.a.mem a (List.replicate (costK k) 0)
 used:k≠8->(P'.usedOf k).Perm (a::P.usedOf k)
 other:∀j,j≠k->P'.usedOf j=P.usedOf j
 frs:if k=8 then ∃g,a=1024*g/\fr'=g::fr else fr'=fr
 few:P'.d.ps.length<=P.d.ps.length+1
theorem GetOk.gotM{P P':PL}{fr:List Nat}{own:Int}{n a:Nat}(g:GetOk P fr own n a P')(ok:P.Ok fr):GotM P fr own n a P' fr:=by
 obtain⟨c,c',h1,h2,h3⟩:=g.which;obtain⟨A,B,u1,u2⟩:=g.used;have ha:a∈P'.usedOf n:=by rw[u2];simp
 have hn:=Q1x g.ok ha;have CR:costK n=Q0d n:=by unfold costK;rw[if_neg (by omega)]
 obtain⟨e,q1,q2,q3⟩:=g.q;refine⟨g.ok,⟨g.p,g.qt,g.db,g.aa,g.amb,g.top,?_⟩,⟨e,q1,by rw[CR];exact q2,by rw[CR];exact q3⟩,by rw[CR];exact g.mem,fun _=>?_,g.other,by rw[if_neg (by omega)],?_⟩
 ·rw[g.ok.mem,ok.mem,g.top]
 ·rw[u1,u2];exact J2K
 ·rcases h3.pages with ⟨_,e⟩|⟨p,_,_,e⟩
  ·rw[e];omega
  ·rw[e];simp
theorem GotM.room{P P':PL}{fr fr':List Nat}{own:Int}{k a:Nat}(g:GotM P fr own k a P' fr'):a+costK k<=P.a.mem.length/\a%8=0:=by
 by_cases h:k=8
 ·have hf:=g.frs;rw[if_pos h] at hf;obtain⟨x,rfl,hx⟩:=hf;have:=Z2g g.ok (g:=x) (by rw[hx];simp);rw[g.same.len] at this;have:costK k=1024:=by unfold costK;rw[if_pos h]
  omega
 ·have ha:a∈P'.usedOf k:=(g.used h).mem_iff.2 (by simp);have h1:=Q0l g.ok ha;have:costK k=Q0d k:=by unfold costK;rw[if_neg h]
  have h2:=Q1N g.ok ha;have h3:=g.same.len;omega
theorem GotM.apart{P P':PL}{fr fr':List Nat}{own:Int}{k a:Nat}(g:GotM P fr own k a P' fr')(ok:P.Ok fr):(∀j b,b∈P.usedOf j->a+costK k<=b∨b+Q0d j<=a)/\∀x∈fr,a+costK k<=1024*x∨1024*x+1024<=a:=by
 by_cases h:k=8
 ·have CR:costK k=1024:=by unfold costK;rw[if_pos h]
  have hf:=g.frs;rw[if_pos h] at hf;obtain⟨y,rfl,hy⟩:=hf;have P4:y∈fr':=by rw[hy];simp
  refine⟨fun j b hb=>?_,fun x hx=>?_⟩
  ·have hj:=Q1x ok hb;have Al:b∈P'.usedOf j:=by rw[g.other j (by omega)];exact hb
   have:=Q1w g.ok P4 Al;omega
  ·have AE:=(Q2w g.ok).1;rw[hy] at AE;have:x≠y:=fun e=>(J0f.1 AE).1 (e ▸ hx)
   omega
 ·have CR:costK k=Q0d k:=by unfold costK;rw[if_neg h]
  have hf:=g.frs;rw[if_neg h] at hf;have ha:a∈P'.usedOf k:=(g.used h).mem_iff.2 (by simp);refine⟨fun j b hb=>?_,fun x hx=>?_⟩
  ·rw[CR];by_cases e:j=k
   ·subst e;have AE:(P'.usedOf j).Nodup:=(Q1A g.ok j).imp fun h=>Nat.ne_of_lt h
    have LS:=(g.used h).nodup_iff.1 AE;have Ab:a≠b:=fun e=>(J0f.1 LS).1 (e ▸ hb)
    have Al:b∈P'.usedOf j:=(g.used h).mem_iff.2 (by simp[hb]);exact Q2R g.ok ha Al (fun e=>Ab e.2)
   ·have Al:b∈P'.usedOf j:=by rw[g.other j e];exact hb
    exact Q2R g.ok ha Al (fun e'=>e e'.1.symm)
  ·rw[CR];exact Q1w g.ok (by rw[hf];exact hx) ha
theorem GotM.grewM{P P':PL}{fr fr':List Nat}{own:Int}{k a:Nat}(g:GotM P fr own k a P' fr')(ok:P.Ok fr)(hk:k≠1):Z7u P fr k a 0 P' fr':=by
 have hr:=g.room.1;refine⟨g.ok,g.used,g.other,g.frs,fun b hb=>?_,fun h=>absurd h hk⟩;have h1:=(g.apart ok).1 1 b hb;rw[g.mem];exact(Q1j (by rw[Z9C];exact hr) (by rw[Z9C];have:Q0d 1=64:=rfl;omega)).word
theorem GotM.grewF{P P' P2:PL}{fr fr':List Nat}{own:Int}{a:Nat}(g:GotM P fr own 1 a P' fr')(ok:P.Ok fr){x:Nat}(hx:x<18446744073709551616)(hm:P2.a.mem=put_ P'.a.mem a (Q0c x))(hu:∀j,P2.usedOf j=P'.usedOf j)(Bf:P2.Ok fr'):Z7u P fr 1 a x P2 fr':=by
 have hr:=g.room.1;have Da:costK 1=64:=rfl;have EG:(Q0c x).length=8:=rfl;have hl:=g.same.len;refine⟨Bf,fun h=>by rw[hu];exact g.used h,fun j hj=>by rw[hu];exact g.other j hj,g.frs,fun b hb=>?_,fun _=>?_⟩
 ·have h1:=(g.apart ok).1 1 b hb;have Rw:Q0d 1=64:=rfl;have k1:Kept P.a.mem P'.a.mem b 8:=by
   rw[g.mem];exact Q1j (by rw[Z9C];exact hr) (by rw[Z9C];omega)
  have k2:Kept P'.a.mem P2.a.mem b 8:=by
   rw[hm];exact Q1j (by rw[EG];omega) (by rw[EG];omega)
  exact(k1.trans k2).word
 ·rw[hm];unfold Q0j;have:((put_ P'.a.mem a (Q0c x)).drop a).take 8=Q0c x:=by
   apply J0R
   intro i;rw[J1m];split
   ·rw[J1L];exact Q5P (by rw[EG];omega) (by rw[EG];assumption)
   ·rw[J0Y (by rw[EG];omega)]
  rw[this];exact Q1U x hx
structure Z2i(P:PL)(fr:List Nat)(own:Int)(k a:Nat)(P':PL)(fr':List Nat):Prop where
 ok:P'.Ok fr'
 same:SameP P P'
 q:∃e,find P.q.E own=some e/\((costK k:Nat):Int)<=e.q.charged/\P'.q={P.q with E:=upd P.q.E own {e.q with charged:=e.q.charged-((costK k:Nat):Int)}}
 mem:P'.a.mem=P.a.mem
 used:k≠8->(P.usedOf k).Perm (a::P'.usedOf k)
 other:∀j,j≠k->P'.usedOf j=P.usedOf j
 frs:if k=8 then ∃g,a=1024*g/\fr'=fr.erase g else fr'=fr
 few:P'.d.ps.length<=P.d.ps.length
theorem PutOk.backM{P P':PL}{fr:List Nat}{own:Int}{n a:Nat}(g:PutOk P fr own n a P')(ok:P.Ok fr):Z2i P fr own n a P' fr:=by
 obtain⟨c,c',h1,h2,h3⟩:=g.which;obtain⟨A,B,u1,u2⟩:=g.used;have ha:a∈P.usedOf n:=by rw[u1];simp
 have hn:=Q1x ok ha;have CR:costK n=Q0d n:=by unfold costK;rw[if_neg (by omega)]
 obtain⟨e,q1,q2,q3⟩:=g.q;refine⟨g.ok,⟨g.p,g.qt,g.db,by rw[g.aa],by rw[g.aa],g.top,by rw[g.aa]⟩,⟨e,q1,by rw[CR];exact q2,by rw[CR];exact q3⟩,by rw[g.aa],fun _=>?_,g.other,by rw[if_neg (by omega)],?_⟩
 ·rw[u1,u2];exact J2K
 ·rcases h3.pages with ⟨_,e⟩|⟨p,_,e⟩
  ·rw[e];omega
  ·rw[e];exact List.length_erase_le
theorem GotM.high{P P':PL}{fr fr':List Nat}{own:Int}{k a:Nat}(g:GotM P fr own k a P' fr')(ok:P.Ok fr)(hk:k=8∨k<=5):∀j,6<=j->(P'.usedOf j).Perm (P.usedOf j):=fun j hj=>by
 by_cases e:j=k
 ·have h8:j=8:=by omega
  rw[Q2P g.ok (by rw[h8];rfl),Q2P ok (by rw[h8];rfl)]
 ·rw[g.other j e]
abbrev x0:Int->Int:=fun _=>0
def KeptL(m m':List Nat)(l:List Pl):Prop:=∀r∈l,r.is=true->Kept m m' r.at_ (costK r.kind)
theorem costK_8:costK 8=1024:=rfl
theorem Q0Z{k:Nat}(h:k≠8):costK k=Q0d k:=by unfold costK;rw[if_neg h]
theorem KeptL.of_apart{P:PL}{l:List Pl}{fr:List Nat}(m:MemI P l fr){a n:Nat}{m':List Nat}(hm:∀b k,b+k<=a∨a+n<=b->Kept P.a.mem m' b k)
  (h:(∀j b,b∈P.usedOf j->a+n<=b∨b+Q0d j<=a)/\∀x∈fr,a+n<=1024*x∨1024*x+1024<=a):KeptL P.a.mem m' l:=fun r hr A4=>by
 by_cases h8:r.kind=8
 ·obtain⟨g,hg,e⟩:=m.frame hr A4 h8;have:=h.2 g hg;rw[h8,costK_8];exact hm _ _ (by omega)
 ·have hu:=m.used hr A4 h8;have:=h.1 _ _ hu;rw[Q0Z h8];exact hm _ _ (by omega)
theorem Z6C{l:List Pl}{i:Nat}{q:Pl}(h:∀p∈l,p.st<=2/\p.age<=1048575)(hq:q.st<=2/\q.age<=1048575):∀p∈l.set i q,p.st<=2/\p.age<=1048575:=fun p hp=>by
 rcases Q0X hp with rfl|hp
 ·exact hq
 ·exact h p hp
theorem GotM.keptL{P P':PL}{l:List Pl}{fr fr':List Nat}{own:Int}{k a:Nat}(g:GotM P fr own k a P' fr')(m:MemI P l fr):KeptL P.a.mem P'.a.mem l:=
 KeptL.of_apart m (n:=costK k) (a:=a) (fun b j h=>by
  rw[g.mem];exact Q1j (by rw[Z9C];exact g.room.1) (by rw[Z9C];exact h)) (g.apart m.pool)
def Z7v(P P':PL):Prop:=∀j a,6<=j->a∈P.usedOf j->Kept P.a.mem P'.a.mem a (Q0d j)
theorem GotM.keptH{P P':PL}{fr fr':List Nat}{own:Int}{k a:Nat}(g:GotM P fr own k a P' fr')(ok:P.Ok fr):Z7v P P':=fun j b _ hb=>by
 have:=(g.apart ok).1 j b hb;rw[g.mem];exact Q1j (by rw[Z9C];exact g.room.1) (by rw[Z9C];omega)
theorem Inv.addN{P P':PL}{l:List Pl}{fr fr':List Nat}{xc:Int->Int}{zs:List Nat}(v:Inv P l fr xc zs){i k a h:Nat}{p f:Pl}(g:GotM P fr f.own k a P' fr')(hi:l[i]?=some p)(hp:p.st=0)(hk:k=8∨(2<=k/\k<=5))(hf:pget l 1 h=some f)(CF:f.kind=1) :
  Inv P' (l.set i ⟨k,a,f.own,1,p.age,0⟩) fr' xc zs:=by
 have El:p.is=false:=Pl.not_is.2 ⟨by omega,by omega⟩;obtain⟨e,q1,q2,q3⟩:=g.q;refine⟨by rw[J0V];exact v.len,Z6C v.st ⟨by show(1:Nat)<=2;omega,(v.st p (J1x hi)).2⟩,?_,?_,?_⟩
 ·exact v.mem.add (q:=⟨k,a,f.own,1,p.age,0⟩) (g.grewM v.mem.pool (by omega)) hi El rfl (by show k=8∨(1<=k/\k<=5);omega)
 ·rw[q3];exact v.tre.addN (q:=⟨k,a,f.own,1,p.age,0⟩) v.mem.pool.q.ids hi El rfl (by show k≠1;omega) q1
 ·exact v.que.add hi hp rfl (Q1i hf) (pget_some.1 hf).2.2 CF rfl
theorem TreI.parent_lt{E:List (En Fa)}{l:List Pl}{xc:Int->Int}(t:TreI E l xc)(Ag:E.Pairwise (fun a b=>a.id≠b.id)){N:Int}(h0:0<N)(hN:∀id e,find E id=some e->0<=id/\id<N){x:En Fa}(hx:x∈E):x.q.parent<N/\x.q.parent≠N:=by
 have hm:x.id∈Z2e l:=t.ids.mem_iff.1 (J0b hx);obtain⟨p,hp,FF⟩:=Z9H.1 hm;unfold ownF at FF;split at FF
 ·rename_i hc;simp only[Z9M,beq_iff_eq] at hc;have hid:(p.own:Int)=x.id:=J0g FF;have Lh:find E p.own=some x:=by rw[hid];exact Q8i Ag hx
  obtain⟨b1,b2⟩:=t.par p hp hc.1 hc.2 x Lh;have:=hN _ _ Lh;by_cases Ct:p.own=0
  ·have:=b1 Ct;omega
  ·have:=b2 Ct;omega
 ·cases FF
theorem Inv.addF{P P' P2:PL}{l:List Pl}{fr fr':List Nat}{xc:Int->Int}{zs:List Nat}(v:Inv P l fr xc zs){i a h b x:Nat}{limit:Int}{p f:Pl}{e:En Fa}(g:GotM P fr f.own 1 a P' fr')(hi:l[i]?=some p)(hp:p.st=0)(hf:pget l 1 h=some f)(CF:f.kind=1)
  (hx:(x:Int)=P.q.next) (he:find P.q.E f.own=some e)
  (hq:P2.q.E=upd P.q.E f.own {e.q with charged:=e.q.charged+64,given:=e.q.given+limit,kids:=e.q.kids+1}++[⟨x,b,⟨limit,0,0,f.own,0⟩⟩]) (hm:P2.a.mem=put_ P'.a.mem a (Q0c x)) (hu:∀j,P2.usedOf j=P'.usedOf j) (Bf:P2.Ok fr') :
  Inv P2 (l.set i ⟨1,a,f.own,1,p.age,x⟩) fr' xc zs:=by
 have El:p.is=false:=Pl.not_is.2 ⟨by omega,by omega⟩;have Ag:=v.mem.pool.q.ids;have hN:∀id e,find P.q.E id=some e->0<=id/\id<P.q.next:=fun id e h=>by
  have:=v.mem.pool.q.fa id e h;exact⟨this.2.2.2.2.2.2.1,this.2.2.2.2.2.2.2⟩
 have Cw:=v.mem.pool.q.next1;have Aq:find P.q.E (x:Int)=none:=by
  cases hc:find P.q.E (x:Int) with
  | none=>rfl
  | some y=>have:=hN _ _ hc;omega
 have Aa:f.own<x:=by have:=hN _ _ he;omega
 refine⟨by rw[J0V];exact v.len,Z6C v.st ⟨by show(1:Nat)<=2;omega,(v.st p (J1x hi)).2⟩,?_,?_,?_⟩
 ·exact v.mem.add (q:=⟨1,a,f.own,1,p.age,x⟩) (g.grewF v.mem.pool (by show x<_;omega) hm hu Bf) hi El rfl (.inr ⟨Z9s 1,by show(1:Nat)<=5;omega⟩)
 ·rw[hq];refine v.tre.addF (q:=⟨1,a,f.own,1,p.age,x⟩) Ag hi El rfl rfl he Aq Aa ?_ (fun y hy=>?_) (fun r hr A4=>?_)
  ·apply Classical.byContradiction
   intro Ab;obtain⟨r,hr,hs,I6⟩:=(v.que.xc (x:Int)).2 Ab;obtain⟨y,hy⟩:=v.tre.fac r hr (Pl.is_iff.2 (.inl hs));rw[I6,Aq] at hy;cases hy
  ·have:=(v.tre.parent_lt Ag v.mem.pool.q.next0 hN hy).2;show y.q.parent≠(x:Int);rw[hx];exact this
  ·obtain⟨y,hy⟩:=v.tre.fac r hr A4;have:=hN _ _ hy;show r.fac≠x;omega
 ·exact v.que.add hi hp rfl (Q1i hf) (pget_some.1 hf).2.2 CF rfl
def noPl(age:Nat):Pl:=⟨0,0,0,0,age,0⟩
structure Tried(P:PL)(fr:List Nat)(l:List Pl)(P':PL):Prop where
 ok:P'.Ok fr
 same:SameP P P'
 q:P'.q=P.q
 used:∀k,(P'.usedOf k).Perm (P.usedOf k)
 ps:P'.d.ps.Perm P.d.ps
 mem:KeptL P.a.mem P'.a.mem l
 memH:Z7v P P'
theorem Tried.refl{P:PL}{fr:List Nat}(ok:P.Ok fr)(l:List Pl):Tried P fr l P:=⟨ok,SameP.refl P,rfl,fun _=>J2A _,J2A _,fun _ _ _=>Kept.refl _ _ _,fun _ _ _ _=>Kept.refl _ _ _⟩
theorem Q3V{P:PL}{fr:List Nat}(ok:P.Ok fr)(g:Nat):g∈P.pages↔∃k a,a∈P.usedOf k/\a/1024=g:=by
 constructor
 ·intro hg;obtain⟨c,hc,Ct⟩:=Z9P.1 hg;obtain⟨x,hx,rfl⟩:=Z9y.1 Ct;obtain⟨k,hk⟩:=J1Y.1 hc;have FR:P.Cls (k+1) c:=⟨by omega,by simpa using hk⟩
  obtain⟨k1,k2,_,_⟩:=PL.Cls.facts ok FR;have hb:=ok.busy c hc x hx;obtain⟨i,hi⟩:∃i,i∈Q2r x.1.bits:=by
   cases ht:Q2r x.1.bits with
   | nil =>
    exfalso
    apply hb
    have:cntB x.1.bits=(Q2r x.1.bits).length:=(Q4I _).symm;rw[this,ht];rfl
   | cons i r=>exact⟨i,by simp⟩
  have hu:addr c.size x.2 i∈c.used:=Z9P.2 ⟨x,hx,J0b hi⟩;refine⟨k+1,addr c.size x.2 i,by rw[Q0I FR];exact hu,?_⟩;have Co:i<x.1.bits.length:=by
   have:=mem_trues.1 hi;rcases J1S i x.1.bits.length with e|e
   ·exact e
   ·rw[J0Y e] at this;cases this
  have EU:=k1.s0;have hp:=Q3w (s:=c.size) (by omega) Co (k1.many x hx);unfold addr;omega
 ·rintro⟨k,a,ha,rfl⟩;obtain⟨p,hp,h1,h2⟩:=Q4j ok ha;have:=Q1x ok ha;have:=Q6t this.1 this.2;have e:a/1024=p:=by omega
  rw[e];exact hp
theorem Z7w{P P':PL}{fr fr':List Nat}(ok:P.Ok fr)(ok':P'.Ok fr')(hu:∀k,(P'.usedOf k).Perm (P.usedOf k))(hf:fr'.Perm fr):P'.d.ps.Perm P.d.ps:=by
 have h1:=(ok.pages.nodup_iff).2 ok.d.nd;have h2:=(ok'.pages.nodup_iff).2 ok'.d.nd;have hp:P'.pages.Perm P.pages:=by
  rw[List.perm_ext_iff_of_nodup (J0c.1 h2).2.1 (J0c.1 h1).2.1];intro g;rw[Q3V ok',Q3V ok]
  constructor
  ·rintro⟨k,a,ha,e⟩;exact⟨k,a,(hu k).mem_iff.1 ha,e⟩
  ·rintro⟨k,a,ha,e⟩;exact⟨k,a,(hu k).mem_iff.2 ha,e⟩
 exact ok'.pages.symm.trans ((hf.append hp).trans ok.pages)
theorem GotM.back{P P' P2:PL}{l:List Pl}{fr fr' fr2:List Nat}{own:Int}{k a:Nat}(g:GotM P fr own k a P' fr')(m:MemI P l fr)(b:Z2i P' fr' own k a P2 fr2):Tried P fr l P2:=by
 obtain⟨e,q1,q2,q3⟩:=g.q;obtain⟨e',r1,r2,r3⟩:=b.q;have Ag:=m.pool.q.ids;have hE:P'.q.E=upd P.q.E own {e.q with charged:=e.q.charged+((costK k:Nat):Int)}:=by rw[q3]
 have AR:e'={e with q:={e.q with charged:=e.q.charged+((costK k:Nat):Int)}}:=by
  rw[hE,Q0n q1] at r1;exact(J0g r1).symm
 have hq:P2.q=P.q:=by
  have h1:upd P'.q.E own {e'.q with charged:=e'.q.charged-((costK k:Nat):Int)}=P.q.E:=by
   rw[hE,upd_upd,AR];have:({e.q with charged:=e.q.charged+((costK k:Nat):Int)-((costK k:Nat):Int)}:Fa)=e.q:=by
    rw[J2N]
   show upd P.q.E own ({e.q with charged:=e.q.charged+((costK k:Nat):Int)-((costK k:Nat):Int)}:Fa)=_;rw[this];exact Z1w Ag q1
  rw[r3,h1,q3]
 have hu:∀j,(P2.usedOf j).Perm (P.usedOf j):=fun j=>by
  by_cases e:j=k
  ·subst e;by_cases h8:j=8
   ·have z:∀{Q:PL} {f:List Nat},Q.Ok f->Q.usedOf j=[]:=fun hQ=>Q2P hQ (by rw[h8];rfl)
    rw[z b.ok,z m.pool]
   ·have h1:=(g.used h8).symm.trans (b.used h8);exact(J2S h1).symm
  ·rw[b.other j e,g.other j e]
 have Cl:fr2=fr:=by
  have h1:=g.frs;have h2:=b.frs;by_cases h8:k=8
  ·rw[if_pos h8] at h1 h2;obtain⟨x,rfl,hx⟩:=h1;obtain⟨y,hy,rfl⟩:=h2;have:x=y:=by omega
   subst this;rw[hx];simp
  ·rw[if_neg h8] at h1 h2;rw[h2,h1]
 have Bf:P2.Ok fr:=by rw[<- Cl];exact b.ok
 exact⟨Bf,g.same.trans b.same,hq,hu,Z7w m.pool Bf hu (J2A _),fun r hr A4=>by rw[b.mem];exact g.keptL m r hr A4,fun j c hj hc=>by rw[b.mem];exact g.keptH m.pool j c hj hc⟩
theorem Inv.tried{P P':PL}{l:List Pl}{fr:List Nat}{xc:Int->Int}{zs:List Nat}(v:Inv P l fr xc zs)(t:Tried P fr l P'):Inv P' l fr xc zs:=by
 refine⟨v.len,v.st,⟨t.ok,v.mem.kind,fun k h1 h5=>(v.mem.ats k h1 h5).trans (t.used k).symm,v.mem.frs,fun r hr A4 hk=>?_⟩,by rw[t.q];exact v.tre,v.que⟩;have:=t.mem r hr A4;rw[hk] at this;rw[(this.sub (Z9s _) (by show r.at_+8<=r.at_+64;omega)).word];exact v.mem.word r hr A4 hk
structure HT where
 t:Nat
 l:List Pl
def Pl.cells(p:Pl):List Value:=[.int .i64 (p.kind:Int),.int .i64 (p.at_:Int),.int .i64 (p.fac:Int),.int .i64 (p.st:Int),.int .u32 (p.age:Int)]
def HT.hl(h:HT):HL:=[(h.t,isC 302 (h.l.flatMap Pl.cells))]
theorem Q3m:∀{l:List Pl} {i:Nat} {p:Pl},l[i]?=some p->∀(j:Nat) (v:Value),j<5->p.cells[j]?=some v->(l.flatMap Pl.cells)[i*5+j]?=some v
 | [],i,p,h,j,v,_,_=>by simp at h
 | x::r,0,p,h,j,v,hj,hv=>by
  simp at h;subst h;rw[Z9O,J2V,J1N,J2u (by simpa[Pl.cells] using hj)];exact hv
 | x::r,i+1,p,h,j,v,hj,hv=>by
  rw[J2t] at h;have:=Q3m (l:=r) h j v hj hv;rw[Z9O,J2v (by simp[Pl.cells];omega)];rw[<- this];congr 1;simp[Pl.cells];omega
theorem Z2j:∀{l:List Pl} {i:Nat} {p q:Pl},l[i]?=some p->∀(j:Nat) (v:Value),j<5->p.cells.set j v=q.cells->(l.flatMap Pl.cells).set (i*5+j) v=(l.set i q).flatMap Pl.cells
 | [],i,p,q,h,j,v,_,_=>by simp at h
 | x::r,0,p,q,h,j,v,hj,hv=>by
  simp at h;subst h;rw[Z9O,J2V,J1N,List.set_append_left _ _ (by simpa[Pl.cells] using hj),hv];rfl
 | x::r,i+1,p,q,h,j,v,hj,hv=>by
  rw[J2t] at h;have:=Z2j (l:=r) h j v hj hv;rw[Z9O,J2W _ _ (by simp[Pl.cells];omega)];rw[J1U,Z9O,<- this];congr 2;simp[Pl.cells];omega
theorem Z7x(l:List Pl):(l.flatMap Pl.cells).length=l.length*5:=by
 induction l with
 | nil=>rfl
 | cons x r ih=>rw[Z9O,Z9V,ih];simp[Pl.cells];omega
section
variable {w:World} {h:HT}
theorem HT.cells(s:Sep w h.hl):Cells w h.t 302 (h.l.flatMap Pl.cells):=s.cells (by simp[HT.hl])
theorem HT.cell(s:Sep w h.hl){i:Nat}{p:Pl}(hi:h.l[i]?=some p):w.cell? ⟨h.t,i*5,none⟩=some (.int .i64 (p.kind:Int))/\w.cell? ⟨h.t,i*5+1,none⟩=some (.int .i64 (p.at_:Int))/\w.cell? ⟨h.t,i*5+2,none⟩=some (.int .i64 (p.fac:Int))/\w.cell? ⟨h.t,i*5+3,none⟩=some (.int .i64 (p.st:Int))/\w.cell? ⟨h.t,i*5+4,none⟩=some (.int .u32 (p.age:Int))/\∀j,w.frozen? ⟨h.t,j,none⟩=false:=
 ⟨(HT.cells s).cell (i*5) _ (Q3m hi 0 _ (by omega) rfl),(HT.cells s).cell (i*5+1) _ (Q3m hi 1 _ (by omega) rfl),(HT.cells s).cell (i*5+2) _ (Q3m hi 2 _ (by omega) rfl),(HT.cells s).cell (i*5+3) _ (Q3m hi 3 _ (by omega) rfl),(HT.cells s).cell (i*5+4) _ (Q3m hi 4 _ (by omega) rfl),(HT.cells s).free⟩
theorem HT.set(s:Sep w h.hl){i:Nat}{p q:Pl}(hi:h.l[i]?=some p)(j:Nat)(v:Value)(hj:j<5)(hq:p.cells.set j v=q.cells):Step h.hl ({h with l:=h.l.set i q}:HT).hl w (w.setCell ⟨h.t,i*5+j,none⟩ v):=by
 have:=Sep.set (A:=[]) (B:=[]) (by simpa[HT.hl] using s) (i*5+j) v;rw[Z2j hi j v hj hq] at this;exact this
end
theorem Z7y(a i:Nat)(hi:i<256)(ha:a<=1048575):bits BinOp.or IntKind.u32 ((a*256:Nat):Int) (i:Int)=((a*256+i:Nat):Int):=by
 rw[u32_or_nat _ _ (by omega) (by omega)];congr 1;have:=J2C (i:=8) (b:=i) (by omega) a;rw[J2i] at this;exact this.symm
theorem Q7m(h:Nat)(hh:h<4294967296):bits BinOp.and IntKind.u32 (h:Int) 255=((h%256:Nat):Int):=by
 have:=u32_and_nat h 255 hh (by omega);rw[show((255:Nat):Int)=255 from rfl] at this;rw[this];congr 1;exact J0O h 8
theorem Q3D{w:World}{h:HT}(s:Sep w h.hl){i:Nat}{p:Pl}(hi:h.l[i]?=some p)(Ao:i<256)(ha:p.age<=1048575):Calls prog 202 #[.pointer (some ⟨h.t,0,none⟩),.int .i64 i] w fun r w'=>r=.returned (.int .u32 ((nm i p:Nat):Int))/\w=w':=by
 obtain⟨-,-,-,-,c4,-⟩:=HT.cell s hi;have HO:=Q0a (Z7y p.age i Ao ha);unfold nm;clear s hi;generalize p.age=a at *
 go_enter func202,ntmps202
 go_wp2
 go_ret;refine⟨?_,rfl⟩;have e:=HO.out;rw[J0n] at e;exact congrArg (fun z=>Ending.returned (.int .u32 z)) e
abbrev OV:=Option (Nat×Nat×Nat)
def ovOf(rv:OV)(n:Nat):Value:=match rv with
 | none=>.slice none 0 0
 | some (g,off,cap)=>.slice (some ⟨g,off,none⟩) n cap
def isS(T:TypeId)(m off:Nat)(cs:List Value):Obj->Prop:=fun o=>∃Ap:Array Value,o=.cells Ap T (0,0)/\off+m<=Ap.size/\(Ap.toList.drop off).take cs.length=cs
def ovH(rv:OV)(T:TypeId)(size:Nat)(xs:List Value):HL:=match rv with
 | none=>[]
 | some (g,off,cap)=>[(g,isS T (cap*size) off xs)]
def ovOk(rv:OV)(n:Nat):Prop:=match rv with
 | none=>n=0
 | some (_,_,cap)=>n<=cap/\cap<=maxLen
structure CO where
 c:Nat
 P:PL
 t:Nat
 l:List Pl
 g:Nat
 period:Nat
 now:Nat
 rv:OV
 ts:List (Nat×Nat)
 xc:Int->Int
def Z8E(ts:List (Nat×Nat)):List Value:=ts.flatMap fun x=>[.int .i64 (x.1:Int),.int .i64 (x.2:Int)]
def qhl(g period now:Nat)(rv:OV)(ts:List (Nat×Nat)):HL:=(g,isC 305 [.int .i64 period,.int .i64 now,ovOf rv ts.length])::ovH rv 331 2 (Z8E ts)
def CO.qh(S:CO):HL:=qhl S.g S.period S.now S.rv S.ts
def CO.ht(S:CO):HT:=⟨S.t,S.l⟩
def CO.head(S:CO):Nat×(Obj->Prop):=(S.c,isC 187 [ptr S.P.p,ptr S.t,ptr S.g])
def CO.hl(S:CO):HL:=S.head::(S.P.hl++(S.ht.hl++S.qh))
structure CO.Ok(S:CO)(fr:List Nat)(N K:Nat):Prop where
 inv:Inv S.P S.l fr S.xc (S.ts.map Prod.fst)
 per:1<=S.period/\S.period<=16
 due:∀x∈S.ts,S.now<x.2/\x.2<=S.now+S.period
 ord:S.ts.Pairwise (fun a b=>a.2<=b.2)
 ov:ovOk S.rv S.ts.length
 next:S.P.q.next<=N
 now:S.now<=K
 age:∀p∈S.l,p.age<=S.now
theorem CO.permP(S:CO):S.hl.Perm (S.P.hl++(S.head::(S.ht.hl++S.qh))):=by
 unfold CO.hl;exact J2K.symm
theorem CO.permT(S:CO):S.hl.Perm (S.ht.hl++(S.head::(S.P.hl++S.qh))):=by
 unfold CO.hl;refine(List.Perm.cons _ ?_).trans J2K.symm;rw[<- J0j,<- J0j];exact J1X.append_right _
section
variable {w:World} {S:CO}
theorem CO.sP(h:Sep w S.hl):Sep w S.P.hl:=h.part S.permP
theorem CO.sT(h:Sep w S.hl):Sep w S.ht.hl:=h.part S.permT
theorem CO.cells(h:Sep w S.hl):Cells w S.c 187 [ptr S.P.p,ptr S.t,ptr S.g]:=h.cells (by simp[CO.hl,CO.head])
theorem CO.c0(h:Sep w S.hl):w.cell? ⟨S.c,0,none⟩=some (.pointer (some ⟨S.P.p,0,none⟩)):=(CO.cells h).cell 0 _ rfl
theorem CO.c1(h:Sep w S.hl):w.cell? ⟨S.c,1,none⟩=some (.pointer (some ⟨S.t,0,none⟩)):=(CO.cells h).cell 1 _ rfl
end
def CO.setP(S:CO)(P:PL):CO:={S with P:=P}
def CO.setL(S:CO)(l:List Pl):CO:={S with l:=l}
theorem CO.stepP{w w':World}{S:CO}(h:Sep w S.hl)(P:PL)(e:P.p=S.P.p)(s:Step S.P.hl P.hl w w'):Step S.hl (S.setP P).hl w w':=by
 have hp:=(S.setP P).permP;have e1:(S.setP P).head=S.head:=by unfold CO.head CO.setP;rw[e]
 rw[e1] at hp;exact Step.lift S.permP hp h s
theorem CO.stepL{w w':World}{S:CO}(h:Sep w S.hl)(l:List Pl)(s:Step S.ht.hl (⟨S.t,l⟩:HT).hl w w'):Step S.hl (S.setL l).hl w w':=
 Step.lift S.permT (S.setL l).permT h s
def PL.setD(P:PL)(d:BD):PL:={P with d:=d}
theorem PL.stepD{w w':World}{P:PL}(h:Sep w P.hl)(d:BD)(e:d.b=P.d.b)(s:Step P.d.hl d.hl w w'):Step P.hl (P.setD d).hl w w':=by
 have AC:=PL.permD (P.setD d);have e1:(P.setD d).cells=P.cells:=by unfold PL.cells PL.setD;simp only[e]
 rw[e1] at AC;exact Step.lift (PL.permD P) AC h s
theorem PL.ok_setD{P:PL}{fr fr':List Nat}(ok:P.Ok fr){d:BD}(h1:d.b=P.d.b)(h2:d.top=P.d.top)(h3:d.At)(h4:(fr'++P.pages).Perm d.ps):(P.setD d).Ok fr':=by
 refine⟨ok.q,h3,?_,?_,ok.bytes,ok.len,fun k c hc=>?_,h4,ok.busy⟩
 ·show P.a.mem.length=2 ^ (d.top+10);rw[h2];exact ok.mem
 ·show 6<=d.top;rw[h2];exact ok.top
 ·obtain⟨a1,a2,a3⟩:=ok.c k c hc;exact⟨a1,a2,by show c.bb=d.b;rw[h1];exact a3⟩
theorem Z2k{P:PL}{fr:List Nat}(ok:P.Ok fr){own:Int}{e:En Fa}(hf:find P.q.E own=some e)(hq:(1024:Int)<=e.q.limit-(e.q.charged+e.q.given)){g:Nat}{d:BD}(h1:d.b=P.d.b)(h2:d.top=P.d.top)(h3:d.ps=P.d.ps++[g])(h4:d.At) :
  GotM P fr own 8 (1024*g) (((P.setQ {P.q with E:=upd P.q.E own {e.q with charged:=e.q.charged+1024}}).setD d).setA (put_ P.a.mem (1024*g) (List.replicate 1024 0))) (g::fr):=by
 obtain⟨f1,f2,f3,f4,f5,f6,f7,f8⟩:=ok.q.fa own e hf;have ok1:=PL.ok_setQ ok (Q2u ok.q hf {e.q with charged:=e.q.charged+1024} ⟨by show 0<=e.q.charged+_;omega,f2,by show e.q.charged+_+e.q.given<=e.q.limit;omega,rfl,rfl⟩);have CX:((g::fr)++P.pages).Perm d.ps:=by
  rw[h3];refine(ok.pages.cons g).trans ?_;exact(J2L _ _).symm
 have ok2:=PL.ok_setD (fr':=g::fr) ok1 (d:=d) h1 h2 h4 CX;have hg:g<2 ^ P.d.top:=by rw[<- h2];exact h4.lt g (by rw[h3];simp)
 have hl:1024*g+(List.replicate 1024 0).length<=P.a.mem.length:=by
  rw[Z9C,ok.mem,J0K,show(2:Nat) ^ 10=1024 from rfl];omega
 have Ac:=Q1g P.a.mem (1024*g) (List.replicate 1024 0) hl;have ok3:=PL.ok_setA ok2 (m:=put_ P.a.mem (1024*g) (List.replicate 1024 0)) Ac (Q7g ok.bytes 0 (by omega));refine⟨ok3,⟨rfl,rfl,h1,rfl,rfl,h2,Ac⟩,⟨e,hf,hq,rfl⟩,rfl,fun h=>absurd rfl h,fun j _=>rfl,?_,?_⟩
 ·rw[if_pos rfl];exact⟨g,rfl,rfl⟩
 ·show d.ps.length<=_;rw[h3];simp
theorem Z0e{P:PL}{fr:List Nat}(ok:P.Ok fr){own:Int}{e:En Fa}(hf:find P.q.E own=some e)(hq:(1024:Int)<=e.q.charged){g:Nat}(hg:g∈fr){d:BD}(h1:d.b=P.d.b)(h2:d.top=P.d.top)(h3:d.ps=P.d.ps.erase g)(h4:d.At) :
  Z2i P fr own 8 (1024*g) ((P.setQ {P.q with E:=upd P.q.E own {e.q with charged:=e.q.charged-1024}}).setD d) (fr.erase g):=by
 obtain⟨f1,f2,f3,f4,f5,f6,f7,f8⟩:=ok.q.fa own e hf;have ok1:=PL.ok_setQ ok (Q2u ok.q hf {e.q with charged:=e.q.charged-1024} ⟨by show 0<=e.q.charged-_;omega,f2,by show e.q.charged-_+e.q.given<=e.q.limit;omega,rfl,rfl⟩);have CX:(fr.erase g++P.pages).Perm d.ps:=by
  rw[h3];have:=ok.pages.erase g;rw[List.erase_append_left _ hg] at this;exact this
 have ok2:=PL.ok_setD (fr':=fr.erase g) ok1 (d:=d) h1 h2 h4 CX;refine⟨ok2,⟨rfl,rfl,h1,rfl,rfl,h2,rfl⟩,⟨e,hf,hq,rfl⟩,rfl,fun h=>absurd rfl h,fun j _=>rfl,?_,?_⟩
 ·rw[if_pos rfl];exact⟨g,rfl,rfl⟩
 ·show d.ps.length<=_;rw[h3];exact List.length_erase_le
def NoPage(P:PL):Prop:=∀p,p<2 ^ P.d.top->p∈P.d.ps
theorem NoPage.len{P:PL}(h:NoPage P):2 ^ P.d.top<=P.d.ps.length:=by
 have h1:(List.range (2 ^ P.d.top)).Nodup:=J2Y;have h2:=h1.length_le_of_subset (l₂:=P.d.ps) (fun x hx=>h x (Z9I.1 hx))
 simpa using h2
theorem NoRoom.page{P:PL}{n:Nat}(h:NoRoom P n):NoPage P:=by
 obtain⟨c,_,_,hn⟩:=h;exact fun p hp=>Q7k hn hp
theorem Z2l(d:BD):(∀k,k<=d.top->fstG (fre (uOf d.ps) d.top) d.top k 0=none)∨∃k0 i0,k0<=d.top/\fstG (fre (uOf d.ps) d.top) d.top k0 0=some i0/\∀k,k<k0->fstG (fre (uOf d.ps) d.top) d.top k 0=none:=by
 have key:∀n,(∀k,k<n->fstG (fre (uOf d.ps) d.top) d.top k 0=none)∨∃k0 i0,k0<n/\fstG (fre (uOf d.ps) d.top) d.top k0 0=some i0/\∀k,k<k0->fstG (fre (uOf d.ps) d.top) d.top k 0=none:=by
  intro n
  induction n with
  | zero=>left;intro k hk;omega
  | succ n ih =>
   rcases ih with h|⟨k0,i0,h1,h2,h3⟩
   ·cases hc:fstG (fre (uOf d.ps) d.top) d.top n 0 with
    | none =>
     left;intro k hk;by_cases e:k=n
     ·rw[e];exact hc
     ·exact h k (by omega)
    | some i=>right;exact⟨n,i,by omega,hc,h⟩
   ·right;exact⟨k0,i0,by omega,h2,h3⟩
 rcases key (d.top+1) with h|⟨k0,i0,h1,h2,h3⟩
 ·left;exact fun k hk=>h k (by omega)
 ·right;exact⟨k0,i0,by omega,h2,h3⟩
theorem CO.Ok.made{S:CO}{fr fr':List Nat}{N N' K:Nat}(ok:S.Ok fr N K){P':PL}{l':List Pl}(hi:Inv P' l' fr' S.xc (S.ts.map Prod.fst))(hn:P'.q.next<=N')(ha:∀p∈l',p.age<=S.now):((S.setP P').setL l').Ok fr' N' K:=
 ⟨hi,ok.per,ok.due,ok.ord,ok.ov,hn,ok.now,ha⟩
theorem Z7z{l:List Pl}{i n:Nat}{q:Pl}(h:∀p∈l,p.age<=n)(hq:q.age<=n):∀p∈l.set i q,p.age<=n:=fun p hp=>by
 rcases Q0X hp with rfl|hp
 ·exact hq
 ·exact h p hp
theorem CO.Ok.tried{S:CO}{fr:List Nat}{N K:Nat}(ok:S.Ok fr N K){P':PL}(t:Tried S.P fr S.l P'):(S.setP P').Ok fr N K:=
 ⟨ok.inv.tried t,ok.per,ok.due,ok.ord,ok.ov,by show P'.q.next<=N;rw[t.q];exact ok.next,ok.now,ok.age⟩
theorem Q3W{P:Program}(w:World){ops:Array Oper}{rest:List Oper}{o:Oper}{a:Act}{Q:Exit->Act->World->Prop}
  (hg:o.guard=none) (m k x:Operand) (t K V:TypeId) (hop:o.op=.insert t m k x) (hT:P.underlying t=some (.map K V)) (hK:P.underlying K=some (.int .i64))
  (b:Nat) (kv:List (Int×Value)) (h:Q0C w b kv) (id:Int) (u:Value) (hm:a.eval m=.map (some b)) (hk:a.eval k=.int .i64 id) (hx:a.eval x=u)
  (hK':∀w',Q0C w' b (put kv id u)->w.grownBy w' (some b)->wpList P ops Q rest (a.put o.dst undef) w'):wpList P ops Q (o::rest) a w:=by
 refine wpList_plain hg fun K' hK''=>?_
 obtain⟨w',Fk,r1,r2⟩:=Q1d (P:=P) h id u hT hK;unfold Oper.wp;simp[execOp,hop,hm,hk,hx,Fk,Result.andThen];exact hK'' _ _ (hK' w' r1 r2)
def Q1P(t m b:Nat)(limit:Int):QT:=⟨t,m,[⟨0,b,⟨limit,0,0,-1,0⟩⟩],1⟩
theorem Z4S(t m b:Nat)(limit:Int)(h0:0<=limit)(h1:limit<=1073741824):(Q1P t m b limit).Ok:=by
 refine⟨by simp[Q1P],by simp[Q1P],by simp[Q1P],fun id e he=>?_⟩;simp only[Q1P,find] at he;by_cases h:id=0
 ·simp[h] at he;subst he;subst h;simp[Q1P];omega
 ·simp[h] at he
def NewQ(limit:Int)(H:HL)(w:World)(r:Ending)(w':World):Prop:=∃t m b,r=.returned (.pointer (some ⟨t,0,none⟩))/\Step H ((Q1P t m b limit).hl++H) w w'
theorem Z4T{w:World}{H:HL}(h:Sep w H)(limit:Int)(h0:0<=limit)(h1:limit<=1073741824):Calls prog 62 #[.int .i64 limit] w (NewQ limit H w):=by
 have HR:Hid (∀w1,Q0C w1 w.heap.size [(0,.pointer (some ⟨w.heap.size+1,0,none⟩))]->((w.alloc (.map #[] 0)).alloc (.cells #[.int .i64 limit,.int .i64 0,.int .i64 0,.int .i64 (-1),.int .i64 0] 147)).grownBy w1 (some w.heap.size) ->
   NewQ limit H w (.returned (.pointer (some ⟨w1.heap.size,0,none⟩))) (w1.alloc (.cells #[.map (some w.heap.size),.int .i64 1] 150))):=fun w1 hm hg=>by
  have s1:=h.newMap;have s2:=s1.sep.new 147 [.int .i64 limit,.int .i64 0,.int .i64 0,.int .i64 (-1),.int .i64 0];have e1:(w.alloc (.map #[] 0)).heap.size=w.heap.size+1:=by simp
  rw[e1] at s2;obtain⟨es,Af,ho,hr⟩:=hm;have s3:=Sep.turn (A:=[(w.heap.size+1,isC 147 [.int .i64 limit,.int .i64 0,.int .i64 0,.int .i64 (-1),.int .i64 0])]) (q':=isMI [(0,.pointer (some ⟨w.heap.size+1,0,none⟩))]) s2.sep hg ⟨_,ho,es,Af,rfl,hr⟩;have s4:=s3.sep.new 150 [.map (some w.heap.size),.int .i64 1];refine⟨w1.heap.size,w.heap.size,w.heap.size+1,rfl,?_⟩;have:=((s1.trans s2).trans s3).trans s4;refine this.perm (J2A _) ?_;simp only[Q1P,QT.hl,facH,kvs,Z9v,J1P,J1u,J1t,Fa.cells,ptr];refine List.Perm.cons _ ?_;exact List.Perm.swap _ _ _
 have hM:Q0C ((w.alloc (.map #[] 0)).alloc (.cells #[.int .i64 limit,.int .i64 0,.int .i64 0,.int .i64 (-1),.int .i64 0] 147)) w.heap.size []:=(MapIs.new w).alloc _;have Kz:=@run_makeMap prog;clear h;go_enter func62,ntmps62;go_wp2_with (refine Q3W _ rfl _ _ _ 148 3 140 rfl underlying148 underlying3 w.heap.size [] hM 0 (.pointer (some ⟨w.heap.size+1,0,none⟩)) rfl rfl rfl ?_;intro w1 HH BN;have IF:=Q0a (HR.out w1 HH BN);clear HH BN);go_ret;exact IF.out
theorem Z8F{w:World}(hT:TabB w)(k:Nat)(hk:k<64) :
  Calls prog 125 #[.int .u64 ((2 ^ k:Nat):Int)] w fun r w'=>r=.returned (.int .i64 k)/\w=w':=by
 have k1:=Q8R hT (fun j=>j==k) k hk (by simp) (fun j hj=>by simp;omega);rw[Q9h k hk] at k1;clear hT;have b2:2 ^ k<18446744073709551616:=by
  have:=J0B (a:=2) (by omega) hk;exact Z9u this (by decide)
 generalize 2 ^ k=n at *
 go_enter func125,ntmps125;go_wp2_with (go_at_call 135;refine k1.mono ?_;rintro e w'⟨rfl,rfl⟩);go_ret;exact⟨rfl,rfl⟩
def Z7A(top:Nat)(H:HL)(w:World)(r:Ending)(w':World):Prop:=∃d:BD,r=.returned (.pointer (some ⟨d.b,0,none⟩))/\d.top=top/\d.ps=[]/\d.At/\Step H (d.hl++H) w w'
theorem BD.snoc{w w1:World}{H:HL}{d:BD}(h:Sep w (d.hl++H))(hl:d.bms.length<21)(m:BM)(hs:Step (d.hl++H) (m.hl++(d.hl++H)) w w1) :
  Step (d.hl++H) (({d with bms:=d.bms++[m]}:BD).hl++H) w (w1.setCell ⟨d.b,1+d.bms.length,none⟩ (ptr m.b)):=by
 have ec:d.cells.set (1+d.bms.length) (ptr m.b)=({d with bms:=d.bms++[m]}:BD).cells:=by
  unfold BD.cells;rw[J0s,J1U];congr 1;simp only[Z9V,J3d,J2J,Z9v,J1P];rw[show 21-d.bms.length=(21-(d.bms.length+1))+1 from by omega,J3e,J0j,J2W _ _ (by simp),J0S,J2y];simp
 have hp:(m.hl++(d.hl++H)).Perm (d.hl++(m.hl++H)):=by
  rw[<- J0j,<- J0j];exact J1W H J1X
 have h1:=hs.sep.perm hp;have h2:Sep w1 ([]++(d.b,isC 158 d.cells)::((d.mb,isMI (upk d.ps))::d.bms.flatMap BM.hl++(m.hl++H))):=h1;have h3:=h2.set (1+d.bms.length) (ptr m.b);rw[ec] at h3;have h4:Step (d.hl++H) (d.hl++(m.hl++H)) w w1:=hs.perm (J2A _) hp;refine(h4.trans h3).perm (J2A _) ?_;unfold BD.hl;simp only[J1t,J1u,Z9U,Z9O,J3f,J1p,J0j];exact J2A _
theorem Z2m{w:World}{H:HL}(h:Sep w H)(top:Nat)(h1:6<=top)(h2:top<=20):Calls prog 63 #[.int .i64 ((2 ^ (top+10):Nat):Int)] w (Z7A top H w):=by
 have k1:=Q9i (w:=w) (top+10) (by omega);have k2:=Z8F h.env.tabB top (by omega);have b1:65536<=2 ^ (top+10):=Z9t (by decide:65536<=2 ^ 16) (J0x (by omega) (by omega));have b2:2 ^ (top+10)<=1073741824:=Z9t (J0x (by omega) (by omega)) (by decide:2 ^ 30<=1073741824);have F1:((2 ^ (top+10):Nat):Int)/1024=((2 ^ top:Nat):Int):=by
  rw[J0K,show(2:Nat) ^ 10=1024 from rfl];omega
 have bt:2 ^ top<=1048576:=by have:=Q1L (k:=0) h2;simpa using this
 generalize 2 ^ (top+10)=n at *
 generalize 2 ^ top=t at *
 have h0:Hid (Step H ((⟨w.heap.size+1,w.heap.size,top,[],[]⟩:BD).hl++H) w ((w.alloc (.map #[] 0)).alloc (.cells (BD.cells ⟨w.heap.size+1,w.heap.size,top,[],[]⟩).toArray 158))):=by
  have s1:=h.newMap;have s2:=s1.sep.new 158 (BD.cells ⟨w.heap.size+1,w.heap.size,top,[],[]⟩);have:=s1.trans s2;show Step _ _ _ _
  simpa[BD.hl,upk,isMI] using this
 have HR:=Q0a (show ∀(k:Nat) (bms:List BM) (wr:World),k<=top->bms.length=k->(∀j m,bms[j]?=some m->m.bits=List.replicate (2 ^ (top-j)) false)->Step H ((⟨w.heap.size+1,w.heap.size,top,bms,[]⟩:BD).hl++H) w wr ->
   wr.cell? ⟨w.heap.size+1,0,none⟩=some (.int .i64 top)/\wr.cell? ⟨w.heap.size+1,1+k,none⟩=some (.pointer none)/\wr.frozen? ⟨w.heap.size+1,1+k,none⟩=false /\
   Calls prog 126 #[.int .i64 ((2 ^ (top-k):Nat):Int)] wr.drew fun r w1=>∃mb:Nat,r=.returned (.pointer (some ⟨mb,0,none⟩))/\(w1.cell? ⟨w.heap.size+1,0,none⟩=some (.int .i64 top)/\w1.cell? ⟨w.heap.size+1,1+k,none⟩=some (.pointer none)/\w1.frozen? ⟨w.heap.size+1,1+k,none⟩=false)/\(∀v,(w1.setCell ⟨w.heap.size+1,1+k,none⟩ v).cell? ⟨w.heap.size+1,0,none⟩=some (.int .i64 top)) /\
    ∃bms',bms'.length=k+1/\(∀j m,bms'[j]?=some m->m.bits=List.replicate (2 ^ (top-j)) false)/\Step H ((⟨w.heap.size+1,w.heap.size,top,bms',[]⟩:BD).hl++H) w (w1.setCell ⟨w.heap.size+1,1+k,none⟩ (.pointer (some ⟨mb,0,none⟩))) from fun k bms wr hk Ac hb Av=>by
  have hs:=Av.sep.left;have cells:∀{w1:World},Sep w1 (⟨w.heap.size+1,w.heap.size,top,bms,[]⟩:BD).hl->w1.cell? ⟨w.heap.size+1,0,none⟩=some (.int .i64 top)/\w1.cell? ⟨w.heap.size+1,1+k,none⟩=some (.pointer none)/\w1.frozen? ⟨w.heap.size+1,1+k,none⟩=false:=by
   intro w1 BT;have hc:=BD.sepC BT;refine⟨hc.cell 0 _ rfl,hc.cell (1+k) _ ?_,hc.free _⟩;unfold BD.cells;rw[show 1+k=k+1 from J0s 1 k,J2t,J0j,J2v (by simp[Ac]),J0S,Ac,J2y,J2u (by simp;omega),J1k,if_pos (by omega)]
  refine⟨(cells hs).1,(cells hs).2.1,(cells hs).2.2,(Q6V Av.sep.drew (2 ^ (top-k)) (Q1L h2)).mono ?_⟩;rintro r w1⟨m,rfl,Cr,BT⟩;have Bi:=BT.from_drew;refine⟨m.b,rfl,cells (BT.sep.right.left),fun v=>((BD.sepC BT.sep.right.left).set (1+k) v).cell 0 _ (by unfold BD.cells;rw[show 1+k=k+1 from J0s 1 k,J1U];rfl),bms++[m],by simp[Ac],?_,?_⟩
  ·intro j x hx;by_cases hj:j<bms.length
   ·rw[J2u hj] at hx;exact hb j x hx
   ·rw[J2v (by omega)] at hx;have I3:j=k:=by
     have:=(Z9J.1 hx).1;simp at this;omega
    subst I3;rw[Ac,J2y] at hx;cases hx;exact Cr
  ·have:=Av.trans (BD.snoc Av.sep (by show bms.length<21;omega) m Bi);rw[Ac] at this;exact this)
 have Ib:=Q0a (show ∀(bms:List BM) (wr:World),bms.length=top+1->(∀j m,bms[j]?=some m->m.bits=List.replicate (2 ^ (top-j)) false)->Step H ((⟨w.heap.size+1,w.heap.size,top,bms,[]⟩:BD).hl++H) w wr ->
   wr.cell? ⟨w.heap.size+1,0,none⟩=some (.int .i64 top)/\∃b,wr.cell? ⟨w.heap.size+1,1+top,none⟩=some (.pointer (some ⟨b,0,none⟩)) /\
   Calls prog 127 #[.pointer (some ⟨b,0,none⟩),.bool true,.slice (some ⟨wr.heap.size,0,none⟩) 1 1] (wr.alloc (.cells #[.int .i64 0] 3)).drew fun r w1=>r=.returned (.int .i64 1)/\(w1.cell? ⟨w.heap.size+1,0,none⟩=some (.int .i64 top)/\w1.cell? ⟨w.heap.size+1,1+top,none⟩=some (.pointer (some ⟨b,0,none⟩)))/\Z7A top H w (.returned (.pointer (some ⟨w.heap.size+1,0,none⟩))) w1 from fun bms wr Ac hb Av=>by
  have hs:=Av.sep.left;have A4:(⟨w.heap.size+1,w.heap.size,top,bms,[]⟩:BD).Is fun _ _=>false:=by
   refine⟨Ac,h2,fun k m hm=>?_⟩;rw[hb k m hm]
   apply J0R
   intro j;rw[J1k,J0U];by_cases hj:j<2 ^ (top-k)
   ·rw[if_pos hj,J0W hj];rfl
   ·rw[if_neg hj,J0Y (by simp;omega)];rfl
  obtain⟨b,h3,h4⟩:=Q7d (w:=wr.drew) hs.drew A4 top 0 true (Z9s _) (J0y _) (by decide);refine⟨BD.c0 hs,b,h3,h4.mono ?_⟩;rintro r w1⟨rfl,d',A3,Gi⟩;have etop:d'.top=top:=A3.top;have eps:d'.ps=[]:=A3.ps;have eb:d'.b=w.heap.size+1:=A3.b;have DJ:(bms.map BM.b)[top]?=some b:=by
   have Aa:top<bms.length:=by omega
   have hg:=J1A Aa;have hc:=BD.cf hs.drew top _ hg;rw[h3] at hc;rw[J0U,hg];cases hc;rfl
  refine⟨rfl,⟨by have:=BD.c0 A3.step.sep;rw[eb,etop] at this;exact this,A3.ptr DJ⟩,d',by rw[eb],etop,eps,⟨⟨Gi.len,Gi.top,?_⟩,by rw[eps];exact List.nodup_nil,by rw[eps];simp⟩,?_⟩
  ·intro k m hm;rw[Gi.bits k m hm];have DR:k<=d'.top:=by
    have q1:k<d'.bms.length:=(Z9J.1 hm).1;have q2:d'.bms.length=d'.top+1:=Gi.len;omega
   rw[etop] at DR ⊢
   apply J1s
   intro x hx;rw[eps,Z4w (uOf []) top (by simp[uOf]) k x DR (Z9I.1 hx)];unfold upG;by_cases hk:k=top
   ·subst hk;have:x=0:=by have:=Z9I.1 hx;simp at this;exact this
    simp[this]
   ·simp[hk]
  ·have:=Step.frame [] H (by simpa using Av.sep) A3.step.from_drew;exact Av.trans (by simpa using this))
 have Fz:Hid (∃bms:List BM,bms.length=0/\(∀j m,bms[j]?=some m->m.bits=List.replicate (2 ^ (top-j)) false)/\Step H ((⟨w.heap.size+1,w.heap.size,top,bms,[]⟩:BD).hl++H) w ((w.alloc (.map #[] 0)).alloc (.cells (Array.mk (.int .i64 top::(List.replicate 21 (.pointer none)++[.map (some w.heap.size)]))) 158))):=
  ⟨[],rfl,by simp,h0.out⟩
 clear h0;have BU:((w.alloc (.map #[] 0)).alloc (.cells (Array.mk (.int .i64 top::(List.replicate 21 (.pointer none)++[.map (some w.heap.size)]))) 158)).cell? ⟨w.heap.size+1,0,none⟩=some (.int .i64 top):=by
  simp
 have Kz:=@run_makeMap prog;clear h;go_enter func63,ntmps63;go_wp2_with (first|(go_at_call 124;refine k1.mono ?_;rintro e w'⟨rfl,rfl⟩)|(go_at_call 125;refine k2.mono ?_;rintro e w'⟨rfl,rfl⟩))
 go_loopw [29] (fun kv wr=>∃(k:Nat) (bms:List BM),kv=.int .i64 k/\k<=top+1/\bms.length=k/\(∀j m,bms[j]?=some m->m.bits=List.replicate (2 ^ (top-j)) false)/\Step H ((⟨w.heap.size+1,w.heap.size,top,bms,[]⟩:BD).hl++H) w wr) (fun kv _=>top+1-(intOf kv).toNat)
 case atStart =>
  obtain⟨bms,q1,q2,q3⟩:=Fz.out;exact⟨0,bms,rfl,by omega,q1,q2,q3⟩
 case round =>
  clear BU Fz k1 k2;obtain⟨k,bms,rfl,hk,q1,q2,q3⟩:=hrel;by_cases Aa:k<=top
  ·obtain⟨c0,c1,cf,AH⟩:=HR.out k bms wr Aa q1 q2 q3;have d0:wr.drew.cell? ⟨w.heap.size+1,0,none⟩=some (.int .i64 top):=c0;have d1:wr.drew.cell? ⟨w.heap.size+1,1+k,none⟩=some (.pointer none):=c1;have df:wr.drew.frozen? ⟨w.heap.size+1,1+k,none⟩=false:=cf;have C9:=Q0a AH;clear AH q1 q2 q3;have BT:IntKind.i64.wrap ((top:Int)-k)=((top-k:Nat):Int):=by rw[Go.IntWalk.i64_in _ (by omega)];omega
   have Bi:IntKind.i64.wrap (2 ^ (top-k))=((2 ^ (top-k):Nat):Int):=by
    have hp:=Q1L (k:=k) h2;have e:(2:Int) ^ (top-k)=((2 ^ (top-k):Nat):Int):=by push_cast;rfl
    rw[e];generalize 2 ^ (top-k)=y at hp ⊢;exact Go.IntWalk.i64_in _ (by omega)
   have Na:(0:Int)<=k:=by omega
   have MS:(k:Int)<21:=by omega
   go_wp2_with fail
   go_region_held3 (fun w'=>w'.cell? ⟨w.heap.size+1,0,none⟩=some (.int .i64 top))
    (first|exact c0|exact d0|exact e0|exact ek _)
    (first|(go_at_call 126;refine C9.out.mono ?_;rintro r w1⟨mb,rfl,⟨e0,e1,ef⟩,ek,AW⟩;have Ge:=Q0a AW;clear AW))
   go_wp2_with fail;obtain⟨bms',r1,r2,r3⟩:=Ge.out;go_roundw
   case rel=>exact⟨k+1,bms',by go_num,by omega,r1,r2,r3⟩
   case measure=>simp[intOf];omega
  ·obtain rfl:k=top+1:=by omega
   obtain⟨c0,b,c1,AD⟩:=Ib.out bms wr q1 q2 q3;clear q1 q2 q3;have d0:wr.drew.cell? ⟨w.heap.size+1,0,none⟩=some (.int .i64 top):=c0;have d1:wr.drew.cell? ⟨w.heap.size+1,1+top,none⟩=some (.pointer (some ⟨b,0,none⟩)):=c1;have Na:(0:Int)<=top:=by omega
   have MS:(top:Int)<21:=by omega
   have Ff:=Q0a AD;clear AD;go_wp2_with fail
   go_region_held3 (fun w'=>w'.cell? ⟨w.heap.size+1,0,none⟩=some (.int .i64 top)/\w'.cell? ⟨w.heap.size+1,1+top,none⟩=some (.pointer (some ⟨b,0,none⟩)))
    (first|exact⟨c0,c1⟩|exact⟨d0,d1⟩|exact⟨e0,e1⟩|go_keep)
    (first|(go_at_call 127;refine Ff.out.mono ?_;rintro r w1⟨rfl,⟨e0,e1⟩,AW⟩;have Ge:=Q0a AW;clear AW))
   go_wp2_with fail;go_ret;exact Ge.out
def Z8G(bb s:Nat)(H:HL)(w:World)(r:Ending)(w':World):Prop:=
 ∃c,r=.returned (ptr c)/\Step H ((⟨c,bb,s,none,[]⟩:CA).hl++H) w w'
theorem CA.ok_new(c bb s:Nat)(s0:16<=s)(s1:s<=512):(⟨c,bb,s,none,[]⟩:CA).Ok:=⟨rfl,s0,s1,.nil,by simp,by simp,by simp⟩
theorem Q8k{w:World}{H:HL}(h:Sep w H)(bb s:Nat)(s0:16<=s)(s1:s<=512)(sm:s%16=0):Calls prog 65 #[ptr bb,.int .i64 s] w (Z8G bb s H w):=by
 have HR:Hid (Z8G bb s H w (.returned (ptr w.heap.size)) (w.alloc (.cells #[ptr bb,.int .i64 s,.slice none 0 0] 233))):=
  ⟨w.heap.size,rfl,h.new 233 [ptr bb,.int .i64 s,.slice none 0 0]⟩
 have hr:IntKind.i64.wrap ((s:Int).tmod 16)=0:=by rw[J1a (by omega)];rw[show(s:Int)%16=0 by omega];rfl
 have CS:(s:Int).tmod 16=0:=by rw[J1a (by omega)];omega
 have h1:decide ((s:Int)<16)=false:=by simp;omega
 have h2:decide ((512:Int)<s)=false:=by simp;omega
 clear sm h;unfold ptr at *
 go_enter func65,ntmps65;go_wp2_with fail;go_ret;exact HR.out
end Go.Proofs.YtfidemmgofcnmaaGreatDoor
