/- What the laws of spaces share is proved. No condition. Part of a proof. -/
import Derived.Test.YtfidemmgofcnmaaGreatDoorBz07
import Derived.Laws.BitsAllLaws
import Derived.Laws.Rows
import Derived.Deep.AppendSrc
set_option maxHeartbeats 4000000
set_option maxRecDepth 100000
set_option linter.unusedVariables false
namespace Go.Proofs.YtfidemmgofcnmaaGreatDoor
open Go.RowKit Go.Proofs.Tryz
def Kept(m m':List Nat)(a n:Nat):Prop:=∀i,a<=i->i<a+n->m'[i]?=m[i]?
theorem Kept.word{m m':List Nat}{a:Nat}(h:Kept m m' a 8):Q0m m' a=Q0m m a:=by
 unfold Q0m;congr 1
 apply J4J
 intro i;rw[J5e,J5e];split
 ·rw[J5D,J5D];exact h _ (by omega) (by omega)
 ·rfl
theorem Kept.sub{m m':List Nat}{a n b k:Nat}(h:Kept m m' a n)(h1:a<=b)(h2:b+k<=a+n):Kept m m' b k:=fun i h3 h4=>h i (by omega) (by omega)
theorem Q1w{m bs:List Nat}{a b n:Nat}(hl:a+bs.length<=m.length)(h:b+n<=a∨a+bs.length<=b):Kept m (put_ m a bs) b n:=fun i h1 h2=>by
 rw[Q4B _ _ _ hl];split
 ·rfl
 ·rw[if_neg (by omega)]
theorem Q7e{m bs:List Nat}{a:Nat}(hl:a+bs.length<=m.length){i:Nat}(hi:i<bs.length):(put_ m a bs)[a+i]?=bs[i]?:=by
 rw[Q4B _ _ _ hl,if_neg (by omega),if_pos (by omega)];congr 1;omega
theorem Kept.trans{m m1 m2:List Nat}{a n:Nat}(h:Kept m m1 a n)(k:Kept m1 m2 a n):Kept m m2 a n:=fun i h1 h2=>(k i h1 h2).trans (h i h1 h2)
theorem Kept.refl(m:List Nat)(a n:Nat):Kept m m a n:=fun _ _ _=>rfl
theorem Q4U{P:PL}{fr:List Nat}(ok:P.Ok fr){k a:Nat}(ha:a∈P.usedOf k):∃g∈P.pages,1024*g+64<=a/\a+Q0e k<=1024*g+1024:=by
 obtain⟨c,hc,ha⟩:=Q2o ha;obtain⟨k1,k2,_,_⟩:=PL.Cls.facts ok hc;obtain⟨x,hx,x1,x2⟩:=Q7O k1 ha;rw[k2] at x2;refine⟨x.2,?_,x1,x2⟩;exact J3G.2 ⟨c,J5p hc.2,J3T hx⟩
theorem Q2V{P:PL}{fr:List Nat}(ok:P.Ok fr):fr.Nodup/\(∀g∈fr,g∉P.pages)/\∀g∈fr,g<2 ^ P.d.top:=by
 have h:=(ok.pages.nodup_iff).2 ok.d.nd;obtain⟨h1,h2,h3⟩:=J3U.1 h;exact⟨h1,fun g hg hp=>h3 g hg g hp rfl,fun g hg=>ok.d.lt g (ok.pages.mem_iff.1 (by simp[hg]))⟩
theorem Q1L{P:PL}{fr:List Nat}(ok:P.Ok fr){k a g:Nat}(hg:g∈fr)(ha:a∈P.usedOf k):a+Q0e k<=1024*g∨1024*g+1024<=a:=by
 obtain⟨p,hp,h1,h2⟩:=Q4U ok ha;have:g≠p:=fun e=>(Q2V ok).2.1 g hg (e ▸ hp)
 omega
theorem Z5j{P:PL}{fr:List Nat}(ok:P.Ok fr){g:Nat}(hg:g∈fr):1024*g+1024<=P.a.mem.length:=by
 have:=(Q2V ok).2.2 g hg;rw[ok.mem,J4C,show(2:Nat) ^ 10=1024 from rfl];omega
theorem Z5k(n:Nat):Q0e n%8=0:=by
 by_cases h:n<8
 ·have hn:n=0∨n=1∨n=2∨n=3∨n=4∨n=5∨n=6∨n=7:=by omega
  rcases hn with rfl|rfl|rfl|rfl|rfl|rfl|rfl|rfl <;> decide
 ·rw[Q5B (by omega)]
theorem Q2e{P:PL}{fr:List Nat}(ok:P.Ok fr){k a:Nat}(ha:a∈P.usedOf k):a%8=0:=by
 obtain⟨c,hc,ha⟩:=Q2o ha;obtain⟨_,k2,_,_⟩:=PL.Cls.facts ok hc;unfold CA.used at ha;obtain⟨x,_,ha⟩:=J3G.1 ha;unfold Q1i at ha;obtain⟨i,_,rfl⟩:=J3n.1 ha;unfold addr;rw[k2];have h0:=Z5k k;have:i*Q0e k%8=0:=by rw[Nat.mul_mod,h0];simp
 omega
theorem Q1M{P:PL}{fr:List Nat}(ok:P.Ok fr){k a:Nat}(ha:a∈P.usedOf k):1<=k/\k<=7:=by
 obtain⟨c,hc,_⟩:=Q2o ha;exact⟨hc.1,(PL.Cls.facts ok hc).2.2.2⟩
structure SameP(P P':PL):Prop where
 p:P'.p=P.p
 qt:P'.q.t=P.q.t
 db:P'.d.b=P.d.b
 aa:P'.a.a=P.a.a
 amb:P'.a.mb=P.a.mb
 top:P'.d.top=P.d.top
 len:P'.a.mem.length=P.a.mem.length
theorem SameP.refl(P:PL):SameP P P:=⟨rfl,rfl,rfl,rfl,rfl,rfl,rfl⟩
theorem SameP.trans{P P1 P2:PL}(h:SameP P P1)(k:SameP P1 P2):SameP P P2:=
 ⟨k.p.trans h.p,k.qt.trans h.qt,k.db.trans h.db,k.aa.trans h.aa,k.amb.trans h.amb,k.top.trans h.top,k.len.trans h.len⟩
structure GotM(P:PL)(fr:List Nat)(own:Int)(k a:Nat)(P':PL)(fr':List Nat):Prop where
 ok:P'.Ok fr'
 same:SameP P P'
 q:∃e,find P.q.E own=some e/\((costK k:Nat):Int)<=e.q.limit-(e.q.charged+e.q.given)/\P'.q={P.q with E:=upd P.q.E own {e.q with charged:=e.q.charged+((costK k:Nat):Int)}}
 mem:P'.a.mem=put_ P.a.mem a (List.replicate (costK k) 0)
 used:k≠8->(P'.usedOf k).Perm (a::P.usedOf k)
 other:∀j,j≠k->P'.usedOf j=P.usedOf j
 frs:if k=8 then ∃g,a=1024*g/\fr'=g::fr else fr'=fr
 few:P'.d.ps.length<=P.d.ps.length+1
theorem GetOk.gotM{P P':PL}{fr:List Nat}{own:Int}{n a:Nat}(g:GetOk P fr own n a P')(ok:P.Ok fr):GotM P fr own n a P' fr:=by
 obtain⟨c,c',h1,h2,h3⟩:=g.which;obtain⟨A,B,u1,u2⟩:=g.used;have ha:a∈P'.usedOf n:=by rw[u2];simp
 have hn:=Q1M g.ok ha;have Ec:costK n=Q0e n:=by unfold costK;rw[if_neg (by omega)]
 obtain⟨e,q1,q2,q3⟩:=g.q;refine⟨g.ok,⟨g.p,g.qt,g.db,g.aa,g.amb,g.top,?_⟩,⟨e,q1,by rw[Ec];exact q2,by rw[Ec];exact q3⟩,by rw[Ec];exact g.mem,fun _=>?_,g.other,by rw[if_neg (by omega)],?_⟩
 ·rw[g.ok.mem,ok.mem,g.top]
 ·rw[u1,u2];exact J6F
 ·rcases h3.pages with ⟨_,e⟩|⟨p,_,_,e⟩
  ·rw[e];omega
  ·rw[e];simp
theorem GotM.room{P P':PL}{fr fr':List Nat}{own:Int}{k a:Nat}(g:GotM P fr own k a P' fr'):a+costK k<=P.a.mem.length/\a%8=0:=by
 by_cases h:k=8
 ·have hf:=g.frs;rw[if_pos h] at hf;obtain⟨x,rfl,hx⟩:=hf;have:=Z5j g.ok (g:=x) (by rw[hx];simp);rw[g.same.len] at this;have:costK k=1024:=by unfold costK;rw[if_pos h]
  omega
 ·have ha:a∈P'.usedOf k:=(g.used h).mem_iff.2 (by simp);have h1:=Q0k g.ok ha;have:costK k=Q0e k:=by unfold costK;rw[if_neg h]
  have h2:=Q2e g.ok ha;have h3:=g.same.len;omega
theorem GotM.apart{P P':PL}{fr fr':List Nat}{own:Int}{k a:Nat}(g:GotM P fr own k a P' fr')(ok:P.Ok fr):(∀j b,b∈P.usedOf j->a+costK k<=b∨b+Q0e j<=a)/\∀x∈fr,a+costK k<=1024*x∨1024*x+1024<=a:=by
 by_cases h:k=8
 ·have Ec:costK k=1024:=by unfold costK;rw[if_pos h]
  have hf:=g.frs;rw[if_pos h] at hf;obtain⟨y,rfl,hy⟩:=hf;have Vq:y∈fr':=by rw[hy];simp
  refine⟨fun j b hb=>?_,fun x hx=>?_⟩
  ·have hj:=Q1M ok hb;have Al:b∈P'.usedOf j:=by rw[g.other j (by omega)];exact hb
   have:=Q1L g.ok Vq Al;omega
  ·have AP:=(Q2V g.ok).1;rw[hy] at AP;have:x≠y:=fun e=>(J3X.1 AP).1 (e ▸ hx)
   omega
 ·have Ec:costK k=Q0e k:=by unfold costK;rw[if_neg h]
  have hf:=g.frs;rw[if_neg h] at hf;have ha:a∈P'.usedOf k:=(g.used h).mem_iff.2 (by simp);refine⟨fun j b hb=>?_,fun x hx=>?_⟩
  ·rw[Ec];by_cases e:j=k
   ·subst e;have AP:(P'.usedOf j).Nodup:=(Q1P g.ok j).imp fun h=>Nat.ne_of_lt h
    have Rz:=(g.used h).nodup_iff.1 AP;have Ac:a≠b:=fun e=>(J3X.1 Rz).1 (e ▸ hb)
    have Al:b∈P'.usedOf j:=(g.used h).mem_iff.2 (by simp[hb]);exact Q3l g.ok ha Al (fun e=>Ac e.2)
   ·have Al:b∈P'.usedOf j:=by rw[g.other j e];exact hb
    exact Q3l g.ok ha Al (fun e'=>e e'.1.symm)
  ·rw[Ec];exact Q1L g.ok (by rw[hf];exact hx) ha
theorem GotM.grewM{P P':PL}{fr fr':List Nat}{own:Int}{k a:Nat}(g:GotM P fr own k a P' fr')(ok:P.Ok fr)(hk:k≠1):J1c P fr k a 0 P' fr':=by
 have hr:=g.room.1;refine⟨g.ok,g.used,g.other,g.frs,fun b hb=>?_,fun h=>absurd h hk⟩;have h1:=(g.apart ok).1 1 b hb;rw[g.mem];exact(Q1w (by rw[J3r];exact hr) (by rw[J3r];have:Q0e 1=64:=rfl;omega)).word
theorem GotM.grewF{P P' P2:PL}{fr fr':List Nat}{own:Int}{a:Nat}(g:GotM P fr own 1 a P' fr')(ok:P.Ok fr){x:Nat}(hx:x<18446744073709551616)(hm:P2.a.mem=put_ P'.a.mem a (Q0c x))(hu:∀j,P2.usedOf j=P'.usedOf j)(B9:P2.Ok fr'):J1c P fr 1 a x P2 fr':=by
 have hr:=g.room.1;have Ee:costK 1=64:=rfl;have Ij:(Q0c x).length=8:=rfl;have hl:=g.same.len;refine⟨B9,fun h=>by rw[hu];exact g.used h,fun j hj=>by rw[hu];exact g.other j hj,g.frs,fun b hb=>?_,fun _=>?_⟩
 ·have h1:=(g.apart ok).1 1 b hb;have Ts:Q0e 1=64:=rfl;have k1:Kept P.a.mem P'.a.mem b 8:=by
   rw[g.mem];exact Q1w (by rw[J3r];exact hr) (by rw[J3r];omega)
  have k2:Kept P'.a.mem P2.a.mem b 8:=by
   rw[hm];exact Q1w (by rw[Ij];omega) (by rw[Ij];omega)
  exact(k1.trans k2).word
 ·rw[hm];unfold Q0m;have:((put_ P'.a.mem a (Q0c x)).drop a).take 8=Q0c x:=by
   apply J4J
   intro i;rw[J5e];split
   ·rw[J5D];exact Q7e (by rw[Ij];omega) (by rw[Ij];assumption)
   ·rw[J4Q (by rw[Ij];omega)]
  rw[this];exact Q2n x hx
structure Z5l(P:PL)(fr:List Nat)(own:Int)(k a:Nat)(P':PL)(fr':List Nat):Prop where
 ok:P'.Ok fr'
 same:SameP P P'
 q:∃e,find P.q.E own=some e/\((costK k:Nat):Int)<=e.q.charged/\P'.q={P.q with E:=upd P.q.E own {e.q with charged:=e.q.charged-((costK k:Nat):Int)}}
 mem:P'.a.mem=P.a.mem
 used:k≠8->(P.usedOf k).Perm (a::P'.usedOf k)
 other:∀j,j≠k->P'.usedOf j=P.usedOf j
 frs:if k=8 then ∃g,a=1024*g/\fr'=fr.erase g else fr'=fr
 few:P'.d.ps.length<=P.d.ps.length
theorem PutOk.backM{P P':PL}{fr:List Nat}{own:Int}{n a:Nat}(g:PutOk P fr own n a P')(ok:P.Ok fr):Z5l P fr own n a P' fr:=by
 obtain⟨c,c',h1,h2,h3⟩:=g.which;obtain⟨A,B,u1,u2⟩:=g.used;have ha:a∈P.usedOf n:=by rw[u1];simp
 have hn:=Q1M ok ha;have Ec:costK n=Q0e n:=by unfold costK;rw[if_neg (by omega)]
 obtain⟨e,q1,q2,q3⟩:=g.q;refine⟨g.ok,⟨g.p,g.qt,g.db,by rw[g.aa],by rw[g.aa],g.top,by rw[g.aa]⟩,⟨e,q1,by rw[Ec];exact q2,by rw[Ec];exact q3⟩,by rw[g.aa],fun _=>?_,g.other,by rw[if_neg (by omega)],?_⟩
 ·rw[u1,u2];exact J6F
 ·rcases h3.pages with ⟨_,e⟩|⟨p,_,e⟩
  ·rw[e];omega
  ·rw[e];exact List.length_erase_le
theorem GotM.high{P P':PL}{fr fr':List Nat}{own:Int}{k a:Nat}(g:GotM P fr own k a P' fr')(ok:P.Ok fr)(hk:k=8∨k<=5):∀j,6<=j->(P'.usedOf j).Perm (P.usedOf j):=fun j hj=>by
 by_cases e:j=k
 ·have h8:j=8:=by omega
  rw[Q1K g.ok (by rw[h8];rfl),Q1K ok (by rw[h8];rfl)]
 ·rw[g.other j e]
abbrev x0:Int->Int:=fun _=>0
def KeptL(m m':List Nat)(l:List Pl):Prop:=∀r∈l,r.is=true->Kept m m' r.at_ (costK r.kind)
theorem costK_8:costK 8=1024:=rfl
theorem Q1d{k:Nat}(h:k≠8):costK k=Q0e k:=by unfold costK;rw[if_neg h]
theorem KeptL.of_apart{P:PL}{l:List Pl}{fr:List Nat}(m:MemI P l fr){a n:Nat}{m':List Nat}(hm:∀b k,b+k<=a∨a+n<=b->Kept P.a.mem m' b k)
  (h:(∀j b,b∈P.usedOf j->a+n<=b∨b+Q0e j<=a)/\∀x∈fr,a+n<=1024*x∨1024*x+1024<=a):KeptL P.a.mem m' l:=fun r hr A4=>by
 by_cases h8:r.kind=8
 ·obtain⟨g,hg,e⟩:=m.frame hr A4 h8;have:=h.2 g hg;rw[h8,costK_8];exact hm _ _ (by omega)
 ·have hu:=m.used hr A4 h8;have:=h.1 _ _ hu;rw[Q1d h8];exact hm _ _ (by omega)
theorem J0g{l:List Pl}{i:Nat}{q:Pl}(h:∀p∈l,p.st<=2/\p.age<=1048575)(hq:q.st<=2/\q.age<=1048575):∀p∈l.set i q,p.st<=2/\p.age<=1048575:=fun p hp=>by
 rcases Q1j hp with rfl|hp
 ·exact hq
 ·exact h p hp
theorem GotM.keptL{P P':PL}{l:List Pl}{fr fr':List Nat}{own:Int}{k a:Nat}(g:GotM P fr own k a P' fr')(m:MemI P l fr):KeptL P.a.mem P'.a.mem l:=
 KeptL.of_apart m (n:=costK k) (a:=a) (fun b j h=>by
  rw[g.mem];exact Q1w (by rw[J3r];exact g.room.1) (by rw[J3r];exact h)) (g.apart m.pool)
def Z5m(P P':PL):Prop:=∀j a,6<=j->a∈P.usedOf j->Kept P.a.mem P'.a.mem a (Q0e j)
theorem GotM.keptH{P P':PL}{fr fr':List Nat}{own:Int}{k a:Nat}(g:GotM P fr own k a P' fr')(ok:P.Ok fr):Z5m P P':=fun j b _ hb=>by
 have:=(g.apart ok).1 j b hb;rw[g.mem];exact Q1w (by rw[J3r];exact g.room.1) (by rw[J3r];omega)
theorem Inv.addN{P P':PL}{l:List Pl}{fr fr':List Nat}{xc:Int->Int}{zs:List Nat}(v:Inv P l fr xc zs){i k a h:Nat}{p f:Pl}(g:GotM P fr f.own k a P' fr')(hi:l[i]?=some p)(hp:p.st=0)(hk:k=8∨(2<=k/\k<=5))(hf:pget l 1 h=some f)(DH:f.kind=1) :
  Inv P' (l.set i ⟨k,a,f.own,1,p.age,0⟩) fr' xc zs:=by
 have Fz:p.is=false:=Pl.not_is.2 ⟨by omega,by omega⟩;obtain⟨e,q1,q2,q3⟩:=g.q;refine⟨by rw[J4N];exact v.len,J0g v.st ⟨by show(1:Nat)<=2;omega,(v.st p (J5p hi)).2⟩,?_,?_,?_⟩
 ·exact v.mem.add (q:=⟨k,a,f.own,1,p.age,0⟩) (g.grewM v.mem.pool (by omega)) hi Fz rfl (by show k=8∨(1<=k/\k<=5);omega)
 ·rw[q3];exact v.tre.addN (q:=⟨k,a,f.own,1,p.age,0⟩) v.mem.pool.q.ids hi Fz rfl (by show k≠1;omega) q1
 ·exact v.que.add hi hp rfl (Q1l hf) (pget_some.1 hf).2.2 DH rfl
theorem TreI.parent_lt{E:List (En Fa)}{l:List Pl}{xc:Int->Int}(t:TreI E l xc)(Ai:E.Pairwise (fun a b=>a.id≠b.id)){N:Int}(h0:0<N)(hN:∀id e,find E id=some e->0<=id/\id<N){x:En Fa}(hx:x∈E):x.q.parent<N/\x.q.parent≠N:=by
 have hm:x.id∈Z5h l:=t.ids.mem_iff.1 (J3T hx);obtain⟨p,hp,El⟩:=J3w.1 hm;unfold ownF at El;split at El
 ·rename_i hc;simp only[J3C,beq_iff_eq] at hc;have hid:(p.own:Int)=x.id:=J3Y El;have Gv:find E p.own=some x:=by rw[hid];exact Z0n Ai hx
  obtain⟨b1,b2⟩:=t.par p hp hc.1 hc.2 x Gv;have:=hN _ _ Gv;by_cases Df:p.own=0
  ·have:=b1 Df;omega
  ·have:=b2 Df;omega
 ·cases El
theorem Inv.addF{P P' P2:PL}{l:List Pl}{fr fr':List Nat}{xc:Int->Int}{zs:List Nat}(v:Inv P l fr xc zs){i a h b x:Nat}{limit:Int}{p f:Pl}{e:En Fa}(g:GotM P fr f.own 1 a P' fr')(hi:l[i]?=some p)(hp:p.st=0)(hf:pget l 1 h=some f)(DH:f.kind=1)
  (hx:(x:Int)=P.q.next) (he:find P.q.E f.own=some e)
  (hq:P2.q.E=upd P.q.E f.own {e.q with charged:=e.q.charged+64,given:=e.q.given+limit,kids:=e.q.kids+1}++[⟨x,b,⟨limit,0,0,f.own,0⟩⟩]) (hm:P2.a.mem=put_ P'.a.mem a (Q0c x)) (hu:∀j,P2.usedOf j=P'.usedOf j) (B9:P2.Ok fr') :
  Inv P2 (l.set i ⟨1,a,f.own,1,p.age,x⟩) fr' xc zs:=by
 have Fz:p.is=false:=Pl.not_is.2 ⟨by omega,by omega⟩;have Ai:=v.mem.pool.q.ids;have hN:∀id e,find P.q.E id=some e->0<=id/\id<P.q.next:=fun id e h=>by
  have:=v.mem.pool.q.fa id e h;exact⟨this.2.2.2.2.2.2.1,this.2.2.2.2.2.2.2⟩
 have D8:=v.mem.pool.q.next1;have Aw:find P.q.E (x:Int)=none:=by
  cases hc:find P.q.E (x:Int) with
  | none=>rfl
  | some y=>have:=hN _ _ hc;omega
 have Aa:f.own<x:=by have:=hN _ _ he;omega
 refine⟨by rw[J4N];exact v.len,J0g v.st ⟨by show(1:Nat)<=2;omega,(v.st p (J5p hi)).2⟩,?_,?_,?_⟩
 ·exact v.mem.add (q:=⟨1,a,f.own,1,p.age,x⟩) (g.grewF v.mem.pool (by show x<_;omega) hm hu B9) hi Fz rfl (.inr ⟨J3h 1,by show(1:Nat)<=5;omega⟩)
 ·rw[hq];refine v.tre.addF (q:=⟨1,a,f.own,1,p.age,x⟩) Ai hi Fz rfl rfl he Aw Aa ?_ (fun y hy=>?_) (fun r hr A4=>?_)
  ·apply Classical.byContradiction
   intro Ac;obtain⟨r,hr,hs,Lx⟩:=(v.que.xc (x:Int)).2 Ac;obtain⟨y,hy⟩:=v.tre.fac r hr (Pl.is_iff.2 (.inl hs));rw[Lx,Aw] at hy;cases hy
  ·have:=(v.tre.parent_lt Ai v.mem.pool.q.next0 hN hy).2;show y.q.parent≠(x:Int);rw[hx];exact this
  ·obtain⟨y,hy⟩:=v.tre.fac r hr A4;have:=hN _ _ hy;show r.fac≠x;omega
 ·exact v.que.add hi hp rfl (Q1l hf) (pget_some.1 hf).2.2 DH rfl
def noPl(age:Nat):Pl:=⟨0,0,0,0,age,0⟩
structure Tried(P:PL)(fr:List Nat)(l:List Pl)(P':PL):Prop where
 ok:P'.Ok fr
 same:SameP P P'
 q:P'.q=P.q
 used:∀k,(P'.usedOf k).Perm (P.usedOf k)
 ps:P'.d.ps.Perm P.d.ps
 mem:KeptL P.a.mem P'.a.mem l
 memH:Z5m P P'
theorem Tried.refl{P:PL}{fr:List Nat}(ok:P.Ok fr)(l:List Pl):Tried P fr l P:=⟨ok,SameP.refl P,rfl,fun _=>J6v _,J6v _,fun _ _ _=>Kept.refl _ _ _,fun _ _ _ _=>Kept.refl _ _ _⟩
theorem Q4E{P:PL}{fr:List Nat}(ok:P.Ok fr)(g:Nat):g∈P.pages↔∃k a,a∈P.usedOf k/\a/1024=g:=by
 constructor
 ·intro hg;obtain⟨c,hc,Df⟩:=J3G.1 hg;obtain⟨x,hx,rfl⟩:=J3n.1 Df;obtain⟨k,hk⟩:=J5Q.1 hc;have ID:P.Cls (k+1) c:=⟨by omega,by simpa using hk⟩
  obtain⟨k1,k2,_,_⟩:=PL.Cls.facts ok ID;have hb:=ok.busy c hc x hx;obtain⟨i,hi⟩:∃i,i∈Q2Q x.1.bits:=by
   cases ht:Q2Q x.1.bits with
   | nil =>
    exfalso
    apply hb
    have:cntB x.1.bits=(Q2Q x.1.bits).length:=(Q5y _).symm;rw[this,ht];rfl
   | cons i r=>exact⟨i,by simp⟩
  have hu:addr c.size x.2 i∈c.used:=J3G.2 ⟨x,hx,J3T hi⟩;refine⟨k+1,addr c.size x.2 i,by rw[Q0P ID];exact hu,?_⟩;have CC:i<x.1.bits.length:=by
   have:=mem_trues.1 hi;rcases J5K i x.1.bits.length with e|e
   ·exact e
   ·rw[J4Q e] at this;cases this
  have FX:=k1.s0;have hp:=Q3Z (s:=c.size) (by omega) CC (k1.many x hx);unfold addr;omega
 ·rintro⟨k,a,ha,rfl⟩;obtain⟨p,hp,h1,h2⟩:=Q4U ok ha;have:=Q1M ok ha;have:=Q7Q this.1 this.2;have e:a/1024=p:=by omega
  rw[e];exact hp
theorem Z5n{P P':PL}{fr fr':List Nat}(ok:P.Ok fr)(ok':P'.Ok fr')(hu:∀k,(P'.usedOf k).Perm (P.usedOf k))(hf:fr'.Perm fr):P'.d.ps.Perm P.d.ps:=by
 have h1:=(ok.pages.nodup_iff).2 ok.d.nd;have h2:=(ok'.pages.nodup_iff).2 ok'.d.nd;have hp:P'.pages.Perm P.pages:=by
  rw[List.perm_ext_iff_of_nodup (J3U.1 h2).2.1 (J3U.1 h1).2.1];intro g;rw[Q4E ok',Q4E ok]
  constructor
  ·rintro⟨k,a,ha,e⟩;exact⟨k,a,(hu k).mem_iff.1 ha,e⟩
  ·rintro⟨k,a,ha,e⟩;exact⟨k,a,(hu k).mem_iff.2 ha,e⟩
 exact ok'.pages.symm.trans ((hf.append hp).trans ok.pages)
theorem GotM.back{P P' P2:PL}{l:List Pl}{fr fr' fr2:List Nat}{own:Int}{k a:Nat}(g:GotM P fr own k a P' fr')(m:MemI P l fr)(b:Z5l P' fr' own k a P2 fr2):Tried P fr l P2:=by
 obtain⟨e,q1,q2,q3⟩:=g.q;obtain⟨e',r1,r2,r3⟩:=b.q;have Ai:=m.pool.q.ids;have hE:P'.q.E=upd P.q.E own {e.q with charged:=e.q.charged+((costK k:Nat):Int)}:=by rw[q3]
 have AD:e'={e with q:={e.q with charged:=e.q.charged+((costK k:Nat):Int)}}:=by
  rw[hE,Q0n q1] at r1;exact(J3Y r1).symm
 have hq:P2.q=P.q:=by
  have h1:upd P'.q.E own {e'.q with charged:=e'.q.charged-((costK k:Nat):Int)}=P.q.E:=by
   rw[hE,upd_upd,AD];have:({e.q with charged:=e.q.charged+((costK k:Nat):Int)-((costK k:Nat):Int)}:Fa)=e.q:=by
    rw[J6I]
   show upd P.q.E own ({e.q with charged:=e.q.charged+((costK k:Nat):Int)-((costK k:Nat):Int)}:Fa)=_;rw[this];exact Z4v Ai q1
  rw[r3,h1,q3]
 have hu:∀j,(P2.usedOf j).Perm (P.usedOf j):=fun j=>by
  by_cases e:j=k
  ·subst e;by_cases h8:j=8
   ·have z:∀{Q:PL} {f:List Nat},Q.Ok f->Q.usedOf j=[]:=fun hQ=>Q1K hQ (by rw[h8];rfl)
    rw[z b.ok,z m.pool]
   ·have h1:=(g.used h8).symm.trans (b.used h8);exact(J6N h1).symm
  ·rw[b.other j e,g.other j e]
 have Cw:fr2=fr:=by
  have h1:=g.frs;have h2:=b.frs;by_cases h8:k=8
  ·rw[if_pos h8] at h1 h2;obtain⟨x,rfl,hx⟩:=h1;obtain⟨y,hy,rfl⟩:=h2;have:x=y:=by omega
   subst this;rw[hx];simp
  ·rw[if_neg h8] at h1 h2;rw[h2,h1]
 have B9:P2.Ok fr:=by rw[<- Cw];exact b.ok
 exact⟨B9,g.same.trans b.same,hq,hu,Z5n m.pool B9 hu (J6v _),fun r hr A4=>by rw[b.mem];exact g.keptL m r hr A4,fun j c hj hc=>by rw[b.mem];exact g.keptH m.pool j c hj hc⟩
theorem Inv.tried{P P':PL}{l:List Pl}{fr:List Nat}{xc:Int->Int}{zs:List Nat}(v:Inv P l fr xc zs)(t:Tried P fr l P'):Inv P' l fr xc zs:=by
 refine⟨v.len,v.st,⟨t.ok,v.mem.kind,fun k h1 h5=>(v.mem.ats k h1 h5).trans (t.used k).symm,v.mem.frs,fun r hr A4 hk=>?_⟩,by rw[t.q];exact v.tre,v.que⟩;have:=t.mem r hr A4;rw[hk] at this;rw[(this.sub (J3h _) (by show r.at_+8<=r.at_+64;omega)).word];exact v.mem.word r hr A4 hk
structure HT where
 t:Nat
 l:List Pl
def Pl.cells(p:Pl):List Value:=[.int .i64 (p.kind:Int),.int .i64 (p.at_:Int),.int .i64 (p.fac:Int),.int .i64 (p.st:Int),.int .u32 (p.age:Int)]
def HT.hl(h:HT):HL:=[(h.t,isC 302 (h.l.flatMap Pl.cells))]
theorem Q3M:∀{l:List Pl} {i:Nat} {p:Pl},l[i]?=some p->∀(j:Nat) (v:Value),j<5->p.cells[j]?=some v->(l.flatMap Pl.cells)[i*5+j]?=some v
 | [],i,p,h,j,v,_,_=>by simp at h
 | x::r,0,p,h,j,v,hj,hv=>by
  simp at h;subst h;rw[J3E,J6Q,J5F,J6p (by simpa[Pl.cells] using hj)];exact hv
 | x::r,i+1,p,h,j,v,hj,hv=>by
  rw[J6o] at h;have:=Q3M (l:=r) h j v hj hv;rw[J3E,J6q (by simp[Pl.cells];omega)];rw[<- this];congr 1;simp[Pl.cells];omega
theorem Z5o:∀{l:List Pl} {i:Nat} {p q:Pl},l[i]?=some p->∀(j:Nat) (v:Value),j<5->p.cells.set j v=q.cells->(l.flatMap Pl.cells).set (i*5+j) v=(l.set i q).flatMap Pl.cells
 | [],i,p,q,h,j,v,_,_=>by simp at h
 | x::r,0,p,q,h,j,v,hj,hv=>by
  simp at h;subst h;rw[J3E,J6Q,J5F,List.set_append_left _ _ (by simpa[Pl.cells] using hj),hv];rfl
 | x::r,i+1,p,q,h,j,v,hj,hv=>by
  rw[J6o] at h;have:=Z5o (l:=r) h j v hj hv;rw[J3E,J6R _ _ (by simp[Pl.cells];omega)];rw[J5M,J3E,<- this];congr 2;simp[Pl.cells];omega
theorem J1d(l:List Pl):(l.flatMap Pl.cells).length=l.length*5:=by
 induction l with
 | nil=>rfl
 | cons x r ih=>rw[J3E,J3N,ih];simp[Pl.cells];omega
section
variable {w:World} {h:HT}
theorem HT.cells(s:Sep w h.hl):Cells w h.t 302 (h.l.flatMap Pl.cells):=s.cells (by simp[HT.hl])
theorem HT.cell(s:Sep w h.hl){i:Nat}{p:Pl}(hi:h.l[i]?=some p):w.cell? ⟨h.t,i*5,none⟩=some (.int .i64 (p.kind:Int))/\w.cell? ⟨h.t,i*5+1,none⟩=some (.int .i64 (p.at_:Int))/\w.cell? ⟨h.t,i*5+2,none⟩=some (.int .i64 (p.fac:Int))/\w.cell? ⟨h.t,i*5+3,none⟩=some (.int .i64 (p.st:Int))/\w.cell? ⟨h.t,i*5+4,none⟩=some (.int .u32 (p.age:Int))/\∀j,w.frozen? ⟨h.t,j,none⟩=false:=
 ⟨(HT.cells s).cell (i*5) _ (Q3M hi 0 _ (by omega) rfl),(HT.cells s).cell (i*5+1) _ (Q3M hi 1 _ (by omega) rfl),(HT.cells s).cell (i*5+2) _ (Q3M hi 2 _ (by omega) rfl),(HT.cells s).cell (i*5+3) _ (Q3M hi 3 _ (by omega) rfl),(HT.cells s).cell (i*5+4) _ (Q3M hi 4 _ (by omega) rfl),(HT.cells s).free⟩
theorem HT.set(s:Sep w h.hl){i:Nat}{p q:Pl}(hi:h.l[i]?=some p)(j:Nat)(v:Value)(hj:j<5)(hq:p.cells.set j v=q.cells):Step h.hl ({h with l:=h.l.set i q}:HT).hl w (w.setCell ⟨h.t,i*5+j,none⟩ v):=by
 have:=Sep.set (A:=[]) (B:=[]) (by simpa[HT.hl] using s) (i*5+j) v;rw[Z5o hi j v hj hq] at this;exact this
end
theorem J1e(a i:Nat)(hi:i<256)(ha:a<=1048575):bits BinOp.or IntKind.u32 ((a*256:Nat):Int) (i:Int)=((a*256+i:Nat):Int):=by
 rw[u32_or_nat _ _ (by omega) (by omega)];congr 1;have:=J6x (i:=8) (b:=i) (by omega) a;rw[J6b] at this;exact this.symm
theorem Q8R(h:Nat)(hh:h<4294967296):bits BinOp.and IntKind.u32 (h:Int) 255=((h%256:Nat):Int):=by
 have:=u32_and_nat h 255 hh (by omega);rw[show((255:Nat):Int)=255 from rfl] at this;rw[this];congr 1;exact J4G h 8
theorem Q4g{w:World}{h:HT}(s:Sep w h.hl){i:Nat}{p:Pl}(hi:h.l[i]?=some p)(Ar:i<256)(ha:p.age<=1048575):Calls prog 202 #[.pointer (some ⟨h.t,0,none⟩),.int .i64 i] w fun r w'=>r=.returned (.int .u32 ((nm i p:Nat):Int))/\w=w':=by
 obtain⟨-,-,-,-,c4,-⟩:=HT.cell s hi;have HO:=Q0a (J1e p.age i Ar ha);unfold nm;clear s hi;generalize p.age=a at *
 go_enter func202,ntmps202
 go_wp2
 go_ret;refine⟨?_,rfl⟩;have e:=HO.out;rw[J4f] at e;exact congrArg (fun z=>Ending.returned (.int .u32 z)) e
abbrev OV:=Option (Nat×Nat×Nat)
def ovOf(rv:OV)(n:Nat):Value:=match rv with
 | none=>.slice none 0 0
 | some (g,off,cap)=>.slice (some ⟨g,off,none⟩) n cap
def isS(T:TypeId)(m off:Nat)(cs:List Value):Obj->Prop:=fun o=>∃Ak:Array Value,o=.cells Ak T (0,0)/\off+m<=Ak.size/\(Ak.toList.drop off).take cs.length=cs
def ovH(rv:OV)(T:TypeId)(size:Nat)(xs:List Value):HL:=match rv with
 | none=>[]
 | some (g,off,cap)=>[(g,isS T (cap*size) off xs)]
def ovOk(rv:OV)(n:Nat):Prop:=match rv with
 | none=>n=0
 | some (_,_,cap)=>n<=cap/\cap<=maxLen
structure CO where
 c:Nat
 P:PL
 t:Nat
 l:List Pl
 g:Nat
 period:Nat
 now:Nat
 rv:OV
 ts:List (Nat×Nat)
 xc:Int->Int
def J2l(ts:List (Nat×Nat)):List Value:=ts.flatMap fun x=>[.int .i64 (x.1:Int),.int .i64 (x.2:Int)]
def qhl(g period now:Nat)(rv:OV)(ts:List (Nat×Nat)):HL:=(g,isC 305 [.int .i64 period,.int .i64 now,ovOf rv ts.length])::ovH rv 331 2 (J2l ts)
def CO.qh(S:CO):HL:=qhl S.g S.period S.now S.rv S.ts
def CO.ht(S:CO):HT:=⟨S.t,S.l⟩
def CO.head(S:CO):Nat×(Obj->Prop):=(S.c,isC 187 [ptr S.P.p,ptr S.t,ptr S.g])
def CO.hl(S:CO):HL:=S.head::(S.P.hl++(S.ht.hl++S.qh))
structure CO.Ok(S:CO)(fr:List Nat)(N K:Nat):Prop where
 inv:Inv S.P S.l fr S.xc (S.ts.map Prod.fst)
 per:1<=S.period/\S.period<=16
 due:∀x∈S.ts,S.now<x.2/\x.2<=S.now+S.period
 ord:S.ts.Pairwise (fun a b=>a.2<=b.2)
 ov:ovOk S.rv S.ts.length
 next:S.P.q.next<=N
 now:S.now<=K
 age:∀p∈S.l,p.age<=S.now
structure Went(S S':CO):Prop where
 c:S'.c=S.c
 t:S'.t=S.t
 g:S'.g=S.g
 per:S'.period=S.period
 same:SameP S.P S'.P
 now:S.now<=S'.now
 age:∀(i:Nat) (p:Pl),S.l[i]?=some p->∃p':Pl,S'.l[i]?=some p'/\p.age<=p'.age
 queue:S'.now=S.now->∃T,S'.ts=S.ts++T/\∀x∈T,x.2=S.now+S.period
 root:S'.l[0]?=S.l[0]?
 high:∀j,6<=j->(S'.P.usedOf j).Perm (S.P.usedOf j)
 memH:Z5m S.P S'.P
 xc:S'.xc=S.xc
 zombie:S'.now=S.now->∀(x:Nat) (p:Pl),pget S.l 2 x=some p->pget S'.l 2 x=some p/\Kept S.P.a.mem S'.P.a.mem p.at_ (costK p.kind)
theorem CO.permP(S:CO):S.hl.Perm (S.P.hl++(S.head::(S.ht.hl++S.qh))):=by
 unfold CO.hl;exact J6F.symm
theorem CO.permT(S:CO):S.hl.Perm (S.ht.hl++(S.head::(S.P.hl++S.qh))):=by
 unfold CO.hl;refine(List.Perm.cons _ ?_).trans J6F.symm;rw[<- J4b,<- J4b];exact J5P.append_right _
section
variable {w:World} {S:CO}
theorem CO.sP(h:Sep w S.hl):Sep w S.P.hl:=h.part S.permP
theorem CO.sT(h:Sep w S.hl):Sep w S.ht.hl:=h.part S.permT
theorem CO.cells(h:Sep w S.hl):Cells w S.c 187 [ptr S.P.p,ptr S.t,ptr S.g]:=h.cells (by simp[CO.hl,CO.head])
theorem CO.c0(h:Sep w S.hl):w.cell? ⟨S.c,0,none⟩=some (.pointer (some ⟨S.P.p,0,none⟩)):=(CO.cells h).cell 0 _ rfl
theorem CO.c1(h:Sep w S.hl):w.cell? ⟨S.c,1,none⟩=some (.pointer (some ⟨S.t,0,none⟩)):=(CO.cells h).cell 1 _ rfl
end
def CO.setP(S:CO)(P:PL):CO:={S with P:=P}
def CO.setL(S:CO)(l:List Pl):CO:={S with l:=l}
theorem CO.stepP{w w':World}{S:CO}(h:Sep w S.hl)(P:PL)(e:P.p=S.P.p)(s:Step S.P.hl P.hl w w'):Step S.hl (S.setP P).hl w w':=by
 have hp:=(S.setP P).permP;have e1:(S.setP P).head=S.head:=by unfold CO.head CO.setP;rw[e]
 rw[e1] at hp;exact Step.lift S.permP hp h s
theorem CO.stepL{w w':World}{S:CO}(h:Sep w S.hl)(l:List Pl)(s:Step S.ht.hl (⟨S.t,l⟩:HT).hl w w'):Step S.hl (S.setL l).hl w w':=
 Step.lift S.permT (S.setL l).permT h s
def PL.setD(P:PL)(d:BD):PL:={P with d:=d}
theorem PL.stepD{w w':World}{P:PL}(h:Sep w P.hl)(d:BD)(e:d.b=P.d.b)(s:Step P.d.hl d.hl w w'):Step P.hl (P.setD d).hl w w':=by
 have AG:=PL.permD (P.setD d);have e1:(P.setD d).cells=P.cells:=by unfold PL.cells PL.setD;simp only[e]
 rw[e1] at AG;exact Step.lift (PL.permD P) AG h s
theorem PL.ok_setD{P:PL}{fr fr':List Nat}(ok:P.Ok fr){d:BD}(h1:d.b=P.d.b)(h2:d.top=P.d.top)(h3:d.At)(h4:(fr'++P.pages).Perm d.ps):(P.setD d).Ok fr':=by
 refine⟨ok.q,h3,?_,?_,ok.bytes,ok.len,fun k c hc=>?_,h4,ok.busy⟩
 ·show P.a.mem.length=2 ^ (d.top+10);rw[h2];exact ok.mem
 ·show 6<=d.top;rw[h2];exact ok.top
 ·obtain⟨a1,a2,a3⟩:=ok.c k c hc;exact⟨a1,a2,by show c.bb=d.b;rw[h1];exact a3⟩
theorem Z5p{P:PL}{fr:List Nat}(ok:P.Ok fr){own:Int}{e:En Fa}(hf:find P.q.E own=some e)(hq:(1024:Int)<=e.q.limit-(e.q.charged+e.q.given)){g:Nat}{d:BD}(h1:d.b=P.d.b)(h2:d.top=P.d.top)(h3:d.ps=P.d.ps++[g])(h4:d.At) :
  GotM P fr own 8 (1024*g) (((P.setQ {P.q with E:=upd P.q.E own {e.q with charged:=e.q.charged+1024}}).setD d).setA (put_ P.a.mem (1024*g) (List.replicate 1024 0))) (g::fr):=by
 obtain⟨f1,f2,f3,f4,f5,f6,f7,f8⟩:=ok.q.fa own e hf;have ok1:=PL.ok_setQ ok (Q2T ok.q hf {e.q with charged:=e.q.charged+1024} ⟨by show 0<=e.q.charged+_;omega,f2,by show e.q.charged+_+e.q.given<=e.q.limit;omega,rfl,rfl⟩);have DE:((g::fr)++P.pages).Perm d.ps:=by
  rw[h3];refine(ok.pages.cons g).trans ?_;exact(J6G _ _).symm
 have ok2:=PL.ok_setD (fr':=g::fr) ok1 (d:=d) h1 h2 h4 DE;have hg:g<2 ^ P.d.top:=by rw[<- h2];exact h4.lt g (by rw[h3];simp)
 have hl:1024*g+(List.replicate 1024 0).length<=P.a.mem.length:=by
  rw[J3r,ok.mem,J4C,show(2:Nat) ^ 10=1024 from rfl];omega
 have Ab:=Q1t P.a.mem (1024*g) (List.replicate 1024 0) hl;have ok3:=PL.ok_setA ok2 (m:=put_ P.a.mem (1024*g) (List.replicate 1024 0)) Ab (Q8L ok.bytes 0 (by omega));refine⟨ok3,⟨rfl,rfl,h1,rfl,rfl,h2,Ab⟩,⟨e,hf,hq,rfl⟩,rfl,fun h=>absurd rfl h,fun j _=>rfl,?_,?_⟩
 ·rw[if_pos rfl];exact⟨g,rfl,rfl⟩
 ·show d.ps.length<=_;rw[h3];simp
theorem Z2I{P:PL}{fr:List Nat}(ok:P.Ok fr){own:Int}{e:En Fa}(hf:find P.q.E own=some e)(hq:(1024:Int)<=e.q.charged){g:Nat}(hg:g∈fr){d:BD}(h1:d.b=P.d.b)(h2:d.top=P.d.top)(h3:d.ps=P.d.ps.erase g)(h4:d.At) :
  Z5l P fr own 8 (1024*g) ((P.setQ {P.q with E:=upd P.q.E own {e.q with charged:=e.q.charged-1024}}).setD d) (fr.erase g):=by
 obtain⟨f1,f2,f3,f4,f5,f6,f7,f8⟩:=ok.q.fa own e hf;have ok1:=PL.ok_setQ ok (Q2T ok.q hf {e.q with charged:=e.q.charged-1024} ⟨by show 0<=e.q.charged-_;omega,f2,by show e.q.charged-_+e.q.given<=e.q.limit;omega,rfl,rfl⟩);have DE:(fr.erase g++P.pages).Perm d.ps:=by
  rw[h3];have:=ok.pages.erase g;rw[List.erase_append_left _ hg] at this;exact this
 have ok2:=PL.ok_setD (fr':=fr.erase g) ok1 (d:=d) h1 h2 h4 DE;refine⟨ok2,⟨rfl,rfl,h1,rfl,rfl,h2,rfl⟩,⟨e,hf,hq,rfl⟩,rfl,fun h=>absurd rfl h,fun j _=>rfl,?_,?_⟩
 ·rw[if_pos rfl];exact⟨g,rfl,rfl⟩
 ·show d.ps.length<=_;rw[h3];exact List.length_erase_le
def NoPage(P:PL):Prop:=∀p,p<2 ^ P.d.top->p∈P.d.ps
theorem NoPage.len{P:PL}(h:NoPage P):2 ^ P.d.top<=P.d.ps.length:=by
 have h1:(List.range (2 ^ P.d.top)).Nodup:=J6U;have h2:=h1.length_le_of_subset (l₂:=P.d.ps) (fun x hx=>h x (J3x.1 hx))
 simpa using h2
theorem NoRoom.page{P:PL}{n:Nat}(h:NoRoom P n):NoPage P:=by
 obtain⟨c,_,_,hn⟩:=h;exact fun p hp=>Q8P hn hp
theorem Z5q(d:BD):(∀k,k<=d.top->fstG (fre (uOf d.ps) d.top) d.top k 0=none)∨∃k0 i0,k0<=d.top/\fstG (fre (uOf d.ps) d.top) d.top k0 0=some i0/\∀k,k<k0->fstG (fre (uOf d.ps) d.top) d.top k 0=none:=by
 have key:∀n,(∀k,k<n->fstG (fre (uOf d.ps) d.top) d.top k 0=none)∨∃k0 i0,k0<n/\fstG (fre (uOf d.ps) d.top) d.top k0 0=some i0/\∀k,k<k0->fstG (fre (uOf d.ps) d.top) d.top k 0=none:=by
  intro n
  induction n with
  | zero=>left;intro k hk;omega
  | succ n ih =>
   rcases ih with h|⟨k0,i0,h1,h2,h3⟩
   ·cases hc:fstG (fre (uOf d.ps) d.top) d.top n 0 with
    | none =>
     left;intro k hk;by_cases e:k=n
     ·rw[e];exact hc
     ·exact h k (by omega)
    | some i=>right;exact⟨n,i,by omega,hc,h⟩
   ·right;exact⟨k0,i0,by omega,h2,h3⟩
 rcases key (d.top+1) with h|⟨k0,i0,h1,h2,h3⟩
 ·left;exact fun k hk=>h k (by omega)
 ·right;exact⟨k0,i0,by omega,h2,h3⟩
theorem J1f{l:List Pl}{xc:Int->Int}{zs:List Nat}(u:QueI l xc zs){i:Nat}{p:Pl}(hi:l[i]?=some p)(hp:p.st≠1):i≠0:=by
 obtain⟨r,r1,_,_,r4,_,_⟩:=u.root;rintro rfl;rw[r1] at hi;cases hi;exact hp r4
theorem CO.Ok.made{S:CO}{fr fr':List Nat}{N N' K:Nat}(ok:S.Ok fr N K){P':PL}{l':List Pl}(hi:Inv P' l' fr' S.xc (S.ts.map Prod.fst))(hn:P'.q.next<=N')(ha:∀p∈l',p.age<=S.now):((S.setP P').setL l').Ok fr' N' K:=
 ⟨hi,ok.per,ok.due,ok.ord,ok.ov,hn,ok.now,ha⟩
theorem J1g{l:List Pl}{i n:Nat}{q:Pl}(h:∀p∈l,p.age<=n)(hq:q.age<=n):∀p∈l.set i q,p.age<=n:=fun p hp=>by
 rcases Q1j hp with rfl|hp
 ·exact hq
 ·exact h p hp
theorem Z8s{l:List Pl}{i:Nat}{p q:Pl}(hi:l[i]?=some p)(h:p.age<=q.age):∀(j:Nat) (r:Pl),l[j]?=some r->∃r':Pl,(l.set i q)[j]?=some r'/\r.age<=r'.age:=fun j r hr=>by
 by_cases e:i=j
 ·subst e;rw[hi] at hr;cases hr;exact⟨q,J6P (J3y.1 hi).1,h⟩
 ·exact⟨r,by rw[J6H e];exact hr,J3h _⟩
theorem Went.made{S:CO}{fr:List Nat}{N K:Nat}(ok:S.Ok fr N K){P':PL}(hs:SameP S.P P'){i:Nat}{p q:Pl}(hi:S.l[i]?=some p)(hp:p.st=0)(hq:q.age=p.age)(hk:KeptL S.P.a.mem P'.a.mem S.l)(hh:∀j,6<=j->(P'.usedOf j).Perm (S.P.usedOf j))(hm:Z5m S.P P'):Went S ((S.setP P').setL (S.l.set i q)):=by
 have BH:=J1f ok.inv.que hi (by omega);refine⟨rfl,rfl,rfl,rfl,hs,J3h _,Z8s hi (by omega),fun _=>⟨[],by simp[CO.setL,CO.setP],by simp⟩,J6H BH,hh,hm,rfl,fun _ x r hr=>?_⟩;obtain⟨a,b,c⟩:=pget_some.1 hr;refine⟨?_,hk r (Q1l hr) (Pl.is_iff.2 (.inr c))⟩;show pget (S.l.set i q) 2 x=some r;rw[Q2B q hi,if_neg]
 ·exact hr
 ·intro e;rw[e,hi] at a;cases a;omega
theorem CO.Ok.tried{S:CO}{fr:List Nat}{N K:Nat}(ok:S.Ok fr N K){P':PL}(t:Tried S.P fr S.l P'):(S.setP P').Ok fr N K:=
 ⟨ok.inv.tried t,ok.per,ok.due,ok.ord,ok.ov,by show P'.q.next<=N;rw[t.q];exact ok.next,ok.now,ok.age⟩
theorem Q4F{P:Program}(w:World){ops:Array Oper}{rest:List Oper}{o:Oper}{a:Act}{Q:Exit->Act->World->Prop}
  (hg:o.guard=none) (m k x:Operand) (t K V:TypeId) (hop:o.op=.insert t m k x) (hT:P.underlying t=some (.map K V)) (hK:P.underlying K=some (.int .i64))
  (b:Nat) (kv:List (Int×Value)) (h:Q0H w b kv) (id:Int) (u:Value) (hm:a.eval m=.map (some b)) (hk:a.eval k=.int .i64 id) (hx:a.eval x=u)
  (hK':∀w',Q0H w' b (put kv id u)->w.grownBy w' (some b)->wpList P ops Q rest (a.put o.dst undef) w'):wpList P ops Q (o::rest) a w:=by
 refine wpList_plain hg fun K' hK''=>?_
 obtain⟨w',Ic,r1,r2⟩:=Q1q (P:=P) h id u hT hK;unfold Oper.wp;simp[execOp,hop,hm,hk,hx,Ic,Result.andThen];exact hK'' _ _ (hK' w' r1 r2)
def Q2h(t m b:Nat)(limit:Int):QT:=⟨t,m,[⟨0,b,⟨limit,0,0,-1,0⟩⟩],1⟩
theorem Z8t(t m b:Nat)(limit:Int)(h0:0<=limit)(h1:limit<=1073741824):(Q2h t m b limit).Ok:=by
 refine⟨by simp[Q2h],by simp[Q2h],by simp[Q2h],fun id e he=>?_⟩;simp only[Q2h,find] at he;by_cases h:id=0
 ·simp[h] at he;subst he;subst h;simp[Q2h];omega
 ·simp[h] at he
def NewQ(limit:Int)(H:HL)(w:World)(r:Ending)(w':World):Prop:=∃t m b,r=.returned (.pointer (some ⟨t,0,none⟩))/\Step H ((Q2h t m b limit).hl++H) w w'
theorem Z8u{w:World}{H:HL}(h:Sep w H)(limit:Int)(h0:0<=limit)(h1:limit<=1073741824):Calls prog 62 #[.int .i64 limit] w (NewQ limit H w):=by
 have HR:Hid (∀w1,Q0H w1 w.heap.size [(0,.pointer (some ⟨w.heap.size+1,0,none⟩))]->((w.alloc (.map #[] 0)).alloc (.cells #[.int .i64 limit,.int .i64 0,.int .i64 0,.int .i64 (-1),.int .i64 0] 147)).grownBy w1 (some w.heap.size) ->
   NewQ limit H w (.returned (.pointer (some ⟨w1.heap.size,0,none⟩))) (w1.alloc (.cells #[.map (some w.heap.size),.int .i64 1] 150))):=fun w1 hm hg=>by
  have s1:=h.newMap;have s2:=s1.sep.new 147 [.int .i64 limit,.int .i64 0,.int .i64 0,.int .i64 (-1),.int .i64 0];have e1:(w.alloc (.map #[] 0)).heap.size=w.heap.size+1:=by simp
  rw[e1] at s2;obtain⟨es,Ah,ho,hr⟩:=hm;have s3:=Sep.turn (A:=[(w.heap.size+1,isC 147 [.int .i64 limit,.int .i64 0,.int .i64 0,.int .i64 (-1),.int .i64 0])]) (q':=isMI [(0,.pointer (some ⟨w.heap.size+1,0,none⟩))]) s2.sep hg ⟨_,ho,es,Ah,rfl,hr⟩;have s4:=s3.sep.new 150 [.map (some w.heap.size),.int .i64 1];refine⟨w1.heap.size,w.heap.size,w.heap.size+1,rfl,?_⟩;have:=((s1.trans s2).trans s3).trans s4;refine this.perm (J6v _) ?_;simp only[Q2h,QT.hl,facH,kvs,J3k,J5H,J5m,J5l,Fa.cells,ptr];refine List.Perm.cons _ ?_;exact List.Perm.swap _ _ _
 have hM:Q0H ((w.alloc (.map #[] 0)).alloc (.cells #[.int .i64 limit,.int .i64 0,.int .i64 0,.int .i64 (-1),.int .i64 0] 147)) w.heap.size []:=(MapIs.new w).alloc _;have Il:=@run_makeMap prog;clear h;go_enter func62,ntmps62;go_wp2_with (refine Q4F _ rfl _ _ _ 148 3 140 rfl underlying148 underlying3 w.heap.size [] hM 0 (.pointer (some ⟨w.heap.size+1,0,none⟩)) rfl rfl rfl ?_;intro w1 Eb BS;have G3:=Q0a (HR.out w1 Eb BS);clear Eb BS);go_ret;exact G3.out
theorem J2m{w:World}(hT:TabB w)(k:Nat)(hk:k<64) :
  Calls prog 125 #[.int .u64 ((2 ^ k:Nat):Int)] w fun r w'=>r=.returned (.int .i64 k)/\w=w':=by
 have k1:=Z1j hT (fun j=>j==k) k hk (by simp) (fun j hj=>by simp;omega);rw[Z1B k hk] at k1;clear hT;have b2:2 ^ k<18446744073709551616:=by
  have:=J4t (a:=2) (by omega) hk;exact J3j this (by decide)
 generalize 2 ^ k=n at *
 go_enter func125,ntmps125;go_wp2_with (go_at_call 135;refine k1.mono ?_;rintro e w'⟨rfl,rfl⟩);go_ret;exact⟨rfl,rfl⟩
def J1h(top:Nat)(H:HL)(w:World)(r:Ending)(w':World):Prop:=∃d:BD,r=.returned (.pointer (some ⟨d.b,0,none⟩))/\d.top=top/\d.ps=[]/\d.At/\Step H (d.hl++H) w w'
theorem BD.snoc{w w1:World}{H:HL}{d:BD}(h:Sep w (d.hl++H))(hl:d.bms.length<21)(m:BM)(hs:Step (d.hl++H) (m.hl++(d.hl++H)) w w1) :
  Step (d.hl++H) (({d with bms:=d.bms++[m]}:BD).hl++H) w (w1.setCell ⟨d.b,1+d.bms.length,none⟩ (ptr m.b)):=by
 have ec:d.cells.set (1+d.bms.length) (ptr m.b)=({d with bms:=d.bms++[m]}:BD).cells:=by
  unfold BD.cells;rw[J4k,J5M];congr 1;simp only[J3N,J6Z,J6E,J3k,J5H];rw[show 21-d.bms.length=(21-(d.bms.length+1))+1 from by omega,J7a,J4b,J6R _ _ (by simp),J4K,J6t];simp
 have hp:(m.hl++(d.hl++H)).Perm (d.hl++(m.hl++H)):=by
  rw[<- J4b,<- J4b];exact J5O H J5P
 have h1:=hs.sep.perm hp;have h2:Sep w1 ([]++(d.b,isC 158 d.cells)::((d.mb,isMI (upk d.ps))::d.bms.flatMap BM.hl++(m.hl++H))):=h1;have h3:=h2.set (1+d.bms.length) (ptr m.b);rw[ec] at h3;have h4:Step (d.hl++H) (d.hl++(m.hl++H)) w w1:=hs.perm (J6v _) hp;refine(h4.trans h3).perm (J6v _) ?_;unfold BD.hl;simp only[J5l,J5m,J3M,J3E,J7b,J5h,J4b];exact J6v _
theorem Z5r{w:World}{H:HL}(h:Sep w H)(top:Nat)(h1:6<=top)(h2:top<=20):Calls prog 63 #[.int .i64 ((2 ^ (top+10):Nat):Int)] w (J1h top H w):=by
 have k1:=Z1C (w:=w) (top+10) (by omega);have k2:=J2m h.env.tabB top (by omega);have b1:65536<=2 ^ (top+10):=J3i (by decide:65536<=2 ^ 16) (J4p (by omega) (by omega));have b2:2 ^ (top+10)<=1073741824:=J3i (J4p (by omega) (by omega)) (by decide:2 ^ 30<=1073741824);have Ix:((2 ^ (top+10):Nat):Int)/1024=((2 ^ top:Nat):Int):=by
  rw[J4C,show(2:Nat) ^ 10=1024 from rfl];omega
 have bt:2 ^ top<=1048576:=by have:=Q1v (k:=0) h2;simpa using this
 generalize 2 ^ (top+10)=n at *
 generalize 2 ^ top=t at *
 have h0:Hid (Step H ((⟨w.heap.size+1,w.heap.size,top,[],[]⟩:BD).hl++H) w ((w.alloc (.map #[] 0)).alloc (.cells (BD.cells ⟨w.heap.size+1,w.heap.size,top,[],[]⟩).toArray 158))):=by
  have s1:=h.newMap;have s2:=s1.sep.new 158 (BD.cells ⟨w.heap.size+1,w.heap.size,top,[],[]⟩);have:=s1.trans s2;show Step _ _ _ _
  simpa[BD.hl,upk,isMI] using this
 have HR:=Q0a (show ∀(k:Nat) (bms:List BM) (wr:World),k<=top->bms.length=k->(∀j m,bms[j]?=some m->m.bits=List.replicate (2 ^ (top-j)) false)->Step H ((⟨w.heap.size+1,w.heap.size,top,bms,[]⟩:BD).hl++H) w wr ->
   wr.cell? ⟨w.heap.size+1,0,none⟩=some (.int .i64 top)/\wr.cell? ⟨w.heap.size+1,1+k,none⟩=some (.pointer none)/\wr.frozen? ⟨w.heap.size+1,1+k,none⟩=false /\
   Calls prog 126 #[.int .i64 ((2 ^ (top-k):Nat):Int)] wr.drew fun r w1=>∃mb:Nat,r=.returned (.pointer (some ⟨mb,0,none⟩))/\(w1.cell? ⟨w.heap.size+1,0,none⟩=some (.int .i64 top)/\w1.cell? ⟨w.heap.size+1,1+k,none⟩=some (.pointer none)/\w1.frozen? ⟨w.heap.size+1,1+k,none⟩=false)/\(∀v,(w1.setCell ⟨w.heap.size+1,1+k,none⟩ v).cell? ⟨w.heap.size+1,0,none⟩=some (.int .i64 top)) /\
    ∃bms',bms'.length=k+1/\(∀j m,bms'[j]?=some m->m.bits=List.replicate (2 ^ (top-j)) false)/\Step H ((⟨w.heap.size+1,w.heap.size,top,bms',[]⟩:BD).hl++H) w (w1.setCell ⟨w.heap.size+1,1+k,none⟩ (.pointer (some ⟨mb,0,none⟩))) from fun k bms wr hk Ab hb Ao=>by
  have hs:=Ao.sep.left;have cells:∀{w1:World},Sep w1 (⟨w.heap.size+1,w.heap.size,top,bms,[]⟩:BD).hl->w1.cell? ⟨w.heap.size+1,0,none⟩=some (.int .i64 top)/\w1.cell? ⟨w.heap.size+1,1+k,none⟩=some (.pointer none)/\w1.frozen? ⟨w.heap.size+1,1+k,none⟩=false:=by
   intro w1 CN;have hc:=BD.sepC CN;refine⟨hc.cell 0 _ rfl,hc.cell (1+k) _ ?_,hc.free _⟩;unfold BD.cells;rw[show 1+k=k+1 from J4k 1 k,J6o,J4b,J6q (by simp[Ab]),J4K,Ab,J6t,J6p (by simp;omega),J5c,if_pos (by omega)]
  refine⟨(cells hs).1,(cells hs).2.1,(cells hs).2.2,(Q8B Ao.sep.drew (2 ^ (top-k)) (Q1v h2)).mono ?_⟩;rintro r w1⟨m,rfl,Dt,CN⟩;have AC:=CN.from_drew;refine⟨m.b,rfl,cells (CN.sep.right.left),fun v=>((BD.sepC CN.sep.right.left).set (1+k) v).cell 0 _ (by unfold BD.cells;rw[show 1+k=k+1 from J4k 1 k,J5M];rfl),bms++[m],by simp[Ab],?_,?_⟩
  ·intro j x hx;by_cases hj:j<bms.length
   ·rw[J6p hj] at hx;exact hb j x hx
   ·rw[J6q (by omega)] at hx;have LA:j=k:=by
     have:=(J3y.1 hx).1;simp at this;omega
    subst LA;rw[Ab,J6t] at hx;cases hx;exact Dt
  ·have:=Ao.trans (BD.snoc Ao.sep (by show bms.length<21;omega) m AC);rw[Ab] at this;exact this)
 have Fh:=Q0a (show ∀(bms:List BM) (wr:World),bms.length=top+1->(∀j m,bms[j]?=some m->m.bits=List.replicate (2 ^ (top-j)) false)->Step H ((⟨w.heap.size+1,w.heap.size,top,bms,[]⟩:BD).hl++H) w wr ->
   wr.cell? ⟨w.heap.size+1,0,none⟩=some (.int .i64 top)/\∃b,wr.cell? ⟨w.heap.size+1,1+top,none⟩=some (.pointer (some ⟨b,0,none⟩)) /\
   Calls prog 127 #[.pointer (some ⟨b,0,none⟩),.bool true,.slice (some ⟨wr.heap.size,0,none⟩) 1 1] (wr.alloc (.cells #[.int .i64 0] 3)).drew fun r w1=>r=.returned (.int .i64 1)/\(w1.cell? ⟨w.heap.size+1,0,none⟩=some (.int .i64 top)/\w1.cell? ⟨w.heap.size+1,1+top,none⟩=some (.pointer (some ⟨b,0,none⟩)))/\J1h top H w (.returned (.pointer (some ⟨w.heap.size+1,0,none⟩))) w1 from fun bms wr Ab hb Ao=>by
  have hs:=Ao.sep.left;have A4:(⟨w.heap.size+1,w.heap.size,top,bms,[]⟩:BD).Is fun _ _=>false:=by
   refine⟨Ab,h2,fun k m hm=>?_⟩;rw[hb k m hm]
   apply J4J
   intro j;rw[J5c,J4M];by_cases hj:j<2 ^ (top-k)
   ·rw[if_pos hj,J4O hj];rfl
   ·rw[if_neg hj,J4Q (by simp;omega)];rfl
  obtain⟨b,h3,h4⟩:=Q8I (w:=wr.drew) hs.drew A4 top 0 true (J3h _) (J4q _) (by decide);refine⟨BD.c0 hs,b,h3,h4.mono ?_⟩;rintro r w1⟨rfl,d',AB,I7⟩;have etop:d'.top=top:=AB.top;have eps:d'.ps=[]:=AB.ps;have eb:d'.b=w.heap.size+1:=AB.b;have D0:(bms.map BM.b)[top]?=some b:=by
   have Aa:top<bms.length:=by omega
   have hg:=J5s Aa;have hc:=BD.cf hs.drew top _ hg;rw[h3] at hc;rw[J4M,hg];cases hc;rfl
  refine⟨rfl,⟨by have:=BD.c0 AB.step.sep;rw[eb,etop] at this;exact this,AB.ptr D0⟩,d',by rw[eb],etop,eps,⟨⟨I7.len,I7.top,?_⟩,by rw[eps];exact List.nodup_nil,by rw[eps];simp⟩,?_⟩
  ·intro k m hm;rw[I7.bits k m hm];have F1:k<=d'.top:=by
    have q1:k<d'.bms.length:=(J3y.1 hm).1;have q2:d'.bms.length=d'.top+1:=I7.len;omega
   rw[etop] at F1 ⊢
   apply J5k
   intro x hx;rw[eps,Z7Z (uOf []) top (by simp[uOf]) k x F1 (J3x.1 hx)];unfold upG;by_cases hk:k=top
   ·subst hk;have:x=0:=by have:=J3x.1 hx;simp at this;exact this
    simp[this]
   ·simp[hk]
  ·have:=Step.frame [] H (by simpa using Ao.sep) AB.step.from_drew;exact Ao.trans (by simpa using this))
 have F4:Hid (∃bms:List BM,bms.length=0/\(∀j m,bms[j]?=some m->m.bits=List.replicate (2 ^ (top-j)) false)/\Step H ((⟨w.heap.size+1,w.heap.size,top,bms,[]⟩:BD).hl++H) w ((w.alloc (.map #[] 0)).alloc (.cells (Array.mk (.int .i64 top::(List.replicate 21 (.pointer none)++[.map (some w.heap.size)]))) 158))):=
  ⟨[],rfl,by simp,h0.out⟩
 clear h0;have Bv:((w.alloc (.map #[] 0)).alloc (.cells (Array.mk (.int .i64 top::(List.replicate 21 (.pointer none)++[.map (some w.heap.size)]))) 158)).cell? ⟨w.heap.size+1,0,none⟩=some (.int .i64 top):=by
  simp
 have Il:=@run_makeMap prog;clear h;go_enter func63,ntmps63;go_wp2_with (first|(go_at_call 124;refine k1.mono ?_;rintro e w'⟨rfl,rfl⟩)|(go_at_call 125;refine k2.mono ?_;rintro e w'⟨rfl,rfl⟩))
 go_loopw [29] (fun kv wr=>∃(k:Nat) (bms:List BM),kv=.int .i64 k/\k<=top+1/\bms.length=k/\(∀j m,bms[j]?=some m->m.bits=List.replicate (2 ^ (top-j)) false)/\Step H ((⟨w.heap.size+1,w.heap.size,top,bms,[]⟩:BD).hl++H) w wr) (fun kv _=>top+1-(intOf kv).toNat)
 case atStart =>
  obtain⟨bms,q1,q2,q3⟩:=F4.out;exact⟨0,bms,rfl,by omega,q1,q2,q3⟩
 case round =>
  clear Bv F4 k1 k2;obtain⟨k,bms,rfl,hk,q1,q2,q3⟩:=hrel;by_cases Aa:k<=top
  ·obtain⟨c0,c1,cf,AI⟩:=HR.out k bms wr Aa q1 q2 q3;have d0:wr.drew.cell? ⟨w.heap.size+1,0,none⟩=some (.int .i64 top):=c0;have d1:wr.drew.cell? ⟨w.heap.size+1,1+k,none⟩=some (.pointer none):=c1;have df:wr.drew.frozen? ⟨w.heap.size+1,1+k,none⟩=false:=cf;have Co:=Q0a AI;clear AI q1 q2 q3;have CN:IntKind.i64.wrap ((top:Int)-k)=((top-k:Nat):Int):=by rw[Go.IntWalk.i64_in _ (by omega)];omega
   have AC:IntKind.i64.wrap (2 ^ (top-k))=((2 ^ (top-k):Nat):Int):=by
    have hp:=Q1v (k:=k) h2;have e:(2:Int) ^ (top-k)=((2 ^ (top-k):Nat):Int):=by push_cast;rfl
    rw[e];generalize 2 ^ (top-k)=y at hp ⊢;exact Go.IntWalk.i64_in _ (by omega)
   have Qj:(0:Int)<=k:=by omega
   have Oi:(k:Int)<21:=by omega
   go_wp2_with fail
   go_region_held3 (fun w'=>w'.cell? ⟨w.heap.size+1,0,none⟩=some (.int .i64 top))
    (first|exact c0|exact d0|exact e0|exact ek _)
    (first|(go_at_call 126;refine Co.out.mono ?_;rintro r w1⟨mb,rfl,⟨e0,e1,ef⟩,ek,Bs⟩;have IN:=Q0a Bs;clear Bs))
   go_wp2_with fail;obtain⟨bms',r1,r2,r3⟩:=IN.out;go_roundw
   case rel=>exact⟨k+1,bms',by go_num,by omega,r1,r2,r3⟩
   case measure=>simp[intOf];omega
  ·obtain rfl:k=top+1:=by omega
   obtain⟨c0,b,c1,AR⟩:=Fh.out bms wr q1 q2 q3;clear q1 q2 q3;have d0:wr.drew.cell? ⟨w.heap.size+1,0,none⟩=some (.int .i64 top):=c0;have d1:wr.drew.cell? ⟨w.heap.size+1,1+top,none⟩=some (.pointer (some ⟨b,0,none⟩)):=c1;have Qj:(0:Int)<=top:=by omega
   have Oi:(top:Int)<21:=by omega
   have CQ:=Q0a AR;clear AR;go_wp2_with fail
   go_region_held3 (fun w'=>w'.cell? ⟨w.heap.size+1,0,none⟩=some (.int .i64 top)/\w'.cell? ⟨w.heap.size+1,1+top,none⟩=some (.pointer (some ⟨b,0,none⟩)))
    (first|exact⟨c0,c1⟩|exact⟨d0,d1⟩|exact⟨e0,e1⟩|go_keep)
    (first|(go_at_call 127;refine CQ.out.mono ?_;rintro r w1⟨rfl,⟨e0,e1⟩,Bs⟩;have IN:=Q0a Bs;clear Bs))
   go_wp2_with fail;go_ret;exact IN.out
def J2n(bb s:Nat)(H:HL)(w:World)(r:Ending)(w':World):Prop:=
 ∃c,r=.returned (ptr c)/\Step H ((⟨c,bb,s,none,[]⟩:CA).hl++H) w w'
theorem CA.ok_new(c bb s:Nat)(s0:16<=s)(s1:s<=512):(⟨c,bb,s,none,[]⟩:CA).Ok:=⟨rfl,s0,s1,.nil,by simp,by simp,by simp⟩
theorem Z0p{w:World}{H:HL}(h:Sep w H)(bb s:Nat)(s0:16<=s)(s1:s<=512)(sm:s%16=0):Calls prog 65 #[ptr bb,.int .i64 s] w (J2n bb s H w):=by
 have HR:Hid (J2n bb s H w (.returned (ptr w.heap.size)) (w.alloc (.cells #[ptr bb,.int .i64 s,.slice none 0 0] 233))):=
  ⟨w.heap.size,rfl,h.new 233 [ptr bb,.int .i64 s,.slice none 0 0]⟩
 have hr:IntKind.i64.wrap ((s:Int).tmod 16)=0:=by rw[J4S (by omega)];rw[show(s:Int)%16=0 by omega];rfl
 have Ei:(s:Int).tmod 16=0:=by rw[J4S (by omega)];omega
 have h1:decide ((s:Int)<16)=false:=by simp;omega
 have h2:decide ((512:Int)<s)=false:=by simp;omega
 clear sm h;unfold ptr at *
 go_enter func65,ntmps65;go_wp2_with fail;go_ret;exact HR.out
end Go.Proofs.YtfidemmgofcnmaaGreatDoor
