/- SpaceItems returns true at every input. No condition. Part of its proof. -/
import Derived.Test.YtlakjlmaboioiaaGreatDoorSi07
import Derived.Test.YtlakjlmaboioiaaGreatDoorSi01
import Derived.Test.YtlakjlmaboioiaaGreatDoorSi02
import Derived.Deep.QuietTactic
import Derived.Deep.RegionHeld3
import Derived.BigQuiet
import Derived.Laws.BitsAllLaws
import Derived.Laws.Rows
import Derived.Deep.AppendSrc
set_option maxHeartbeats 400000
set_option linter.unusedVariables false
namespace Go.Proofs.YtlakjlmaboioiaaGreatDoor
open Go.RowKit Go.Proofs.Tryz
structure Z8E (P:PL) (fr:List Nat) (k a own:Nat) (P':PL) (fr':List Nat):Prop where
 pool:P'.Ok fr'
 used:k≠8->(P'.usedOf k).Perm (a::P.usedOf k)
 other:∀j,j≠k->P'.usedOf j=P.usedOf j
 frs:if k=8 then ∃g,a=1024*g/\fr'=g::fr else fr'=fr
 mem:∀b∈P.usedOf 1,Q0s P'.a.mem b=Q0s P.a.mem b
 own:k=1->Q0s P'.a.mem a=own
theorem Q3X {p:Pl} (k:Nat) (h:p.is=false):atsF k p=none:=by simp [atsF,h]
theorem Q9h {p:Pl} {k:Nat} (h:p.kind≠k):atsF k p=none:=by simp [atsF,h]
theorem MemI.add {P P':PL} {l:List Pl} {fr fr':List Nat} (m:MemI P l fr) {i:Nat} {p q:Pl} (g:Z8E P fr q.kind q.at_ q.own P' fr') (hi:l[i]?=some p) (hp:p.is=false) (hq:q.is=true) (hk:q.kind=8∨(1<=q.kind/\q.kind<=5)):MemI P' (l.set i q) fr':=by
 refine⟨g.pool,fun r hr his=>?_,fun k h1 h5=>?_,?_,fun r hr his hk1=>?_⟩
 ·rcases Q0z hr with rfl|hr
  ·exact hk
  ·exact m.kind r hr his
 ·by_cases e:q.kind=k
  ·subst e;have:=Q9e (atsF q.kind) hi (Q3X _ hp) (Q1v hq);exact this.trans (((m.ats _ h1 h5).cons _).trans (g.used (by omega)).symm)
  ·rw [g.other k fun h=>e h.symm];exact (Q2p (atsF k) hi (by rw [Q9h e,Q3X _ hp])).trans (m.ats k h1 h5)
 ·by_cases e:q.kind=8
  ·have hf:=g.frs;rw [if_pos e] at hf;obtain⟨x,hx,rfl⟩:=hf;have:=Q9e (atsF 8) hi (Q3X _ hp) (by rw [<- e];exact Q1v hq);refine this.trans ?_;rw [hx];exact m.frs.cons _
  ·have hf:=g.frs;rw [if_neg e] at hf;rw [hf];exact (Q2p (atsF 8) hi (by rw [Q9h e,Q3X _ hp])).trans m.frs
 ·rcases Q0z hr with rfl|hr
  ·exact g.own hk1
  ·rw [g.mem _ (by have:=m.used hr his (by omega);rwa [hk1] at this)];exact m.word r hr his hk1
theorem MemI.keep {P:PL} {l:List Pl} {fr:List Nat} (m:MemI P l fr) {i:Nat} {p q:Pl} (hi:l[i]?=some p) (hp:p.is=true) (hq:q.is=true) (h1:q.kind=p.kind) (h2:q.at_=p.at_) (h3:q.own=p.own):MemI P (l.set i q) fr:=by
 have hpm:=J2G hi;have e:∀k,atsF k q=atsF k p:=fun k=>by unfold atsF;rw [hp,hq,h1,h2]
 refine⟨m.pool,fun r hr his=>?_,fun k h1 h5=>(Q2p (atsF k) hi (e k)).trans (m.ats k h1 h5),(Q2p (atsF 8) hi (e 8)).trans m.frs,fun r hr his hk1=>?_⟩
 ·rcases Q0z hr with rfl|hr
  ·rw [h1];exact m.kind p hpm hp
  ·exact m.kind r hr his
 ·rcases Q0z hr with rfl|hr
  ·rw [h2,h3];exact m.word p hpm hp (by omega)
  ·exact m.word r hr his hk1
theorem MemI.same {P P':PL} {l:List Pl} {fr:List Nat} (m:MemI P l fr) (h:P'.Ok fr) (hu:∀k,1<=k->k<=5->P'.usedOf k=P.usedOf k) (hw:∀b∈P.usedOf 1,Q0s P'.a.mem b=Q0s P.a.mem b):MemI P' l fr:=by
 refine⟨h,m.kind,fun k h1 h5=>by rw [hu k h1 h5];exact m.ats k h1 h5,m.frs,fun r hr his hk1=>?_⟩;rw [hw _ (by have:=m.used hr his (by omega);rwa [hk1] at this)];exact m.word r hr his hk1
theorem Q6B {p:Pl} (a:Int) (h:p.is=false):Q2H a p=0:=by simp [Q2H,h]
theorem Q6C {p:Pl} (a:Int) (h:p.is=true):Q2H a p=if (p.fac:Int)=a then (costK p.kind:Int) else 0:=by simp [Q2H,h]
theorem TreI.addN {E:List (En Fa)} {l:List Pl} {xc:Int->Int} (t:TreI E l xc) (hids:E.Pairwise (fun a b=>a.id≠b.id)) {i:Nat} {p q:Pl} (hi:l[i]?=some p) (hp:p.is=false) (hq:q.is=true) (hk:q.kind≠1) {e:En Fa} (hf:find E q.fac=some e) :
  TreI (upd E q.fac {e.q with charged:=e.q.charged+(costK q.kind:Int)}) (l.set i q) xc:=by
 have ho:ownF q=ownF p:=by simp [ownF,hp,hk]
 have hgs:∀a,Q3w (upd E q.fac {e.q with charged:=e.q.charged+(costK q.kind:Int)}) a=Q3w E a:=fun a=>Q4B hids hf _ _ rfl
 have hkc:∀a,Q3x (upd E q.fac {e.q with charged:=e.q.charged+(costK q.kind:Int)}) a=Q3x E a:=fun a=>Q4B hids hf _ _ rfl
 refine⟨?_,fun r hr his=>?_,fun r hr his hk1 x hx=>?_,fun id x hx=>?_,fun id x hx=>?_⟩
 ·rw [Q2b];exact t.ids.trans (Q2p ownF hi ho).symm
 ·rcases Q0z hr with rfl|hr
  ·exact Q1R _ hf
  ·obtain⟨y,hy⟩:=t.fac r hr his;exact Q1R _ hy
 ·rcases Q0z hr with rfl|hr
  ·exact absurd hk1 hk
  ·obtain⟨y,hy,h1,h2⟩:=Q0I _ hf hx;have:=t.par r hr his hk1 y hy;by_cases hid:(r.own:Int)=q.fac
   ·obtain⟨rfl,e2⟩:=h1 hid;rw [e2];exact this
   ·rw [h2 hid];exact this
 ·obtain⟨y,hy,h1,h2⟩:=Q0I _ hf hx;have hc:=Q3C q hi id;rw [Q6B id hp,Q6C id hq] at hc;have:=t.charged id y hy;by_cases hid:id=q.fac
  ·obtain⟨rfl,e2⟩:=h1 hid;rw [if_pos hid.symm] at hc;rw [e2];show y.q.charged+_=_;omega
  ·rw [if_neg fun h=>hid h.symm] at hc;rw [h2 hid];omega
 ·obtain⟨y,hy,h1,h2⟩:=Q0I _ hf hx;rw [hgs,hkc];have:=t.given id y hy;by_cases hid:id=q.fac
  ·obtain⟨rfl,e2⟩:=h1 hid;rw [e2];exact this
  ·rw [h2 hid];exact this
theorem TreI.addF {E:List (En Fa)} {l:List Pl} {xc:Int->Int} (t:TreI E l xc) (hids:E.Pairwise (fun a b=>a.id≠b.id)) {i b:Nat} {p q:Pl} {limit:Int} (hi:l[i]?=some p) (hp:p.is=false) (hq:q.is=true) (hk:q.kind=1) {e:En Fa} (hf:find E q.fac=some e)
  (hno:find E q.own=none) (hlt:q.fac<q.own) (hxc:xc q.own=0) (hne:∀x∈E,x.q.parent≠q.own) (hnf:∀r∈l,r.is=true->r.fac≠q.own) :
  TreI (upd E q.fac {e.q with charged:=e.q.charged+(costK q.kind:Int),given:=e.q.given+limit,kids:=e.q.kids+1}++[⟨q.own,b,⟨limit,0,0,q.fac,0⟩⟩]) (l.set i q) xc:=by
 obtain⟨X,hX⟩:∃X:Fa,X={e.q with charged:=e.q.charged+(costK q.kind:Int),given:=e.q.given+limit,kids:=e.q.kids+1}:=⟨_,rfl⟩
 have hXp:X.parent=e.q.parent:=by rw [hX]
 have hXl:X.limit=e.q.limit:=by rw [hX]
 have hXc:X.charged=e.q.charged+(costK q.kind:Int):=by rw [hX]
 have hXg:X.given=e.q.given+limit:=by rw [hX]
 have hXk:X.kids=e.q.kids+1:=by rw [hX]
 rw [<- hX];clear hX;have hgs:∀a,Q3w (upd E q.fac X++[⟨q.own,b,⟨limit,0,0,q.fac,0⟩⟩]) a=Q3w E a+if (q.fac:Int)=a then limit else 0:=fun a=>by
  have:((upd E q.fac X).map (givF a)).sum=(E.map (givF a)).sum:=Q4B hids hf _ _ (by simp [givF,hXp,hXl]);unfold Q3w;rw [J3S,J4d,this];simp [givF]
 have hkc:∀a,Q3x (upd E q.fac X++[⟨q.own,b,⟨limit,0,0,q.fac,0⟩⟩]) a=Q3x E a+if (q.fac:Int)=a then 1 else 0:=fun a=>by
  have:((upd E q.fac X).map (kidF a)).sum=(E.map (kidF a)).sum:=Q4B hids hf _ _ (by simp [kidF,hXp]);unfold Q3x;rw [J3S,J4d,this];simp [kidF]
 have hfw:∀j y,find E j=some y->∃z,find (upd E q.fac X++[⟨q.own,b,⟨limit,0,0,q.fac,0⟩⟩]) j=some z:=fun j y hy=>by
  obtain⟨z,hz⟩:=Q1R (id:=q.fac) X hy;exact⟨z,by rw [Q1G,hz]⟩
 have hbk:∀j z,find (upd E q.fac X++[⟨q.own,b,⟨limit,0,0,q.fac,0⟩⟩]) j=some z->(j=q.own/\z=⟨q.own,b,⟨limit,0,0,q.fac,0⟩⟩)∨(j≠q.own/\∃y,find E j=some y/\(j=q.fac->y=e/\z.q=X)/\(j≠q.fac->z=y)):=fun j z hz=>by
  rw [Q1G] at hz;cases hu:find (upd E q.fac X) j with
  | none =>
   rw [hu] at hz;simp only at hz;split at hz
   ·rename_i h;cases hz;exact .inl ⟨h,rfl⟩
   ·cases hz
  | some y =>
   rw [hu] at hz;cases hz;obtain⟨x,hx,h1,h2⟩:=Q0I X hf hu;refine .inr ⟨?_,x,hx,h1,h2⟩;rintro rfl;rw [hno] at hx;cases hx
 refine⟨?_,fun r hr his=>?_,fun r hr his hk1 x hx=>?_,fun id x hx=>?_,fun id x hx=>?_⟩
 ·rw [J3S,Q2b];have h1:=Q9e ownF hi (by simp [ownF,hp]) (Q3W hq hk);exact (J3V _ _).trans ((t.ids.cons _).trans h1.symm)
 ·rcases Q0z hr with rfl|hr
  ·exact hfw _ _ hf
  ·obtain⟨y,hy⟩:=t.fac r hr his;exact hfw _ _ hy
 ·rcases Q0z hr with rfl|hr
  ·rcases hbk _ _ hx with ⟨_,rfl⟩|⟨h,_⟩
   ·exact⟨fun h=>absurd h (by omega),fun _=>⟨rfl,hlt⟩⟩
   ·exact absurd rfl h
  ·rcases hbk _ _ hx with ⟨h,_⟩|⟨_,y,hy,h1,h2⟩
   ·obtain⟨z,hz⟩:=t.acc hr his hk1;rw [h,hno] at hz;cases hz
   ·have:=t.par r hr his hk1 y hy;by_cases hid:(r.own:Int)=q.fac
    ·obtain⟨rfl,e2⟩:=h1 hid;rw [e2,hXp];exact this
    ·rw [h2 hid];exact this
 ·have hc:=Q3C q hi id;rw [Q6B id hp,Q6C id hq] at hc;rcases hbk _ _ hx with ⟨rfl,rfl⟩|⟨_,y,hy,h1,h2⟩
  ·rw [if_neg (by omega)] at hc;have:Q0u l q.own=0:=Q2I fun r hr his e=>hnf r hr his (by omega)
   show (0:Int)=_;rw [hxc];omega
  ·have:=t.charged id y hy;by_cases hid:id=q.fac
   ·obtain⟨rfl,e2⟩:=h1 hid;rw [if_pos hid.symm] at hc;rw [e2,hXc];omega
   ·rw [if_neg fun h=>hid h.symm] at hc;rw [h2 hid];omega
 ·rw [hgs,hkc];rcases hbk _ _ hx with ⟨rfl,rfl⟩|⟨_,y,hy,h1,h2⟩
  ·obtain⟨z1,z2⟩:=Q3D hne;rw [z1,z2,if_neg (by omega),if_neg (by omega)];exact⟨rfl,rfl⟩
  ·have:=t.given id y hy;by_cases hid:id=q.fac
   ·obtain⟨rfl,e2⟩:=h1 hid;rw [if_pos hid.symm,if_pos hid.symm,e2,hXg,hXk];omega
   ·rw [if_neg fun h=>hid h.symm,if_neg fun h=>hid h.symm,h2 hid];omega
theorem TreI.keep {E:List (En Fa)} {l:List Pl} {xc:Int->Int} (t:TreI E l xc) {i:Nat} {p q:Pl} (hi:l[i]?=some p) (hp:p.is=true) (hq:q.is=true) (h1:q.kind=p.kind) (h2:q.fac=p.fac) (h3:q.own=p.own):TreI E (l.set i q) xc:=by
 have hpm:=J2G hi;refine⟨t.ids.trans (Q2p ownF hi (by unfold ownF;rw [hp,hq,h1,h3])).symm,fun r hr his=>?_,fun r hr his hk1 x hx=>?_,fun id x hx=>?_,t.given⟩
 ·rcases Q0z hr with rfl|hr
  ·rw [h2];exact t.fac p hpm hp
  ·exact t.fac r hr his
 ·rcases Q0z hr with rfl|hr
  ·rw [h2,h3];rw [h3] at hx;exact t.par p hpm hp (by omega) x hx
  ·exact t.par r hr his hk1 x hx
 ·have hc:=Q3C q hi id;have e:Q2H id q=Q2H id p:=by unfold Q2H;rw [hp,hq,h1,h2]
  rw [e] at hc;have:=t.charged id x hx;omega
theorem Q6D {l:List Pl} {i:Nat} {p f:Pl} (q:Pl) (hi:l[i]?=some p) (hf:f∈l):f∈l.set i q∨f=p:=by
 obtain⟨j,hj⟩:=J3g.1 hf;by_cases e:i=j
 ·subst e;rw [hi] at hj;cases hj;exact .inr rfl
 ·exact .inl (J2G (i:=j) (by rw [J3W e];exact hj))
theorem QueI.add {l:List Pl} {xc:Int->Int} {zs:List Nat} (u:QueI l xc zs) {i:Nat} {p q f:Pl} (hi:l[i]?=some p) (hp:p.st=0) (hq:q.st=1) (hf:f∈l) (h1:f.st=1) (h2:f.kind=1) (h3:f.own=q.fac):QueI (l.set i q) xc zs:=by
 obtain⟨r,r1,r2,r3,r4,r5,r6⟩:=u.root;have hi0:i≠0:=by rintro rfl;rw [r1] at hi;cases hi;omega
 have hm:∀x∈l,x.st=1->x∈l.set i q:=fun x hx hs=>(Q6D q hi hx).resolve_right fun e=>by subst e;omega
 have hz:∀h,pget (l.set i q) 2 h=pget l 2 h:=fun h=>by
  rw [Q1S q hi];split
  ·rename_i e;rw [if_neg (by omega)]
   symm
   cases hx:pget l 2 h with
   | none=>rfl
   | some x =>
    obtain⟨a,b,c⟩:=pget_some.1 hx;rw [e,hi] at a;cases a;omega
  ·rfl
 refine⟨⟨r,by rw [J3W hi0];exact r1,r2,r3,r4,r5,r6⟩,fun j x hx hj hs=>?_,fun id=>⟨(u.xc id).1,fun h=>?_⟩,u.nd,fun h=>by rw [hz];exact u.has h,?_⟩
 ·by_cases e:i=j
  ·subst e;rw [J4e (J0K.1 hi).1] at hx;cases hx;exact⟨f,hm f hf h1,h1,h2,h3⟩
  ·rw [J3W e] at hx;obtain⟨g,g1,g2,g3,g4⟩:=u.live j x hx hj hs;exact⟨g,hm g g1 g2,g2,g3,g4⟩
 ·obtain⟨x,hx,hs,he⟩:=(u.xc id).2 h;exact⟨x,hm x hx hs,hs,he⟩
 ·refine u.ord.imp fun h a b ha hb=>?_
  rw [hz] at ha hb;exact h a b ha hb
theorem QueI.doom {E:List (En Fa)} {l:List Pl} {xc xc':Int->Int} {zs:List Nat} (u:QueI l xc zs) (hl:l.length<=256) (t:TreI E l xc) (hids:E.Pairwise (fun a b=>a.id≠b.id)) {h:Nat} {p:Pl} (hp:pget l 1 h=some p) (h0:h≠0) (hk:kids l h=[])
  (hxc:∀id,0<=xc' id/\(xc' id≠0->∃r∈l.set (h%256) {p with st:=2},r.st=1/\(r.fac:Int)=id)):QueI (l.set (h%256) {p with st:=2}) xc' (zs++[h]):=by
 obtain⟨hi,hn,hs⟩:=pget_some.1 hp;obtain⟨r,r1,r2,r3,r4,r5,r6⟩:=u.root;have hi0:h%256≠0:=by
  intro e;rw [e] at hi hn;rw [r1] at hi;cases hi;unfold nm at hn;omega
 obtain⟨i,hie⟩:∃i,i=h%256:=⟨_,rfl⟩
 rw [<- hie] at hi hn hxc hi0 ⊢;have hz:∀x,x%256≠i->pget (l.set i {p with st:=2}) 2 x=pget l 2 x:=fun x hx=>by
  rw [Q1S _ hi,if_neg hx]
 have hzs:∀x∈zs,x%256≠i:=fun x hx e=>by
  obtain⟨y,hy⟩:=(u.has x).1 hx;have:=(Q1a hy hp (by rw [e,hie])).2.2;omega
 have hm:∀x∈l,x≠p->x∈l.set i {p with st:=2}:=fun x hx hne=>(Q6D _ hi hx).resolve_right hne
 have hpi:p.is=true:=Pl.is_iff.2 (.inl hs);refine⟨⟨r,by rw [J3W hi0];exact r1,r2,r3,r4,r5,r6⟩,fun j x hx hj hxs=>?_,hxc,?_,fun x=>?_,?_⟩
 ·by_cases e:i=j
  ·subst e;rw [J4e (J0K.1 hi).1] at hx;cases hx;cases hxs
  ·rw [J3W e] at hx;obtain⟨g,g1,g2,g3,g4⟩:=u.live j x hx hj hxs;refine⟨g,hm g g1 ?_,g2,g3,g4⟩;rintro rfl;have hj256:j<256:=J0v (J0K.1 hx).1 hl;have:nm j x∈kids l h:=(Q0H hl).2 ⟨g,x,hp,g3,pget_some.2 ⟨by rw [Q3M hj256];exact hx,by rw [Q3M hj256],hxs⟩,by unfold nm;omega,g4.symm⟩;rw [hk] at this;cases this
 ·rw [J1l];refine⟨u.nd,by simp,fun x hx y hy e=>?_⟩;rw [J2z] at hy;subst hy;subst e;exact hzs x hx hie.symm
 ·rw [J1h,J2z];by_cases e:x%256=i
  ·rw [Q1S _ hi,if_pos e]
   constructor
   ·rintro (hx|rfl)
    ·exact absurd e (hzs x hx)
    ·exact⟨_,if_pos ⟨hn,rfl⟩⟩
   ·rintro⟨y,hy⟩;split at hy
    ·rename_i hc;exact .inr (hc.1.symm.trans hn)
    ·cases hy
  ·rw [hz x e]
   constructor
   ·rintro (hx|rfl)
    ·exact (u.has x).1 hx
    ·exact absurd hie.symm e
   ·exact fun hx=>.inl ((u.has x).2 hx)
 ·rw [J1g];refine⟨?_,by simp,fun a ha b hb=>?_⟩
  ·refine u.ord.imp_of_mem ?_;intro a b ha hb hab x y hx hy;rw [hz a (hzs a ha)] at hx;rw [hz b (hzs b hb)] at hy;exact hab x y hx hy
  ·rw [J2z] at hb;subst hb;intro x y hx hy hxk;rw [hz a (hzs a ha)] at hx;rw [Q1S _ hi,if_pos hie.symm,if_pos ⟨hn,rfl⟩] at hy;cases hy;show p.fac≠x.own;intro e;obtain⟨g,g1,g2,g3,g4⟩:=u.live i p hi hi0 hs;obtain⟨j,hj⟩:=J3g.1 g1;obtain⟨a1,_,a3⟩:=pget_some.1 hx;have:=t.inj hids hj a1 (Pl.is_iff.2 (.inl g2)) (Pl.is_iff.2 (.inr a3)) g3 hxk (by omega);subst this;rw [a1] at hj;cases hj;omega
def Kept (m m':List Nat) (a n:Nat):Prop:=∀i,a<=i->i<a+n->m'[i]?=m[i]?
theorem Kept.word {m m':List Nat} {a:Nat} (h:Kept m m' a 8):Q0s m' a=Q0s m a:=by
 unfold Q0s;congr 1
 apply J2a
 intro i;rw [J2v,J2v];split
 ·rw [J2U,J2U];exact h _ (by omega) (by omega)
 ·rfl
theorem Kept.sub {m m':List Nat} {a n b k:Nat} (h:Kept m m' a n) (h1:a<=b) (h2:b+k<=a+n):Kept m m' b k:=fun i h3 h4=>h i (by omega) (by omega)
theorem Q1p {m bs:List Nat} {a b n:Nat} (hl:a+bs.length<=m.length) (h:b+n<=a∨a+bs.length<=b):Kept m (put_ m a bs) b n:=fun i h1 h2=>by
 rw [Q5q _ _ _ hl];split
 ·rfl
 ·rw [if_neg (by omega)]
theorem Q6E {m bs:List Nat} {a:Nat} (hl:a+bs.length<=m.length) {i:Nat} (hi:i<bs.length):(put_ m a bs)[a+i]?=bs[i]?:=by
 rw [Q5q _ _ _ hl,if_neg (by omega),if_pos (by omega)];congr 1;omega
theorem Kept.trans {m m1 m2:List Nat} {a n:Nat} (h:Kept m m1 a n) (k:Kept m1 m2 a n):Kept m m2 a n:=fun i h1 h2=>(k i h1 h2).trans (h i h1 h2)
theorem Kept.refl (m:List Nat) (a n:Nat):Kept m m a n:=fun _ _ _=>rfl
theorem Q4Q {P:PL} {fr:List Nat} (ok:P.Ok fr) {k a:Nat} (ha:a∈P.usedOf k):∃g∈P.pages,1024*g+64<=a/\a+Q0c k<=1024*g+1024:=by
 obtain⟨c,hc,ha⟩:=Q2a ha;obtain⟨k1,k2,_,_⟩:=PL.Cls.facts ok hc;obtain⟨x,hx,x1,x2⟩:=Q7f k1 ha;rw [k2] at x2;refine⟨x.2,?_,x1,x2⟩;exact J0T.2 ⟨c,J2G hc.2,J1k hx⟩
theorem Q3Y {P:PL} {fr:List Nat} (ok:P.Ok fr):fr.Nodup/\(∀g∈fr,g∉P.pages)/\∀g∈fr,g<2 ^ P.d.top:=by
 have h:=(ok.pages.nodup_iff).2 ok.d.nd;obtain⟨h1,h2,h3⟩:=J1l.1 h;exact⟨h1,fun g hg hp=>h3 g hg g hp rfl,fun g hg=>ok.d.lt g (ok.pages.mem_iff.1 (by simp [hg]))⟩
theorem Q2c {P:PL} {fr:List Nat} (ok:P.Ok fr) {k a g:Nat} (hg:g∈fr) (ha:a∈P.usedOf k):a+Q0c k<=1024*g∨1024*g+1024<=a:=by
 obtain⟨p,hp,h1,h2⟩:=Q4Q ok ha;have:g≠p:=fun e=>(Q3Y ok).2.1 g hg (e ▸ hp)
 omega
theorem Z3L {P:PL} {fr:List Nat} (ok:P.Ok fr) {g:Nat} (hg:g∈fr):1024*g+1024<=P.a.mem.length:=by
 have:=(Q3Y ok).2.2 g hg;rw [ok.mem,J1T,show (2:Nat) ^ 10=1024 from rfl];omega
theorem Z3M (n:Nat):Q0c n%8=0:=by
 by_cases h:n<8
 ·have hn:n=0∨n=1∨n=2∨n=3∨n=4∨n=5∨n=6∨n=7:=by omega
  rcases hn with rfl|rfl|rfl|rfl|rfl|rfl|rfl|rfl <;> decide
 ·rw [Q5r (by omega)]
theorem Q2q {P:PL} {fr:List Nat} (ok:P.Ok fr) {k a:Nat} (ha:a∈P.usedOf k):a%8=0:=by
 obtain⟨c,hc,ha⟩:=Q2a ha;obtain⟨_,k2,_,_⟩:=PL.Cls.facts ok hc;unfold CA.used at ha;obtain⟨x,_,ha⟩:=J0T.1 ha;unfold Q1f at ha;obtain⟨i,_,rfl⟩:=J0z.1 ha;unfold addr;rw [k2];have h0:=Z3M k;have:i*Q0c k%8=0:=by rw [Nat.mul_mod,h0];simp
 omega
theorem Q1E {P:PL} {fr:List Nat} (ok:P.Ok fr) {k a:Nat} (ha:a∈P.usedOf k):1<=k/\k<=7:=by
 obtain⟨c,hc,_⟩:=Q2a ha;exact⟨hc.1,(PL.Cls.facts ok hc).2.2.2⟩
structure SameP (P P':PL):Prop where
 p:P'.p=P.p
 qt:P'.q.t=P.q.t
 db:P'.d.b=P.d.b
 aa:P'.a.a=P.a.a
 amb:P'.a.mb=P.a.mb
 top:P'.d.top=P.d.top
 len:P'.a.mem.length=P.a.mem.length
theorem SameP.refl (P:PL):SameP P P:=⟨rfl,rfl,rfl,rfl,rfl,rfl,rfl⟩
theorem SameP.trans {P P1 P2:PL} (h:SameP P P1) (k:SameP P1 P2):SameP P P2:=
 ⟨k.p.trans h.p,k.qt.trans h.qt,k.db.trans h.db,k.aa.trans h.aa,k.amb.trans h.amb,k.top.trans h.top,k.len.trans h.len⟩
structure GotM (P:PL) (fr:List Nat) (own:Int) (k a:Nat) (P':PL) (fr':List Nat):Prop where
 ok:P'.Ok fr'
 same:SameP P P'
 q:∃e,find P.q.E own=some e/\((costK k:Nat):Int)<=e.q.limit-(e.q.charged+e.q.given)/\P'.q={P.q with E:=upd P.q.E own {e.q with charged:=e.q.charged+((costK k:Nat):Int)}}
 mem:P'.a.mem=put_ P.a.mem a (List.replicate (costK k) 0)
 used:k≠8->(P'.usedOf k).Perm (a::P.usedOf k)
 other:∀j,j≠k->P'.usedOf j=P.usedOf j
 frs:if k=8 then ∃g,a=1024*g/\fr'=g::fr else fr'=fr
 few:P'.d.ps.length<=P.d.ps.length+1
theorem GetOk.gotM {P P':PL} {fr:List Nat} {own:Int} {n a:Nat} (g:GetOk P fr own n a P') (ok:P.Ok fr):GotM P fr own n a P' fr:=by
 obtain⟨c,c',h1,h2,h3⟩:=g.which;obtain⟨A,B,u1,u2⟩:=g.used;have ha:a∈P'.usedOf n:=by rw [u2];simp
 have hn:=Q1E g.ok ha;have hck:costK n=Q0c n:=by unfold costK;rw [if_neg (by omega)]
 obtain⟨e,q1,q2,q3⟩:=g.q;refine⟨g.ok,⟨g.p,g.qt,g.db,g.aa,g.amb,g.top,?_⟩,⟨e,q1,by rw [hck];exact q2,by rw [hck];exact q3⟩,by rw [hck];exact g.mem,fun _=>?_,g.other,by rw [if_neg (by omega)],?_⟩
 ·rw [g.ok.mem,ok.mem,g.top]
 ·rw [u1,u2];exact J3T
 ·rcases h3.pages with ⟨_,e⟩|⟨p,_,_,e⟩
  ·rw [e];omega
  ·rw [e];simp
theorem GotM.room {P P':PL} {fr fr':List Nat} {own:Int} {k a:Nat} (g:GotM P fr own k a P' fr'):a+costK k<=P.a.mem.length/\a%8=0:=by
 by_cases h:k=8
 ·have hf:=g.frs;rw [if_pos h] at hf;obtain⟨x,rfl,hx⟩:=hf;have:=Z3L g.ok (g:=x) (by rw [hx];simp);rw [g.same.len] at this;have:costK k=1024:=by unfold costK;rw [if_pos h]
  omega
 ·have ha:a∈P'.usedOf k:=(g.used h).mem_iff.2 (by simp);have h1:=Q0l g.ok ha;have:costK k=Q0c k:=by unfold costK;rw [if_neg h]
  have h2:=Q2q g.ok ha;have h3:=g.same.len;omega
theorem GotM.apart {P P':PL} {fr fr':List Nat} {own:Int} {k a:Nat} (g:GotM P fr own k a P' fr') (ok:P.Ok fr):(∀j b,b∈P.usedOf j->a+costK k<=b∨b+Q0c j<=a)/\∀x∈fr,a+costK k<=1024*x∨1024*x+1024<=a:=by
 by_cases h:k=8
 ·have hck:costK k=1024:=by unfold costK;rw [if_pos h]
  have hf:=g.frs;rw [if_pos h] at hf;obtain⟨y,rfl,hy⟩:=hf;have hym:y∈fr':=by rw [hy];simp
  refine⟨fun j b hb=>?_,fun x hx=>?_⟩
  ·have hj:=Q1E ok hb;have hb':b∈P'.usedOf j:=by rw [g.other j (by omega)];exact hb
   have:=Q2c g.ok hym hb';omega
  ·have hnd:=(Q3Y g.ok).1;rw [hy] at hnd;have:x≠y:=fun e=>(J1o.1 hnd).1 (e ▸ hx)
   omega
 ·have hck:costK k=Q0c k:=by unfold costK;rw [if_neg h]
  have hf:=g.frs;rw [if_neg h] at hf;have ha:a∈P'.usedOf k:=(g.used h).mem_iff.2 (by simp);refine⟨fun j b hb=>?_,fun x hx=>?_⟩
  ·rw [hck];by_cases e:j=k
   ·subst e;have hnd:(P'.usedOf j).Nodup:=(Q1H g.ok j).imp fun h=>Nat.ne_of_lt h
    have hnd2:=(g.used h).nodup_iff.1 hnd;have hne:a≠b:=fun e=>(J1o.1 hnd2).1 (e ▸ hb)
    have hb':b∈P'.usedOf j:=(g.used h).mem_iff.2 (by simp [hb]);exact Q3e g.ok ha hb' (fun e=>hne e.2)
   ·have hb':b∈P'.usedOf j:=by rw [g.other j e];exact hb
    exact Q3e g.ok ha hb' (fun e'=>e e'.1.symm)
  ·rw [hck];exact Q2c g.ok (by rw [hf];exact hx) ha
theorem GotM.grewM {P P':PL} {fr fr':List Nat} {own:Int} {k a:Nat} (g:GotM P fr own k a P' fr') (ok:P.Ok fr) (hk:k≠1):Z8E P fr k a 0 P' fr':=by
 have hr:=g.room.1;refine⟨g.ok,g.used,g.other,g.frs,fun b hb=>?_,fun h=>absurd h hk⟩;have h1:=(g.apart ok).1 1 b hb;rw [g.mem];exact (Q1p (by rw [J0D];exact hr) (by rw [J0D];have:Q0c 1=64:=rfl;omega)).word
theorem GotM.grewF {P P' P2:PL} {fr fr':List Nat} {own:Int} {a:Nat} (g:GotM P fr own 1 a P' fr') (ok:P.Ok fr) {x:Nat} (hx:x<18446744073709551616) (hm:P2.a.mem=put_ P'.a.mem a (Q0d x)) (hu:∀j,P2.usedOf j=P'.usedOf j) (hok:P2.Ok fr'):Z8E P fr 1 a x P2 fr':=by
 have hr:=g.room.1;have h64:costK 1=64:=rfl;have hl8:(Q0d x).length=8:=rfl;have hl:=g.same.len;refine⟨hok,fun h=>by rw [hu];exact g.used h,fun j hj=>by rw [hu];exact g.other j hj,g.frs,fun b hb=>?_,fun _=>?_⟩
 ·have h1:=(g.apart ok).1 1 b hb;have h65:Q0c 1=64:=rfl;have k1:Kept P.a.mem P'.a.mem b 8:=by
   rw [g.mem];exact Q1p (by rw [J0D];exact hr) (by rw [J0D];omega)
  have k2:Kept P'.a.mem P2.a.mem b 8:=by
   rw [hm];exact Q1p (by rw [hl8];omega) (by rw [hl8];omega)
  exact (k1.trans k2).word
 ·rw [hm];unfold Q0s;have:((put_ P'.a.mem a (Q0d x)).drop a).take 8=Q0d x:=by
   apply J2a
   intro i;rw [J2v];split
   ·rw [J2U];exact Q6E (by rw [hl8];omega) (by rw [hl8];assumption)
   ·rw [J2h (by rw [hl8];omega)]
  rw [this];exact Q3b x hx
structure Z3N (P:PL) (fr:List Nat) (own:Int) (k a:Nat) (P':PL) (fr':List Nat):Prop where
 ok:P'.Ok fr'
 same:SameP P P'
 q:∃e,find P.q.E own=some e/\((costK k:Nat):Int)<=e.q.charged/\P'.q={P.q with E:=upd P.q.E own {e.q with charged:=e.q.charged-((costK k:Nat):Int)}}
 mem:P'.a.mem=P.a.mem
 used:k≠8->(P.usedOf k).Perm (a::P'.usedOf k)
 other:∀j,j≠k->P'.usedOf j=P.usedOf j
 frs:if k=8 then ∃g,a=1024*g/\fr'=fr.erase g else fr'=fr
 few:P'.d.ps.length<=P.d.ps.length
theorem PutOk.backM {P P':PL} {fr:List Nat} {own:Int} {n a:Nat} (g:PutOk P fr own n a P') (ok:P.Ok fr):Z3N P fr own n a P' fr:=by
 obtain⟨c,c',h1,h2,h3⟩:=g.which;obtain⟨A,B,u1,u2⟩:=g.used;have ha:a∈P.usedOf n:=by rw [u1];simp
 have hn:=Q1E ok ha;have hck:costK n=Q0c n:=by unfold costK;rw [if_neg (by omega)]
 obtain⟨e,q1,q2,q3⟩:=g.q;refine⟨g.ok,⟨g.p,g.qt,g.db,by rw [g.aa],by rw [g.aa],g.top,by rw [g.aa]⟩,⟨e,q1,by rw [hck];exact q2,by rw [hck];exact q3⟩,by rw [g.aa],fun _=>?_,g.other,by rw [if_neg (by omega)],?_⟩
 ·rw [u1,u2];exact J3T
 ·rcases h3.pages with ⟨_,e⟩|⟨p,_,e⟩
  ·rw [e];omega
  ·rw [e];exact List.length_erase_le
theorem GotM.high {P P':PL} {fr fr':List Nat} {own:Int} {k a:Nat} (g:GotM P fr own k a P' fr') (ok:P.Ok fr) (hk:k=8∨k<=5):∀j,6<=j->(P'.usedOf j).Perm (P.usedOf j):=fun j hj=>by
 by_cases e:j=k
 ·have h8:j=8:=by omega
  rw [Q3c g.ok (by rw [h8];rfl),Q3c ok (by rw [h8];rfl)]
 ·rw [g.other j e]
abbrev x0:Int->Int:=fun _=>0
def KeptL (m m':List Nat) (l:List Pl):Prop:=∀r∈l,r.is=true->Kept m m' r.at_ (costK r.kind)
theorem costK_8:costK 8=1024:=rfl
theorem Q1B {k:Nat} (h:k≠8):costK k=Q0c k:=by unfold costK;rw [if_neg h]
theorem KeptL.of_apart {P:PL} {l:List Pl} {fr:List Nat} (m:MemI P l fr) {a n:Nat} {m':List Nat} (hm:∀b k,b+k<=a∨a+n<=b->Kept P.a.mem m' b k)
  (h:(∀j b,b∈P.usedOf j->a+n<=b∨b+Q0c j<=a)/\∀x∈fr,a+n<=1024*x∨1024*x+1024<=a):KeptL P.a.mem m' l:=fun r hr his=>by
 by_cases h8:r.kind=8
 ·obtain⟨g,hg,e⟩:=m.frame hr his h8;have:=h.2 g hg;rw [h8,costK_8];exact hm _ _ (by omega)
 ·have hu:=m.used hr his h8;have:=h.1 _ _ hu;rw [Q1B h8];exact hm _ _ (by omega)
theorem Z3O {l:List Pl} {i:Nat} {q:Pl} (h:∀p∈l,p.st<=2/\p.age<=1048575) (hq:q.st<=2/\q.age<=1048575):∀p∈l.set i q,p.st<=2/\p.age<=1048575:=fun p hp=>by
 rcases Q0z hp with rfl|hp
 ·exact hq
 ·exact h p hp
theorem GotM.keptL {P P':PL} {l:List Pl} {fr fr':List Nat} {own:Int} {k a:Nat} (g:GotM P fr own k a P' fr') (m:MemI P l fr):KeptL P.a.mem P'.a.mem l:=
 KeptL.of_apart m (n:=costK k) (a:=a) (fun b j h=>by
  rw [g.mem];exact Q1p (by rw [J0D];exact g.room.1) (by rw [J0D];exact h)) (g.apart m.pool)
def Z8F (P P':PL):Prop:=∀j a,6<=j->a∈P.usedOf j->Kept P.a.mem P'.a.mem a (Q0c j)
theorem GotM.keptH {P P':PL} {fr fr':List Nat} {own:Int} {k a:Nat} (g:GotM P fr own k a P' fr') (ok:P.Ok fr):Z8F P P':=fun j b _ hb=>by
 have:=(g.apart ok).1 j b hb;rw [g.mem];exact Q1p (by rw [J0D];exact g.room.1) (by rw [J0D];omega)
theorem Inv.addN {P P':PL} {l:List Pl} {fr fr':List Nat} {xc:Int->Int} {zs:List Nat} (v:Inv P l fr xc zs) {i k a h:Nat} {p f:Pl} (g:GotM P fr f.own k a P' fr') (hi:l[i]?=some p) (hp:p.st=0) (hk:k=8∨(2<=k/\k<=5)) (hf:pget l 1 h=some f) (hfk:f.kind=1) :
  Inv P' (l.set i ⟨k,a,f.own,1,p.age,0⟩) fr' xc zs:=by
 have hpn:p.is=false:=Pl.not_is.2 ⟨by omega,by omega⟩;obtain⟨e,q1,q2,q3⟩:=g.q;refine⟨by rw [J2e];exact v.len,Z3O v.st ⟨by show (1:Nat)<=2;omega,(v.st p (J2G hi)).2⟩,?_,?_,?_⟩
 ·exact v.mem.add (q:=⟨k,a,f.own,1,p.age,0⟩) (g.grewM v.mem.pool (by omega)) hi hpn rfl (by show k=8∨(1<=k/\k<=5);omega)
 ·rw [q3];exact v.tre.addN (q:=⟨k,a,f.own,1,p.age,0⟩) v.mem.pool.q.ids hi hpn rfl (by show k≠1;omega) q1
 ·exact v.que.add hi hp rfl (Q1h hf) (pget_some.1 hf).2.2 hfk rfl
theorem TreI.parent_lt {E:List (En Fa)} {l:List Pl} {xc:Int->Int} (t:TreI E l xc) (hids:E.Pairwise (fun a b=>a.id≠b.id)) {N:Int} (h0:0<N) (hN:∀id e,find E id=some e->0<=id/\id<N) {x:En Fa} (hx:x∈E):x.q.parent<N/\x.q.parent≠N:=by
 have hm:x.id∈Z0w l:=t.ids.mem_iff.1 (J1k hx);obtain⟨p,hp,hpo⟩:=J0I.1 hm;unfold ownF at hpo;split at hpo
 ·rename_i hc;simp only [J0O,beq_iff_eq] at hc;have hid:(p.own:Int)=x.id:=J1p hpo;have hfx:find E p.own=some x:=by rw [hid];exact Q9f hids hx
  obtain⟨b1,b2⟩:=t.par p hp hc.1 hc.2 x hfx;have:=hN _ _ hfx;by_cases hx0:p.own=0
  ·have:=b1 hx0;omega
  ·have:=b2 hx0;omega
 ·cases hpo
theorem Inv.addF {P P' P2:PL} {l:List Pl} {fr fr':List Nat} {xc:Int->Int} {zs:List Nat} (v:Inv P l fr xc zs) {i a h b x:Nat} {limit:Int} {p f:Pl} {e:En Fa} (g:GotM P fr f.own 1 a P' fr') (hi:l[i]?=some p) (hp:p.st=0) (hf:pget l 1 h=some f) (hfk:f.kind=1)
  (hx:(x:Int)=P.q.next) (he:find P.q.E f.own=some e)
  (hq:P2.q.E=upd P.q.E f.own {e.q with charged:=e.q.charged+64,given:=e.q.given+limit,kids:=e.q.kids+1}++[⟨x,b,⟨limit,0,0,f.own,0⟩⟩]) (hm:P2.a.mem=put_ P'.a.mem a (Q0d x)) (hu:∀j,P2.usedOf j=P'.usedOf j) (hok:P2.Ok fr') :
  Inv P2 (l.set i ⟨1,a,f.own,1,p.age,x⟩) fr' xc zs:=by
 have hpn:p.is=false:=Pl.not_is.2 ⟨by omega,by omega⟩;have hids:=v.mem.pool.q.ids;have hN:∀id e,find P.q.E id=some e->0<=id/\id<P.q.next:=fun id e h=>by
  have:=v.mem.pool.q.fa id e h;exact⟨this.2.2.2.2.2.2.1,this.2.2.2.2.2.2.2⟩
 have hn1:=v.mem.pool.q.next1;have hno:find P.q.E (x:Int)=none:=by
  cases hc:find P.q.E (x:Int) with
  | none=>rfl
  | some y=>have:=hN _ _ hc;omega
 have hlt:f.own<x:=by have:=hN _ _ he;omega
 refine⟨by rw [J2e];exact v.len,Z3O v.st ⟨by show (1:Nat)<=2;omega,(v.st p (J2G hi)).2⟩,?_,?_,?_⟩
 ·exact v.mem.add (q:=⟨1,a,f.own,1,p.age,x⟩) (g.grewF v.mem.pool (by show x<_;omega) hm hu hok) hi hpn rfl (.inr ⟨J0t 1,by show (1:Nat)<=5;omega⟩)
 ·rw [hq];refine v.tre.addF (q:=⟨1,a,f.own,1,p.age,x⟩) hids hi hpn rfl rfl he hno hlt ?_ (fun y hy=>?_) (fun r hr his=>?_)
  ·apply Classical.byContradiction
   intro hne;obtain⟨r,hr,hs,hrf⟩:=(v.que.xc (x:Int)).2 hne;obtain⟨y,hy⟩:=v.tre.fac r hr (Pl.is_iff.2 (.inl hs));rw [hrf,hno] at hy;cases hy
  ·have:=(v.tre.parent_lt hids v.mem.pool.q.next0 hN hy).2;show y.q.parent≠(x:Int);rw [hx];exact this
  ·obtain⟨y,hy⟩:=v.tre.fac r hr his;have:=hN _ _ hy;show r.fac≠x;omega
 ·exact v.que.add hi hp rfl (Q1h hf) (pget_some.1 hf).2.2 hfk rfl
theorem Inv.doom {P:PL} {l:List Pl} {fr:List Nat} {xc:Int->Int} {zs:List Nat} (v:Inv P l fr xc zs) {h:Nat} {p:Pl} (hp:pget l 1 h=some p) (h0:h≠0) (hk:kids l h=[]) (hxc:∀id,xc id≠0->∃r∈l.set (h%256) {p with st:=2},r.st=1/\(r.fac:Int)=id):Inv P (l.set (h%256) {p with st:=2}) fr xc (zs++[h]):=by
 obtain⟨hi,hn,hs⟩:=pget_some.1 hp;have hpi:p.is=true:=Pl.is_iff.2 (.inl hs);have hpm:=J2G hi;exact⟨by rw [J2e];exact v.len,Z3O v.st ⟨by show (2:Nat)<=2;omega,(v.st p hpm).2⟩,v.mem.keep hi hpi rfl rfl rfl rfl,v.tre.keep hi hpi rfl rfl rfl rfl,
  v.que.doom (by rw [v.len];omega) v.tre v.mem.pool.q.ids hp h0 hk fun id=>⟨(v.que.xc id).1,hxc id⟩⟩
def noPl (age:Nat):Pl:=⟨0,0,0,0,age,0⟩
structure Tried (P:PL) (fr:List Nat) (l:List Pl) (P':PL):Prop where
 ok:P'.Ok fr
 same:SameP P P'
 q:P'.q=P.q
 used:∀k,(P'.usedOf k).Perm (P.usedOf k)
 ps:P'.d.ps.Perm P.d.ps
 mem:KeptL P.a.mem P'.a.mem l
 memH:Z8F P P'
theorem Tried.refl {P:PL} {fr:List Nat} (ok:P.Ok fr) (l:List Pl):Tried P fr l P:=⟨ok,SameP.refl P,rfl,fun _=>J3K _,J3K _,fun _ _ _=>Kept.refl _ _ _,fun _ _ _ _=>Kept.refl _ _ _⟩
theorem Q4C {P:PL} {fr:List Nat} (ok:P.Ok fr) (g:Nat):g∈P.pages↔∃k a,a∈P.usedOf k/\a/1024=g:=by
 constructor
 ·intro hg;obtain⟨c,hc,hx0⟩:=J0T.1 hg;obtain⟨x,hx,rfl⟩:=J0z.1 hx0;obtain⟨k,hk⟩:=J3g.1 hc;have hcls:P.Cls (k+1) c:=⟨by omega,by simpa using hk⟩
  obtain⟨k1,k2,_,_⟩:=PL.Cls.facts ok hcls;have hb:=ok.busy c hc x hx;obtain⟨i,hi⟩:∃i,i∈Q2D x.1.bits:=by
   cases ht:Q2D x.1.bits with
   | nil =>
    exfalso
    apply hb
    have:cntB x.1.bits=(Q2D x.1.bits).length:=(Q5o _).symm;rw [this,ht];rfl
   | cons i r=>exact⟨i,by simp⟩
  have hu:addr c.size x.2 i∈c.used:=J0T.2 ⟨x,hx,J1k hi⟩;refine⟨k+1,addr c.size x.2 i,by rw [Q0O hcls];exact hu,?_⟩;have hil:i<x.1.bits.length:=by
   have:=mem_trues.1 hi;rcases J3a i x.1.bits.length with e|e
   ·exact e
   ·rw [J2h e] at this;cases this
  have hs0:=k1.s0;have hp:=Q3R (s:=c.size) (by omega) hil (k1.many x hx);unfold addr;omega
 ·rintro⟨k,a,ha,rfl⟩;obtain⟨p,hp,h1,h2⟩:=Q4Q ok ha;have:=Q1E ok ha;have:=Q7i this.1 this.2;have e:a/1024=p:=by omega
  rw [e];exact hp
theorem Z8G {P P':PL} {fr fr':List Nat} (ok:P.Ok fr) (ok':P'.Ok fr') (hu:∀k,(P'.usedOf k).Perm (P.usedOf k)) (hf:fr'.Perm fr):P'.d.ps.Perm P.d.ps:=by
 have h1:=(ok.pages.nodup_iff).2 ok.d.nd;have h2:=(ok'.pages.nodup_iff).2 ok'.d.nd;have hp:P'.pages.Perm P.pages:=by
  rw [List.perm_ext_iff_of_nodup (J1l.1 h2).2.1 (J1l.1 h1).2.1];intro g;rw [Q4C ok',Q4C ok]
  constructor
  ·rintro⟨k,a,ha,e⟩;exact⟨k,a,(hu k).mem_iff.1 ha,e⟩
  ·rintro⟨k,a,ha,e⟩;exact⟨k,a,(hu k).mem_iff.2 ha,e⟩
 exact ok'.pages.symm.trans ((hf.append hp).trans ok.pages)
theorem GotM.back {P P' P2:PL} {l:List Pl} {fr fr' fr2:List Nat} {own:Int} {k a:Nat} (g:GotM P fr own k a P' fr') (m:MemI P l fr) (b:Z3N P' fr' own k a P2 fr2):Tried P fr l P2:=by
 obtain⟨e,q1,q2,q3⟩:=g.q;obtain⟨e',r1,r2,r3⟩:=b.q;have hids:=m.pool.q.ids;have hE:P'.q.E=upd P.q.E own {e.q with charged:=e.q.charged+((costK k:Nat):Int)}:=by rw [q3]
 have he':e'={e with q:={e.q with charged:=e.q.charged+((costK k:Nat):Int)}}:=by
  rw [hE,Q0m q1] at r1;exact (J1p r1).symm
 have hq:P2.q=P.q:=by
  have h1:upd P'.q.E own {e'.q with charged:=e'.q.charged-((costK k:Nat):Int)}=P.q.E:=by
   rw [hE,upd_upd,he'];have:({e.q with charged:=e.q.charged+((costK k:Nat):Int)-((costK k:Nat):Int)}:Fa)=e.q:=by
    rw [J3X]
   show upd P.q.E own ({e.q with charged:=e.q.charged+((costK k:Nat):Int)-((costK k:Nat):Int)}:Fa)=_;rw [this];exact Z3b hids q1
  rw [r3,h1,q3]
 have hu:∀j,(P2.usedOf j).Perm (P.usedOf j):=fun j=>by
  by_cases e:j=k
  ·subst e;by_cases h8:j=8
   ·have z:∀{Q:PL} {f:List Nat},Q.Ok f->Q.usedOf j=[]:=fun hQ=>Q3c hQ (by rw [h8];rfl)
    rw [z b.ok,z m.pool]
   ·have h1:=(g.used h8).symm.trans (b.used h8);exact (J4c h1).symm
  ·rw [b.other j e,g.other j e]
 have hfr:fr2=fr:=by
  have h1:=g.frs;have h2:=b.frs;by_cases h8:k=8
  ·rw [if_pos h8] at h1 h2;obtain⟨x,rfl,hx⟩:=h1;obtain⟨y,hy,rfl⟩:=h2;have:x=y:=by omega
   subst this;rw [hx];simp
  ·rw [if_neg h8] at h1 h2;rw [h2,h1]
 have hok:P2.Ok fr:=by rw [<- hfr];exact b.ok
 exact⟨hok,g.same.trans b.same,hq,hu,Z8G m.pool hok hu (J3K _),fun r hr his=>by rw [b.mem];exact g.keptL m r hr his,fun j c hj hc=>by rw [b.mem];exact g.keptH m.pool j c hj hc⟩
theorem Inv.tried {P P':PL} {l:List Pl} {fr:List Nat} {xc:Int->Int} {zs:List Nat} (v:Inv P l fr xc zs) (t:Tried P fr l P'):Inv P' l fr xc zs:=by
 refine⟨v.len,v.st,⟨t.ok,v.mem.kind,fun k h1 h5=>(v.mem.ats k h1 h5).trans (t.used k).symm,v.mem.frs,fun r hr his hk=>?_⟩,by rw [t.q];exact v.tre,v.que⟩;have:=t.mem r hr his;rw [hk] at this;rw [(this.sub (J0t _) (by show r.at_+8<=r.at_+64;omega)).word];exact v.mem.word r hr his hk
structure HT where
 t:Nat
 l:List Pl
def Pl.cells (p:Pl):List Value:=[.int .i64 (p.kind:Int),.int .i64 (p.at_:Int),.int .i64 (p.fac:Int),.int .i64 (p.st:Int),.int .u32 (p.age:Int)]
def HT.hl (h:HT):HL:=[(h.t,isC 264 (h.l.flatMap Pl.cells))]
theorem Q3E:∀{l:List Pl} {i:Nat} {p:Pl},l[i]?=some p->∀(j:Nat) (v:Value),j<5->p.cells[j]?=some v->(l.flatMap Pl.cells)[i*5+j]?=some v
 | [],i,p,h,j,v,_,_=>by simp at h
 | x::r,0,p,h,j,v,hj,hv=>by
  simp at h;subst h;rw [J0Q,J4f,J2W,J3E (by simpa [Pl.cells] using hj)];exact hv
 | x::r,i+1,p,h,j,v,hj,hv=>by
  rw [J3D] at h;have:=Q3E (l:=r) h j v hj hv;rw [J0Q,J3F (by simp [Pl.cells];omega)];rw [<- this];congr 1;simp [Pl.cells];omega
theorem Z3P:∀{l:List Pl} {i:Nat} {p q:Pl},l[i]?=some p->∀(j:Nat) (v:Value),j<5->p.cells.set j v=q.cells->(l.flatMap Pl.cells).set (i*5+j) v=(l.set i q).flatMap Pl.cells
 | [],i,p,q,h,j,v,_,_=>by simp at h
 | x::r,0,p,q,h,j,v,hj,hv=>by
  simp at h;subst h;rw [J0Q,J4f,J2W,List.set_append_left _ _ (by simpa [Pl.cells] using hj),hv];rfl
 | x::r,i+1,p,q,h,j,v,hj,hv=>by
  rw [J3D] at h;have:=Z3P (l:=r) h j v hj hv;rw [J0Q,J4g _ _ (by simp [Pl.cells];omega)];rw [J3c,J0Q,<- this];congr 2;simp [Pl.cells];omega
theorem Z8H (l:List Pl):(l.flatMap Pl.cells).length=l.length*5:=by
 induction l with
 | nil=>rfl
 | cons x r ih=>rw [J0Q,J1d,ih];simp [Pl.cells];omega
section
variable {w:World} {h:HT}
theorem HT.cells (s:Sep w h.hl):Cells w h.t 264 (h.l.flatMap Pl.cells):=s.cells (by simp [HT.hl])
theorem HT.cell (s:Sep w h.hl) {i:Nat} {p:Pl} (hi:h.l[i]?=some p):w.cell? ⟨h.t,i*5,none⟩=some (.int .i64 (p.kind:Int))/\w.cell? ⟨h.t,i*5+1,none⟩=some (.int .i64 (p.at_:Int))/\w.cell? ⟨h.t,i*5+2,none⟩=some (.int .i64 (p.fac:Int))/\w.cell? ⟨h.t,i*5+3,none⟩=some (.int .i64 (p.st:Int))/\w.cell? ⟨h.t,i*5+4,none⟩=some (.int .u32 (p.age:Int))/\∀j,w.frozen? ⟨h.t,j,none⟩=false:=
 ⟨(HT.cells s).cell (i*5) _ (Q3E hi 0 _ (by omega) rfl),(HT.cells s).cell (i*5+1) _ (Q3E hi 1 _ (by omega) rfl),(HT.cells s).cell (i*5+2) _ (Q3E hi 2 _ (by omega) rfl),(HT.cells s).cell (i*5+3) _ (Q3E hi 3 _ (by omega) rfl),(HT.cells s).cell (i*5+4) _ (Q3E hi 4 _ (by omega) rfl),(HT.cells s).free⟩
theorem HT.set (s:Sep w h.hl) {i:Nat} {p q:Pl} (hi:h.l[i]?=some p) (j:Nat) (v:Value) (hj:j<5) (hq:p.cells.set j v=q.cells):Step h.hl ({h with l:=h.l.set i q}:HT).hl w (w.setCell ⟨h.t,i*5+j,none⟩ v):=by
 have:=Sep.set (A:=[]) (B:=[]) (by simpa [HT.hl] using s) (i*5+j) v;rw [Z3P hi j v hj hq] at this;exact this
end
theorem Z8I (a i:Nat) (hi:i<256) (ha:a<=1048575):bits BinOp.or IntKind.u32 ((a*256:Nat):Int) (i:Int)=((a*256+i:Nat):Int):=by
 rw [u32_or_nat _ _ (by omega) (by omega)];congr 1;have:=J3L (i:=8) (b:=i) (by omega) a;rw [J3r] at this;exact this.symm
theorem Q7U (h:Nat) (hh:h<4294967296):bits BinOp.and IntKind.u32 (h:Int) 255=((h%256:Nat):Int):=by
 have:=u32_and_nat h 255 hh (by omega);rw [show ((255:Nat):Int)=255 from rfl] at this;rw [this];congr 1;exact J1X h 8
theorem Q3Z {w:World} {h:HT} (s:Sep w h.hl) {i:Nat} {p:Pl} (hi:h.l[i]?=some p) (hi256:i<256) (ha:p.age<=1048575):Calls prog 153 #[.pointer (some ⟨h.t,0,none⟩),.int .i64 i] w fun r w'=>r=.returned (.int .u32 ((nm i p:Nat):Int))/\w=w':=by
 obtain⟨-,-,-,-,c4,-⟩:=HT.cell s hi;have HO:=Q0a (Z8I p.age i hi256 ha);unfold nm;clear s hi;generalize p.age=a at *
 go_enter func153,ntmps153
 go_wp2
 go_ret;refine⟨?_,rfl⟩;have e:=HO.out;rw [J1w] at e;exact congrArg (fun z=>Ending.returned (.int .u32 z)) e
abbrev OV:=Option (Nat×Nat×Nat)
def ovOf (rv:OV) (n:Nat):Value:=match rv with
 | none=>.slice none 0 0
 | some (g,off,cap)=>.slice (some ⟨g,off,none⟩) n cap
def isS (T:TypeId) (m off:Nat) (cs:List Value):Obj->Prop:=fun o=>∃cur:Array Value,o=.cells cur T (0,0)/\off+m<=cur.size/\(cur.toList.drop off).take cs.length=cs
def ovH (rv:OV) (T:TypeId) (size:Nat) (xs:List Value):HL:=match rv with
 | none=>[]
 | some (g,off,cap)=>[(g,isS T (cap*size) off xs)]
def ovOk (rv:OV) (n:Nat):Prop:=match rv with
 | none=>n=0
 | some (_,_,cap)=>n<=cap/\cap<=maxLen
theorem Z8J {w:World} {g off cap:Nat} {T:TypeId} {size:Nat} {xs:List Value} (h:Sep w (ovH (some (g,off,cap)) T size xs)) (j:Nat) (v:Value) (hv:xs[j]?=some v):w.cell? ⟨g,off+j,none⟩=some v:=by
 obtain⟨o,ho,cur,rfl,hn,hr⟩:=h.get (b:=g) (q:=isS T (cap*size) off xs) (by simp [ovH]);rw [<- hr,J2v] at hv;split at hv
 ·rw [J2U] at hv;simp only [World.cell?,ho,J3u,J4h,if_false];rw [<- J2S];exact hv
 ·cases hv
theorem Sep.weak {w:World} {A B:HL} {b:Nat} {q q':Obj->Prop} (h:Sep w (A++(b,q)::B)) (hq:∀o,q o->q' o):Step (A++(b,q)::B) (A++(b,q')::B) w w:=by
 obtain⟨o,ho,hq0⟩:=h.get (b:=b) (q:=q) (by simp);exact Sep.turn h ⟨rfl,rfl,rfl,J0t _,fun _ _ _=>rfl⟩ ⟨o,ho,hq _ hq0⟩
theorem Step.more {w w':World} {A B H':HL} (s:Step B H' w w'):Step (A++B) H' w w':=
 ⟨s.sep,s.chg.mono fun b hb=>.inl (by simp [hb]),fun b hb=>by rcases s.new b hb with h'|h';exact .inl (by simp [h']);exact .inr h'⟩
theorem Z3Q {P:Program} {w:World} {B:HL} {rv:OV} {T t ty:TypeId} {size n m:Nat} {xs news:List Value} (h:Sep w (ovH rv T size xs++B)) (hok:ovOk rv n) (hl:xs.length=n*size)
  (i:TypeInfo) (z:Value) (bytes:Nat) (ht:P.underlying t=some (.slice T)) (hi:P.info? T=some i) (hz:i.zero=some z) (hsize:i.size=size) (hby:i.bytes=bytes) (hzs:z.cells.size=size)
  (x:Value) (hs:Src P size t x m news w) (hm:0<m) (hlen:n+m<=1048576) (hb:bytes<=64) :
  ∃rv' w',(Builtin.append_ #[t,t] ty #[ovOf rv n,x]).run P w=.ok (ovOf rv' (n+m)) w'/\ovOk rv' (n+m)/\Step (ovH rv T size xs++B) (ovH rv' T size (xs++news)++B) w w':=by
 subst hsize;subst hby;have hnl:=hs.newsLen;have hl2:(xs++news).length=(n+m)*i.size:=by rw [J1d,hl,hnl,J3o]
 have hbytes:(n+m)*i.bytes<=140737488355328:=J0u (J1v hlen hb) (by decide)
 -- a new row
 have grown:∀(bs:Option Addr) (sc:Nat),ovOf rv n=.slice bs n sc->sc<n+m->(Builtin.firstCells i.size n (.slice bs n sc)).run P w.drew=.ok xs.toArray w.drew ->
   ∃rv' w',(Builtin.append_ #[t,t] ty #[ovOf rv n,x]).run P w=.ok (ovOf rv' (n+m)) w'/\ovOk rv' (n+m)/\Step (ovH rv T i.size xs++B) (ovH rv' T i.size (xs++news)++B) w w':=by
  intro bs sc he hsc hold;have hrun:=run_append_grow_src (P:=P) w t t ty T i z ht hi hz bs n sc xs hold x m news hs hsc (by omega) (growslice_fits (by omega) hbytes);have hge:=grownCap_ge w (n+m) sc T;have hcm:grownCap w (n+m) sc T<=maxLen:=grownCap_le_maxLen w (n+m) sc T (by unfold maxLen;omega);obtain⟨cap,hcap⟩:∃cap,cap=grownCap w (n+m) sc T:=⟨_,rfl⟩
  rw [<- hcap] at hrun hge hcm;refine⟨some (w.heap.size,0,cap),_,by rw [he];exact hrun,⟨hge,hcm⟩,?_⟩;refine Step.more ?_;have s1:=(h.right.drew.new T ((xs++news).toArray++Builtin.zeroCells z.cells (cap-(n+m))).toList).from_drew;rw [Array.toArray_toList] at s1;refine s1.trans (Sep.weak (A:=[]) s1.sep ?_);rintro o rfl;refine⟨_,rfl,?_,?_⟩
  ·simp only [Array.toArray_toList,Array.size_append,J2X,size_zeroCells,hzs,hl2,<- J3o];rw [J2W];exact J3n _ (by omega)
  ·simp only [Array.toList_append,J4i];exact J2Q
 cases rv with
 | none =>
  have h0:n=0:=hok;subst h0;have hx:xs=[]:=J2I (by simpa using hl);subst hx;exact grown none 0 rfl (by omega) (run_firstCells_none w.drew i.size 0 0 0)
 | some p =>
  obtain⟨g,off,cap⟩:=p;obtain⟨hc1,hc2⟩:=hok;by_cases hroom:n+m<=cap
  ·obtain⟨o,ho,cur,rfl,hn,hr⟩:=h.left.get (b:=g) (q:=isS T (cap*i.size) off xs) (by simp [ovH]);have hle:(n+m)*i.size<=cap*i.size:=J3n _ hroom;have hfit:off+n*i.size+news.length<=cur.size:=by rw [hnl];rw [J3o] at hle;omega
   have hst:=run_storeCells_at P g (off+n*i.size) T news 0 cur w ho (by simpa using hfit) hs.one;simp only [J0C] at hst;refine⟨some (g,off,cap),w.setRow g (cur.toList.take (off+n*i.size)++news++cur.toList.drop (off+n*i.size+news.length)).toArray,?_,⟨hroom,hc2⟩,?_⟩
   ·unfold ovOf;rcases hs.kind with ⟨e',hk⟩|hk <;> simp [Builtin.append_,run_underlying ht,sizeOf,typeInfo,hi,hs.len,hroom,hs.cells,Addr.add_lit,hst]
   ·refine Sep.turn (A:=[]) h ⟨rfl,rfl,rfl,by simp,fun k _ hk=>setRow_other w g k _ (fun e=>hk (by simp [e]))⟩ ⟨_,setRow_heap w g cur _ T _ ho,_,rfl,?_,?_⟩
    ·simp only [J2X,J1d,J2L,J2K,Array.length_toList];omega
    ·have e1:(cur.toList.take (off+n*i.size)).drop off=xs:=by
      rw [List.drop_take,J3p,<- hl];exact hr
     have e2:off<=(cur.toList.take (off+n*i.size)).length:=by
      simp only [J2L,Array.length_toList];omega
     show (List.drop off (_++news++_)).take _=_;rw [J1s,J2O e2,e1,<- J1s];exact J2Q
  ·refine grown (some ⟨g,off,none⟩) cap rfl (by omega) ?_;refine run_firstCells_some w.drew i.size n ⟨g,off,none⟩ n cap xs hl (fun j u hu=>?_);rw [Addr.add_lit];exact Z8J h.left j u hu
structure CO where
 c:Nat
 P:PL
 t:Nat
 l:List Pl
 g:Nat
 period:Nat
 now:Nat
 rv:OV
 ts:List (Nat×Nat)
 xc:Int->Int
def Q4a (ts:List (Nat×Nat)):List Value:=ts.flatMap fun x=>[.int .i64 (x.1:Int),.int .i64 (x.2:Int)]
def qhl (g period now:Nat) (rv:OV) (ts:List (Nat×Nat)):HL:=(g,isC 267 [.int .i64 period,.int .i64 now,ovOf rv ts.length])::ovH rv 298 2 (Q4a ts)
def CO.qh (S:CO):HL:=qhl S.g S.period S.now S.rv S.ts
def CO.ht (S:CO):HT:=⟨S.t,S.l⟩
def CO.head (S:CO):Nat×(Obj->Prop):=(S.c,isC 142 [ptr S.P.p,ptr S.t,ptr S.g])
def CO.hl (S:CO):HL:=S.head::(S.P.hl++(S.ht.hl++S.qh))
structure CO.Ok (S:CO) (fr:List Nat) (N K:Nat):Prop where
 inv:Inv S.P S.l fr S.xc (S.ts.map Prod.fst)
 per:1<=S.period/\S.period<=16
 due:∀x∈S.ts,S.now<x.2/\x.2<=S.now+S.period
 ord:S.ts.Pairwise (fun a b=>a.2<=b.2)
 ov:ovOk S.rv S.ts.length
 next:S.P.q.next<=N
 now:S.now<=K
 age:∀p∈S.l,p.age<=S.now
theorem CO.permP (S:CO):S.hl.Perm (S.P.hl++(S.head::(S.ht.hl++S.qh))):=by
 unfold CO.hl;exact J3T.symm
theorem CO.permT (S:CO):S.hl.Perm (S.ht.hl++(S.head::(S.P.hl++S.qh))):=by
 unfold CO.hl;refine (List.Perm.cons _ ?_).trans J3T.symm;rw [<- J1s,<- J1s];exact J3f.append_right _
theorem CO.permG (S:CO):S.hl.Perm (S.qh++(S.head::(S.P.hl++S.ht.hl))):=by
 unfold CO.hl;refine (List.Perm.cons _ ?_).trans J3T.symm;rw [<- J1s];exact J3f
section
variable {w:World} {S:CO}
theorem CO.sP (h:Sep w S.hl):Sep w S.P.hl:=h.part S.permP
theorem CO.sT (h:Sep w S.hl):Sep w S.ht.hl:=h.part S.permT
theorem CO.sG (h:Sep w S.hl):Sep w S.qh:=h.part S.permG
theorem CO.cells (h:Sep w S.hl):Cells w S.c 142 [ptr S.P.p,ptr S.t,ptr S.g]:=h.cells (by simp [CO.hl,CO.head])
theorem CO.c0 (h:Sep w S.hl):w.cell? ⟨S.c,0,none⟩=some (.pointer (some ⟨S.P.p,0,none⟩)):=(CO.cells h).cell 0 _ rfl
theorem CO.c1 (h:Sep w S.hl):w.cell? ⟨S.c,1,none⟩=some (.pointer (some ⟨S.t,0,none⟩)):=(CO.cells h).cell 1 _ rfl
theorem CO.c2 (h:Sep w S.hl):w.cell? ⟨S.c,2,none⟩=some (.pointer (some ⟨S.g,0,none⟩)):=(CO.cells h).cell 2 _ rfl
end
def CO.setP (S:CO) (P:PL):CO:={S with P:=P}
def CO.setL (S:CO) (l:List Pl):CO:={S with l:=l}
def CO.setG (S:CO) (now:Nat) (rv:OV) (ts:List (Nat×Nat)):CO:={S with now:=now,rv:=rv,ts:=ts}
theorem CO.stepP {w w':World} {S:CO} (h:Sep w S.hl) (P:PL) (e:P.p=S.P.p) (s:Step S.P.hl P.hl w w'):Step S.hl (S.setP P).hl w w':=by
 have hp:=(S.setP P).permP;have e1:(S.setP P).head=S.head:=by unfold CO.head CO.setP;rw [e]
 rw [e1] at hp;exact Step.lift S.permP hp h s
theorem CO.stepL {w w':World} {S:CO} (h:Sep w S.hl) (l:List Pl) (s:Step S.ht.hl (⟨S.t,l⟩:HT).hl w w'):Step S.hl (S.setL l).hl w w':=
 Step.lift S.permT (S.setL l).permT h s
theorem CO.stepG {w w':World} {S:CO} (h:Sep w S.hl) (now:Nat) (rv:OV) (ts:List (Nat×Nat)) (s:Step S.qh (qhl S.g S.period now rv ts) w w'):Step S.hl (S.setG now rv ts).hl w w':=
 Step.lift S.permG (S.setG now rv ts).permG h s
def PL.setD (P:PL) (d:BD):PL:={P with d:=d}
theorem PL.stepD {w w':World} {P:PL} (h:Sep w P.hl) (d:BD) (e:d.b=P.d.b) (s:Step P.d.hl d.hl w w'):Step P.hl (P.setD d).hl w w':=by
 have hp':=PL.permD (P.setD d);have e1:(P.setD d).cells=P.cells:=by unfold PL.cells PL.setD;simp only [e]
 rw [e1] at hp';exact Step.lift (PL.permD P) hp' h s
theorem PL.ok_setD {P:PL} {fr fr':List Nat} (ok:P.Ok fr) {d:BD} (h1:d.b=P.d.b) (h2:d.top=P.d.top) (h3:d.At) (h4:(fr'++P.pages).Perm d.ps):(P.setD d).Ok fr':=by
 refine⟨ok.q,h3,?_,?_,ok.bytes,ok.len,fun k c hc=>?_,h4,ok.busy⟩
 ·show P.a.mem.length=2 ^ (d.top+10);rw [h2];exact ok.mem
 ·show 6<=d.top;rw [h2];exact ok.top
 ·obtain⟨a1,a2,a3⟩:=ok.c k c hc;exact⟨a1,a2,by show c.bb=d.b;rw [h1];exact a3⟩
theorem Z3R {P:PL} {fr:List Nat} (ok:P.Ok fr) {own:Int} {e:En Fa} (hf:find P.q.E own=some e) (hq:(1024:Int)<=e.q.limit-(e.q.charged+e.q.given)) {g:Nat} {d:BD} (h1:d.b=P.d.b) (h2:d.top=P.d.top) (h3:d.ps=P.d.ps++[g]) (h4:d.At) :
  GotM P fr own 8 (1024*g) (((P.setQ {P.q with E:=upd P.q.E own {e.q with charged:=e.q.charged+1024}}).setD d).setA (put_ P.a.mem (1024*g) (List.replicate 1024 0))) (g::fr):=by
 obtain⟨f1,f2,f3,f4,f5,f6,f7,f8⟩:=ok.q.fa own e hf;have ok1:=PL.ok_setQ ok (Q2G ok.q hf {e.q with charged:=e.q.charged+1024} ⟨by show 0<=e.q.charged+_;omega,f2,by show e.q.charged+_+e.q.given<=e.q.limit;omega,rfl,rfl⟩);have hpg:((g::fr)++P.pages).Perm d.ps:=by
  rw [h3];refine (ok.pages.cons g).trans ?_;exact (J3V _ _).symm
 have ok2:=PL.ok_setD (fr':=g::fr) ok1 (d:=d) h1 h2 h4 hpg;have hg:g<2 ^ P.d.top:=by rw [<- h2];exact h4.lt g (by rw [h3];simp)
 have hl:1024*g+(List.replicate 1024 0).length<=P.a.mem.length:=by
  rw [J0D,ok.mem,J1T,show (2:Nat) ^ 10=1024 from rfl];omega
 have hlen:=Q1U P.a.mem (1024*g) (List.replicate 1024 0) hl;have ok3:=PL.ok_setA ok2 (m:=put_ P.a.mem (1024*g) (List.replicate 1024 0)) hlen (Q7P ok.bytes 0 (by omega));refine⟨ok3,⟨rfl,rfl,h1,rfl,rfl,h2,hlen⟩,⟨e,hf,hq,rfl⟩,rfl,fun h=>absurd rfl h,fun j _=>rfl,?_,?_⟩
 ·rw [if_pos rfl];exact⟨g,rfl,rfl⟩
 ·show d.ps.length<=_;rw [h3];simp
theorem Z1u {P:PL} {fr:List Nat} (ok:P.Ok fr) {own:Int} {e:En Fa} (hf:find P.q.E own=some e) (hq:(1024:Int)<=e.q.charged) {g:Nat} (hg:g∈fr) {d:BD} (h1:d.b=P.d.b) (h2:d.top=P.d.top) (h3:d.ps=P.d.ps.erase g) (h4:d.At) :
  Z3N P fr own 8 (1024*g) ((P.setQ {P.q with E:=upd P.q.E own {e.q with charged:=e.q.charged-1024}}).setD d) (fr.erase g):=by
 obtain⟨f1,f2,f3,f4,f5,f6,f7,f8⟩:=ok.q.fa own e hf;have ok1:=PL.ok_setQ ok (Q2G ok.q hf {e.q with charged:=e.q.charged-1024} ⟨by show 0<=e.q.charged-_;omega,f2,by show e.q.charged-_+e.q.given<=e.q.limit;omega,rfl,rfl⟩);have hpg:(fr.erase g++P.pages).Perm d.ps:=by
  rw [h3];have:=ok.pages.erase g;rw [List.erase_append_left _ hg] at this;exact this
 have ok2:=PL.ok_setD (fr':=fr.erase g) ok1 (d:=d) h1 h2 h4 hpg;refine⟨ok2,⟨rfl,rfl,h1,rfl,rfl,h2,rfl⟩,⟨e,hf,hq,rfl⟩,rfl,fun h=>absurd rfl h,fun j _=>rfl,?_,?_⟩
 ·rw [if_pos rfl];exact⟨g,rfl,rfl⟩
 ·show d.ps.length<=_;rw [h3];exact List.length_erase_le
def NoPage (P:PL):Prop:=∀p,p<2 ^ P.d.top->p∈P.d.ps
theorem NoPage.len {P:PL} (h:NoPage P):2 ^ P.d.top<=P.d.ps.length:=by
 have h1:(List.range (2 ^ P.d.top)).Nodup:=J4j;have h2:=h1.length_le_of_subset (l₂:=P.d.ps) (fun x hx=>h x (J0J.1 hx))
 simpa using h2
theorem NoRoom.page {P:PL} {n:Nat} (h:NoRoom P n):NoPage P:=by
 obtain⟨c,_,_,hn⟩:=h;exact fun p hp=>Q7T hn hp
theorem Z3S (d:BD):(∀k,k<=d.top->fstG (fre (uOf d.ps) d.top) d.top k 0=none)∨∃k0 i0,k0<=d.top/\fstG (fre (uOf d.ps) d.top) d.top k0 0=some i0/\∀k,k<k0->fstG (fre (uOf d.ps) d.top) d.top k 0=none:=by
 have key:∀n,(∀k,k<n->fstG (fre (uOf d.ps) d.top) d.top k 0=none)∨∃k0 i0,k0<n/\fstG (fre (uOf d.ps) d.top) d.top k0 0=some i0/\∀k,k<k0->fstG (fre (uOf d.ps) d.top) d.top k 0=none:=by
  intro n
  induction n with
  | zero=>left;intro k hk;omega
  | succ n ih =>
   rcases ih with h|⟨k0,i0,h1,h2,h3⟩
   ·cases hc:fstG (fre (uOf d.ps) d.top) d.top n 0 with
    | none =>
     left;intro k hk;by_cases e:k=n
     ·rw [e];exact hc
     ·exact h k (by omega)
    | some i=>right;exact⟨n,i,by omega,hc,h⟩
   ·right;exact⟨k0,i0,by omega,h2,h3⟩
 rcases key (d.top+1) with h|⟨k0,i0,h1,h2,h3⟩
 ·left;exact fun k hk=>h k (by omega)
 ·right;exact⟨k0,i0,by omega,h2,h3⟩
theorem CO.Ok.made {S:CO} {fr fr':List Nat} {N N' K:Nat} (ok:S.Ok fr N K) {P':PL} {l':List Pl} (hi:Inv P' l' fr' S.xc (S.ts.map Prod.fst)) (hn:P'.q.next<=N') (ha:∀p∈l',p.age<=S.now):((S.setP P').setL l').Ok fr' N' K:=
 ⟨hi,ok.per,ok.due,ok.ord,ok.ov,hn,ok.now,ha⟩
theorem Z3T {l:List Pl} {i n:Nat} {q:Pl} (h:∀p∈l,p.age<=n) (hq:q.age<=n):∀p∈l.set i q,p.age<=n:=fun p hp=>by
 rcases Q0z hp with rfl|hp
 ·exact hq
 ·exact h p hp
theorem CO.Ok.tried {S:CO} {fr:List Nat} {N K:Nat} (ok:S.Ok fr N K) {P':PL} (t:Tried S.P fr S.l P'):(S.setP P').Ok fr N K:=
 ⟨ok.inv.tried t,ok.per,ok.due,ok.ord,ok.ov,by show P'.q.next<=N;rw [t.q];exact ok.next,ok.now,ok.age⟩
def CO.doomed (S:CO) (h:Nat) (p:Pl) (rv:OV):CO:=(S.setL (S.l.set (h%256) {p with st:=2})).setG S.now rv (S.ts++[(h,S.now+S.period)])
def CO.Spare (S:CO) (h:Nat) (p:Pl):Prop:=∀id,S.xc id≠0->∃r∈S.l.set (h%256) {p with st:=2},r.st=1/\(r.fac:Int)=id
theorem CO.Ok.doomed {S:CO} {fr:List Nat} {N K:Nat} (ok:S.Ok fr N K) {h:Nat} {p:Pl} (hp:pget S.l 1 h=some p) (h0:h≠0) (hk:kids S.l h=[]) (hsp:S.Spare h p) {rv:OV} (hov:ovOk rv (S.ts.length+1)):(S.doomed h p rv).Ok fr N K:=by
 have hper:=ok.per;refine⟨?_,ok.per,fun x hx=>?_,?_,?_,ok.next,ok.now,Z3T ok.age (ok.age p (Q1h hp))⟩
 ·have:=ok.inv.doom hp h0 hk hsp;show Inv S.P _ fr S.xc ((S.ts++[_]).map Prod.fst);rw [J3S];exact this
 ·have hx':x∈S.ts++[(h,S.now+S.period)]:=hx;show S.now<x.2/\x.2<=S.now+S.period;rcases J1h.1 hx' with hx'|hx'
  ·exact ok.due x hx'
  ·rw [J2z] at hx';subst hx';show S.now<S.now+S.period/\S.now+S.period<=S.now+S.period;omega
 ·show (S.ts++[_]).Pairwise _;rw [J1g];refine⟨ok.ord,by simp,fun x hx y hy=>?_⟩;rw [J2z] at hy;subst hy;exact (ok.due x hx).2
 ·show ovOk rv (S.ts++[_]).length;rw [J1d];exact hov
end Go.Proofs.YtlakjlmaboioiaaGreatDoor
