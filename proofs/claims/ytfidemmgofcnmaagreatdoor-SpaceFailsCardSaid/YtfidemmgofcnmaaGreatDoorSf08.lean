/- SpaceFails returns true at every input. No condition. Part of its proof. -/
import Derived.Test.YtfidemmgofcnmaaGreatDoorSf07
import Derived.Laws.BitsAllLaws
import Derived.Laws.Rows
set_option maxHeartbeats 400000
set_option linter.unusedVariables false
namespace Go.Proofs.YtfidemmgofcnmaaGreatDoor
open Go.RowKit Go.Proofs.Tryz
structure J0R(P:PL)(fr:List Nat)(k a own:Nat)(P':PL)(fr':List Nat):Prop where
 pool:P'.Ok fr'
 used:k≠8->(P'.usedOf k).Perm (a::P.usedOf k)
 other:∀j,j≠k->P'.usedOf j=P.usedOf j
 frs:if k=8 then ∃g,a=1024*g/\fr'=g::fr else fr'=fr
 mem:∀b∈P.usedOf 1,Q0u P'.a.mem b=Q0u P.a.mem b
 own:k=1->Q0u P'.a.mem a=own
structure J0S(P:PL)(fr:List Nat)(k a:Nat)(P':PL)(fr':List Nat):Prop where
 pool:P'.Ok fr'
 used:k≠8->(P.usedOf k).Perm (a::P'.usedOf k)
 other:∀j,j≠k->P'.usedOf j=P.usedOf j
 frs:if k=8 then ∃g,a=1024*g/\fr'=fr.erase g else fr'=fr
 mem:∀b∈P'.usedOf 1,Q0u P'.a.mem b=Q0u P.a.mem b
theorem Q1O{p:Pl}(k:Nat)(h:p.is=false):atsF k p=none:=by simp[atsF,h]
theorem Q6g{p:Pl}{k:Nat}(h:p.kind≠k):atsF k p=none:=by simp[atsF,h]
theorem MemI.add{P P':PL}{l:List Pl}{fr fr':List Nat}(m:MemI P l fr){i:Nat}{p q:Pl}(g:J0R P fr q.kind q.at_ q.own P' fr')(hi:l[i]?=some p)(hp:p.is=false)(hq:q.is=true)(hk:q.kind=8∨(1<=q.kind/\q.kind<=5)):MemI P' (l.set i q) fr':=by
 refine⟨g.pool,fun r hr As=>?_,fun k h1 h5=>?_,?_,fun r hr As A0=>?_⟩
 ·rcases Q0n hr with rfl|hr
  ·exact hk
  ·exact m.kind r hr As
 ·by_cases e:q.kind=k
  ·subst e;have:=Z0A (atsF q.kind) hi (Q1O _ hp) (Q1a hq);exact this.trans (((m.ats _ h1 h5).cons _).trans (g.used (by omega)).symm)
  ·rw[g.other k fun h=>e h.symm];exact(Q1I (atsF k) hi (by rw[Q6g e,Q1O _ hp])).trans (m.ats k h1 h5)
 ·by_cases e:q.kind=8
  ·have hf:=g.frs;rw[if_pos e] at hf;obtain⟨x,hx,rfl⟩:=hf;have:=Z0A (atsF 8) hi (Q1O _ hp) (by rw[<- e];exact Q1a hq);refine this.trans ?_;rw[hx];exact m.frs.cons _
  ·have hf:=g.frs;rw[if_neg e] at hf;rw[hf];exact(Q1I (atsF 8) hi (by rw[Q6g e,Q1O _ hp])).trans m.frs
 ·rcases Q0n hr with rfl|hr
  ·exact g.own A0
  ·rw[g.mem _ (by have:=m.used hr As (by omega);rwa [A0] at this)];exact m.word r hr As A0
theorem MemI.drop{P P':PL}{l:List Pl}{fr fr':List Nat}(m:MemI P l fr){i:Nat}{p q:Pl}(g:J0S P fr p.kind p.at_ P' fr')(hi:l[i]?=some p)(hp:p.is=true)(hq:q.is=false):MemI P' (l.set i q) fr':=by
 have BP:=J5q hi;have Lr:∀k,1<=k->k<=5->(Q2i (l.set i q) k).Perm (P'.usedOf k):=by
  intro k h1 h5;by_cases e:p.kind=k
  ·subst e;have h:=Q8k (q:=q) (atsF p.kind) hi (Q1a hp) (Q1O _ hq);have h2:=h.symm.trans ((m.ats _ h1 h5).trans (g.used (by omega)));exact J6Q h2
  ·rw[g.other k fun h=>e h.symm];exact(Q1I (atsF k) hi (by rw[Q6g e,Q1O _ hq])).trans (m.ats k h1 h5)
 refine⟨g.pool,fun r hr As=>?_,Lr,?_,fun r hr As A0=>?_⟩
 ·rcases Q0n hr with rfl|hr
  ·rw[hq] at As;cases As
  ·exact m.kind r hr As
 ·by_cases e:p.kind=8
  ·have hf:=g.frs;rw[if_pos e] at hf;obtain⟨x,hx,rfl⟩:=hf;obtain⟨y,hy,ey⟩:=m.frame BP hp e;have JG:x=y:=by omega
   subst JG;have h:=Q8k (q:=q) (atsF 8) hi (by rw[<- e];exact Q1a hp) (Q1O _ hq);have h3:=(List.perm_cons_erase hy).map (1024*·);have h2:=h.symm.trans (m.frs.trans h3);rw[J3e,<- hx] at h2;exact J6Q h2
  ·have hf:=g.frs;rw[if_neg e] at hf;rw[hf];exact(Q1I (atsF 8) hi (by rw[Q6g e,Q1O _ hq])).trans m.frs
 ·have hu:r.at_∈P'.usedOf 1:=by
   refine(Lr 1 (by omega) (by omega)).mem_iff.1 (J3r.2 ⟨r,hr,?_⟩);rw[<- A0];exact Q1a As
  rcases Q0n hr with rfl|hr
  ·rw[hq] at As;cases As
  ·rw[g.mem _ hu];exact m.word r hr As A0
theorem MemI.keep{P:PL}{l:List Pl}{fr:List Nat}(m:MemI P l fr){i:Nat}{p q:Pl}(hi:l[i]?=some p)(hp:p.is=true)(hq:q.is=true)(h1:q.kind=p.kind)(h2:q.at_=p.at_)(h3:q.own=p.own):MemI P (l.set i q) fr:=by
 have BP:=J5q hi;have e:∀k,atsF k q=atsF k p:=fun k=>by unfold atsF;rw[hp,hq,h1,h2]
 refine⟨m.pool,fun r hr As=>?_,fun k h1 h5=>(Q1I (atsF k) hi (e k)).trans (m.ats k h1 h5),(Q1I (atsF 8) hi (e 8)).trans m.frs,fun r hr As A0=>?_⟩
 ·rcases Q0n hr with rfl|hr
  ·rw[h1];exact m.kind p BP hp
  ·exact m.kind r hr As
 ·rcases Q0n hr with rfl|hr
  ·rw[h2,h3];exact m.word p BP hp (by omega)
  ·exact m.word r hr As A0
theorem MemI.same{P P':PL}{l:List Pl}{fr:List Nat}(m:MemI P l fr)(h:P'.Ok fr)(hu:∀k,1<=k->k<=5->P'.usedOf k=P.usedOf k)(hw:∀b∈P.usedOf 1,Q0u P'.a.mem b=Q0u P.a.mem b):MemI P' l fr:=by
 refine⟨h,m.kind,fun k h1 h5=>by rw[hu k h1 h5];exact m.ats k h1 h5,m.frs,fun r hr As A0=>?_⟩;rw[hw _ (by have:=m.used hr As (by omega);rwa [A0] at this)];exact m.word r hr As A0
theorem Q3J{p:Pl}(a:Int)(h:p.is=false):Q3f a p=0:=by simp[Q3f,h]
theorem Q2E{p:Pl}(a:Int)(h:p.is=true):Q3f a p=if (p.fac:Int)=a then(costK p.kind:Int) else 0:=by simp[Q3f,h]
theorem TreI.addN{E:List (En Fa)}{l:List Pl}{xc:Int->Int}(t:TreI E l xc)(Ae:E.Pairwise (fun a b=>a.id≠b.id)){i:Nat}{p q:Pl}(hi:l[i]?=some p)(hp:p.is=false)(hq:q.is=true)(hk:q.kind≠1){e:En Fa}(hf:find E q.fac=some e) :
  TreI (upd E q.fac {e.q with charged:=e.q.charged+(costK q.kind:Int)}) (l.set i q) xc:=by
 have ho:ownF q=ownF p:=by simp[ownF,hp,hk]
 have Hd:∀a,Q1Y (upd E q.fac {e.q with charged:=e.q.charged+(costK q.kind:Int)}) a=Q1Y E a:=fun a=>Q1U Ae hf _ _ rfl
 have FN:∀a,Q1Z (upd E q.fac {e.q with charged:=e.q.charged+(costK q.kind:Int)}) a=Q1Z E a:=fun a=>Q1U Ae hf _ _ rfl
 refine⟨?_,fun r hr As=>?_,fun r hr As A0 x hx=>?_,fun id x hx=>?_,fun id x hx=>?_⟩
 ·rw[Q1s];exact t.ids.trans (Q1I ownF hi ho).symm
 ·rcases Q0n hr with rfl|hr
  ·exact Q0Z _ hf
  ·obtain⟨y,hy⟩:=t.fac r hr As;exact Q0Z _ hy
 ·rcases Q0n hr with rfl|hr
  ·exact absurd A0 hk
  ·obtain⟨y,hy,h1,h2⟩:=Q0p _ hf hx;have:=t.par r hr As A0 y hy;by_cases hid:(r.own:Int)=q.fac
   ·obtain⟨rfl,e2⟩:=h1 hid;rw[e2];exact this
   ·rw[h2 hid];exact this
 ·obtain⟨y,hy,h1,h2⟩:=Q0p _ hf hx;have hc:=Q2j q hi id;rw[Q3J id hp,Q2E id hq] at hc;have:=t.charged id y hy;by_cases hid:id=q.fac
  ·obtain⟨rfl,e2⟩:=h1 hid;rw[if_pos hid.symm] at hc;rw[e2];show y.q.charged+_=_;omega
  ·rw[if_neg fun h=>hid h.symm] at hc;rw[h2 hid];omega
 ·obtain⟨y,hy,h1,h2⟩:=Q0p _ hf hx;rw[Hd,FN];have:=t.given id y hy;by_cases hid:id=q.fac
  ·obtain⟨rfl,e2⟩:=h1 hid;rw[e2];exact this
  ·rw[h2 hid];exact this
theorem TreI.addF{E:List (En Fa)}{l:List Pl}{xc:Int->Int}(t:TreI E l xc)(Ae:E.Pairwise (fun a b=>a.id≠b.id)){i b:Nat}{p q:Pl}{limit:Int}(hi:l[i]?=some p)(hp:p.is=false)(hq:q.is=true)(hk:q.kind=1){e:En Fa}(hf:find E q.fac=some e)
  (Aq:find E q.own=none) (Ab:q.fac<q.own) (GW:xc q.own=0) (Aa:∀x∈E,x.q.parent≠q.own) (Lf:∀r∈l,r.is=true->r.fac≠q.own) :
  TreI (upd E q.fac {e.q with charged:=e.q.charged+(costK q.kind:Int),given:=e.q.given+limit,kids:=e.q.kids+1}++[⟨q.own,b,⟨limit,0,0,q.fac,0⟩⟩]) (l.set i q) xc:=by
 obtain⟨X,hX⟩:∃X:Fa,X={e.q with charged:=e.q.charged+(costK q.kind:Int),given:=e.q.given+limit,kids:=e.q.kids+1}:=⟨_,rfl⟩
 have IT:X.parent=e.q.parent:=by rw[hX]
 have N6:X.limit=e.q.limit:=by rw[hX]
 have TD:X.charged=e.q.charged+(costK q.kind:Int):=by rw[hX]
 have UD:X.given=e.q.given+limit:=by rw[hX]
 have UK:X.kids=e.q.kids+1:=by rw[hX]
 rw[<- hX];clear hX;have Hd:∀a,Q1Y (upd E q.fac X++[⟨q.own,b,⟨limit,0,0,q.fac,0⟩⟩]) a=Q1Y E a+if (q.fac:Int)=a then limit else 0:=fun a=>by
  have:((upd E q.fac X).map (givF a)).sum=(E.map (givF a)).sum:=Q1U Ae hf _ _ (by simp[givF,IT,N6]);unfold Q1Y;rw[J6G,J6R,this];simp[givF]
 have FN:∀a,Q1Z (upd E q.fac X++[⟨q.own,b,⟨limit,0,0,q.fac,0⟩⟩]) a=Q1Z E a+if (q.fac:Int)=a then 1 else 0:=fun a=>by
  have:((upd E q.fac X).map (kidF a)).sum=(E.map (kidF a)).sum:=Q1U Ae hf _ _ (by simp[kidF,IT]);unfold Q1Z;rw[J6G,J6R,this];simp[kidF]
 have NB:∀j y,find E j=some y->∃z,find (upd E q.fac X++[⟨q.own,b,⟨limit,0,0,q.fac,0⟩⟩]) j=some z:=fun j y hy=>by
  obtain⟨z,hz⟩:=Q0Z (id:=q.fac) X hy;exact⟨z,by rw[Q2g,hz]⟩
 have AJ:∀j z,find (upd E q.fac X++[⟨q.own,b,⟨limit,0,0,q.fac,0⟩⟩]) j=some z->(j=q.own/\z=⟨q.own,b,⟨limit,0,0,q.fac,0⟩⟩)∨(j≠q.own/\∃y,find E j=some y/\(j=q.fac->y=e/\z.q=X)/\(j≠q.fac->z=y)):=fun j z hz=>by
  rw[Q2g] at hz;cases hu:find (upd E q.fac X) j with
  | none =>
   rw[hu] at hz;simp only at hz;split at hz
   ·rename_i h;cases hz;exact .inl ⟨h,rfl⟩
   ·cases hz
  | some y =>
   rw[hu] at hz;cases hz;obtain⟨x,hx,h1,h2⟩:=Q0p X hf hu;refine .inr ⟨?_,x,hx,h1,h2⟩;rintro rfl;rw[Aq] at hx;cases hx
 refine⟨?_,fun r hr As=>?_,fun r hr As A0 x hx=>?_,fun id x hx=>?_,fun id x hx=>?_⟩
 ·rw[J6G,Q1s];have h1:=Z0A ownF hi (by simp[ownF,hp]) (Q3n hq hk);exact(J6J _ _).trans ((t.ids.cons _).trans h1.symm)
 ·rcases Q0n hr with rfl|hr
  ·exact NB _ _ hf
  ·obtain⟨y,hy⟩:=t.fac r hr As;exact NB _ _ hy
 ·rcases Q0n hr with rfl|hr
  ·rcases AJ _ _ hx with ⟨_,rfl⟩|⟨h,_⟩
   ·exact⟨fun h=>absurd h (by omega),fun _=>⟨rfl,Ab⟩⟩
   ·exact absurd rfl h
  ·rcases AJ _ _ hx with ⟨h,_⟩|⟨_,y,hy,h1,h2⟩
   ·obtain⟨z,hz⟩:=t.acc hr As A0;rw[h,Aq] at hz;cases hz
   ·have:=t.par r hr As A0 y hy;by_cases hid:(r.own:Int)=q.fac
    ·obtain⟨rfl,e2⟩:=h1 hid;rw[e2,IT];exact this
    ·rw[h2 hid];exact this
 ·have hc:=Q2j q hi id;rw[Q3J id hp,Q2E id hq] at hc;rcases AJ _ _ hx with ⟨rfl,rfl⟩|⟨_,y,hy,h1,h2⟩
  ·rw[if_neg (by omega)] at hc;have:Q0y l q.own=0:=Q2t fun r hr As e=>Lf r hr As (by omega)
   show(0:Int)=_;rw[GW];omega
  ·have:=t.charged id y hy;by_cases hid:id=q.fac
   ·obtain⟨rfl,e2⟩:=h1 hid;rw[if_pos hid.symm] at hc;rw[e2,TD];omega
   ·rw[if_neg fun h=>hid h.symm] at hc;rw[h2 hid];omega
 ·rw[Hd,FN];rcases AJ _ _ hx with ⟨rfl,rfl⟩|⟨_,y,hy,h1,h2⟩
  ·obtain⟨z1,z2⟩:=Q2U Aa;rw[z1,z2,if_neg (by omega),if_neg (by omega)];exact⟨rfl,rfl⟩
  ·have:=t.given id y hy;by_cases hid:id=q.fac
   ·obtain⟨rfl,e2⟩:=h1 hid;rw[if_pos hid.symm,if_pos hid.symm,e2,UD,UK];omega
   ·rw[if_neg fun h=>hid h.symm,if_neg fun h=>hid h.symm,h2 hid];omega
theorem TreI.keep{E:List (En Fa)}{l:List Pl}{xc:Int->Int}(t:TreI E l xc){i:Nat}{p q:Pl}(hi:l[i]?=some p)(hp:p.is=true)(hq:q.is=true)(h1:q.kind=p.kind)(h2:q.fac=p.fac)(h3:q.own=p.own):TreI E (l.set i q) xc:=by
 have BP:=J5q hi;refine⟨t.ids.trans (Q1I ownF hi (by unfold ownF;rw[hp,hq,h1,h3])).symm,fun r hr As=>?_,fun r hr As A0 x hx=>?_,fun id x hx=>?_,t.given⟩
 ·rcases Q0n hr with rfl|hr
  ·rw[h2];exact t.fac p BP hp
  ·exact t.fac r hr As
 ·rcases Q0n hr with rfl|hr
  ·rw[h2,h3];rw[h3] at hx;exact t.par p BP hp (by omega) x hx
  ·exact t.par r hr As A0 x hx
 ·have hc:=Q2j q hi id;have e:Q3f id q=Q3f id p:=by unfold Q3f;rw[hp,hq,h1,h2]
  rw[e] at hc;have:=t.charged id x hx;omega
theorem TreI.pays{E:List (En Fa)}{l:List Pl}{xc:Int->Int}(t:TreI E l xc){p:Pl}(hp:p∈l)(hi:p.is=true)(hx:0<=xc p.fac){e:En Fa}(hf:find E p.fac=some e):(costK p.kind:Int)<=e.q.charged:=by
 have h1:=t.charged _ e hf;have h2:=Q7x (p.fac:Int) hp;rw[Q2E _ hi,if_pos rfl] at h2;omega
theorem TreI.dropN{E:List (En Fa)}{l:List Pl}{xc:Int->Int}(t:TreI E l xc)(Ae:E.Pairwise (fun a b=>a.id≠b.id)){i:Nat}{p q:Pl}(hi:l[i]?=some p)(hp:p.is=true)(hq:q.is=false)(hk:p.kind≠1){e:En Fa}(hf:find E p.fac=some e) :
  TreI (upd E p.fac {e.q with charged:=e.q.charged-(costK p.kind:Int)}) (l.set i q) xc:=by
 have ho:ownF q=ownF p:=by simp[ownF,hq,hk]
 have Hd:∀a,Q1Y (upd E p.fac {e.q with charged:=e.q.charged-(costK p.kind:Int)}) a=Q1Y E a:=fun a=>Q1U Ae hf _ _ rfl
 have FN:∀a,Q1Z (upd E p.fac {e.q with charged:=e.q.charged-(costK p.kind:Int)}) a=Q1Z E a:=fun a=>Q1U Ae hf _ _ rfl
 refine⟨?_,fun r hr As=>?_,fun r hr As A0 x hx=>?_,fun id x hx=>?_,fun id x hx=>?_⟩
 ·rw[Q1s];exact t.ids.trans (Q1I ownF hi ho).symm
 ·rcases Q0n hr with rfl|hr
  ·rw[hq] at As;cases As
  ·obtain⟨y,hy⟩:=t.fac r hr As;exact Q0Z _ hy
 ·rcases Q0n hr with rfl|hr
  ·rw[hq] at As;cases As
  ·obtain⟨y,hy,h1,h2⟩:=Q0p _ hf hx;have:=t.par r hr As A0 y hy;by_cases hid:(r.own:Int)=p.fac
   ·obtain⟨rfl,e2⟩:=h1 hid;rw[e2];exact this
   ·rw[h2 hid];exact this
 ·obtain⟨y,hy,h1,h2⟩:=Q0p _ hf hx;have hc:=Q2j q hi id;rw[Q3J id hq,Q2E id hp] at hc;have:=t.charged id y hy;by_cases hid:id=p.fac
  ·obtain⟨rfl,e2⟩:=h1 hid;rw[if_pos hid.symm] at hc;rw[e2];show y.q.charged-_=_;omega
  ·rw[if_neg fun h=>hid h.symm] at hc;rw[h2 hid];omega
 ·obtain⟨y,hy,h1,h2⟩:=Q0p _ hf hx;rw[Hd,FN];have:=t.given id y hy;by_cases hid:id=p.fac
  ·obtain⟨rfl,e2⟩:=h1 hid;rw[e2];exact this
  ·rw[h2 hid];exact this
theorem TreI.dropF{E:List (En Fa)}{l:List Pl}{xc:Int->Int}(t:TreI E l xc)(Ae:E.Pairwise (fun a b=>a.id≠b.id)){i:Nat}{p q:Pl}(hi:l[i]?=some p)(hp:p.is=true)(hq:q.is=false)(hk:p.kind=1)(h0:p.own≠0){e c:En Fa}(hf:find E p.fac=some e)(hc:find E p.own=some c)
  (Lf:∀r∈l,r.is=true->r.fac≠p.own) :
  TreI (upd (rem (upd E p.fac {e.q with given:=e.q.given-c.q.limit,kids:=e.q.kids-1}) p.own) p.fac {e.q with given:=e.q.given-c.q.limit,kids:=e.q.kids-1,charged:=e.q.charged-(costK p.kind:Int)}) (l.set i q) xc:=by
 have BP:=J5q hi;obtain⟨Bo,Ab⟩:=(t.par p BP hp hk c hc).2 h0;have Aa:(p.own:Int)≠p.fac:=by omega
 obtain⟨X,hX⟩:∃X:Fa,X={e.q with given:=e.q.given-c.q.limit,kids:=e.q.kids-1}:=⟨_,rfl⟩
 obtain⟨Y,hY⟩:∃Y:Fa,Y={e.q with given:=e.q.given-c.q.limit,kids:=e.q.kids-1,charged:=e.q.charged-(costK p.kind:Int)}:=⟨_,rfl⟩
 have IT:X.parent=e.q.parent:=by rw[hX]
 have N6:X.limit=e.q.limit:=by rw[hX]
 have OQ:Y.parent=e.q.parent:=by rw[hY]
 have T9:Y.limit=e.q.limit:=by rw[hY]
 have Tq:Y.charged=e.q.charged-(costK p.kind:Int):=by rw[hY]
 have TE:Y.given=e.q.given-c.q.limit:=by rw[hY]
 have Ve:Y.kids=e.q.kids-1:=by rw[hY]
 rw[<- hX,<- hY];clear hX hY;have pw1:(upd E p.fac X).Pairwise (fun a b=>a.id≠b.id):=Q0Q _ _ (fun a b a' b' _ h1 _ h2 h=>by rw[<- h1,<- h2];exact h) Ae;have f1:find (upd E p.fac X) p.own=some c:=by rw[Q0w Aa];exact hc
 have pw2:(rem (upd E p.fac X) p.own).Pairwise (fun a b=>a.id≠b.id):=pw1.sublist (Q1G _ _);have f2:find (rem (upd E p.fac X) p.own) p.fac=some {e with q:=X}:=by
  rw[Q2r pw1,if_neg (fun h=>Aa h.symm)];exact Q0h hf X
 have AJ:∀j z,find (upd (rem (upd E p.fac X) p.own) p.fac Y) j=some z->j≠p.own/\∃y,find E j=some y/\(j=p.fac->y=e/\z.q=Y)/\(j≠p.fac->z=y):=fun j z hz=>by
  obtain⟨x,hx,h1,h2⟩:=Q0p Y f2 hz;rw[Q2r pw1] at hx;split at hx
  ·cases hx
  ·rename_i hj;obtain⟨y,hy,h3,h4⟩:=Q0p X hf hx;refine⟨hj,y,hy,fun h=>⟨(h3 h).1,(h1 h).2⟩,fun h=>?_⟩;rw[h2 h,h4 h]
 have NB:∀(j:Int) y,j≠p.own->find E j=some y->∃z,find (upd (rem (upd E p.fac X) p.own) p.fac Y) j=some z:=fun j y hj hy=>by
  obtain⟨z,hz⟩:=Q0Z (id:=p.fac) X hy;exact Q0Z Y (by rw[Q2r pw1,if_neg hj];exact hz)
 have Hd:∀a,Q1Y (upd (rem (upd E p.fac X) p.own) p.fac Y) a+givF a c=Q1Y E a:=fun a=>by
  have e1:((upd (rem (upd E p.fac X) p.own) p.fac Y).map (givF a)).sum=((rem (upd E p.fac X) p.own).map (givF a)).sum:=Q1U pw2 f2 _ _ (by simp[givF,IT,N6,OQ,T9]);have e2:=Z5A pw1 f1 (givF a);have e3:((upd E p.fac X).map (givF a)).sum=(E.map (givF a)).sum:=Q1U Ae hf _ _ (by simp[givF,IT,N6]);unfold Q1Y;rw[e1,e2,e3]
 have FN:∀a,Q1Z (upd (rem (upd E p.fac X) p.own) p.fac Y) a+kidF a c=Q1Z E a:=fun a=>by
  have e1:((upd (rem (upd E p.fac X) p.own) p.fac Y).map (kidF a)).sum=((rem (upd E p.fac X) p.own).map (kidF a)).sum:=Q1U pw2 f2 _ _ (by simp[kidF,IT,OQ]);have e2:=Z5A pw1 f1 (kidF a);have e3:((upd E p.fac X).map (kidF a)).sum=(E.map (kidF a)).sum:=Q1U Ae hf _ _ (by simp[kidF,IT]);unfold Q1Z;rw[e1,e2,e3]
 refine⟨?_,fun r hr As=>?_,fun r hr As A0 x hx=>?_,fun id x hx=>?_,fun id x hx=>?_⟩
 ·rw[Q1s];have h1:(E.map En.id).Perm ((p.own:Int)::(rem (upd E p.fac X) p.own).map En.id):=by
   obtain⟨A,B,e1,_,e3⟩:=Q3i pw1 f1;rw[<- Q1s E p.fac X,e3]
   conv=>lhs;rw[e1]
   have Ig:c.id=p.own:=(Q0b f1).2;rw[J6G,J3e,J6G,Ig];exact J6H
  have h2:=Q8k (q:=q) ownF hi (Q3n hp hk) (by simp[ownF,hq]);exact J6Q (h1.symm.trans (t.ids.trans h2))
 ·rcases Q0n hr with rfl|hr
  ·rw[hq] at As;cases As
  ·obtain⟨y,hy⟩:=t.fac r hr As;exact NB _ _ (fun h=>Lf r hr As (by omega)) hy
 ·rcases Q0n hr with rfl|hr
  ·rw[hq] at As;cases As
  ·obtain⟨hj,y,hy,h1,h2⟩:=AJ _ _ hx;have:=t.par r hr As A0 y hy;by_cases hid:(r.own:Int)=p.fac
   ·obtain⟨rfl,e2⟩:=h1 hid;rw[e2,OQ];exact this
   ·rw[h2 hid];exact this
 ·obtain⟨hj,y,hy,h1,h2⟩:=AJ _ _ hx;have B4:=Q2j q hi id;rw[Q3J id hq,Q2E id hp] at B4;have:=t.charged id y hy;by_cases hid:id=p.fac
  ·obtain⟨rfl,e2⟩:=h1 hid;rw[if_pos hid.symm] at B4;rw[e2,Tq];omega
  ·rw[if_neg fun h=>hid h.symm] at B4;rw[h2 hid];omega
 ·obtain⟨hj,y,hy,h1,h2⟩:=AJ _ _ hx;have g1:=Hd id;have g2:=FN id;have:=t.given id y hy;unfold givF at g1;unfold kidF at g2;rw[Bo] at g1 g2;by_cases hid:id=p.fac
  ·obtain⟨rfl,e2⟩:=h1 hid;rw[if_pos hid.symm] at g1 g2;rw[e2,TE,Ve];omega
  ·rw[if_neg fun h=>hid h.symm] at g1 g2;rw[h2 hid];omega
theorem Q5d{l:List Pl}{i:Nat}{p f:Pl}(q:Pl)(hi:l[i]?=some p)(hf:f∈l):f∈l.set i q∨f=p:=by
 obtain⟨j,hj⟩:=J5Q.1 hf;by_cases e:i=j
 ·subst e;rw[hi] at hj;cases hj;exact .inr rfl
 ·exact .inl (J5q (i:=j) (by rw[J6K e];exact hj))
theorem QueI.add{l:List Pl}{xc:Int->Int}{zs:List Nat}(u:QueI l xc zs){i:Nat}{p q f:Pl}(hi:l[i]?=some p)(hp:p.st=0)(hq:q.st=1)(hf:f∈l)(h1:f.st=1)(h2:f.kind=1)(h3:f.own=q.fac):QueI (l.set i q) xc zs:=by
 obtain⟨r,r1,r2,r3,r4,r5,r6⟩:=u.root;have BJ:i≠0:=by rintro rfl;rw[r1] at hi;cases hi;omega
 have hm:∀x∈l,x.st=1->x∈l.set i q:=fun x hx hs=>(Q5d q hi hx).resolve_right fun e=>by subst e;omega
 have hz:∀h,pget (l.set i q) 2 h=pget l 2 h:=fun h=>by
  rw[Q0A q hi];split
  ·rename_i e;rw[if_neg (by omega)]
   symm
   cases hx:pget l 2 h with
   | none=>rfl
   | some x =>
    obtain⟨a,b,c⟩:=pget_some.1 hx;rw[e,hi] at a;cases a;omega
  ·rfl
 refine⟨⟨r,by rw[J6K BJ];exact r1,r2,r3,r4,r5,r6⟩,fun j x hx hj hs=>?_,fun id=>⟨(u.xc id).1,fun h=>?_⟩,u.nd,fun h=>by rw[hz];exact u.has h,?_⟩
 ·by_cases e:i=j
  ·subst e;rw[J6S (J3t.1 hi).1] at hx;cases hx;exact⟨f,hm f hf h1,h1,h2,h3⟩
  ·rw[J6K e] at hx;obtain⟨g,g1,g2,g3,g4⟩:=u.live j x hx hj hs;exact⟨g,hm g g1 g2,g2,g3,g4⟩
 ·obtain⟨x,hx,hs,he⟩:=(u.xc id).2 h;exact⟨x,hm x hx hs,hs,he⟩
 ·refine u.ord.imp fun h a b ha hb=>?_
  rw[hz] at ha hb;exact h a b ha hb
theorem QueI.doom{E:List (En Fa)}{l:List Pl}{xc xc':Int->Int}{zs:List Nat}(u:QueI l xc zs)(hl:l.length<=256)(t:TreI E l xc)(Ae:E.Pairwise (fun a b=>a.id≠b.id)){h:Nat}{p:Pl}(hp:pget l 1 h=some p)(h0:h≠0)(hk:kids l h=[])
  (GW:∀id,0<=xc' id/\(xc' id≠0->∃r∈l.set (h%256) {p with st:=2},r.st=1/\(r.fac:Int)=id)):QueI (l.set (h%256) {p with st:=2}) xc' (zs++[h]):=by
 obtain⟨hi,hn,hs⟩:=pget_some.1 hp;obtain⟨r,r1,r2,r3,r4,r5,r6⟩:=u.root;have BJ:h%256≠0:=by
  intro e;rw[e] at hi hn;rw[r1] at hi;cases hi;unfold nm at hn;omega
 obtain⟨i,I9⟩:∃i,i=h%256:=⟨_,rfl⟩
 rw[<- I9] at hi hn GW BJ ⊢;have hz:∀x,x%256≠i->pget (l.set i {p with st:=2}) 2 x=pget l 2 x:=fun x hx=>by
  rw[Q0A _ hi,if_neg hx]
 have Fc:∀x∈zs,x%256≠i:=fun x hx e=>by
  obtain⟨y,hy⟩:=(u.has x).1 hx;have:=(Q0S hy hp (by rw[e,I9])).2.2;omega
 have hm:∀x∈l,x≠p->x∈l.set i {p with st:=2}:=fun x hx Aa=>(Q5d _ hi hx).resolve_right Aa
 have Cv:p.is=true:=Pl.is_iff.2 (.inl hs);refine⟨⟨r,by rw[J6K BJ];exact r1,r2,r3,r4,r5,r6⟩,fun j x hx hj FL=>?_,GW,?_,fun x=>?_,?_⟩
 ·by_cases e:i=j
  ·subst e;rw[J6S (J3t.1 hi).1] at hx;cases hx;cases FL
  ·rw[J6K e] at hx;obtain⟨g,g1,g2,g3,g4⟩:=u.live j x hx hj FL;refine⟨g,hm g g1 ?_,g2,g3,g4⟩;rintro rfl;have Ck:j<256:=J3d (J3t.1 hx).1 hl;have:nm j x∈kids l h:=(Q0R hl).2 ⟨g,x,hp,g3,pget_some.2 ⟨by rw[Q1B Ck];exact hx,by rw[Q1B Ck],FL⟩,by unfold nm;omega,g4.symm⟩;rw[hk] at this;cases this
 ·rw[J3V];refine⟨u.nd,by simp,fun x hx y hy e=>?_⟩;rw[J5j] at hy;subst hy;subst e;exact Fc x hx I9.symm
 ·rw[J3Q,J5j];by_cases e:x%256=i
  ·rw[Q0A _ hi,if_pos e]
   constructor
   ·rintro(hx|rfl)
    ·exact absurd e (Fc x hx)
    ·exact⟨_,if_pos ⟨hn,rfl⟩⟩
   ·rintro⟨y,hy⟩;split at hy
    ·rename_i hc;exact .inr (hc.1.symm.trans hn)
    ·cases hy
  ·rw[hz x e]
   constructor
   ·rintro(hx|rfl)
    ·exact(u.has x).1 hx
    ·exact absurd I9.symm e
   ·exact fun hx=>.inl ((u.has x).2 hx)
 ·rw[J3P];refine⟨?_,by simp,fun a ha b hb=>?_⟩
  ·refine u.ord.imp_of_mem ?_;intro a b ha hb Cp x y hx hy;rw[hz a (Fc a ha)] at hx;rw[hz b (Fc b hb)] at hy;exact Cp x y hx hy
  ·rw[J5j] at hb;subst hb;intro x y hx hy IM;rw[hz a (Fc a ha)] at hx;rw[Q0A _ hi,if_pos I9.symm,if_pos ⟨hn,rfl⟩] at hy;cases hy;show p.fac≠x.own;intro e;obtain⟨g,g1,g2,g3,g4⟩:=u.live i p hi BJ hs;obtain⟨j,hj⟩:=J5Q.1 g1;obtain⟨a1,_,a3⟩:=pget_some.1 hx;have:=t.inj Ae hj a1 (Pl.is_iff.2 (.inl g2)) (Pl.is_iff.2 (.inr a3)) g3 IM (by omega);subst this;rw[a1] at hj;cases hj;omega
theorem QueI.free{l:List Pl}{xc:Int->Int}{zs:List Nat}{h:Nat}(u:QueI l xc (h::zs)){p q:Pl}(hp:pget l 2 h=some p)(hq:q.is=false):QueI (l.set (h%256) q) xc zs:=by
 obtain⟨hi,hn,hs⟩:=pget_some.1 hp;obtain⟨q1,q2⟩:=Pl.not_is.1 hq;obtain⟨r,r1,r2,r3,r4,r5,r6⟩:=u.root;have BJ:h%256≠0:=by
  intro e;rw[e,r1] at hi;cases hi;omega
 obtain⟨i,I9⟩:∃i,i=h%256:=⟨_,rfl⟩
 rw[<- I9] at hi hn BJ ⊢;have AO:=J3Y.1 u.nd;have Ey:=J3D.1 u.ord;have hz:∀x,x%256≠i->pget (l.set i q) 2 x=pget l 2 x:=fun x hx=>by
  rw[Q0A _ hi,if_neg hx]
 have Fc:∀x∈zs,x%256≠i:=fun x hx e=>by
  obtain⟨y,hy⟩:=(u.has x).1 (by simp[hx]);have:=(Q0S hy hp (by rw[e,I9])).1;exact AO.1 (this ▸ hx)
 have hm:∀x∈l,x.st=1->x∈l.set i q:=fun x hx Nt=>(Q5d _ hi hx).resolve_right fun e=>by subst e;omega
 refine⟨⟨r,by rw[J6K BJ];exact r1,r2,r3,r4,r5,r6⟩,fun j x hx hj FL=>?_,fun id=>⟨(u.xc id).1,fun Aa=>?_⟩,AO.2,fun x=>?_,?_⟩
 ·by_cases e:i=j
  ·subst e;rw[J6S (J3t.1 hi).1] at hx;cases hx;exact absurd FL q1
  ·rw[J6K e] at hx;obtain⟨g,g1,g2,g3,g4⟩:=u.live j x hx hj FL;exact⟨g,hm g g1 g2,g2,g3,g4⟩
 ·obtain⟨x,hx,Nt,he⟩:=(u.xc id).2 Aa;exact⟨x,hm x hx Nt,Nt,he⟩
 ·by_cases e:x%256=i
  ·rw[Q0A _ hi,if_pos e,if_neg (by omega)]
   constructor
   ·exact fun hx=>absurd e (Fc x hx)
   ·rintro⟨_,h⟩;cases h
  ·rw[hz x e,<- u.has x,J3g]
   constructor
   ·exact .inr
   ·rintro(rfl|hx)
    ·exact absurd I9.symm e
    ·exact hx
 ·refine Ey.2.imp_of_mem ?_;intro a b ha hb Cp x y hx hy;rw[hz a (Fc a ha)] at hx;rw[hz b (Fc b hb)] at hy;exact Cp x y hx hy
theorem Inv.last{P:PL}{l:List Pl}{fr:List Nat}{xc:Int->Int}{zs:List Nat}{h:Nat}(v:Inv P l fr xc (h::zs)){p:Pl}(hp:pget l 2 h=some p)(hk:p.kind=1) :
  p.own≠0/\(∀r∈l,r.is=true->r.fac≠p.own)/\∃c,find P.q.E p.own=some c/\c.q.charged=0/\c.q.given=0/\c.q.kids=0/\c.q.parent=p.fac:=by
 obtain⟨hi,hn,hs⟩:=pget_some.1 hp;have Ae:=v.mem.pool.q.ids;have BP:=Q0z hp;have Cv:p.is=true:=Pl.is_iff.2 (.inr hs);obtain⟨r,r1,r2,r3,r4,r5,r6⟩:=v.que.root;have h0:p.own≠0:=by
  intro e;have:=v.tre.inj Ae hi r1 Cv (Pl.is_iff.2 (.inl r4)) hk r2 (by omega);rw[this,r1] at hi;cases hi;omega
 have live1:∀x∈l,x.st=1->x.fac≠p.own:=by
  intro x hx FL e;obtain⟨j,hj⟩:=J5Q.1 hx;by_cases Fw:j=0
  ·subst Fw;rw[r1] at hj;cases hj;omega
  ·obtain⟨g,g1,g2,g3,g4⟩:=v.que.live j x hj Fw FL;obtain⟨k,Bt⟩:=J5Q.1 g1;have:=v.tre.inj Ae Bt hi (Pl.is_iff.2 (.inl g2)) Cv g3 hk (by omega);subst this;rw[Bt] at hi;cases hi;omega
 obtain⟨c,hc⟩:=v.tre.acc BP Cv hk;obtain⟨c1,c2⟩:=(v.tre.par p BP Cv hk c hc).2 h0;have Aq:∀x∈l,x.is=true->x.fac≠p.own:=by
  intro x hx Nu;rcases Pl.is_iff.1 Nu with FL|FL
  ·exact live1 x hx FL
  ·obtain⟨j,hj⟩:=J5Q.1 hx;have Ck:j<256:=by have:=(J3t.1 hj).1;rw[v.len] at this;exact this
   have Kq:pget l 2 (nm j x)=some x:=pget_some.2 ⟨by rw[Q1B Ck];exact hj,by rw[Q1B Ck],FL⟩;rcases J3g.1 ((v.que.has _).2 ⟨x,Kq⟩) with e|hz
   ·rw[e,hp] at Kq;cases Kq;omega
   ·exact(J3D.1 v.que.ord).1 _ hz p x hp Kq hk
 refine⟨h0,Aq,c,hc,?_,?_,?_,c1⟩
 ·rw[v.tre.charged _ c hc,Q2t fun x hx Nu e=>Aq x hx Nu (by omega)];by_cases hx:xc p.own=0
  ·omega
  ·obtain⟨x,Dl,D3,VY⟩:=(v.que.xc p.own).2 hx;exact absurd (by omega) (live1 x Dl D3)
 all_goals
  have hz:=Q2U (E:=P.q.E) (a:=(p.own:Int)) (by
   intro y hy e;have hm:y.id∈Q7w l:=v.tre.ids.mem_iff.1 (J3U hy);obtain⟨x,hx,Jt⟩:=J3r.1 hm;unfold ownF at Jt;split at Jt
   ·rename_i Bj;simp only[J3x,beq_iff_eq] at Bj;have OA:(x.own:Int)=y.id:=J3Z Jt;have V1:find P.q.E x.own=some y:=by rw[OA];exact Q2V Ae hy
    obtain⟨b1,b2⟩:=v.tre.par x hx Bj.1 Bj.2 y V1;by_cases Cw:x.own=0
    ·have:=b1 Cw;omega
    ·have:=(b2 Cw).1;exact Aq x hx Bj.1 (by omega)
   ·cases Jt)
  have hg:=v.tre.given _ c hc;omega
def Kept(m m':List Nat)(a n:Nat):Prop:=∀i,a<=i->i<a+n->m'[i]?=m[i]?
theorem Kept.word{m m':List Nat}{a:Nat}(h:Kept m m' a 8):Q0u m' a=Q0u m a:=by
 unfold Q0u;congr 1
 apply J4K
 intro i;rw[J5f,J5f];split
 ·rw[J5E,J5E];exact h _ (by omega) (by omega)
 ·rfl
theorem Kept.sub{m m':List Nat}{a n b k:Nat}(h:Kept m m' a n)(h1:a<=b)(h2:b+k<=a+n):Kept m m' b k:=fun i h3 h4=>h i (by omega) (by omega)
theorem Q1J{m bs:List Nat}{a b n:Nat}(hl:a+bs.length<=m.length)(h:b+n<=a∨a+bs.length<=b):Kept m (put_ m a bs) b n:=fun i h1 h2=>by
 rw[Q5Z _ _ _ hl];split
 ·rfl
 ·rw[if_neg (by omega)]
theorem Q7y{m bs:List Nat}{a:Nat}(hl:a+bs.length<=m.length){i:Nat}(hi:i<bs.length):(put_ m a bs)[a+i]?=bs[i]?:=by
 rw[Q5Z _ _ _ hl,if_neg (by omega),if_pos (by omega)];congr 1;omega
theorem Kept.trans{m m1 m2:List Nat}{a n:Nat}(h:Kept m m1 a n)(k:Kept m1 m2 a n):Kept m m2 a n:=fun i h1 h2=>(k i h1 h2).trans (h i h1 h2)
theorem Kept.refl(m:List Nat)(a n:Nat):Kept m m a n:=fun _ _ _=>rfl
theorem Q5s{P:PL}{fr:List Nat}(ok:P.Ok fr){k a:Nat}(ha:a∈P.usedOf k):∃g∈P.pages,1024*g+64<=a/\a+Q0c k<=1024*g+1024:=by
 obtain⟨c,hc,ha⟩:=Q2D ha;obtain⟨k1,k2,_,_⟩:=PL.Cls.facts ok hc;obtain⟨x,hx,x1,x2⟩:=Q8e k1 ha;rw[k2] at x2;refine⟨x.2,?_,x1,x2⟩;exact J3C.2 ⟨c,J5q hc.2,J3U hx⟩
theorem Q4A{P:PL}{fr:List Nat}(ok:P.Ok fr):fr.Nodup/\(∀g∈fr,g∉P.pages)/\∀g∈fr,g<2 ^ P.d.top:=by
 have h:=(ok.pages.nodup_iff).2 ok.d.nd;obtain⟨h1,h2,h3⟩:=J3V.1 h;exact⟨h1,fun g hg hp=>h3 g hg g hp rfl,fun g hg=>ok.d.lt g (ok.pages.mem_iff.1 (by simp[hg]))⟩
theorem Q2F{P:PL}{fr:List Nat}(ok:P.Ok fr){k a g:Nat}(hg:g∈fr)(ha:a∈P.usedOf k):a+Q0c k<=1024*g∨1024*g+1024<=a:=by
 obtain⟨p,hp,h1,h2⟩:=Q5s ok ha;have:g≠p:=fun e=>(Q4A ok).2.1 g hg (e ▸ hp)
 omega
theorem Z5B{P:PL}{fr:List Nat}(ok:P.Ok fr){g:Nat}(hg:g∈fr):1024*g+1024<=P.a.mem.length:=by
 have:=(Q4A ok).2.2 g hg;rw[ok.mem,J4D,show(2:Nat) ^ 10=1024 from rfl];omega
theorem Z5C(n:Nat):Q0c n%8=0:=by
 by_cases h:n<8
 ·have hn:n=0∨n=1∨n=2∨n=3∨n=4∨n=5∨n=6∨n=7:=by omega
  rcases hn with rfl|rfl|rfl|rfl|rfl|rfl|rfl|rfl <;> decide
 ·rw[Q6a (by omega)]
theorem Q2u{P:PL}{fr:List Nat}(ok:P.Ok fr){k a:Nat}(ha:a∈P.usedOf k):a%8=0:=by
 obtain⟨c,hc,ha⟩:=Q2D ha;obtain⟨_,k2,_,_⟩:=PL.Cls.facts ok hc;unfold CA.used at ha;obtain⟨x,_,ha⟩:=J3C.1 ha;unfold Q1q at ha;obtain⟨i,_,rfl⟩:=J3h.1 ha;unfold addr;rw[k2];have h0:=Z5C k;have:i*Q0c k%8=0:=by rw[Nat.mul_mod,h0];simp
 omega
theorem Q2d{P:PL}{fr:List Nat}(ok:P.Ok fr){k a:Nat}(ha:a∈P.usedOf k):1<=k/\k<=7:=by
 obtain⟨c,hc,_⟩:=Q2D ha;exact⟨hc.1,(PL.Cls.facts ok hc).2.2.2⟩
structure SameP(P P':PL):Prop where
 p:P'.p=P.p
 qt:P'.q.t=P.q.t
 db:P'.d.b=P.d.b
 aa:P'.a.a=P.a.a
 amb:P'.a.mb=P.a.mb
 top:P'.d.top=P.d.top
 len:P'.a.mem.length=P.a.mem.length
theorem SameP.refl(P:PL):SameP P P:=⟨rfl,rfl,rfl,rfl,rfl,rfl,rfl⟩
theorem SameP.trans{P P1 P2:PL}(h:SameP P P1)(k:SameP P1 P2):SameP P P2:=
 ⟨k.p.trans h.p,k.qt.trans h.qt,k.db.trans h.db,k.aa.trans h.aa,k.amb.trans h.amb,k.top.trans h.top,k.len.trans h.len⟩
structure GotM(P:PL)(fr:List Nat)(own:Int)(k a:Nat)(P':PL)(fr':List Nat):Prop where
 ok:P'.Ok fr'
 same:SameP P P'
 q:∃e,find P.q.E own=some e/\((costK k:Nat):Int)<=e.q.limit-(e.q.charged+e.q.given)/\P'.q={P.q with E:=upd P.q.E own {e.q with charged:=e.q.charged+((costK k:Nat):Int)}}
 mem:P'.a.mem=put_ P.a.mem a (List.replicate (costK k) 0)
 used:k≠8->(P'.usedOf k).Perm (a::P.usedOf k)
 other:∀j,j≠k->P'.usedOf j=P.usedOf j
 frs:if k=8 then ∃g,a=1024*g/\fr'=g::fr else fr'=fr
 few:P'.d.ps.length<=P.d.ps.length+1
theorem GetOk.gotM{P P':PL}{fr:List Nat}{own:Int}{n a:Nat}(g:GetOk P fr own n a P')(ok:P.Ok fr):GotM P fr own n a P' fr:=by
 obtain⟨c,c',h1,h2,h3⟩:=g.which;obtain⟨A,B,u1,u2⟩:=g.used;have ha:a∈P'.usedOf n:=by rw[u2];simp
 have hn:=Q2d g.ok ha;have DU:costK n=Q0c n:=by unfold costK;rw[if_neg (by omega)]
 obtain⟨e,q1,q2,q3⟩:=g.q;refine⟨g.ok,⟨g.p,g.qt,g.db,g.aa,g.amb,g.top,?_⟩,⟨e,q1,by rw[DU];exact q2,by rw[DU];exact q3⟩,by rw[DU];exact g.mem,fun _=>?_,g.other,by rw[if_neg (by omega)],?_⟩
 ·rw[g.ok.mem,ok.mem,g.top]
 ·rw[u1,u2];exact J6H
 ·rcases h3.pages with ⟨_,e⟩|⟨p,_,_,e⟩
  ·rw[e];omega
  ·rw[e];simp
theorem GotM.room{P P':PL}{fr fr':List Nat}{own:Int}{k a:Nat}(g:GotM P fr own k a P' fr'):a+costK k<=P.a.mem.length/\a%8=0:=by
 by_cases h:k=8
 ·have hf:=g.frs;rw[if_pos h] at hf;obtain⟨x,rfl,hx⟩:=hf;have:=Z5B g.ok (g:=x) (by rw[hx];simp);rw[g.same.len] at this;have:costK k=1024:=by unfold costK;rw[if_pos h]
  omega
 ·have ha:a∈P'.usedOf k:=(g.used h).mem_iff.2 (by simp);have h1:=Q0m g.ok ha;have:costK k=Q0c k:=by unfold costK;rw[if_neg h]
  have h2:=Q2u g.ok ha;have h3:=g.same.len;omega
theorem GotM.apart{P P':PL}{fr fr':List Nat}{own:Int}{k a:Nat}(g:GotM P fr own k a P' fr')(ok:P.Ok fr):(∀j b,b∈P.usedOf j->a+costK k<=b∨b+Q0c j<=a)/\∀x∈fr,a+costK k<=1024*x∨1024*x+1024<=a:=by
 by_cases h:k=8
 ·have DU:costK k=1024:=by unfold costK;rw[if_pos h]
  have hf:=g.frs;rw[if_pos h] at hf;obtain⟨y,rfl,hy⟩:=hf;have IA:y∈fr':=by rw[hy];simp
  refine⟨fun j b hb=>?_,fun x hx=>?_⟩
  ·have hj:=Q2d ok hb;have Al:b∈P'.usedOf j:=by rw[g.other j (by omega)];exact hb
   have:=Q2F g.ok IA Al;omega
  ·have AO:=(Q4A g.ok).1;rw[hy] at AO;have:x≠y:=fun e=>(J3Y.1 AO).1 (e ▸ hx)
   omega
 ·have DU:costK k=Q0c k:=by unfold costK;rw[if_neg h]
  have hf:=g.frs;rw[if_neg h] at hf;have ha:a∈P'.usedOf k:=(g.used h).mem_iff.2 (by simp);refine⟨fun j b hb=>?_,fun x hx=>?_⟩
  ·rw[DU];by_cases e:j=k
   ·subst e;have AO:(P'.usedOf j).Nodup:=(Q2h g.ok j).imp fun h=>Nat.ne_of_lt h
    have Pr:=(g.used h).nodup_iff.1 AO;have Aa:a≠b:=fun e=>(J3Y.1 Pr).1 (e ▸ hb)
    have Al:b∈P'.usedOf j:=(g.used h).mem_iff.2 (by simp[hb]);exact Q3I g.ok ha Al (fun e=>Aa e.2)
   ·have Al:b∈P'.usedOf j:=by rw[g.other j e];exact hb
    exact Q3I g.ok ha Al (fun e'=>e e'.1.symm)
  ·rw[DU];exact Q2F g.ok (by rw[hf];exact hx) ha
theorem GotM.grewM{P P':PL}{fr fr':List Nat}{own:Int}{k a:Nat}(g:GotM P fr own k a P' fr')(ok:P.Ok fr)(hk:k≠1):J0R P fr k a 0 P' fr':=by
 have hr:=g.room.1;refine⟨g.ok,g.used,g.other,g.frs,fun b hb=>?_,fun h=>absurd h hk⟩;have h1:=(g.apart ok).1 1 b hb;rw[g.mem];exact(Q1J (by rw[J3l];exact hr) (by rw[J3l];have:Q0c 1=64:=rfl;omega)).word
theorem GotM.grewF{P P' P2:PL}{fr fr':List Nat}{own:Int}{a:Nat}(g:GotM P fr own 1 a P' fr')(ok:P.Ok fr){x:Nat}(hx:x<18446744073709551616)(hm:P2.a.mem=put_ P'.a.mem a (Q0d x))(hu:∀j,P2.usedOf j=P'.usedOf j)(Bg:P2.Ok fr'):J0R P fr 1 a x P2 fr':=by
 have hr:=g.room.1;have D0:costK 1=64:=rfl;have Gi:(Q0d x).length=8:=rfl;have hl:=g.same.len;refine⟨Bg,fun h=>by rw[hu];exact g.used h,fun j hj=>by rw[hu];exact g.other j hj,g.frs,fun b hb=>?_,fun _=>?_⟩
 ·have h1:=(g.apart ok).1 1 b hb;have So:Q0c 1=64:=rfl;have k1:Kept P.a.mem P'.a.mem b 8:=by
   rw[g.mem];exact Q1J (by rw[J3l];exact hr) (by rw[J3l];omega)
  have k2:Kept P'.a.mem P2.a.mem b 8:=by
   rw[hm];exact Q1J (by rw[Gi];omega) (by rw[Gi];omega)
  exact(k1.trans k2).word
 ·rw[hm];unfold Q0u;have:((put_ P'.a.mem a (Q0d x)).drop a).take 8=Q0d x:=by
   apply J4K
   intro i;rw[J5f];split
   ·rw[J5E];exact Q7y (by rw[Gi];omega) (by rw[Gi];assumption)
   ·rw[J4R (by rw[Gi];omega)]
  rw[this];exact Q3G x hx
structure BackM(P:PL)(fr:List Nat)(own:Int)(k a:Nat)(P':PL)(fr':List Nat):Prop where
 ok:P'.Ok fr'
 same:SameP P P'
 q:∃e,find P.q.E own=some e/\((costK k:Nat):Int)<=e.q.charged/\P'.q={P.q with E:=upd P.q.E own {e.q with charged:=e.q.charged-((costK k:Nat):Int)}}
 mem:P'.a.mem=P.a.mem
 used:k≠8->(P.usedOf k).Perm (a::P'.usedOf k)
 other:∀j,j≠k->P'.usedOf j=P.usedOf j
 frs:if k=8 then ∃g,a=1024*g/\fr'=fr.erase g else fr'=fr
 few:P'.d.ps.length<=P.d.ps.length
theorem BackM.goneM{P P':PL}{fr fr':List Nat}{own:Int}{k a:Nat}(g:BackM P fr own k a P' fr'):J0S P fr k a P' fr':=
 ⟨g.ok,g.used,g.other,g.frs,fun b _=>by rw[g.mem]⟩
theorem PutOk.backM{P P':PL}{fr:List Nat}{own:Int}{n a:Nat}(g:PutOk P fr own n a P')(ok:P.Ok fr):BackM P fr own n a P' fr:=by
 obtain⟨c,c',h1,h2,h3⟩:=g.which;obtain⟨A,B,u1,u2⟩:=g.used;have ha:a∈P.usedOf n:=by rw[u1];simp
 have hn:=Q2d ok ha;have DU:costK n=Q0c n:=by unfold costK;rw[if_neg (by omega)]
 obtain⟨e,q1,q2,q3⟩:=g.q;refine⟨g.ok,⟨g.p,g.qt,g.db,by rw[g.aa],by rw[g.aa],g.top,by rw[g.aa]⟩,⟨e,q1,by rw[DU];exact q2,by rw[DU];exact q3⟩,by rw[g.aa],fun _=>?_,g.other,by rw[if_neg (by omega)],?_⟩
 ·rw[u1,u2];exact J6H
 ·rcases h3.pages with ⟨_,e⟩|⟨p,_,e⟩
  ·rw[e];omega
  ·rw[e];exact List.length_erase_le
theorem GotM.high{P P':PL}{fr fr':List Nat}{own:Int}{k a:Nat}(g:GotM P fr own k a P' fr')(ok:P.Ok fr)(hk:k=8∨k<=5):∀j,6<=j->(P'.usedOf j).Perm (P.usedOf j):=fun j hj=>by
 by_cases e:j=k
 ·have h8:j=8:=by omega
  rw[Q1r g.ok (by rw[h8];rfl),Q1r ok (by rw[h8];rfl)]
 ·rw[g.other j e]
theorem BackM.high{P P':PL}{fr fr':List Nat}{own:Int}{k a:Nat}(g:BackM P fr own k a P' fr')(ok:P.Ok fr)(hk:k=8∨k<=5):∀j,6<=j->(P'.usedOf j).Perm (P.usedOf j):=fun j hj=>by
 by_cases e:j=k
 ·have h8:j=8:=by omega
  rw[Q1r g.ok (by rw[h8];rfl),Q1r ok (by rw[h8];rfl)]
 ·rw[g.other j e]
abbrev x0:Int->Int:=fun _=>0
def KeptL(m m':List Nat)(l:List Pl):Prop:=∀r∈l,r.is=true->Kept m m' r.at_ (costK r.kind)
theorem costK_8:costK 8=1024:=rfl
theorem Q2a{k:Nat}(h:k≠8):costK k=Q0c k:=by unfold costK;rw[if_neg h]
theorem KeptL.of_apart{P:PL}{l:List Pl}{fr:List Nat}(m:MemI P l fr){a n:Nat}{m':List Nat}(hm:∀b k,b+k<=a∨a+n<=b->Kept P.a.mem m' b k)
  (h:(∀j b,b∈P.usedOf j->a+n<=b∨b+Q0c j<=a)/\∀x∈fr,a+n<=1024*x∨1024*x+1024<=a):KeptL P.a.mem m' l:=fun r hr As=>by
 by_cases h8:r.kind=8
 ·obtain⟨g,hg,e⟩:=m.frame hr As h8;have:=h.2 g hg;rw[h8,costK_8];exact hm _ _ (by omega)
 ·have hu:=m.used hr As h8;have:=h.1 _ _ hu;rw[Q2a h8];exact hm _ _ (by omega)
theorem Inv.kind{P:PL}{l:List Pl}{fr:List Nat}{xc:Int->Int}{zs:List Nat}(v:Inv P l fr xc zs){s h:Nat}{p:Pl}(hp:pget l s h=some p)(hs:s=1∨s=2):p.kind=8∨(1<=p.kind/\p.kind<=5):=
 v.mem.kind p (Q0z hp) (Pl.is_iff.2 (by have:=(pget_some.1 hp).2.2;omega))
theorem Q9a{l:List Pl}{i:Nat}{q:Pl}(h:∀p∈l,p.st<=2/\p.age<=1048575)(hq:q.st<=2/\q.age<=1048575):∀p∈l.set i q,p.st<=2/\p.age<=1048575:=fun p hp=>by
 rcases Q0n hp with rfl|hp
 ·exact hq
 ·exact h p hp
theorem GotM.keptL{P P':PL}{l:List Pl}{fr fr':List Nat}{own:Int}{k a:Nat}(g:GotM P fr own k a P' fr')(m:MemI P l fr):KeptL P.a.mem P'.a.mem l:=
 KeptL.of_apart m (n:=costK k) (a:=a) (fun b j h=>by
  rw[g.mem];exact Q1J (by rw[J3l];exact g.room.1) (by rw[J3l];exact h)) (g.apart m.pool)
def Z5D(P P':PL):Prop:=∀j a,6<=j->a∈P.usedOf j->Kept P.a.mem P'.a.mem a (Q0c j)
theorem GotM.keptH{P P':PL}{fr fr':List Nat}{own:Int}{k a:Nat}(g:GotM P fr own k a P' fr')(ok:P.Ok fr):Z5D P P':=fun j b _ hb=>by
 have:=(g.apart ok).1 j b hb;rw[g.mem];exact Q1J (by rw[J3l];exact g.room.1) (by rw[J3l];omega)
theorem Inv.addN{P P':PL}{l:List Pl}{fr fr':List Nat}{xc:Int->Int}{zs:List Nat}(v:Inv P l fr xc zs){i k a h:Nat}{p f:Pl}(g:GotM P fr f.own k a P' fr')(hi:l[i]?=some p)(hp:p.st=0)(hk:k=8∨(2<=k/\k<=5))(hf:pget l 1 h=some f)(Dx:f.kind=1) :
  Inv P' (l.set i ⟨k,a,f.own,1,p.age,0⟩) fr' xc zs:=by
 have FI:p.is=false:=Pl.not_is.2 ⟨by omega,by omega⟩;obtain⟨e,q1,q2,q3⟩:=g.q;refine⟨by rw[J4O];exact v.len,Q9a v.st ⟨by show(1:Nat)<=2;omega,(v.st p (J5q hi)).2⟩,?_,?_,?_⟩
 ·exact v.mem.add (q:=⟨k,a,f.own,1,p.age,0⟩) (g.grewM v.mem.pool (by omega)) hi FI rfl (by show k=8∨(1<=k/\k<=5);omega)
 ·rw[q3];exact v.tre.addN (q:=⟨k,a,f.own,1,p.age,0⟩) v.mem.pool.q.ids hi FI rfl (by show k≠1;omega) q1
 ·exact v.que.add hi hp rfl (Q0z hf) (pget_some.1 hf).2.2 Dx rfl
theorem TreI.parent_lt{E:List (En Fa)}{l:List Pl}{xc:Int->Int}(t:TreI E l xc)(Ae:E.Pairwise (fun a b=>a.id≠b.id)){N:Int}(h0:0<N)(hN:∀id e,find E id=some e->0<=id/\id<N){x:En Fa}(hx:x∈E):x.q.parent<N/\x.q.parent≠N:=by
 have hm:x.id∈Q7w l:=t.ids.mem_iff.1 (J3U hx);obtain⟨p,hp,Hj⟩:=J3r.1 hm;unfold ownF at Hj;split at Hj
 ·rename_i hc;simp only[J3x,beq_iff_eq] at hc;have hid:(p.own:Int)=x.id:=J3Z Hj;have FW:find E p.own=some x:=by rw[hid];exact Q2V Ae hx
  obtain⟨b1,b2⟩:=t.par p hp hc.1 hc.2 x FW;have:=hN _ _ FW;by_cases Cw:p.own=0
  ·have:=b1 Cw;omega
  ·have:=b2 Cw;omega
 ·cases Hj
theorem Inv.addF{P P' P2:PL}{l:List Pl}{fr fr':List Nat}{xc:Int->Int}{zs:List Nat}(v:Inv P l fr xc zs){i a h b x:Nat}{limit:Int}{p f:Pl}{e:En Fa}(g:GotM P fr f.own 1 a P' fr')(hi:l[i]?=some p)(hp:p.st=0)(hf:pget l 1 h=some f)(Dx:f.kind=1)
  (hx:(x:Int)=P.q.next) (he:find P.q.E f.own=some e)
  (hq:P2.q.E=upd P.q.E f.own {e.q with charged:=e.q.charged+64,given:=e.q.given+limit,kids:=e.q.kids+1}++[⟨x,b,⟨limit,0,0,f.own,0⟩⟩]) (hm:P2.a.mem=put_ P'.a.mem a (Q0d x)) (hu:∀j,P2.usedOf j=P'.usedOf j) (Bg:P2.Ok fr') :
  Inv P2 (l.set i ⟨1,a,f.own,1,p.age,x⟩) fr' xc zs:=by
 have FI:p.is=false:=Pl.not_is.2 ⟨by omega,by omega⟩;have Ae:=v.mem.pool.q.ids;have hN:∀id e,find P.q.E id=some e->0<=id/\id<P.q.next:=fun id e h=>by
  have:=v.mem.pool.q.fa id e h;exact⟨this.2.2.2.2.2.2.1,this.2.2.2.2.2.2.2⟩
 have Ds:=v.mem.pool.q.next1;have Aq:find P.q.E (x:Int)=none:=by
  cases hc:find P.q.E (x:Int) with
  | none=>rfl
  | some y=>have:=hN _ _ hc;omega
 have Ab:f.own<x:=by have:=hN _ _ he;omega
 refine⟨by rw[J4O];exact v.len,Q9a v.st ⟨by show(1:Nat)<=2;omega,(v.st p (J5q hi)).2⟩,?_,?_,?_⟩
 ·exact v.mem.add (q:=⟨1,a,f.own,1,p.age,x⟩) (g.grewF v.mem.pool (by show x<_;omega) hm hu Bg) hi FI rfl (.inr ⟨J3b 1,by show(1:Nat)<=5;omega⟩)
 ·rw[hq];refine v.tre.addF (q:=⟨1,a,f.own,1,p.age,x⟩) Ae hi FI rfl rfl he Aq Ab ?_ (fun y hy=>?_) (fun r hr As=>?_)
  ·apply Classical.byContradiction
   intro Aa;obtain⟨r,hr,hs,Ll⟩:=(v.que.xc (x:Int)).2 Aa;obtain⟨y,hy⟩:=v.tre.fac r hr (Pl.is_iff.2 (.inl hs));rw[Ll,Aq] at hy;cases hy
  ·have:=(v.tre.parent_lt Ae v.mem.pool.q.next0 hN hy).2;show y.q.parent≠(x:Int);rw[hx];exact this
  ·obtain⟨y,hy⟩:=v.tre.fac r hr As;have:=hN _ _ hy;show r.fac≠x;omega
 ·exact v.que.add hi hp rfl (Q0z hf) (pget_some.1 hf).2.2 Dx rfl
theorem Inv.doom{P:PL}{l:List Pl}{fr:List Nat}{xc:Int->Int}{zs:List Nat}(v:Inv P l fr xc zs){h:Nat}{p:Pl}(hp:pget l 1 h=some p)(h0:h≠0)(hk:kids l h=[])(GW:∀id,xc id≠0->∃r∈l.set (h%256) {p with st:=2},r.st=1/\(r.fac:Int)=id):Inv P (l.set (h%256) {p with st:=2}) fr xc (zs++[h]):=by
 obtain⟨hi,hn,hs⟩:=pget_some.1 hp;have Cv:p.is=true:=Pl.is_iff.2 (.inl hs);have BP:=J5q hi;exact⟨by rw[J4O];exact v.len,Q9a v.st ⟨by show(2:Nat)<=2;omega,(v.st p BP).2⟩,v.mem.keep hi Cv rfl rfl rfl rfl,v.tre.keep hi Cv rfl rfl rfl rfl,
  v.que.doom (by rw[v.len];omega) v.tre v.mem.pool.q.ids hp h0 hk fun id=>⟨(v.que.xc id).1,GW id⟩⟩
def noPl(age:Nat):Pl:=⟨0,0,0,0,age,0⟩
theorem Inv.freeN{P P':PL}{l:List Pl}{fr fr':List Nat}{xc:Int->Int}{zs:List Nat}{h:Nat}(v:Inv P l fr xc (h::zs)){p:Pl}(hp:pget l 2 h=some p)(hk:p.kind≠1)(g:BackM P fr p.fac p.kind p.at_ P' fr')(DL:p.age+1<=1048575) :
  Inv P' (l.set (h%256) (noPl (p.age+1))) fr' xc zs:=by
 obtain⟨hi,hn,hs⟩:=pget_some.1 hp;have Cv:p.is=true:=Pl.is_iff.2 (.inr hs);obtain⟨e,q1,q2,q3⟩:=g.q;refine⟨by rw[J4O];exact v.len,Q9a v.st ⟨by show(0:Nat)<=2;omega,DL⟩,v.mem.drop g.goneM hi Cv rfl,?_,v.que.free hp rfl⟩;rw[q3];exact v.tre.dropN v.mem.pool.q.ids hi Cv rfl hk q1
theorem Inv.freeF{P P1 P':PL}{l:List Pl}{fr fr':List Nat}{xc:Int->Int}{zs:List Nat}{h:Nat}(v:Inv P l fr xc (h::zs)){p:Pl}(hp:pget l 2 h=some p)(hk:p.kind=1){e c:En Fa}(he:find P.q.E p.fac=some e)(hc:find P.q.E p.own=some c)
  (h1:P1=P.setQ {P.q with E:=rem (upd P.q.E p.fac {e.q with given:=e.q.given-c.q.limit,kids:=e.q.kids-1}) p.own}) (g:BackM P1 fr p.fac 1 p.at_ P' fr') (DL:p.age+1<=1048575) :
  Inv P' (l.set (h%256) (noPl (p.age+1))) fr' xc zs:=by
 obtain⟨hi,hn,hs⟩:=pget_some.1 hp;have Cv:p.is=true:=Pl.is_iff.2 (.inr hs);obtain⟨h0,Aq,c',Bj,c1,c2,c3,c4⟩:=v.last hp hk;rw[hc] at Bj;cases Bj;have Ae:=v.mem.pool.q.ids;have Bo:=(v.tre.par p (Q0z hp) Cv hk c hc).2 h0;have Aa:(p.own:Int)≠p.fac:=by omega
 obtain⟨y,q1,q2,q3⟩:=g.q;have Re:P1.q.E=rem (upd P.q.E p.fac {e.q with given:=e.q.given-c.q.limit,kids:=e.q.kids-1}) p.own:=by rw[h1];rfl
 have pw1:(upd P.q.E p.fac {e.q with given:=e.q.given-c.q.limit,kids:=e.q.kids-1}).Pairwise (fun a b=>a.id≠b.id):=Q0Q _ _ (fun a b a' b' _ h1 _ h2 h=>by rw[<- h1,<- h2];exact h) Ae;have hy:y.q={e.q with given:=e.q.given-c.q.limit,kids:=e.q.kids-1}:=by
  rw[Re,Q2r pw1,if_neg (fun h=>Aa h.symm),Q0h he] at q1;cases q1;rfl
 refine⟨by rw[J4O];exact v.len,Q9a v.st ⟨by show(0:Nat)<=2;omega,DL⟩,?_,?_,v.que.free hp rfl⟩
 ·have gm:J0S P fr p.kind p.at_ P' fr':=by
   have:=g.goneM;rw[hk];refine⟨this.pool,fun h=>?_,fun j hj=>?_,this.frs,fun b hb=>?_⟩
   ·have:=this.used h;rw[h1] at this;exact this
   ·have:=this.other j hj;rw[h1] at this;exact this
   ·have:=this.mem b hb;rw[h1] at this;exact this
  exact v.mem.drop gm hi Cv rfl
 ·rw[q3];show TreI (upd P1.q.E _ _) _ _;rw[Re,hy];have:=v.tre.dropF Ae hi Cv (q:=noPl (p.age+1)) rfl hk h0 he hc Aq;rw[hk] at this;exact this
structure Tried(P:PL)(fr:List Nat)(l:List Pl)(P':PL):Prop where
 ok:P'.Ok fr
 same:SameP P P'
 q:P'.q=P.q
 used:∀k,(P'.usedOf k).Perm (P.usedOf k)
 ps:P'.d.ps.Perm P.d.ps
 mem:KeptL P.a.mem P'.a.mem l
 memH:Z5D P P'
theorem Tried.refl{P:PL}{fr:List Nat}(ok:P.Ok fr)(l:List Pl):Tried P fr l P:=⟨ok,SameP.refl P,rfl,fun _=>J6w _,J6w _,fun _ _ _=>Kept.refl _ _ _,fun _ _ _ _=>Kept.refl _ _ _⟩
theorem Q5e{P:PL}{fr:List Nat}(ok:P.Ok fr)(g:Nat):g∈P.pages↔∃k a,a∈P.usedOf k/\a/1024=g:=by
 constructor
 ·intro hg;obtain⟨c,hc,Cw⟩:=J3C.1 hg;obtain⟨x,hx,rfl⟩:=J3h.1 Cw;obtain⟨k,hk⟩:=J5Q.1 hc;have Iw:P.Cls (k+1) c:=⟨by omega,by simpa using hk⟩
  obtain⟨k1,k2,_,_⟩:=PL.Cls.facts ok Iw;have hb:=ok.busy c hc x hx;obtain⟨i,hi⟩:∃i,i∈Q3j x.1.bits:=by
   cases ht:Q3j x.1.bits with
   | nil =>
    exfalso
    apply hb
    have:cntB x.1.bits=(Q3j x.1.bits).length:=(Q5X _).symm;rw[this,ht];rfl
   | cons i r=>exact⟨i,by simp⟩
  have hu:addr c.size x.2 i∈c.used:=J3C.2 ⟨x,hx,J3U hi⟩;refine⟨k+1,addr c.size x.2 i,by rw[Q0V Iw];exact hu,?_⟩;have C4:i<x.1.bits.length:=by
   have:=mem_trues.1 hi;rcases J5K i x.1.bits.length with e|e
   ·exact e
   ·rw[J4R e] at this;cases this
  have DW:=k1.s0;have hp:=Q4v (s:=c.size) (by omega) C4 (k1.many x hx);unfold addr;omega
 ·rintro⟨k,a,ha,rfl⟩;obtain⟨p,hp,h1,h2⟩:=Q5s ok ha;have:=Q2d ok ha;have:=Q8h this.1 this.2;have e:a/1024=p:=by omega
  rw[e];exact hp
theorem Z5E{P P':PL}{fr fr':List Nat}(ok:P.Ok fr)(ok':P'.Ok fr')(hu:∀k,(P'.usedOf k).Perm (P.usedOf k))(hf:fr'.Perm fr):P'.d.ps.Perm P.d.ps:=by
 have h1:=(ok.pages.nodup_iff).2 ok.d.nd;have h2:=(ok'.pages.nodup_iff).2 ok'.d.nd;have hp:P'.pages.Perm P.pages:=by
  rw[List.perm_ext_iff_of_nodup (J3V.1 h2).2.1 (J3V.1 h1).2.1];intro g;rw[Q5e ok',Q5e ok]
  constructor
  ·rintro⟨k,a,ha,e⟩;exact⟨k,a,(hu k).mem_iff.1 ha,e⟩
  ·rintro⟨k,a,ha,e⟩;exact⟨k,a,(hu k).mem_iff.2 ha,e⟩
 exact ok'.pages.symm.trans ((hf.append hp).trans ok.pages)
theorem GotM.back{P P' P2:PL}{l:List Pl}{fr fr' fr2:List Nat}{own:Int}{k a:Nat}(g:GotM P fr own k a P' fr')(m:MemI P l fr)(b:BackM P' fr' own k a P2 fr2):Tried P fr l P2:=by
 obtain⟨e,q1,q2,q3⟩:=g.q;obtain⟨e',r1,r2,r3⟩:=b.q;have Ae:=m.pool.q.ids;have hE:P'.q.E=upd P.q.E own {e.q with charged:=e.q.charged+((costK k:Nat):Int)}:=by rw[q3]
 have AT:e'={e with q:={e.q with charged:=e.q.charged+((costK k:Nat):Int)}}:=by
  rw[hE,Q0h q1] at r1;exact(J3Z r1).symm
 have hq:P2.q=P.q:=by
  have h1:upd P'.q.E own {e'.q with charged:=e'.q.charged-((costK k:Nat):Int)}=P.q.E:=by
   rw[hE,upd_upd,AT];have:({e.q with charged:=e.q.charged+((costK k:Nat):Int)-((costK k:Nat):Int)}:Fa)=e.q:=by
    rw[J6L]
   show upd P.q.E own ({e.q with charged:=e.q.charged+((costK k:Nat):Int)-((costK k:Nat):Int)}:Fa)=_;rw[this];exact Z4P Ae q1
  rw[r3,h1,q3]
 have hu:∀j,(P2.usedOf j).Perm (P.usedOf j):=fun j=>by
  by_cases e:j=k
  ·subst e;by_cases h8:j=8
   ·have z:∀{Q:PL} {f:List Nat},Q.Ok f->Q.usedOf j=[]:=fun hQ=>Q1r hQ (by rw[h8];rfl)
    rw[z b.ok,z m.pool]
   ·have h1:=(g.used h8).symm.trans (b.used h8);exact(J6Q h1).symm
  ·rw[b.other j e,g.other j e]
 have D9:fr2=fr:=by
  have h1:=g.frs;have h2:=b.frs;by_cases h8:k=8
  ·rw[if_pos h8] at h1 h2;obtain⟨x,rfl,hx⟩:=h1;obtain⟨y,hy,rfl⟩:=h2;have:x=y:=by omega
   subst this;rw[hx];simp
  ·rw[if_neg h8] at h1 h2;rw[h2,h1]
 have Bg:P2.Ok fr:=by rw[<- D9];exact b.ok
 exact⟨Bg,g.same.trans b.same,hq,hu,Z5E m.pool Bg hu (J6w _),fun r hr As=>by rw[b.mem];exact g.keptL m r hr As,fun j c hj hc=>by rw[b.mem];exact g.keptH m.pool j c hj hc⟩
theorem Inv.tried{P P':PL}{l:List Pl}{fr:List Nat}{xc:Int->Int}{zs:List Nat}(v:Inv P l fr xc zs)(t:Tried P fr l P'):Inv P' l fr xc zs:=by
 refine⟨v.len,v.st,⟨t.ok,v.mem.kind,fun k h1 h5=>(v.mem.ats k h1 h5).trans (t.used k).symm,v.mem.frs,fun r hr As hk=>?_⟩,by rw[t.q];exact v.tre,v.que⟩;have:=t.mem r hr As;rw[hk] at this;rw[(this.sub (J3b _) (by show r.at_+8<=r.at_+64;omega)).word];exact v.mem.word r hr As hk
structure HT where
 t:Nat
 l:List Pl
def Pl.cells(p:Pl):List Value:=[.int .i64 (p.kind:Int),.int .i64 (p.at_:Int),.int .i64 (p.fac:Int),.int .i64 (p.st:Int),.int .u32 (p.age:Int)]
def HT.hl(h:HT):HL:=[(h.t,isC 302 (h.l.flatMap Pl.cells))]
theorem Q4g:∀{l:List Pl} {i:Nat} {p:Pl},l[i]?=some p->∀(j:Nat) (v:Value),j<5->p.cells[j]?=some v->(l.flatMap Pl.cells)[i*5+j]?=some v
 | [],i,p,h,j,v,_,_=>by simp at h
 | x::r,0,p,h,j,v,hj,hv=>by
  simp at h;subst h;rw[J3z,J6T,J5G,J6q (by simpa[Pl.cells] using hj)];exact hv
 | x::r,i+1,p,h,j,v,hj,hv=>by
  rw[J6p] at h;have:=Q4g (l:=r) h j v hj hv;rw[J3z,J6r (by simp[Pl.cells];omega)];rw[<- this];congr 1;simp[Pl.cells];omega
theorem Q4h:∀{l:List Pl} {i:Nat} {p q:Pl},l[i]?=some p->∀(j:Nat) (v:Value),j<5->p.cells.set j v=q.cells->(l.flatMap Pl.cells).set (i*5+j) v=(l.set i q).flatMap Pl.cells
 | [],i,p,q,h,j,v,_,_=>by simp at h
 | x::r,0,p,q,h,j,v,hj,hv=>by
  simp at h;subst h;rw[J3z,J6T,J5G,List.set_append_left _ _ (by simpa[Pl.cells] using hj),hv];rfl
 | x::r,i+1,p,q,h,j,v,hj,hv=>by
  rw[J6p] at h;have:=Q4h (l:=r) h j v hj hv;rw[J3z,J6U _ _ (by simp[Pl.cells];omega)];rw[J5M,J3z,<- this];congr 2;simp[Pl.cells];omega
theorem J0T(l:List Pl):(l.flatMap Pl.cells).length=l.length*5:=by
 induction l with
 | nil=>rfl
 | cons x r ih=>rw[J3z,J3M,ih];simp[Pl.cells];omega
section
variable {w:World} {h:HT}
theorem HT.cells(s:Sep w h.hl):Cells w h.t 302 (h.l.flatMap Pl.cells):=s.cells (by simp[HT.hl])
theorem HT.cell(s:Sep w h.hl){i:Nat}{p:Pl}(hi:h.l[i]?=some p):w.cell? ⟨h.t,i*5,none⟩=some (.int .i64 (p.kind:Int))/\w.cell? ⟨h.t,i*5+1,none⟩=some (.int .i64 (p.at_:Int))/\w.cell? ⟨h.t,i*5+2,none⟩=some (.int .i64 (p.fac:Int))/\w.cell? ⟨h.t,i*5+3,none⟩=some (.int .i64 (p.st:Int))/\w.cell? ⟨h.t,i*5+4,none⟩=some (.int .u32 (p.age:Int))/\∀j,w.frozen? ⟨h.t,j,none⟩=false:=
 ⟨(HT.cells s).cell (i*5) _ (Q4g hi 0 _ (by omega) rfl),(HT.cells s).cell (i*5+1) _ (Q4g hi 1 _ (by omega) rfl),(HT.cells s).cell (i*5+2) _ (Q4g hi 2 _ (by omega) rfl),(HT.cells s).cell (i*5+3) _ (Q4g hi 3 _ (by omega) rfl),(HT.cells s).cell (i*5+4) _ (Q4g hi 4 _ (by omega) rfl),(HT.cells s).free⟩
theorem HT.set(s:Sep w h.hl){i:Nat}{p q:Pl}(hi:h.l[i]?=some p)(j:Nat)(v:Value)(hj:j<5)(hq:p.cells.set j v=q.cells):Step h.hl ({h with l:=h.l.set i q}:HT).hl w (w.setCell ⟨h.t,i*5+j,none⟩ v):=by
 have:=Sep.set (A:=[]) (B:=[]) (by simpa[HT.hl] using s) (i*5+j) v;rw[Q4h hi j v hj hq] at this;exact this
end
theorem J0U(a i:Nat)(hi:i<256)(ha:a<=1048575):bits BinOp.or IntKind.u32 ((a*256:Nat):Int) (i:Int)=((a*256+i:Nat):Int):=by
 rw[u32_or_nat _ _ (by omega) (by omega)];congr 1;have:=J6x (i:=8) (b:=i) (by omega) a;rw[J6c] at this;exact this.symm
theorem Q9b(h:Nat)(hh:h<4294967296):bits BinOp.and IntKind.u32 (h:Int) 255=((h%256:Nat):Int):=by
 have:=u32_and_nat h 255 hh (by omega);rw[show((255:Nat):Int)=255 from rfl] at this;rw[this];congr 1;exact J4H h 8
theorem Q4B{w:World}{h:HT}(s:Sep w h.hl){i:Nat}{p:Pl}(hi:h.l[i]?=some p)(Ao:i<256)(ha:p.age<=1048575):Calls prog 202 #[.pointer (some ⟨h.t,0,none⟩),.int .i64 i] w fun r w'=>r=.returned (.int .u32 ((nm i p:Nat):Int))/\w=w':=by
 obtain⟨-,-,-,-,c4,-⟩:=HT.cell s hi;have HO:=Q0a (J0U p.age i Ao ha);unfold nm;clear s hi;generalize p.age=a at *
 go_enter func202,ntmps202
 go_wp2
 go_ret;refine⟨?_,rfl⟩;have e:=HO.out;rw[J4g] at e;exact congrArg (fun z=>Ending.returned (.int .u32 z)) e
end Go.Proofs.YtfidemmgofcnmaaGreatDoor
