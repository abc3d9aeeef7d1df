/- What the laws of spaces share is proved. No condition. Part of a proof. -/
import Derived.Test.YtlakjlmaboioiaaGreatDoorVa07
import Derived.Laws.BitsAllLaws
import Derived.Laws.Rows
set_option maxHeartbeats 400000
set_option linter.unusedVariables false
namespace Go.Proofs.YtlakjlmaboioiaaGreatDoor
open Go.RowKit Go.Proofs.Tryz
structure J0m (P:PL) (fr:List Nat) (k a own:Nat) (P':PL) (fr':List Nat):Prop where
 pool:P'.Ok fr'
 used:k≠8->(P'.usedOf k).Perm (a::P.usedOf k)
 other:∀j,j≠k->P'.usedOf j=P.usedOf j
 frs:if k=8 then ∃g,a=1024*g/\fr'=g::fr else fr'=fr
 mem:∀b∈P.usedOf 1,Q0u P'.a.mem b=Q0u P.a.mem b
 own:k=1->Q0u P'.a.mem a=own
structure J0n (P:PL) (fr:List Nat) (k a:Nat) (P':PL) (fr':List Nat):Prop where
 pool:P'.Ok fr'
 used:k≠8->(P.usedOf k).Perm (a::P'.usedOf k)
 other:∀j,j≠k->P'.usedOf j=P.usedOf j
 frs:if k=8 then ∃g,a=1024*g/\fr'=fr.erase g else fr'=fr
 mem:∀b∈P'.usedOf 1,Q0u P'.a.mem b=Q0u P.a.mem b
theorem Q1K {p:Pl} (k:Nat) (h:p.is=false):atsF k p=none:=by simp [atsF,h]
theorem Q6j {p:Pl} {k:Nat} (h:p.kind≠k):atsF k p=none:=by simp [atsF,h]
theorem MemI.add {P P':PL} {l:List Pl} {fr fr':List Nat} (m:MemI P l fr) {i:Nat} {p q:Pl} (g:J0m P fr q.kind q.at_ q.own P' fr') (hi:l[i]?=some p) (hp:p.is=false) (hq:q.is=true) (hk:q.kind=8∨(1<=q.kind/\q.kind<=5)):MemI P' (l.set i q) fr':=by
 refine⟨g.pool,fun r hr Au=>?_,fun k h1 h5=>?_,?_,fun r hr Au A0=>?_⟩
 ·rcases Q0o hr with rfl|hr
  ·exact hk
  ·exact m.kind r hr Au
 ·by_cases e:q.kind=k
  ·subst e;have:=Z0y (atsF q.kind) hi (Q1K _ hp) (Q1b hq);exact this.trans (((m.ats _ h1 h5).cons _).trans (g.used (by omega)).symm)
  ·rw [g.other k fun h=>e h.symm];exact (Q1D (atsF k) hi (by rw [Q6j e,Q1K _ hp])).trans (m.ats k h1 h5)
 ·by_cases e:q.kind=8
  ·have hf:=g.frs;rw [if_pos e] at hf;obtain⟨x,hx,rfl⟩:=hf;have:=Z0y (atsF 8) hi (Q1K _ hp) (by rw [<- e];exact Q1b hq);refine this.trans ?_;rw [hx];exact m.frs.cons _
  ·have hf:=g.frs;rw [if_neg e] at hf;rw [hf];exact (Q1D (atsF 8) hi (by rw [Q6j e,Q1K _ hp])).trans m.frs
 ·rcases Q0o hr with rfl|hr
  ·exact g.own A0
  ·rw [g.mem _ (by have:=m.used hr Au (by omega);rwa [A0] at this)];exact m.word r hr Au A0
theorem MemI.drop {P P':PL} {l:List Pl} {fr fr':List Nat} (m:MemI P l fr) {i:Nat} {p q:Pl} (g:J0n P fr p.kind p.at_ P' fr') (hi:l[i]?=some p) (hp:p.is=true) (hq:q.is=false):MemI P' (l.set i q) fr':=by
 have BQ:=J4v hi;have MB:∀k,1<=k->k<=5->(Q2c (l.set i q) k).Perm (P'.usedOf k):=by
  intro k h1 h5;by_cases e:p.kind=k
  ·subst e;have h:=Q8k (q:=q) (atsF p.kind) hi (Q1b hp) (Q1K _ hq);have h2:=h.symm.trans ((m.ats _ h1 h5).trans (g.used (by omega)));exact J5U h2
  ·rw [g.other k fun h=>e h.symm];exact (Q1D (atsF k) hi (by rw [Q6j e,Q1K _ hq])).trans (m.ats k h1 h5)
 refine⟨g.pool,fun r hr Au=>?_,MB,?_,fun r hr Au A0=>?_⟩
 ·rcases Q0o hr with rfl|hr
  ·rw [hq] at Au;cases Au
  ·exact m.kind r hr Au
 ·by_cases e:p.kind=8
  ·have hf:=g.frs;rw [if_pos e] at hf;obtain⟨x,hx,rfl⟩:=hf;obtain⟨y,hy,ey⟩:=m.frame BQ hp e;have GE:x=y:=by omega
   subst GE;have h:=Q8k (q:=q) (atsF 8) hi (by rw [<- e];exact Q1b hp) (Q1K _ hq);have h3:=(List.perm_cons_erase hy).map (1024*·);have h2:=h.symm.trans (m.frs.trans h3);rw [J2k,<- hx] at h2;exact J5U h2
  ·have hf:=g.frs;rw [if_neg e] at hf;rw [hf];exact (Q1D (atsF 8) hi (by rw [Q6j e,Q1K _ hq])).trans m.frs
 ·have hu:r.at_∈P'.usedOf 1:=by
   refine (MB 1 (by omega) (by omega)).mem_iff.1 (J2w.2 ⟨r,hr,?_⟩);rw [<- A0];exact Q1b Au
  rcases Q0o hr with rfl|hr
  ·rw [hq] at Au;cases Au
  ·rw [g.mem _ hu];exact m.word r hr Au A0
theorem MemI.keep {P:PL} {l:List Pl} {fr:List Nat} (m:MemI P l fr) {i:Nat} {p q:Pl} (hi:l[i]?=some p) (hp:p.is=true) (hq:q.is=true) (h1:q.kind=p.kind) (h2:q.at_=p.at_) (h3:q.own=p.own):MemI P (l.set i q) fr:=by
 have BQ:=J4v hi;have e:∀k,atsF k q=atsF k p:=fun k=>by unfold atsF;rw [hp,hq,h1,h2]
 refine⟨m.pool,fun r hr Au=>?_,fun k h1 h5=>(Q1D (atsF k) hi (e k)).trans (m.ats k h1 h5),(Q1D (atsF 8) hi (e 8)).trans m.frs,fun r hr Au A0=>?_⟩
 ·rcases Q0o hr with rfl|hr
  ·rw [h1];exact m.kind p BQ hp
  ·exact m.kind r hr Au
 ·rcases Q0o hr with rfl|hr
  ·rw [h2,h3];exact m.word p BQ hp (by omega)
  ·exact m.word r hr Au A0
theorem MemI.same {P P':PL} {l:List Pl} {fr:List Nat} (m:MemI P l fr) (h:P'.Ok fr) (hu:∀k,1<=k->k<=5->P'.usedOf k=P.usedOf k) (hw:∀b∈P.usedOf 1,Q0u P'.a.mem b=Q0u P.a.mem b):MemI P' l fr:=by
 refine⟨h,m.kind,fun k h1 h5=>by rw [hu k h1 h5];exact m.ats k h1 h5,m.frs,fun r hr Au A0=>?_⟩;rw [hw _ (by have:=m.used hr Au (by omega);rwa [A0] at this)];exact m.word r hr Au A0
theorem Q3E {p:Pl} (a:Int) (h:p.is=false):Q2Z a p=0:=by simp [Q2Z,h]
theorem Q2A {p:Pl} (a:Int) (h:p.is=true):Q2Z a p=if (p.fac:Int)=a then (costK p.kind:Int) else 0:=by simp [Q2Z,h]
theorem TreI.addN {E:List (En Fa)} {l:List Pl} {xc:Int->Int} (t:TreI E l xc) (Ae:E.Pairwise (fun a b=>a.id≠b.id)) {i:Nat} {p q:Pl} (hi:l[i]?=some p) (hp:p.is=false) (hq:q.is=true) (hk:q.kind≠1) {e:En Fa} (hf:find E q.fac=some e) :
  TreI (upd E q.fac {e.q with charged:=e.q.charged+(costK q.kind:Int)}) (l.set i q) xc:=by
 have ho:ownF q=ownF p:=by simp [ownF,hp,hk]
 have Ir:∀a,Q1R (upd E q.fac {e.q with charged:=e.q.charged+(costK q.kind:Int)}) a=Q1R E a:=fun a=>Q1O Ae hf _ _ rfl
 have Gi:∀a,Q1S (upd E q.fac {e.q with charged:=e.q.charged+(costK q.kind:Int)}) a=Q1S E a:=fun a=>Q1O Ae hf _ _ rfl
 refine⟨?_,fun r hr Au=>?_,fun r hr Au A0 x hx=>?_,fun id x hx=>?_,fun id x hx=>?_⟩
 ·rw [Q1q];exact t.ids.trans (Q1D ownF hi ho).symm
 ·rcases Q0o hr with rfl|hr
  ·exact Q1a _ hf
  ·obtain⟨y,hy⟩:=t.fac r hr Au;exact Q1a _ hy
 ·rcases Q0o hr with rfl|hr
  ·exact absurd A0 hk
  ·obtain⟨y,hy,h1,h2⟩:=Q0q _ hf hx;have:=t.par r hr Au A0 y hy;by_cases hid:(r.own:Int)=q.fac
   ·obtain⟨rfl,e2⟩:=h1 hid;rw [e2];exact this
   ·rw [h2 hid];exact this
 ·obtain⟨y,hy,h1,h2⟩:=Q0q _ hf hx;have hc:=Q2d q hi id;rw [Q3E id hp,Q2A id hq] at hc;have:=t.charged id y hy;by_cases hid:id=q.fac
  ·obtain⟨rfl,e2⟩:=h1 hid;rw [if_pos hid.symm] at hc;rw [e2];show y.q.charged+_=_;omega
  ·rw [if_neg fun h=>hid h.symm] at hc;rw [h2 hid];omega
 ·obtain⟨y,hy,h1,h2⟩:=Q0q _ hf hx;rw [Ir,Gi];have:=t.given id y hy;by_cases hid:id=q.fac
  ·obtain⟨rfl,e2⟩:=h1 hid;rw [e2];exact this
  ·rw [h2 hid];exact this
theorem TreI.addF {E:List (En Fa)} {l:List Pl} {xc:Int->Int} (t:TreI E l xc) (Ae:E.Pairwise (fun a b=>a.id≠b.id)) {i b:Nat} {p q:Pl} {limit:Int} (hi:l[i]?=some p) (hp:p.is=false) (hq:q.is=true) (hk:q.kind=1) {e:En Fa} (hf:find E q.fac=some e)
  (Ar:find E q.own=none) (Ab:q.fac<q.own) (GG:xc q.own=0) (Aa:∀x∈E,x.q.parent≠q.own) (Lv:∀r∈l,r.is=true->r.fac≠q.own) :
  TreI (upd E q.fac {e.q with charged:=e.q.charged+(costK q.kind:Int),given:=e.q.given+limit,kids:=e.q.kids+1}++[⟨q.own,b,⟨limit,0,0,q.fac,0⟩⟩]) (l.set i q) xc:=by
 obtain⟨X,hX⟩:∃X:Fa,X={e.q with charged:=e.q.charged+(costK q.kind:Int),given:=e.q.given+limit,kids:=e.q.kids+1}:=⟨_,rfl⟩
 have JX:X.parent=e.q.parent:=by rw [hX]
 have NJ:X.limit=e.q.limit:=by rw [hX]
 have V4:X.charged=e.q.charged+(costK q.kind:Int):=by rw [hX]
 have Vk:X.given=e.q.given+limit:=by rw [hX]
 have VY:X.kids=e.q.kids+1:=by rw [hX]
 rw [<- hX];clear hX;have Ir:∀a,Q1R (upd E q.fac X++[⟨q.own,b,⟨limit,0,0,q.fac,0⟩⟩]) a=Q1R E a+if (q.fac:Int)=a then limit else 0:=fun a=>by
  have:((upd E q.fac X).map (givF a)).sum=(E.map (givF a)).sum:=Q1O Ae hf _ _ (by simp [givF,JX,NJ]);unfold Q1R;rw [J5K,J5V,this];simp [givF]
 have Gi:∀a,Q1S (upd E q.fac X++[⟨q.own,b,⟨limit,0,0,q.fac,0⟩⟩]) a=Q1S E a+if (q.fac:Int)=a then 1 else 0:=fun a=>by
  have:((upd E q.fac X).map (kidF a)).sum=(E.map (kidF a)).sum:=Q1O Ae hf _ _ (by simp [kidF,JX]);unfold Q1S;rw [J5K,J5V,this];simp [kidF]
 have Oz:∀j y,find E j=some y->∃z,find (upd E q.fac X++[⟨q.own,b,⟨limit,0,0,q.fac,0⟩⟩]) j=some z:=fun j y hy=>by
  obtain⟨z,hz⟩:=Q1a (id:=q.fac) X hy;exact⟨z,by rw [Q2a,hz]⟩
 have AE:∀j z,find (upd E q.fac X++[⟨q.own,b,⟨limit,0,0,q.fac,0⟩⟩]) j=some z->(j=q.own/\z=⟨q.own,b,⟨limit,0,0,q.fac,0⟩⟩)∨(j≠q.own/\∃y,find E j=some y/\(j=q.fac->y=e/\z.q=X)/\(j≠q.fac->z=y)):=fun j z hz=>by
  rw [Q2a] at hz;cases hu:find (upd E q.fac X) j with
  | none =>
   rw [hu] at hz;simp only at hz;split at hz
   ·rename_i h;cases hz;exact .inl ⟨h,rfl⟩
   ·cases hz
  | some y =>
   rw [hu] at hz;cases hz;obtain⟨x,hx,h1,h2⟩:=Q0q X hf hu;refine .inr ⟨?_,x,hx,h1,h2⟩;rintro rfl;rw [Ar] at hx;cases hx
 refine⟨?_,fun r hr Au=>?_,fun r hr Au A0 x hx=>?_,fun id x hx=>?_,fun id x hx=>?_⟩
 ·rw [J5K,Q1q];have h1:=Z0y ownF hi (by simp [ownF,hp]) (Q3g hq hk);exact (J5N _ _).trans ((t.ids.cons _).trans h1.symm)
 ·rcases Q0o hr with rfl|hr
  ·exact Oz _ _ hf
  ·obtain⟨y,hy⟩:=t.fac r hr Au;exact Oz _ _ hy
 ·rcases Q0o hr with rfl|hr
  ·rcases AE _ _ hx with ⟨_,rfl⟩|⟨h,_⟩
   ·exact⟨fun h=>absurd h (by omega),fun _=>⟨rfl,Ab⟩⟩
   ·exact absurd rfl h
  ·rcases AE _ _ hx with ⟨h,_⟩|⟨_,y,hy,h1,h2⟩
   ·obtain⟨z,hz⟩:=t.acc hr Au A0;rw [h,Ar] at hz;cases hz
   ·have:=t.par r hr Au A0 y hy;by_cases hid:(r.own:Int)=q.fac
    ·obtain⟨rfl,e2⟩:=h1 hid;rw [e2,JX];exact this
    ·rw [h2 hid];exact this
 ·have hc:=Q2d q hi id;rw [Q3E id hp,Q2A id hq] at hc;rcases AE _ _ hx with ⟨rfl,rfl⟩|⟨_,y,hy,h1,h2⟩
  ·rw [if_neg (by omega)] at hc;have:Q0y l q.own=0:=Q2p fun r hr Au e=>Lv r hr Au (by omega)
   show (0:Int)=_;rw [GG];omega
  ·have:=t.charged id y hy;by_cases hid:id=q.fac
   ·obtain⟨rfl,e2⟩:=h1 hid;rw [if_pos hid.symm] at hc;rw [e2,V4];omega
   ·rw [if_neg fun h=>hid h.symm] at hc;rw [h2 hid];omega
 ·rw [Ir,Gi];rcases AE _ _ hx with ⟨rfl,rfl⟩|⟨_,y,hy,h1,h2⟩
  ·obtain⟨z1,z2⟩:=Q2S Aa;rw [z1,z2,if_neg (by omega),if_neg (by omega)];exact⟨rfl,rfl⟩
  ·have:=t.given id y hy;by_cases hid:id=q.fac
   ·obtain⟨rfl,e2⟩:=h1 hid;rw [if_pos hid.symm,if_pos hid.symm,e2,Vk,VY];omega
   ·rw [if_neg fun h=>hid h.symm,if_neg fun h=>hid h.symm,h2 hid];omega
theorem TreI.keep {E:List (En Fa)} {l:List Pl} {xc:Int->Int} (t:TreI E l xc) {i:Nat} {p q:Pl} (hi:l[i]?=some p) (hp:p.is=true) (hq:q.is=true) (h1:q.kind=p.kind) (h2:q.fac=p.fac) (h3:q.own=p.own):TreI E (l.set i q) xc:=by
 have BQ:=J4v hi;refine⟨t.ids.trans (Q1D ownF hi (by unfold ownF;rw [hp,hq,h1,h3])).symm,fun r hr Au=>?_,fun r hr Au A0 x hx=>?_,fun id x hx=>?_,t.given⟩
 ·rcases Q0o hr with rfl|hr
  ·rw [h2];exact t.fac p BQ hp
  ·exact t.fac r hr Au
 ·rcases Q0o hr with rfl|hr
  ·rw [h2,h3];rw [h3] at hx;exact t.par p BQ hp (by omega) x hx
  ·exact t.par r hr Au A0 x hx
 ·have hc:=Q2d q hi id;have e:Q2Z id q=Q2Z id p:=by unfold Q2Z;rw [hp,hq,h1,h2]
  rw [e] at hc;have:=t.charged id x hx;omega
theorem TreI.pays {E:List (En Fa)} {l:List Pl} {xc:Int->Int} (t:TreI E l xc) {p:Pl} (hp:p∈l) (hi:p.is=true) (hx:0<=xc p.fac) {e:En Fa} (hf:find E p.fac=some e):(costK p.kind:Int)<=e.q.charged:=by
 have h1:=t.charged _ e hf;have h2:=Q7u (p.fac:Int) hp;rw [Q2A _ hi,if_pos rfl] at h2;omega
theorem TreI.dropN {E:List (En Fa)} {l:List Pl} {xc:Int->Int} (t:TreI E l xc) (Ae:E.Pairwise (fun a b=>a.id≠b.id)) {i:Nat} {p q:Pl} (hi:l[i]?=some p) (hp:p.is=true) (hq:q.is=false) (hk:p.kind≠1) {e:En Fa} (hf:find E p.fac=some e) :
  TreI (upd E p.fac {e.q with charged:=e.q.charged-(costK p.kind:Int)}) (l.set i q) xc:=by
 have ho:ownF q=ownF p:=by simp [ownF,hq,hk]
 have Ir:∀a,Q1R (upd E p.fac {e.q with charged:=e.q.charged-(costK p.kind:Int)}) a=Q1R E a:=fun a=>Q1O Ae hf _ _ rfl
 have Gi:∀a,Q1S (upd E p.fac {e.q with charged:=e.q.charged-(costK p.kind:Int)}) a=Q1S E a:=fun a=>Q1O Ae hf _ _ rfl
 refine⟨?_,fun r hr Au=>?_,fun r hr Au A0 x hx=>?_,fun id x hx=>?_,fun id x hx=>?_⟩
 ·rw [Q1q];exact t.ids.trans (Q1D ownF hi ho).symm
 ·rcases Q0o hr with rfl|hr
  ·rw [hq] at Au;cases Au
  ·obtain⟨y,hy⟩:=t.fac r hr Au;exact Q1a _ hy
 ·rcases Q0o hr with rfl|hr
  ·rw [hq] at Au;cases Au
  ·obtain⟨y,hy,h1,h2⟩:=Q0q _ hf hx;have:=t.par r hr Au A0 y hy;by_cases hid:(r.own:Int)=p.fac
   ·obtain⟨rfl,e2⟩:=h1 hid;rw [e2];exact this
   ·rw [h2 hid];exact this
 ·obtain⟨y,hy,h1,h2⟩:=Q0q _ hf hx;have hc:=Q2d q hi id;rw [Q3E id hq,Q2A id hp] at hc;have:=t.charged id y hy;by_cases hid:id=p.fac
  ·obtain⟨rfl,e2⟩:=h1 hid;rw [if_pos hid.symm] at hc;rw [e2];show y.q.charged-_=_;omega
  ·rw [if_neg fun h=>hid h.symm] at hc;rw [h2 hid];omega
 ·obtain⟨y,hy,h1,h2⟩:=Q0q _ hf hx;rw [Ir,Gi];have:=t.given id y hy;by_cases hid:id=p.fac
  ·obtain⟨rfl,e2⟩:=h1 hid;rw [e2];exact this
  ·rw [h2 hid];exact this
theorem TreI.dropF {E:List (En Fa)} {l:List Pl} {xc:Int->Int} (t:TreI E l xc) (Ae:E.Pairwise (fun a b=>a.id≠b.id)) {i:Nat} {p q:Pl} (hi:l[i]?=some p) (hp:p.is=true) (hq:q.is=false) (hk:p.kind=1) (h0:p.own≠0) {e c:En Fa} (hf:find E p.fac=some e) (hc:find E p.own=some c)
  (Lv:∀r∈l,r.is=true->r.fac≠p.own) :
  TreI (upd (rem (upd E p.fac {e.q with given:=e.q.given-c.q.limit,kids:=e.q.kids-1}) p.own) p.fac {e.q with given:=e.q.given-c.q.limit,kids:=e.q.kids-1,charged:=e.q.charged-(costK p.kind:Int)}) (l.set i q) xc:=by
 have BQ:=J4v hi;obtain⟨Be,Ab⟩:=(t.par p BQ hp hk c hc).2 h0;have Aa:(p.own:Int)≠p.fac:=by omega
 obtain⟨X,hX⟩:∃X:Fa,X={e.q with given:=e.q.given-c.q.limit,kids:=e.q.kids-1}:=⟨_,rfl⟩
 obtain⟨Y,hY⟩:∃Y:Fa,Y={e.q with given:=e.q.given-c.q.limit,kids:=e.q.kids-1,charged:=e.q.charged-(costK p.kind:Int)}:=⟨_,rfl⟩
 have JX:X.parent=e.q.parent:=by rw [hX]
 have NJ:X.limit=e.q.limit:=by rw [hX]
 have QI:Y.parent=e.q.parent:=by rw [hY]
 have V5:Y.limit=e.q.limit:=by rw [hY]
 have UN:Y.charged=e.q.charged-(costK p.kind:Int):=by rw [hY]
 have W7:Y.given=e.q.given-c.q.limit:=by rw [hY]
 have V1:Y.kids=e.q.kids-1:=by rw [hY]
 rw [<- hX,<- hY];clear hX hY;have pw1:(upd E p.fac X).Pairwise (fun a b=>a.id≠b.id):=Q0N _ _ (fun a b a' b' _ h1 _ h2 h=>by rw [<- h1,<- h2];exact h) Ae;have f1:find (upd E p.fac X) p.own=some c:=by rw [Q0x Aa];exact hc
 have pw2:(rem (upd E p.fac X) p.own).Pairwise (fun a b=>a.id≠b.id):=pw1.sublist (Q1B _ _);have f2:find (rem (upd E p.fac X) p.own) p.fac=some {e with q:=X}:=by
  rw [Q2m pw1,if_neg (fun h=>Aa h.symm)];exact Q0i hf X
 have AE:∀j z,find (upd (rem (upd E p.fac X) p.own) p.fac Y) j=some z->j≠p.own/\∃y,find E j=some y/\(j=p.fac->y=e/\z.q=Y)/\(j≠p.fac->z=y):=fun j z hz=>by
  obtain⟨x,hx,h1,h2⟩:=Q0q Y f2 hz;rw [Q2m pw1] at hx;split at hx
  ·cases hx
  ·rename_i hj;obtain⟨y,hy,h3,h4⟩:=Q0q X hf hx;refine⟨hj,y,hy,fun h=>⟨(h3 h).1,(h1 h).2⟩,fun h=>?_⟩;rw [h2 h,h4 h]
 have Oz:∀(j:Int) y,j≠p.own->find E j=some y->∃z,find (upd (rem (upd E p.fac X) p.own) p.fac Y) j=some z:=fun j y hj hy=>by
  obtain⟨z,hz⟩:=Q1a (id:=p.fac) X hy;exact Q1a Y (by rw [Q2m pw1,if_neg hj];exact hz)
 have Ir:∀a,Q1R (upd (rem (upd E p.fac X) p.own) p.fac Y) a+givF a c=Q1R E a:=fun a=>by
  have e1:((upd (rem (upd E p.fac X) p.own) p.fac Y).map (givF a)).sum=((rem (upd E p.fac X) p.own).map (givF a)).sum:=Q1O pw2 f2 _ _ (by simp [givF,JX,NJ,QI,V5]);have e2:=Z5j pw1 f1 (givF a);have e3:((upd E p.fac X).map (givF a)).sum=(E.map (givF a)).sum:=Q1O Ae hf _ _ (by simp [givF,JX,NJ]);unfold Q1R;rw [e1,e2,e3]
 have Gi:∀a,Q1S (upd (rem (upd E p.fac X) p.own) p.fac Y) a+kidF a c=Q1S E a:=fun a=>by
  have e1:((upd (rem (upd E p.fac X) p.own) p.fac Y).map (kidF a)).sum=((rem (upd E p.fac X) p.own).map (kidF a)).sum:=Q1O pw2 f2 _ _ (by simp [kidF,JX,QI]);have e2:=Z5j pw1 f1 (kidF a);have e3:((upd E p.fac X).map (kidF a)).sum=(E.map (kidF a)).sum:=Q1O Ae hf _ _ (by simp [kidF,JX]);unfold Q1S;rw [e1,e2,e3]
 refine⟨?_,fun r hr Au=>?_,fun r hr Au A0 x hx=>?_,fun id x hx=>?_,fun id x hx=>?_⟩
 ·rw [Q1q];have h1:(E.map En.id).Perm ((p.own:Int)::(rem (upd E p.fac X) p.own).map En.id):=by
   obtain⟨A,B,e1,_,e3⟩:=Q3b pw1 f1;rw [<- Q1q E p.fac X,e3]
   conv=>lhs;rw [e1]
   have IT:c.id=p.own:=(Q0b f1).2;rw [J5K,J2k,J5K,IT];exact J5L
  have h2:=Q8k (q:=q) ownF hi (Q3g hp hk) (by simp [ownF,hq]);exact J5U (h1.symm.trans (t.ids.trans h2))
 ·rcases Q0o hr with rfl|hr
  ·rw [hq] at Au;cases Au
  ·obtain⟨y,hy⟩:=t.fac r hr Au;exact Oz _ _ (fun h=>Lv r hr Au (by omega)) hy
 ·rcases Q0o hr with rfl|hr
  ·rw [hq] at Au;cases Au
  ·obtain⟨hj,y,hy,h1,h2⟩:=AE _ _ hx;have:=t.par r hr Au A0 y hy;by_cases hid:(r.own:Int)=p.fac
   ·obtain⟨rfl,e2⟩:=h1 hid;rw [e2,QI];exact this
   ·rw [h2 hid];exact this
 ·obtain⟨hj,y,hy,h1,h2⟩:=AE _ _ hx;have BB:=Q2d q hi id;rw [Q3E id hq,Q2A id hp] at BB;have:=t.charged id y hy;by_cases hid:id=p.fac
  ·obtain⟨rfl,e2⟩:=h1 hid;rw [if_pos hid.symm] at BB;rw [e2,UN];omega
  ·rw [if_neg fun h=>hid h.symm] at BB;rw [h2 hid];omega
 ·obtain⟨hj,y,hy,h1,h2⟩:=AE _ _ hx;have g1:=Ir id;have g2:=Gi id;have:=t.given id y hy;unfold givF at g1;unfold kidF at g2;rw [Be] at g1 g2;by_cases hid:id=p.fac
  ·obtain⟨rfl,e2⟩:=h1 hid;rw [if_pos hid.symm] at g1 g2;rw [e2,W7,V1];omega
  ·rw [if_neg fun h=>hid h.symm] at g1 g2;rw [h2 hid];omega
theorem Q5f {l:List Pl} {i:Nat} {p f:Pl} (q:Pl) (hi:l[i]?=some p) (hf:f∈l):f∈l.set i q∨f=p:=by
 obtain⟨j,hj⟩:=J4V.1 hf;by_cases e:i=j
 ·subst e;rw [hi] at hj;cases hj;exact .inr rfl
 ·exact .inl (J4v (i:=j) (by rw [J5O e];exact hj))
theorem QueI.add {l:List Pl} {xc:Int->Int} {zs:List Nat} (u:QueI l xc zs) {i:Nat} {p q f:Pl} (hi:l[i]?=some p) (hp:p.st=0) (hq:q.st=1) (hf:f∈l) (h1:f.st=1) (h2:f.kind=1) (h3:f.own=q.fac):QueI (l.set i q) xc zs:=by
 obtain⟨r,r1,r2,r3,r4,r5,r6⟩:=u.root;have BJ:i≠0:=by rintro rfl;rw [r1] at hi;cases hi;omega
 have hm:∀x∈l,x.st=1->x∈l.set i q:=fun x hx hs=>(Q5f q hi hx).resolve_right fun e=>by subst e;omega
 have hz:∀h,pget (l.set i q) 2 h=pget l 2 h:=fun h=>by
  rw [Q0A q hi];split
  ·rename_i e;rw [if_neg (by omega)]
   symm
   cases hx:pget l 2 h with
   | none=>rfl
   | some x =>
    obtain⟨a,b,c⟩:=pget_some.1 hx;rw [e,hi] at a;cases a;omega
  ·rfl
 refine⟨⟨r,by rw [J5O BJ];exact r1,r2,r3,r4,r5,r6⟩,fun j x hx hj hs=>?_,fun id=>⟨(u.xc id).1,fun h=>?_⟩,u.nd,fun h=>by rw [hz];exact u.has h,?_⟩
 ·by_cases e:i=j
  ·subst e;rw [J5W (J2y.1 hi).1] at hx;cases hx;exact⟨f,hm f hf h1,h1,h2,h3⟩
  ·rw [J5O e] at hx;obtain⟨g,g1,g2,g3,g4⟩:=u.live j x hx hj hs;exact⟨g,hm g g1 g2,g2,g3,g4⟩
 ·obtain⟨x,hx,hs,he⟩:=(u.xc id).2 h;exact⟨x,hm x hx hs,hs,he⟩
 ·refine u.ord.imp fun h a b ha hb=>?_
  rw [hz] at ha hb;exact h a b ha hb
theorem QueI.doom {E:List (En Fa)} {l:List Pl} {xc xc':Int->Int} {zs:List Nat} (u:QueI l xc zs) (hl:l.length<=256) (t:TreI E l xc) (Ae:E.Pairwise (fun a b=>a.id≠b.id)) {h:Nat} {p:Pl} (hp:pget l 1 h=some p) (h0:h≠0) (hk:kids l h=[])
  (GG:∀id,0<=xc' id/\(xc' id≠0->∃r∈l.set (h%256) {p with st:=2},r.st=1/\(r.fac:Int)=id)):QueI (l.set (h%256) {p with st:=2}) xc' (zs++[h]):=by
 obtain⟨hi,hn,hs⟩:=pget_some.1 hp;obtain⟨r,r1,r2,r3,r4,r5,r6⟩:=u.root;have BJ:h%256≠0:=by
  intro e;rw [e] at hi hn;rw [r1] at hi;cases hi;unfold nm at hn;omega
 obtain⟨i,I5⟩:∃i,i=h%256:=⟨_,rfl⟩
 rw [<- I5] at hi hn GG BJ ⊢;have hz:∀x,x%256≠i->pget (l.set i {p with st:=2}) 2 x=pget l 2 x:=fun x hx=>by
  rw [Q0A _ hi,if_neg hx]
 have Fd:∀x∈zs,x%256≠i:=fun x hx e=>by
  obtain⟨y,hy⟩:=(u.has x).1 hx;have:=(Q0Q hy hp (by rw [e,I5])).2.2;omega
 have hm:∀x∈l,x≠p->x∈l.set i {p with st:=2}:=fun x hx Aa=>(Q5f _ hi hx).resolve_right Aa
 have Cr:p.is=true:=Pl.is_iff.2 (.inl hs);refine⟨⟨r,by rw [J5O BJ];exact r1,r2,r3,r4,r5,r6⟩,fun j x hx hj Gd=>?_,GG,?_,fun x=>?_,?_⟩
 ·by_cases e:i=j
  ·subst e;rw [J5W (J2y.1 hi).1] at hx;cases hx;cases Gd
  ·rw [J5O e] at hx;obtain⟨g,g1,g2,g3,g4⟩:=u.live j x hx hj Gd;refine⟨g,hm g g1 ?_,g2,g3,g4⟩;rintro rfl;have Ci:j<256:=J2j (J2y.1 hx).1 hl;have:nm j x∈kids l h:=(Q0P hl).2 ⟨g,x,hp,g3,pget_some.2 ⟨by rw [Q1y Ci];exact hx,by rw [Q1y Ci],Gd⟩,by unfold nm;omega,g4.symm⟩;rw [hk] at this;cases this
 ·rw [J3a];refine⟨u.nd,by simp,fun x hx y hy e=>?_⟩;rw [J4o] at hy;subst hy;subst e;exact Fd x hx I5.symm
 ·rw [J2V,J4o];by_cases e:x%256=i
  ·rw [Q0A _ hi,if_pos e]
   constructor
   ·rintro (hx|rfl)
    ·exact absurd e (Fd x hx)
    ·exact⟨_,if_pos ⟨hn,rfl⟩⟩
   ·rintro⟨y,hy⟩;split at hy
    ·rename_i hc;exact .inr (hc.1.symm.trans hn)
    ·cases hy
  ·rw [hz x e]
   constructor
   ·rintro (hx|rfl)
    ·exact (u.has x).1 hx
    ·exact absurd I5.symm e
   ·exact fun hx=>.inl ((u.has x).2 hx)
 ·rw [J2U];refine⟨?_,by simp,fun a ha b hb=>?_⟩
  ·refine u.ord.imp_of_mem ?_;intro a b ha hb Dh x y hx hy;rw [hz a (Fd a ha)] at hx;rw [hz b (Fd b hb)] at hy;exact Dh x y hx hy
  ·rw [J4o] at hb;subst hb;intro x y hx hy I9;rw [hz a (Fd a ha)] at hx;rw [Q0A _ hi,if_pos I5.symm,if_pos ⟨hn,rfl⟩] at hy;cases hy;show p.fac≠x.own;intro e;obtain⟨g,g1,g2,g3,g4⟩:=u.live i p hi BJ hs;obtain⟨j,hj⟩:=J4V.1 g1;obtain⟨a1,_,a3⟩:=pget_some.1 hx;have:=t.inj Ae hj a1 (Pl.is_iff.2 (.inl g2)) (Pl.is_iff.2 (.inr a3)) g3 I9 (by omega);subst this;rw [a1] at hj;cases hj;omega
theorem QueI.free {l:List Pl} {xc:Int->Int} {zs:List Nat} {h:Nat} (u:QueI l xc (h::zs)) {p q:Pl} (hp:pget l 2 h=some p) (hq:q.is=false):QueI (l.set (h%256) q) xc zs:=by
 obtain⟨hi,hn,hs⟩:=pget_some.1 hp;obtain⟨q1,q2⟩:=Pl.not_is.1 hq;obtain⟨r,r1,r2,r3,r4,r5,r6⟩:=u.root;have BJ:h%256≠0:=by
  intro e;rw [e,r1] at hi;cases hi;omega
 obtain⟨i,I5⟩:∃i,i=h%256:=⟨_,rfl⟩
 rw [<- I5] at hi hn BJ ⊢;have AD:=J3d.1 u.nd;have EB:=J2I.1 u.ord;have hz:∀x,x%256≠i->pget (l.set i q) 2 x=pget l 2 x:=fun x hx=>by
  rw [Q0A _ hi,if_neg hx]
 have Fd:∀x∈zs,x%256≠i:=fun x hx e=>by
  obtain⟨y,hy⟩:=(u.has x).1 (by simp [hx]);have:=(Q0Q hy hp (by rw [e,I5])).1;exact AD.1 (this ▸ hx)
 have hm:∀x∈l,x.st=1->x∈l.set i q:=fun x hx KH=>(Q5f _ hi hx).resolve_right fun e=>by subst e;omega
 refine⟨⟨r,by rw [J5O BJ];exact r1,r2,r3,r4,r5,r6⟩,fun j x hx hj Gd=>?_,fun id=>⟨(u.xc id).1,fun Aa=>?_⟩,AD.2,fun x=>?_,?_⟩
 ·by_cases e:i=j
  ·subst e;rw [J5W (J2y.1 hi).1] at hx;cases hx;exact absurd Gd q1
  ·rw [J5O e] at hx;obtain⟨g,g1,g2,g3,g4⟩:=u.live j x hx hj Gd;exact⟨g,hm g g1 g2,g2,g3,g4⟩
 ·obtain⟨x,hx,KH,he⟩:=(u.xc id).2 Aa;exact⟨x,hm x hx KH,KH,he⟩
 ·by_cases e:x%256=i
  ·rw [Q0A _ hi,if_pos e,if_neg (by omega)]
   constructor
   ·exact fun hx=>absurd e (Fd x hx)
   ·rintro⟨_,h⟩;cases h
  ·rw [hz x e,<- u.has x,J2m]
   constructor
   ·exact .inr
   ·rintro (rfl|hx)
    ·exact absurd I5.symm e
    ·exact hx
 ·refine EB.2.imp_of_mem ?_;intro a b ha hb Dh x y hx hy;rw [hz a (Fd a ha)] at hx;rw [hz b (Fd b hb)] at hy;exact Dh x y hx hy
theorem Inv.last {P:PL} {l:List Pl} {fr:List Nat} {xc:Int->Int} {zs:List Nat} {h:Nat} (v:Inv P l fr xc (h::zs)) {p:Pl} (hp:pget l 2 h=some p) (hk:p.kind=1) :
  p.own≠0/\(∀r∈l,r.is=true->r.fac≠p.own)/\∃c,find P.q.E p.own=some c/\c.q.charged=0/\c.q.given=0/\c.q.kids=0/\c.q.parent=p.fac:=by
 obtain⟨hi,hn,hs⟩:=pget_some.1 hp;have Ae:=v.mem.pool.q.ids;have BQ:=Q0z hp;have Cr:p.is=true:=Pl.is_iff.2 (.inr hs);obtain⟨r,r1,r2,r3,r4,r5,r6⟩:=v.que.root;have h0:p.own≠0:=by
  intro e;have:=v.tre.inj Ae hi r1 Cr (Pl.is_iff.2 (.inl r4)) hk r2 (by omega);rw [this,r1] at hi;cases hi;omega
 have live1:∀x∈l,x.st=1->x.fac≠p.own:=by
  intro x hx Gd e;obtain⟨j,hj⟩:=J4V.1 hx;by_cases G0:j=0
  ·subst G0;rw [r1] at hj;cases hj;omega
  ·obtain⟨g,g1,g2,g3,g4⟩:=v.que.live j x hj G0 Gd;obtain⟨k,BC⟩:=J4V.1 g1;have:=v.tre.inj Ae BC hi (Pl.is_iff.2 (.inl g2)) Cr g3 hk (by omega);subst this;rw [BC] at hi;cases hi;omega
 obtain⟨c,hc⟩:=v.tre.acc BQ Cr hk;obtain⟨c1,c2⟩:=(v.tre.par p BQ Cr hk c hc).2 h0;have Ar:∀x∈l,x.is=true->x.fac≠p.own:=by
  intro x hx Om;rcases Pl.is_iff.1 Om with Gd|Gd
  ·exact live1 x hx Gd
  ·obtain⟨j,hj⟩:=J4V.1 hx;have Ci:j<256:=by have:=(J2y.1 hj).1;rw [v.len] at this;exact this
   have Kh:pget l 2 (nm j x)=some x:=pget_some.2 ⟨by rw [Q1y Ci];exact hj,by rw [Q1y Ci],Gd⟩;rcases J2m.1 ((v.que.has _).2 ⟨x,Kh⟩) with e|hz
   ·rw [e,hp] at Kh;cases Kh;omega
   ·exact (J2I.1 v.que.ord).1 _ hz p x hp Kh hk
 refine⟨h0,Ar,c,hc,?_,?_,?_,c1⟩
 ·rw [v.tre.charged _ c hc,Q2p fun x hx Om e=>Ar x hx Om (by omega)];by_cases hx:xc p.own=0
  ·omega
  ·obtain⟨x,Dg,EV,Lq⟩:=(v.que.xc p.own).2 hx;exact absurd (by omega) (live1 x Dg EV)
 all_goals
  have hz:=Q2S (E:=P.q.E) (a:=(p.own:Int)) (by
   intro y hy e;have hm:y.id∈Q8Z l:=v.tre.ids.mem_iff.1 (J2Z hy);obtain⟨x,hx,JE⟩:=J2w.1 hm;unfold ownF at JE;split at JE
   ·rename_i AT;simp only [J2C,beq_iff_eq] at AT;have OJ:(x.own:Int)=y.id:=J3e JE;have Vc:find P.q.E x.own=some y:=by rw [OJ];exact Q4f Ae hy
    obtain⟨b1,b2⟩:=v.tre.par x hx AT.1 AT.2 y Vc;by_cases Cj:x.own=0
    ·have:=b1 Cj;omega
    ·have:=(b2 Cj).1;exact Ar x hx AT.1 (by omega)
   ·cases JE)
  have hg:=v.tre.given _ c hc;omega
def Kept (m m':List Nat) (a n:Nat):Prop:=∀i,a<=i->i<a+n->m'[i]?=m[i]?
theorem Kept.word {m m':List Nat} {a:Nat} (h:Kept m m' a 8):Q0u m' a=Q0u m a:=by
 unfold Q0u;congr 1
 apply J3P
 intro i;rw [J4k,J4k];split
 ·rw [J4J,J4J];exact h _ (by omega) (by omega)
 ·rfl
theorem Kept.sub {m m':List Nat} {a n b k:Nat} (h:Kept m m' a n) (h1:a<=b) (h2:b+k<=a+n):Kept m m' b k:=fun i h3 h4=>h i (by omega) (by omega)
theorem Q1E {m bs:List Nat} {a b n:Nat} (hl:a+bs.length<=m.length) (h:b+n<=a∨a+bs.length<=b):Kept m (put_ m a bs) b n:=fun i h1 h2=>by
 rw [Q6d _ _ _ hl];split
 ·rfl
 ·rw [if_neg (by omega)]
theorem Q7v {m bs:List Nat} {a:Nat} (hl:a+bs.length<=m.length) {i:Nat} (hi:i<bs.length):(put_ m a bs)[a+i]?=bs[i]?:=by
 rw [Q6d _ _ _ hl,if_neg (by omega),if_pos (by omega)];congr 1;omega
theorem Kept.trans {m m1 m2:List Nat} {a n:Nat} (h:Kept m m1 a n) (k:Kept m1 m2 a n):Kept m m2 a n:=fun i h1 h2=>(k i h1 h2).trans (h i h1 h2)
theorem Kept.refl (m:List Nat) (a n:Nat):Kept m m a n:=fun _ _ _=>rfl
theorem Q5x {P:PL} {fr:List Nat} (ok:P.Ok fr) {k a:Nat} (ha:a∈P.usedOf k):∃g∈P.pages,1024*g+64<=a/\a+Q0c k<=1024*g+1024:=by
 obtain⟨c,hc,ha⟩:=Q2z ha;obtain⟨k1,k2,_,_⟩:=PL.Cls.facts ok hc;obtain⟨x,hx,x1,x2⟩:=Q8d k1 ha;rw [k2] at x2;refine⟨x.2,?_,x1,x2⟩;exact J2H.2 ⟨c,J4v hc.2,J2Z hx⟩
theorem Q4D {P:PL} {fr:List Nat} (ok:P.Ok fr):fr.Nodup/\(∀g∈fr,g∉P.pages)/\∀g∈fr,g<2 ^ P.d.top:=by
 have h:=(ok.pages.nodup_iff).2 ok.d.nd;obtain⟨h1,h2,h3⟩:=J3a.1 h;exact⟨h1,fun g hg hp=>h3 g hg g hp rfl,fun g hg=>ok.d.lt g (ok.pages.mem_iff.1 (by simp [hg]))⟩
theorem Q2B {P:PL} {fr:List Nat} (ok:P.Ok fr) {k a g:Nat} (hg:g∈fr) (ha:a∈P.usedOf k):a+Q0c k<=1024*g∨1024*g+1024<=a:=by
 obtain⟨p,hp,h1,h2⟩:=Q5x ok ha;have:g≠p:=fun e=>(Q4D ok).2.1 g hg (e ▸ hp)
 omega
theorem Z5k {P:PL} {fr:List Nat} (ok:P.Ok fr) {g:Nat} (hg:g∈fr):1024*g+1024<=P.a.mem.length:=by
 have:=(Q4D ok).2.2 g hg;rw [ok.mem,J3I,show (2:Nat) ^ 10=1024 from rfl];omega
theorem Z5l (n:Nat):Q0c n%8=0:=by
 by_cases h:n<8
 ·have hn:n=0∨n=1∨n=2∨n=3∨n=4∨n=5∨n=6∨n=7:=by omega
  rcases hn with rfl|rfl|rfl|rfl|rfl|rfl|rfl|rfl <;> decide
 ·rw [Q6e (by omega)]
theorem Q2q {P:PL} {fr:List Nat} (ok:P.Ok fr) {k a:Nat} (ha:a∈P.usedOf k):a%8=0:=by
 obtain⟨c,hc,ha⟩:=Q2z ha;obtain⟨_,k2,_,_⟩:=PL.Cls.facts ok hc;unfold CA.used at ha;obtain⟨x,_,ha⟩:=J2H.1 ha;unfold Q1p at ha;obtain⟨i,_,rfl⟩:=J2n.1 ha;unfold addr;rw [k2];have h0:=Z5l k;have:i*Q0c k%8=0:=by rw [Nat.mul_mod,h0];simp
 omega
theorem Q1X {P:PL} {fr:List Nat} (ok:P.Ok fr) {k a:Nat} (ha:a∈P.usedOf k):1<=k/\k<=7:=by
 obtain⟨c,hc,_⟩:=Q2z ha;exact⟨hc.1,(PL.Cls.facts ok hc).2.2.2⟩
structure SameP (P P':PL):Prop where
 p:P'.p=P.p
 qt:P'.q.t=P.q.t
 db:P'.d.b=P.d.b
 aa:P'.a.a=P.a.a
 amb:P'.a.mb=P.a.mb
 top:P'.d.top=P.d.top
 len:P'.a.mem.length=P.a.mem.length
theorem SameP.refl (P:PL):SameP P P:=⟨rfl,rfl,rfl,rfl,rfl,rfl,rfl⟩
theorem SameP.trans {P P1 P2:PL} (h:SameP P P1) (k:SameP P1 P2):SameP P P2:=
 ⟨k.p.trans h.p,k.qt.trans h.qt,k.db.trans h.db,k.aa.trans h.aa,k.amb.trans h.amb,k.top.trans h.top,k.len.trans h.len⟩
structure GotM (P:PL) (fr:List Nat) (own:Int) (k a:Nat) (P':PL) (fr':List Nat):Prop where
 ok:P'.Ok fr'
 same:SameP P P'
 q:∃e,find P.q.E own=some e/\((costK k:Nat):Int)<=e.q.limit-(e.q.charged+e.q.given)/\P'.q={P.q with E:=upd P.q.E own {e.q with charged:=e.q.charged+((costK k:Nat):Int)}}
 mem:P'.a.mem=put_ P.a.mem a (List.replicate (costK k) 0)
 used:k≠8->(P'.usedOf k).Perm (a::P.usedOf k)
 other:∀j,j≠k->P'.usedOf j=P.usedOf j
 frs:if k=8 then ∃g,a=1024*g/\fr'=g::fr else fr'=fr
 few:P'.d.ps.length<=P.d.ps.length+1
theorem GetOk.gotM {P P':PL} {fr:List Nat} {own:Int} {n a:Nat} (g:GetOk P fr own n a P') (ok:P.Ok fr):GotM P fr own n a P' fr:=by
 obtain⟨c,c',h1,h2,h3⟩:=g.which;obtain⟨A,B,u1,u2⟩:=g.used;have ha:a∈P'.usedOf n:=by rw [u2];simp
 have hn:=Q1X g.ok ha;have Eb:costK n=Q0c n:=by unfold costK;rw [if_neg (by omega)]
 obtain⟨e,q1,q2,q3⟩:=g.q;refine⟨g.ok,⟨g.p,g.qt,g.db,g.aa,g.amb,g.top,?_⟩,⟨e,q1,by rw [Eb];exact q2,by rw [Eb];exact q3⟩,by rw [Eb];exact g.mem,fun _=>?_,g.other,by rw [if_neg (by omega)],?_⟩
 ·rw [g.ok.mem,ok.mem,g.top]
 ·rw [u1,u2];exact J5L
 ·rcases h3.pages with ⟨_,e⟩|⟨p,_,_,e⟩
  ·rw [e];omega
  ·rw [e];simp
theorem GotM.room {P P':PL} {fr fr':List Nat} {own:Int} {k a:Nat} (g:GotM P fr own k a P' fr'):a+costK k<=P.a.mem.length/\a%8=0:=by
 by_cases h:k=8
 ·have hf:=g.frs;rw [if_pos h] at hf;obtain⟨x,rfl,hx⟩:=hf;have:=Z5k g.ok (g:=x) (by rw [hx];simp);rw [g.same.len] at this;have:costK k=1024:=by unfold costK;rw [if_pos h]
  omega
 ·have ha:a∈P'.usedOf k:=(g.used h).mem_iff.2 (by simp);have h1:=Q0m g.ok ha;have:costK k=Q0c k:=by unfold costK;rw [if_neg h]
  have h2:=Q2q g.ok ha;have h3:=g.same.len;omega
theorem GotM.apart {P P':PL} {fr fr':List Nat} {own:Int} {k a:Nat} (g:GotM P fr own k a P' fr') (ok:P.Ok fr):(∀j b,b∈P.usedOf j->a+costK k<=b∨b+Q0c j<=a)/\∀x∈fr,a+costK k<=1024*x∨1024*x+1024<=a:=by
 by_cases h:k=8
 ·have Eb:costK k=1024:=by unfold costK;rw [if_pos h]
  have hf:=g.frs;rw [if_pos h] at hf;obtain⟨y,rfl,hy⟩:=hf;have Jn:y∈fr':=by rw [hy];simp
  refine⟨fun j b hb=>?_,fun x hx=>?_⟩
  ·have hj:=Q1X ok hb;have Al:b∈P'.usedOf j:=by rw [g.other j (by omega)];exact hb
   have:=Q2B g.ok Jn Al;omega
  ·have AD:=(Q4D g.ok).1;rw [hy] at AD;have:x≠y:=fun e=>(J3d.1 AD).1 (e ▸ hx)
   omega
 ·have Eb:costK k=Q0c k:=by unfold costK;rw [if_neg h]
  have hf:=g.frs;rw [if_neg h] at hf;have ha:a∈P'.usedOf k:=(g.used h).mem_iff.2 (by simp);refine⟨fun j b hb=>?_,fun x hx=>?_⟩
  ·rw [Eb];by_cases e:j=k
   ·subst e;have AD:(P'.usedOf j).Nodup:=(Q2b g.ok j).imp fun h=>Nat.ne_of_lt h
    have QQ:=(g.used h).nodup_iff.1 AD;have Aa:a≠b:=fun e=>(J3d.1 QQ).1 (e ▸ hb)
    have Al:b∈P'.usedOf j:=(g.used h).mem_iff.2 (by simp [hb]);exact Q3D g.ok ha Al (fun e=>Aa e.2)
   ·have Al:b∈P'.usedOf j:=by rw [g.other j e];exact hb
    exact Q3D g.ok ha Al (fun e'=>e e'.1.symm)
  ·rw [Eb];exact Q2B g.ok (by rw [hf];exact hx) ha
theorem GotM.grewM {P P':PL} {fr fr':List Nat} {own:Int} {k a:Nat} (g:GotM P fr own k a P' fr') (ok:P.Ok fr) (hk:k≠1):J0m P fr k a 0 P' fr':=by
 have hr:=g.room.1;refine⟨g.ok,g.used,g.other,g.frs,fun b hb=>?_,fun h=>absurd h hk⟩;have h1:=(g.apart ok).1 1 b hb;rw [g.mem];exact (Q1E (by rw [J2r];exact hr) (by rw [J2r];have:Q0c 1=64:=rfl;omega)).word
theorem GotM.grewF {P P' P2:PL} {fr fr':List Nat} {own:Int} {a:Nat} (g:GotM P fr own 1 a P' fr') (ok:P.Ok fr) {x:Nat} (hx:x<18446744073709551616) (hm:P2.a.mem=put_ P'.a.mem a (Q0d x)) (hu:∀j,P2.usedOf j=P'.usedOf j) (AY:P2.Ok fr'):J0m P fr 1 a x P2 fr':=by
 have hr:=g.room.1;have D4:costK 1=64:=rfl;have Ha:(Q0d x).length=8:=rfl;have hl:=g.same.len;refine⟨AY,fun h=>by rw [hu];exact g.used h,fun j hj=>by rw [hu];exact g.other j hj,g.frs,fun b hb=>?_,fun _=>?_⟩
 ·have h1:=(g.apart ok).1 1 b hb;have Sd:Q0c 1=64:=rfl;have k1:Kept P.a.mem P'.a.mem b 8:=by
   rw [g.mem];exact Q1E (by rw [J2r];exact hr) (by rw [J2r];omega)
  have k2:Kept P'.a.mem P2.a.mem b 8:=by
   rw [hm];exact Q1E (by rw [Ha];omega) (by rw [Ha];omega)
  exact (k1.trans k2).word
 ·rw [hm];unfold Q0u;have:((put_ P'.a.mem a (Q0d x)).drop a).take 8=Q0d x:=by
   apply J3P
   intro i;rw [J4k];split
   ·rw [J4J];exact Q7v (by rw [Ha];omega) (by rw [Ha];assumption)
   ·rw [J3W (by rw [Ha];omega)]
  rw [this];exact Q3B x hx
structure BackM (P:PL) (fr:List Nat) (own:Int) (k a:Nat) (P':PL) (fr':List Nat):Prop where
 ok:P'.Ok fr'
 same:SameP P P'
 q:∃e,find P.q.E own=some e/\((costK k:Nat):Int)<=e.q.charged/\P'.q={P.q with E:=upd P.q.E own {e.q with charged:=e.q.charged-((costK k:Nat):Int)}}
 mem:P'.a.mem=P.a.mem
 used:k≠8->(P.usedOf k).Perm (a::P'.usedOf k)
 other:∀j,j≠k->P'.usedOf j=P.usedOf j
 frs:if k=8 then ∃g,a=1024*g/\fr'=fr.erase g else fr'=fr
 few:P'.d.ps.length<=P.d.ps.length
theorem BackM.goneM {P P':PL} {fr fr':List Nat} {own:Int} {k a:Nat} (g:BackM P fr own k a P' fr'):J0n P fr k a P' fr':=
 ⟨g.ok,g.used,g.other,g.frs,fun b _=>by rw [g.mem]⟩
theorem PutOk.backM {P P':PL} {fr:List Nat} {own:Int} {n a:Nat} (g:PutOk P fr own n a P') (ok:P.Ok fr):BackM P fr own n a P' fr:=by
 obtain⟨c,c',h1,h2,h3⟩:=g.which;obtain⟨A,B,u1,u2⟩:=g.used;have ha:a∈P.usedOf n:=by rw [u1];simp
 have hn:=Q1X ok ha;have Eb:costK n=Q0c n:=by unfold costK;rw [if_neg (by omega)]
 obtain⟨e,q1,q2,q3⟩:=g.q;refine⟨g.ok,⟨g.p,g.qt,g.db,by rw [g.aa],by rw [g.aa],g.top,by rw [g.aa]⟩,⟨e,q1,by rw [Eb];exact q2,by rw [Eb];exact q3⟩,by rw [g.aa],fun _=>?_,g.other,by rw [if_neg (by omega)],?_⟩
 ·rw [u1,u2];exact J5L
 ·rcases h3.pages with ⟨_,e⟩|⟨p,_,e⟩
  ·rw [e];omega
  ·rw [e];exact List.length_erase_le
theorem GotM.high {P P':PL} {fr fr':List Nat} {own:Int} {k a:Nat} (g:GotM P fr own k a P' fr') (ok:P.Ok fr) (hk:k=8∨k<=5):∀j,6<=j->(P'.usedOf j).Perm (P.usedOf j):=fun j hj=>by
 by_cases e:j=k
 ·have h8:j=8:=by omega
  rw [Q1W g.ok (by rw [h8];rfl),Q1W ok (by rw [h8];rfl)]
 ·rw [g.other j e]
theorem BackM.high {P P':PL} {fr fr':List Nat} {own:Int} {k a:Nat} (g:BackM P fr own k a P' fr') (ok:P.Ok fr) (hk:k=8∨k<=5):∀j,6<=j->(P'.usedOf j).Perm (P.usedOf j):=fun j hj=>by
 by_cases e:j=k
 ·have h8:j=8:=by omega
  rw [Q1W g.ok (by rw [h8];rfl),Q1W ok (by rw [h8];rfl)]
 ·rw [g.other j e]
abbrev x0:Int->Int:=fun _=>0
def KeptL (m m':List Nat) (l:List Pl):Prop:=∀r∈l,r.is=true->Kept m m' r.at_ (costK r.kind)
theorem costK_8:costK 8=1024:=rfl
theorem Q1T {k:Nat} (h:k≠8):costK k=Q0c k:=by unfold costK;rw [if_neg h]
theorem KeptL.of_apart {P:PL} {l:List Pl} {fr:List Nat} (m:MemI P l fr) {a n:Nat} {m':List Nat} (hm:∀b k,b+k<=a∨a+n<=b->Kept P.a.mem m' b k)
  (h:(∀j b,b∈P.usedOf j->a+n<=b∨b+Q0c j<=a)/\∀x∈fr,a+n<=1024*x∨1024*x+1024<=a):KeptL P.a.mem m' l:=fun r hr Au=>by
 by_cases h8:r.kind=8
 ·obtain⟨g,hg,e⟩:=m.frame hr Au h8;have:=h.2 g hg;rw [h8,costK_8];exact hm _ _ (by omega)
 ·have hu:=m.used hr Au h8;have:=h.1 _ _ hu;rw [Q1T h8];exact hm _ _ (by omega)
theorem Inv.kind {P:PL} {l:List Pl} {fr:List Nat} {xc:Int->Int} {zs:List Nat} (v:Inv P l fr xc zs) {s h:Nat} {p:Pl} (hp:pget l s h=some p) (hs:s=1∨s=2):p.kind=8∨(1<=p.kind/\p.kind<=5):=
 v.mem.kind p (Q0z hp) (Pl.is_iff.2 (by have:=(pget_some.1 hp).2.2;omega))
theorem Q9a {l:List Pl} {i:Nat} {q:Pl} (h:∀p∈l,p.st<=2/\p.age<=1048575) (hq:q.st<=2/\q.age<=1048575):∀p∈l.set i q,p.st<=2/\p.age<=1048575:=fun p hp=>by
 rcases Q0o hp with rfl|hp
 ·exact hq
 ·exact h p hp
theorem GotM.keptL {P P':PL} {l:List Pl} {fr fr':List Nat} {own:Int} {k a:Nat} (g:GotM P fr own k a P' fr') (m:MemI P l fr):KeptL P.a.mem P'.a.mem l:=
 KeptL.of_apart m (n:=costK k) (a:=a) (fun b j h=>by
  rw [g.mem];exact Q1E (by rw [J2r];exact g.room.1) (by rw [J2r];exact h)) (g.apart m.pool)
def Z5m (P P':PL):Prop:=∀j a,6<=j->a∈P.usedOf j->Kept P.a.mem P'.a.mem a (Q0c j)
theorem GotM.keptH {P P':PL} {fr fr':List Nat} {own:Int} {k a:Nat} (g:GotM P fr own k a P' fr') (ok:P.Ok fr):Z5m P P':=fun j b _ hb=>by
 have:=(g.apart ok).1 j b hb;rw [g.mem];exact Q1E (by rw [J2r];exact g.room.1) (by rw [J2r];omega)
theorem Inv.addN {P P':PL} {l:List Pl} {fr fr':List Nat} {xc:Int->Int} {zs:List Nat} (v:Inv P l fr xc zs) {i k a h:Nat} {p f:Pl} (g:GotM P fr f.own k a P' fr') (hi:l[i]?=some p) (hp:p.st=0) (hk:k=8∨(2<=k/\k<=5)) (hf:pget l 1 h=some f) (Dp:f.kind=1) :
  Inv P' (l.set i ⟨k,a,f.own,1,p.age,0⟩) fr' xc zs:=by
 have FI:p.is=false:=Pl.not_is.2 ⟨by omega,by omega⟩;obtain⟨e,q1,q2,q3⟩:=g.q;refine⟨by rw [J3T];exact v.len,Q9a v.st ⟨by show (1:Nat)<=2;omega,(v.st p (J4v hi)).2⟩,?_,?_,?_⟩
 ·exact v.mem.add (q:=⟨k,a,f.own,1,p.age,0⟩) (g.grewM v.mem.pool (by omega)) hi FI rfl (by show k=8∨(1<=k/\k<=5);omega)
 ·rw [q3];exact v.tre.addN (q:=⟨k,a,f.own,1,p.age,0⟩) v.mem.pool.q.ids hi FI rfl (by show k≠1;omega) q1
 ·exact v.que.add hi hp rfl (Q0z hf) (pget_some.1 hf).2.2 Dp rfl
theorem TreI.parent_lt {E:List (En Fa)} {l:List Pl} {xc:Int->Int} (t:TreI E l xc) (Ae:E.Pairwise (fun a b=>a.id≠b.id)) {N:Int} (h0:0<N) (hN:∀id e,find E id=some e->0<=id/\id<N) {x:En Fa} (hx:x∈E):x.q.parent<N/\x.q.parent≠N:=by
 have hm:x.id∈Q8Z l:=t.ids.mem_iff.1 (J2Z hx);obtain⟨p,hp,Ip⟩:=J2w.1 hm;unfold ownF at Ip;split at Ip
 ·rename_i hc;simp only [J2C,beq_iff_eq] at hc;have hid:(p.own:Int)=x.id:=J3e Ip;have Gm:find E p.own=some x:=by rw [hid];exact Q4f Ae hx
  obtain⟨b1,b2⟩:=t.par p hp hc.1 hc.2 x Gm;have:=hN _ _ Gm;by_cases Cj:p.own=0
  ·have:=b1 Cj;omega
  ·have:=b2 Cj;omega
 ·cases Ip
theorem Inv.addF {P P' P2:PL} {l:List Pl} {fr fr':List Nat} {xc:Int->Int} {zs:List Nat} (v:Inv P l fr xc zs) {i a h b x:Nat} {limit:Int} {p f:Pl} {e:En Fa} (g:GotM P fr f.own 1 a P' fr') (hi:l[i]?=some p) (hp:p.st=0) (hf:pget l 1 h=some f) (Dp:f.kind=1)
  (hx:(x:Int)=P.q.next) (he:find P.q.E f.own=some e)
  (hq:P2.q.E=upd P.q.E f.own {e.q with charged:=e.q.charged+64,given:=e.q.given+limit,kids:=e.q.kids+1}++[⟨x,b,⟨limit,0,0,f.own,0⟩⟩]) (hm:P2.a.mem=put_ P'.a.mem a (Q0d x)) (hu:∀j,P2.usedOf j=P'.usedOf j) (AY:P2.Ok fr') :
  Inv P2 (l.set i ⟨1,a,f.own,1,p.age,x⟩) fr' xc zs:=by
 have FI:p.is=false:=Pl.not_is.2 ⟨by omega,by omega⟩;have Ae:=v.mem.pool.q.ids;have hN:∀id e,find P.q.E id=some e->0<=id/\id<P.q.next:=fun id e h=>by
  have:=v.mem.pool.q.fa id e h;exact⟨this.2.2.2.2.2.2.1,this.2.2.2.2.2.2.2⟩
 have Dq:=v.mem.pool.q.next1;have Ar:find P.q.E (x:Int)=none:=by
  cases hc:find P.q.E (x:Int) with
  | none=>rfl
  | some y=>have:=hN _ _ hc;omega
 have Ab:f.own<x:=by have:=hN _ _ he;omega
 refine⟨by rw [J3T];exact v.len,Q9a v.st ⟨by show (1:Nat)<=2;omega,(v.st p (J4v hi)).2⟩,?_,?_,?_⟩
 ·exact v.mem.add (q:=⟨1,a,f.own,1,p.age,x⟩) (g.grewF v.mem.pool (by show x<_;omega) hm hu AY) hi FI rfl (.inr ⟨J2h 1,by show (1:Nat)<=5;omega⟩)
 ·rw [hq];refine v.tre.addF (q:=⟨1,a,f.own,1,p.age,x⟩) Ae hi FI rfl rfl he Ar Ab ?_ (fun y hy=>?_) (fun r hr Au=>?_)
  ·apply Classical.byContradiction
   intro Aa;obtain⟨r,hr,hs,LL⟩:=(v.que.xc (x:Int)).2 Aa;obtain⟨y,hy⟩:=v.tre.fac r hr (Pl.is_iff.2 (.inl hs));rw [LL,Ar] at hy;cases hy
  ·have:=(v.tre.parent_lt Ae v.mem.pool.q.next0 hN hy).2;show y.q.parent≠(x:Int);rw [hx];exact this
  ·obtain⟨y,hy⟩:=v.tre.fac r hr Au;have:=hN _ _ hy;show r.fac≠x;omega
 ·exact v.que.add hi hp rfl (Q0z hf) (pget_some.1 hf).2.2 Dp rfl
theorem Inv.doom {P:PL} {l:List Pl} {fr:List Nat} {xc:Int->Int} {zs:List Nat} (v:Inv P l fr xc zs) {h:Nat} {p:Pl} (hp:pget l 1 h=some p) (h0:h≠0) (hk:kids l h=[]) (GG:∀id,xc id≠0->∃r∈l.set (h%256) {p with st:=2},r.st=1/\(r.fac:Int)=id):Inv P (l.set (h%256) {p with st:=2}) fr xc (zs++[h]):=by
 obtain⟨hi,hn,hs⟩:=pget_some.1 hp;have Cr:p.is=true:=Pl.is_iff.2 (.inl hs);have BQ:=J4v hi;exact⟨by rw [J3T];exact v.len,Q9a v.st ⟨by show (2:Nat)<=2;omega,(v.st p BQ).2⟩,v.mem.keep hi Cr rfl rfl rfl rfl,v.tre.keep hi Cr rfl rfl rfl rfl,
  v.que.doom (by rw [v.len];omega) v.tre v.mem.pool.q.ids hp h0 hk fun id=>⟨(v.que.xc id).1,GG id⟩⟩
def noPl (age:Nat):Pl:=⟨0,0,0,0,age,0⟩
theorem Inv.freeN {P P':PL} {l:List Pl} {fr fr':List Nat} {xc:Int->Int} {zs:List Nat} {h:Nat} (v:Inv P l fr xc (h::zs)) {p:Pl} (hp:pget l 2 h=some p) (hk:p.kind≠1) (g:BackM P fr p.fac p.kind p.at_ P' fr') (DQ:p.age+1<=1048575) :
  Inv P' (l.set (h%256) (noPl (p.age+1))) fr' xc zs:=by
 obtain⟨hi,hn,hs⟩:=pget_some.1 hp;have Cr:p.is=true:=Pl.is_iff.2 (.inr hs);obtain⟨e,q1,q2,q3⟩:=g.q;refine⟨by rw [J3T];exact v.len,Q9a v.st ⟨by show (0:Nat)<=2;omega,DQ⟩,v.mem.drop g.goneM hi Cr rfl,?_,v.que.free hp rfl⟩;rw [q3];exact v.tre.dropN v.mem.pool.q.ids hi Cr rfl hk q1
theorem Inv.freeF {P P1 P':PL} {l:List Pl} {fr fr':List Nat} {xc:Int->Int} {zs:List Nat} {h:Nat} (v:Inv P l fr xc (h::zs)) {p:Pl} (hp:pget l 2 h=some p) (hk:p.kind=1) {e c:En Fa} (he:find P.q.E p.fac=some e) (hc:find P.q.E p.own=some c)
  (h1:P1=P.setQ {P.q with E:=rem (upd P.q.E p.fac {e.q with given:=e.q.given-c.q.limit,kids:=e.q.kids-1}) p.own}) (g:BackM P1 fr p.fac 1 p.at_ P' fr') (DQ:p.age+1<=1048575) :
  Inv P' (l.set (h%256) (noPl (p.age+1))) fr' xc zs:=by
 obtain⟨hi,hn,hs⟩:=pget_some.1 hp;have Cr:p.is=true:=Pl.is_iff.2 (.inr hs);obtain⟨h0,Ar,c',AT,c1,c2,c3,c4⟩:=v.last hp hk;rw [hc] at AT;cases AT;have Ae:=v.mem.pool.q.ids;have Be:=(v.tre.par p (Q0z hp) Cr hk c hc).2 h0;have Aa:(p.own:Int)≠p.fac:=by omega
 obtain⟨y,q1,q2,q3⟩:=g.q;have Rf:P1.q.E=rem (upd P.q.E p.fac {e.q with given:=e.q.given-c.q.limit,kids:=e.q.kids-1}) p.own:=by rw [h1];rfl
 have pw1:(upd P.q.E p.fac {e.q with given:=e.q.given-c.q.limit,kids:=e.q.kids-1}).Pairwise (fun a b=>a.id≠b.id):=Q0N _ _ (fun a b a' b' _ h1 _ h2 h=>by rw [<- h1,<- h2];exact h) Ae;have hy:y.q={e.q with given:=e.q.given-c.q.limit,kids:=e.q.kids-1}:=by
  rw [Rf,Q2m pw1,if_neg (fun h=>Aa h.symm),Q0i he] at q1;cases q1;rfl
 refine⟨by rw [J3T];exact v.len,Q9a v.st ⟨by show (0:Nat)<=2;omega,DQ⟩,?_,?_,v.que.free hp rfl⟩
 ·have gm:J0n P fr p.kind p.at_ P' fr':=by
   have:=g.goneM;rw [hk];refine⟨this.pool,fun h=>?_,fun j hj=>?_,this.frs,fun b hb=>?_⟩
   ·have:=this.used h;rw [h1] at this;exact this
   ·have:=this.other j hj;rw [h1] at this;exact this
   ·have:=this.mem b hb;rw [h1] at this;exact this
  exact v.mem.drop gm hi Cr rfl
 ·rw [q3];show TreI (upd P1.q.E _ _) _ _;rw [Rf,hy];have:=v.tre.dropF Ae hi Cr (q:=noPl (p.age+1)) rfl hk h0 he hc Ar;rw [hk] at this;exact this
structure Tried (P:PL) (fr:List Nat) (l:List Pl) (P':PL):Prop where
 ok:P'.Ok fr
 same:SameP P P'
 q:P'.q=P.q
 used:∀k,(P'.usedOf k).Perm (P.usedOf k)
 ps:P'.d.ps.Perm P.d.ps
 mem:KeptL P.a.mem P'.a.mem l
 memH:Z5m P P'
theorem Tried.refl {P:PL} {fr:List Nat} (ok:P.Ok fr) (l:List Pl):Tried P fr l P:=⟨ok,SameP.refl P,rfl,fun _=>J5A _,J5A _,fun _ _ _=>Kept.refl _ _ _,fun _ _ _ _=>Kept.refl _ _ _⟩
theorem Q5g {P:PL} {fr:List Nat} (ok:P.Ok fr) (g:Nat):g∈P.pages↔∃k a,a∈P.usedOf k/\a/1024=g:=by
 constructor
 ·intro hg;obtain⟨c,hc,Cj⟩:=J2H.1 hg;obtain⟨x,hx,rfl⟩:=J2n.1 Cj;obtain⟨k,hk⟩:=J4V.1 hc;have I1:P.Cls (k+1) c:=⟨by omega,by simpa using hk⟩
  obtain⟨k1,k2,_,_⟩:=PL.Cls.facts ok I1;have hb:=ok.busy c hc x hx;obtain⟨i,hi⟩:∃i,i∈Q3c x.1.bits:=by
   cases ht:Q3c x.1.bits with
   | nil =>
    exfalso
    apply hb
    have:cntB x.1.bits=(Q3c x.1.bits).length:=(Q6b _).symm;rw [this,ht];rfl
   | cons i r=>exact⟨i,by simp⟩
  have hu:addr c.size x.2 i∈c.used:=J2H.2 ⟨x,hx,J2Z hi⟩;refine⟨k+1,addr c.size x.2 i,by rw [Q0T I1];exact hu,?_⟩;have C1:i<x.1.bits.length:=by
   have:=mem_trues.1 hi;rcases J4P i x.1.bits.length with e|e
   ·exact e
   ·rw [J3W e] at this;cases this
  have D1:=k1.s0;have hp:=Q4y (s:=c.size) (by omega) C1 (k1.many x hx);unfold addr;omega
 ·rintro⟨k,a,ha,rfl⟩;obtain⟨p,hp,h1,h2⟩:=Q5x ok ha;have:=Q1X ok ha;have:=Q8h this.1 this.2;have e:a/1024=p:=by omega
  rw [e];exact hp
theorem J0o {P P':PL} {fr fr':List Nat} (ok:P.Ok fr) (ok':P'.Ok fr') (hu:∀k,(P'.usedOf k).Perm (P.usedOf k)) (hf:fr'.Perm fr):P'.d.ps.Perm P.d.ps:=by
 have h1:=(ok.pages.nodup_iff).2 ok.d.nd;have h2:=(ok'.pages.nodup_iff).2 ok'.d.nd;have hp:P'.pages.Perm P.pages:=by
  rw [List.perm_ext_iff_of_nodup (J3a.1 h2).2.1 (J3a.1 h1).2.1];intro g;rw [Q5g ok',Q5g ok]
  constructor
  ·rintro⟨k,a,ha,e⟩;exact⟨k,a,(hu k).mem_iff.1 ha,e⟩
  ·rintro⟨k,a,ha,e⟩;exact⟨k,a,(hu k).mem_iff.2 ha,e⟩
 exact ok'.pages.symm.trans ((hf.append hp).trans ok.pages)
theorem GotM.back {P P' P2:PL} {l:List Pl} {fr fr' fr2:List Nat} {own:Int} {k a:Nat} (g:GotM P fr own k a P' fr') (m:MemI P l fr) (b:BackM P' fr' own k a P2 fr2):Tried P fr l P2:=by
 obtain⟨e,q1,q2,q3⟩:=g.q;obtain⟨e',r1,r2,r3⟩:=b.q;have Ae:=m.pool.q.ids;have hE:P'.q.E=upd P.q.E own {e.q with charged:=e.q.charged+((costK k:Nat):Int)}:=by rw [q3]
 have AL:e'={e with q:={e.q with charged:=e.q.charged+((costK k:Nat):Int)}}:=by
  rw [hE,Q0i q1] at r1;exact (J3e r1).symm
 have hq:P2.q=P.q:=by
  have h1:upd P'.q.E own {e'.q with charged:=e'.q.charged-((costK k:Nat):Int)}=P.q.E:=by
   rw [hE,upd_upd,AL];have:({e.q with charged:=e.q.charged+((costK k:Nat):Int)-((costK k:Nat):Int)}:Fa)=e.q:=by
    rw [J5P]
   show upd P.q.E own ({e.q with charged:=e.q.charged+((costK k:Nat):Int)-((costK k:Nat):Int)}:Fa)=_;rw [this];exact Z4z Ae q1
  rw [r3,h1,q3]
 have hu:∀j,(P2.usedOf j).Perm (P.usedOf j):=fun j=>by
  by_cases e:j=k
  ·subst e;by_cases h8:j=8
   ·have z:∀{Q:PL} {f:List Nat},Q.Ok f->Q.usedOf j=[]:=fun hQ=>Q1W hQ (by rw [h8];rfl)
    rw [z b.ok,z m.pool]
   ·have h1:=(g.used h8).symm.trans (b.used h8);exact (J5U h1).symm
  ·rw [b.other j e,g.other j e]
 have CJ:fr2=fr:=by
  have h1:=g.frs;have h2:=b.frs;by_cases h8:k=8
  ·rw [if_pos h8] at h1 h2;obtain⟨x,rfl,hx⟩:=h1;obtain⟨y,hy,rfl⟩:=h2;have:x=y:=by omega
   subst this;rw [hx];simp
  ·rw [if_neg h8] at h1 h2;rw [h2,h1]
 have AY:P2.Ok fr:=by rw [<- CJ];exact b.ok
 exact⟨AY,g.same.trans b.same,hq,hu,J0o m.pool AY hu (J5A _),fun r hr Au=>by rw [b.mem];exact g.keptL m r hr Au,fun j c hj hc=>by rw [b.mem];exact g.keptH m.pool j c hj hc⟩
theorem Inv.tried {P P':PL} {l:List Pl} {fr:List Nat} {xc:Int->Int} {zs:List Nat} (v:Inv P l fr xc zs) (t:Tried P fr l P'):Inv P' l fr xc zs:=by
 refine⟨v.len,v.st,⟨t.ok,v.mem.kind,fun k h1 h5=>(v.mem.ats k h1 h5).trans (t.used k).symm,v.mem.frs,fun r hr Au hk=>?_⟩,by rw [t.q];exact v.tre,v.que⟩;have:=t.mem r hr Au;rw [hk] at this;rw [(this.sub (J2h _) (by show r.at_+8<=r.at_+64;omega)).word];exact v.mem.word r hr Au hk
structure HT where
 t:Nat
 l:List Pl
def Pl.cells (p:Pl):List Value:=[.int .i64 (p.kind:Int),.int .i64 (p.at_:Int),.int .i64 (p.fac:Int),.int .i64 (p.st:Int),.int .u32 (p.age:Int)]
def HT.hl (h:HT):HL:=[(h.t,isC 264 (h.l.flatMap Pl.cells))]
theorem Q4g:∀{l:List Pl} {i:Nat} {p:Pl},l[i]?=some p->∀(j:Nat) (v:Value),j<5->p.cells[j]?=some v->(l.flatMap Pl.cells)[i*5+j]?=some v
 | [],i,p,h,j,v,_,_=>by simp at h
 | x::r,0,p,h,j,v,hj,hv=>by
  simp at h;subst h;rw [J2E,J5X,J4L,J5u (by simpa [Pl.cells] using hj)];exact hv
 | x::r,i+1,p,h,j,v,hj,hv=>by
  rw [J5t] at h;have:=Q4g (l:=r) h j v hj hv;rw [J2E,J5v (by simp [Pl.cells];omega)];rw [<- this];congr 1;simp [Pl.cells];omega
theorem Q4h:∀{l:List Pl} {i:Nat} {p q:Pl},l[i]?=some p->∀(j:Nat) (v:Value),j<5->p.cells.set j v=q.cells->(l.flatMap Pl.cells).set (i*5+j) v=(l.set i q).flatMap Pl.cells
 | [],i,p,q,h,j,v,_,_=>by simp at h
 | x::r,0,p,q,h,j,v,hj,hv=>by
  simp at h;subst h;rw [J2E,J5X,J4L,List.set_append_left _ _ (by simpa [Pl.cells] using hj),hv];rfl
 | x::r,i+1,p,q,h,j,v,hj,hv=>by
  rw [J5t] at h;have:=Q4h (l:=r) h j v hj hv;rw [J2E,J5Y _ _ (by simp [Pl.cells];omega)];rw [J4R,J2E,<- this];congr 2;simp [Pl.cells];omega
theorem J0p (l:List Pl):(l.flatMap Pl.cells).length=l.length*5:=by
 induction l with
 | nil=>rfl
 | cons x r ih=>rw [J2E,J2R,ih];simp [Pl.cells];omega
section
variable {w:World} {h:HT}
theorem HT.cells (s:Sep w h.hl):Cells w h.t 264 (h.l.flatMap Pl.cells):=s.cells (by simp [HT.hl])
theorem HT.cell (s:Sep w h.hl) {i:Nat} {p:Pl} (hi:h.l[i]?=some p):w.cell? ⟨h.t,i*5,none⟩=some (.int .i64 (p.kind:Int))/\w.cell? ⟨h.t,i*5+1,none⟩=some (.int .i64 (p.at_:Int))/\w.cell? ⟨h.t,i*5+2,none⟩=some (.int .i64 (p.fac:Int))/\w.cell? ⟨h.t,i*5+3,none⟩=some (.int .i64 (p.st:Int))/\w.cell? ⟨h.t,i*5+4,none⟩=some (.int .u32 (p.age:Int))/\∀j,w.frozen? ⟨h.t,j,none⟩=false:=
 ⟨(HT.cells s).cell (i*5) _ (Q4g hi 0 _ (by omega) rfl),(HT.cells s).cell (i*5+1) _ (Q4g hi 1 _ (by omega) rfl),(HT.cells s).cell (i*5+2) _ (Q4g hi 2 _ (by omega) rfl),(HT.cells s).cell (i*5+3) _ (Q4g hi 3 _ (by omega) rfl),(HT.cells s).cell (i*5+4) _ (Q4g hi 4 _ (by omega) rfl),(HT.cells s).free⟩
theorem HT.set (s:Sep w h.hl) {i:Nat} {p q:Pl} (hi:h.l[i]?=some p) (j:Nat) (v:Value) (hj:j<5) (hq:p.cells.set j v=q.cells):Step h.hl ({h with l:=h.l.set i q}:HT).hl w (w.setCell ⟨h.t,i*5+j,none⟩ v):=by
 have:=Sep.set (A:=[]) (B:=[]) (by simpa [HT.hl] using s) (i*5+j) v;rw [Q4h hi j v hj hq] at this;exact this
end
theorem J0q (a i:Nat) (hi:i<256) (ha:a<=1048575):bits BinOp.or IntKind.u32 ((a*256:Nat):Int) (i:Int)=((a*256+i:Nat):Int):=by
 rw [u32_or_nat _ _ (by omega) (by omega)];congr 1;have:=J5B (i:=8) (b:=i) (by omega) a;rw [J5h] at this;exact this.symm
theorem Q9b (h:Nat) (hh:h<4294967296):bits BinOp.and IntKind.u32 (h:Int) 255=((h%256:Nat):Int):=by
 have:=u32_and_nat h 255 hh (by omega);rw [show ((255:Nat):Int)=255 from rfl] at this;rw [this];congr 1;exact J3M h 8
theorem Q4E {w:World} {h:HT} (s:Sep w h.hl) {i:Nat} {p:Pl} (hi:h.l[i]?=some p) (An:i<256) (ha:p.age<=1048575):Calls prog 153 #[.pointer (some ⟨h.t,0,none⟩),.int .i64 i] w fun r w'=>r=.returned (.int .u32 ((nm i p:Nat):Int))/\w=w':=by
 obtain⟨-,-,-,-,c4,-⟩:=HT.cell s hi;have HO:=Q0a (J0q p.age i An ha);unfold nm;clear s hi;generalize p.age=a at *
 go_enter func153,ntmps153
 go_wp2
 go_ret;refine⟨?_,rfl⟩;have e:=HO.out;rw [J3l] at e;exact congrArg (fun z=>Ending.returned (.int .u32 z)) e
end Go.Proofs.YtlakjlmaboioiaaGreatDoor
