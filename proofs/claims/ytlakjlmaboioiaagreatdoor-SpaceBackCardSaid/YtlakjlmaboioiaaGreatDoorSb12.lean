/- SpaceBack returns true at every input. No condition. Part of its proof. -/
import Derived.Test.YtlakjlmaboioiaaGreatDoorSb01
import Derived.Test.YtlakjlmaboioiaaGreatDoorSb11
import Derived.Test.YtlakjlmaboioiaaGreatDoorSb05
import Derived.Deep.LoopGhost
import Derived.Maps.AppendAt
import Derived.RangeFuncBox
import Derived.IntWalk
import Derived.Test.YtlakjlmaboioiaaGreatDoorSb09
import Derived.Test.YtlakjlmaboioiaaGreatDoorSb06
set_option maxHeartbeats 4000000
set_option maxRecDepth 100000
set_option linter.unusedVariables false
namespace Go.Proofs.YtlakjlmaboioiaaGreatDoor
open Go.RowKit Go.Proofs.Tryz
def Ent.c (e:Ent):Nat×Nat:=(e.h,e.r)
structure AV where
 en:Nat->Nat->Option (Nat×Nat)
 N:List (En Nd)
def avOf (l:List Pl) (tb:Nat->TB) (N:List (En Nd)):AV:=⟨fun h s=>(Q0f l tb h s).map Ent.c,N⟩
def setA (en:Nat->Nat->Option (Nat×Nat)) (h s:Nat) (o:Option (Nat×Nat)):Nat->Nat->Option (Nat×Nat):=fun h' s'=>if h'=h/\s'=s then o else en h' s'
theorem Q8V (en:Nat->Nat->Option (Nat×Nat)) (h s:Nat) (o:Option (Nat×Nat)):setA en h s o h s=o:=by unfold setA;rw [if_pos ⟨rfl,rfl⟩]
theorem Q5f {en:Nat->Nat->Option (Nat×Nat)} {h s h' s':Nat} {o:Option (Nat×Nat)} (hne:¬(h'=h/\s'=s)):setA en h s o h' s'=en h' s':=by unfold setA;rw [if_neg hne]
def less (r m:Nat):Nat:=r-(r&&&m)
theorem Q5E:∀r,r<16->∀m,m<16->less r m&&&m=0/\less r m&&&r=less r m/\less r m<=r:=by decide
theorem Q4E:∀r,r<16->less r 15=0:=by decide
theorem Z8v:∀x,x<16->∀r,r<16->∀m,m<16->x&&&r=x->x&&&m=0->x&&&less r m=x:=by decide
def weak1 (m:Nat) (a:AV) (id:Int):AV×Bool:=match find a.N id with
 | none=>(a,false)
 | some n=>match a.en n.q.sp.toNat n.q.sl.toNat with
  | none=>(a,false)
  | some c=>if less c.2 m=0 then (⟨setA a.en n.q.sp.toNat n.q.sl.toNat none,Q0B a.N n n.q.ks.length⟩,true) else (⟨setA a.en n.q.sp.toNat n.q.sl.toNat (some (c.1,less c.2 m)),a.N⟩,false)
def Q0M (m:Nat):AV->List Int->AV×Nat
 | a,[]=>(a,0)
 | a,id::r=>((Q0M m (weak1 m a id).1 r).1,(if (weak1 m a id).2=true then 1 else 0)+(Q0M m (weak1 m a id).1 r).2)
theorem weakA_snoc (m:Nat):∀(l:List Int) (a:AV) (id:Int),Q0M m a (l++[id])=((weak1 m (Q0M m a l).1 id).1,(Q0M m a l).2+if (weak1 m (Q0M m a l).1 id).2=true then 1 else 0)
 | [],a,id=>by
  show ((weak1 m a id).1,(if (weak1 m a id).2=true then 1 else 0)+0)=((weak1 m a id).1,0+if (weak1 m a id).2=true then 1 else 0);rw [J5b,J2G]
 | x::r,a,id=>by
  rw [J4I];unfold Q0M;rw [weakA_snoc m r (weak1 m a x).1 id];simp only [J3X]
theorem Q5F (m:Nat):∀(l:List Int) (a:AV),(Q0M m a l).2<=l.length
 | [],a=>J2x _
 | x::r,a=>by
  have:=Q5F m r (weak1 m a x).1;show (if (weak1 m a x).2=true then 1 else 0)+(Q0M m (weak1 m a x).1 r).2<=r.length+1;split <;> omega
def Q3F (m:Nat) (a:AV) (A:List Int) (id:Int):Prop:=∀e,find a.N id=some e->∀c∈e.q.ks,c∈A∨∀n,find a.N c=some n->∀x,a.en n.q.sp.toNat n.q.sl.toNat=some x->x.2&&&m=0
def WeakOk (m:Nat) (a:AV) (l:List Int):Prop:=m=15∨∀A id B,l=A++id::B->Q3F m a A id
theorem Q7p (a:AV) (l:List Int):WeakOk 15 a l:=.inl rfl
theorem Q3G {N:List (En Nd)} {next:Int} (ok:NOk N next) (e:En Nd) (id:Int):find (Q0B N e e.q.ks.length) id=if id=e.id then none else (find N id).map fun c=>{c with q:=Q0t e e.q.ks.length c}:=by
 unfold Q0B;rw [Q1u,ok.rem_find];split <;> rfl
theorem Q1H (e c:En Nd):Q0t e e.q.ks.length c={c.q with par:=if c.id∈e.q.ks then e.q.par else c.q.par,ks:=if c.id=e.q.par then c.q.ks.filter (fun k=>decide (k≠e.id))++e.q.ks else c.q.ks}:=by
 unfold Q0t;rw [J6J]
theorem Z0y {N:List (En Nd)} {next:Int} (ok:NOk N next) {a b:En Nd} (ha:a∈N) (hb:b∈N) (hne:a.id≠b.id):¬(a.q.sp.toNat=b.q.sp.toNat/\a.q.sl.toNat=b.q.sl.toNat):=fun h=>by
 have h1:=ok.sm a ha;have h2:=ok.sm b hb;exact hne (by rw [Q4e ok ha hb (by omega) (by omega)])
theorem WeakOk.step {m:Nat} {a:AV} {next:Int} (ok:NOk a.N next) (hr:∀h s x,a.en h s=some x->x.2<16) (hm:m<16) {id:Int} {l:List Int} (h:WeakOk m a (id::l)):WeakOk m (weak1 m a id).1 l:=by
 rcases h with h|h
 ·exact .inl h
 refine .inr fun A x B hl=>?_
 have h0:=h [] id l rfl;have h1:=h (id::A) x B (by rw [hl];rfl);unfold weak1;cases hf:find a.N id with
 | none =>
  simp only;intro e he c hc;rcases h1 e he c hc with hx|hx
  ·rcases J2C.1 hx with rfl|hx
   ·exact .inr fun n hn=>by rw [hf] at hn;cases hn
   ·exact .inl hx
  ·exact .inr hx
 | some d =>
  simp only;obtain⟨hd,hdid⟩:=Q0b hf;cases he0:a.en d.q.sp.toNat d.q.sl.toNat with
  | none =>
   simp only;intro e he c hc;rcases h1 e he c hc with hx|hx
   ·rcases J2C.1 hx with rfl|hx
    ·exact .inr fun n hn=>by rw [hf] at hn;cases hn;intro y hy;rw [he0] at hy;cases hy
    ·exact .inl hx
   ·exact .inr hx
  | some y =>
   simp only;have hy:=hr _ _ _ he0;split
   ·-- lifted
    have hdN:find a.N d.id=some d:=by rw [hdid];exact hf
    have old:∀c n',find (Q0B a.N d d.q.ks.length) c=some n'->∃n,find a.N c=some n/\n∈a.N/\n.id≠d.id/\n'.q.sp=n.q.sp/\n'.q.sl=n.q.sl:=fun c n' hn'=>by
     rw [Q3G ok] at hn';split at hn'
     ·cases hn'
     ·rename_i hcd;cases hn:find a.N c with
      | none=>rw [hn] at hn';cases hn'
      | some n =>
       rw [hn] at hn';simp only [J4l,J2L] at hn';subst hn';obtain⟨n1,n2⟩:=Q0b hn;exact⟨n,rfl,n1,by rw [n2];exact hcd,by rw [Q1H],by rw [Q1H]⟩
    have good:∀c,(∀n,find a.N c=some n->∀z,a.en n.q.sp.toNat n.q.sl.toNat=some z->z.2&&&m=0)->∀n',find (Q0B a.N d d.q.ks.length) c=some n'->∀z,setA a.en d.q.sp.toNat d.q.sl.toNat none n'.q.sp.toNat n'.q.sl.toNat=some z->z.2&&&m=0:=fun c hc n' hn' z hz=>by
     obtain⟨n,n1,n2,n3,n4,n5⟩:=old c n' hn';rw [n4,n5,Q5f (Z0y ok n2 hd n3)] at hz;exact hc n n1 z hz
    intro e' he' c hc;have he2:find (Q0B a.N d d.q.ks.length) x=some e':=he';rw [Q3G ok] at he2;split at he2
    ·cases he2
    ·rename_i hxd;cases he3:find a.N x with
     | none=>rw [he3] at he2;cases he2
     | some e =>
      rw [he3] at he2;simp only [J4l,J2L] at he2;subst he2;have hc':c∈(Q0t d d.q.ks.length e).ks:=hc;rw [Q1H] at hc';simp only at hc';obtain⟨e1,e2⟩:=Q0b he3;have fromOld:c∈e.q.ks->c≠d.id->c∈A∨∀n',find (Q0B a.N d d.q.ks.length) c=some n'->∀z,setA a.en d.q.sp.toNat d.q.sl.toNat none n'.q.sp.toNat n'.q.sl.toNat=some z->z.2&&&m=0:=fun k1 k2=>by
       rcases h1 e he3 c k1 with hx|hx
       ·rcases J2C.1 hx with h|hx
        ·exact absurd (h.trans hdid.symm) k2
        ·exact .inl hx
       ·exact .inr (good c hx)
      split at hc'
      ·rcases J3l.1 hc' with hc'|hc'
       ·obtain⟨k1,k2⟩:=J2R.1 hc';exact fromOld k1 (by simpa using k2)
       ·rcases h0 d hf c hc' with hx|hx
        ·cases hx
        ·exact .inr (good c hx)
      ·rename_i hpar;refine fromOld hc' fun k=>?_
       obtain⟨k1,k2,k3⟩:=ok.kids e e1 c hc';rw [k,hdN] at k2;cases k2;exact hpar k3.symm
   ·-- weakened
    intro e he c hc;have he2:find a.N x=some e:=he;have hen:∀n,n∈a.N->n.id≠d.id->setA a.en d.q.sp.toNat d.q.sl.toNat (some (y.1,less y.2 m)) n.q.sp.toNat n.q.sl.toNat=a.en n.q.sp.toNat n.q.sl.toNat:=fun n n1 n2=>Q5f (Z0y ok n1 hd n2)
    by_cases hcd:c=id
    ·refine .inr fun n hn z hz=>?_
     have hn2:find a.N c=some n:=hn;rw [hcd,hf] at hn2;cases hn2;have hz2:setA a.en d.q.sp.toNat d.q.sl.toNat (some (y.1,less y.2 m)) d.q.sp.toNat d.q.sl.toNat=some z:=hz;rw [Q8V] at hz2;cases hz2;exact (Q5E y.2 hy m hm).1
    ·rcases h1 e he2 c hc with hx|hx
     ·rcases J2C.1 hx with h|hx
      ·exact absurd h hcd
      ·exact .inl hx
     ·refine .inr fun n hn z hz=>?_
      have hn2:find a.N c=some n:=hn;obtain⟨n1,n2⟩:=Q0b hn2;have hz2:setA a.en d.q.sp.toNat d.q.sl.toNat (some (y.1,less y.2 m)) n.q.sp.toNat n.q.sl.toNat=some z:=hz;rw [hen n n1 (by rw [n2,hdid];exact hcd)] at hz2;exact hx n hn2 z hz2
theorem Q8W {m:Nat} {a:AV} {next:Int} (ok:NOk a.N next) (id:Int) (self:Bool):WeakOk m a (Q0G (kdF a.N) (rkF next) id++if self=true then [id] else []):=by
 refine .inr fun A x B hl e he c hc=>.inl ?_
 have t:=ok.tree;have hk:c∈kdF a.N x:=by unfold kdF;rw [he];exact hc
 have hcx:c≠x:=fun h=>by
  have:=t.dn x c hk;rw [h] at this;omega
 have hin:Dn (kdF a.N) id x->c∈Q0G (kdF a.N) (rkF next) id:=fun hd=>by
  refine (Q7n t).2 ⟨hd.trans (.down x c c hk (.here c)),fun h=>?_⟩;have h1:=(Dn.rank t hd).1;have h2:=t.dn x c hk;rw [h] at h2;omega
 have hp:=Z2Q t id;rcases List.append_eq_append_iff.1 hl with ⟨C,e1,e2⟩|⟨C,e1,e2⟩
 ·-- x is the last
  cases C with
  | nil =>
   rw [J4H] at e2;rw [J4D] at e1;cases self with
   | false=>rw [if_neg (by decide)] at e2;cases e2
   | true =>
    rw [if_pos rfl] at e2
    injection e2 with e2 e3
    subst e2;rw [e1];exact hin (.here _)
  | cons y C =>
   cases self with
   | false=>rw [if_neg (by decide)] at e2;simp at e2
   | true=>rw [if_pos rfl] at e2;simp at e2
 ·-- x is below
  cases C with
  | nil =>
   rw [J4D] at e1;rw [J4H] at e2;cases self with
   | false=>rw [if_neg (by decide)] at e2;cases e2
   | true =>
    rw [if_pos rfl] at e2
    injection e2 with e2 e3
    subst e2;rw [<- e1];exact hin (.here _)
  | cons y C =>
   rw [J4I] at e2
   injection e2 with e2 e3
   subst e2;have hx:x∈Q0G (kdF a.N) (rkF next) id:=by rw [e1];simp
   have hcb:=hin ((Q7n t).1 hx).1;rw [e1] at hcb;rcases J3l.1 hcb with h|h
   ·exact h
   ·rcases J2C.1 h with h|h
    ·exact absurd h hcx
    ·rw [e1] at hp;have:=((J3k.1 hp).2.1)
     have:=(J2Y.1 this).1 c h;exact absurd (.down x c c hk (.here c)) this.2
theorem Z0z {S:CO} {fr:List Nat} {N K:Nat} (ok:S.Ok fr N K) {i j:Nat} {p r:Pl} (hi:S.l[i]?=some p) (hj:S.l[j]?=some r) (hij:i≠j) (hp:p.st=1) (hr:r.st=1):p.at_+costK p.kind<=r.at_∨r.at_+costK r.kind<=p.at_:=by
 have m:=ok.inv.mem;have hpi:p.is=true:=Pl.is_iff.2 (.inl hp);have hri:r.is=true:=Pl.is_iff.2 (.inl hr);have hpm:=J4L hi;have hrm:=J4L hj;by_cases hp8:p.kind=8
 ·obtain⟨g,hg,eg⟩:=m.frame hpm hpi hp8;by_cases hr8:r.kind=8
  ·obtain⟨g',hg',eg'⟩:=m.frame hrm hri hr8;have hnd:(Q1T S.l 8).Nodup:=by
    refine m.frs.nodup_iff.2 ?_;unfold List.Nodup;rw [J3c];exact (Q4w m.pool).1.imp fun h e=>h (by omega)
   have:g≠g':=fun e=>hij (Z0r (atsF 8) hnd hi hj (b:=p.at_) (by rw [<- hp8];exact Q0R hpi) (by rw [<- hr8,Q0R hri,eg',<- e,eg]))
   rw [hp8,hr8,costK_8];omega
  ·have:=Q2F m.pool hg (m.used hrm hri hr8);rw [hp8,costK_8,Q1U hr8];omega
 ·have hu:=m.used hpm hpi hp8;by_cases hr8:r.kind=8
  ·obtain⟨g',hg',eg'⟩:=m.frame hrm hri hr8;have:=Q2F m.pool hg' hu;rw [hr8,costK_8,Q1U hp8];omega
  ·have hv:=m.used hrm hri hr8;rw [Q1U hp8,Q1U hr8];refine Q3A m.pool hu hv fun e=>?_
   obtain⟨k1,k5⟩:=(m.kind p hpm hpi).resolve_left hp8;exact hij (Z0r (atsF p.kind) (m.at_nd p.kind k1 k5) hi hj (b:=p.at_) (Q0R hpi) (by rw [e.1,Q0R hri,e.2]))
theorem bytes8_len (x:Nat):(Q0d x).length=8:=rfl
theorem Q1o (x y:Nat):(Q0d x++Q0d y).length=16:=rfl
theorem Q3j (x:Nat):∀y∈Q0d x,y<256:=by
 intro y hy;unfold Q0d at hy;simp only [J2C,J2T,or_false] at hy;omega
theorem Q8X {m bs:List Nat} {a:Nat} (h:∀b∈m,b<256) (hb:∀b∈bs,b<256):∀b∈put_ m a bs,b<256:=by
 intro y hy;unfold put_ at hy;simp only [J3l] at hy;rcases hy with (hy|hy)|hy
 ·exact h y (J5T hy)
 ·exact hb y hy
 ·exact h y (J5a hy)
def Q4f (m m':List Nat) (a n:Nat):Prop:=∀b k,b+k<=a∨a+n<=b->Kept m m' b k
theorem Q6g {m bs:List Nat} {a:Nat} (hl:a+bs.length<=m.length):Q4f m (put_ m a bs) a bs.length:=fun _ _ h=>Q1G hl h
theorem Z2T {m:List Nat} {a x:Nat} (hl:a+8<=m.length) (hx:x<18446744073709551616):Q0u (put_ m a (Q0d x)) a=x:=by
 unfold Q0u;have:((put_ m a (Q0d x)).drop a).take 8=Q0d x:=by
  apply J4f
  intro i;rw [J4A];split
  ·rw [J4Z];exact Q7i (by rw [bytes8_len];exact hl) (by rw [bytes8_len];assumption)
  ·rw [J4m (by rw [bytes8_len];omega)]
 rw [this];exact Q3y x hx
theorem Z2U {m:List Nat} {a x y:Nat} (hl:a+16<=m.length) (hx:x<18446744073709551616) (hy:y<18446744073709551616):Q0u (put_ m a (Q0d x++Q0d y)) a=x/\Q0u (put_ m a (Q0d x++Q0d y)) (a+8)=y:=by
 have h1:((put_ m a (Q0d x++Q0d y)).drop a).take 8=Q0d x:=by
  apply J4f
  intro i;rw [J4A];split
  ·rename_i hi;rw [J4Z,Q7i (by rw [Q1o];exact hl) (by rw [Q1o];omega),J5L (by rw [bytes8_len];exact hi)]
  ·rw [J4m (by rw [bytes8_len];omega)]
 have h2:((put_ m a (Q0d x++Q0d y)).drop (a+8)).take 8=Q0d y:=by
  apply J4f
  intro i;rw [J4A];split
  ·rename_i hi;rw [J4Z,J3X,Q7i (by rw [Q1o];exact hl) (by rw [Q1o];omega),J5M (by rw [bytes8_len];omega),bytes8_len,show 8+i-8=i by omega]
  ·rw [J4m (by rw [bytes8_len];omega)]
 unfold Q0u;rw [h1,h2];exact⟨Q3y x hx,Q3y y hy⟩
section
variable {S:CO} {fr:List Nat} {N K:Nat} {tb:Nat->TB} {own:Int} {xl xn:List Nat}
theorem Q4F (ok:S.Ok fr N K) {j a b n:Nat} {m:List Nat} (ha:a∈S.P.usedOf j) (h1:a<=b) (h2:b+n<=a+Q0c j) (hk:Q4f S.P.a.mem m b n) {j' a':Nat} (ha':a'∈S.P.usedOf j') (hne:¬(j=j'/\a=a')):Kept S.P.a.mem m a' (Q0c j'):=by
 have:=Q3A ok.inv.mem.pool ha ha' hne;exact hk _ _ (by omega)
theorem TPX.leaf_ne (ok:S.Ok fr N K) (t:TPX S tb own xl xn) {i j k k':Nat} (hi:i<256) (hj:j<256) (hk:k<16) (hk':k'<16) (h:(tb i).lf k≠0) (h':(tb j).lf k'≠0) (hne:¬(i=j/\k=k')):(tb i).lf k≠(tb j).lf k':=by
 have hnd:(xl++Q2S tb).Nodup:=t.lvs.nodup_iff.2 ((Q2c ok.inv.mem.pool 7).imp fun h=>Nat.ne_of_lt h);have hnd:=(J3q.1 hnd).2.1;unfold Q2S List.Nodup at hnd;rw [J2Z] at hnd;obtain⟨n1,n2⟩:=hnd;by_cases e:i=j
 ·subst e;have hkk:k≠k':=fun e=>hne ⟨rfl,e⟩
  have:=n1 i (J2N.2 hi);unfold TB.lvs at this;rw [J2P] at this;rcases J5f k k' with hlt|hge
  ·have:=J5z.1 this k k' (by simpa using hk) (by simpa using hk') hlt;simp only [J6K] at this;exact this _ (by rw [if_neg h]) _ (by rw [if_neg h'])
  ·have:=J5z.1 this k' k (by simpa using hk') (by simpa using hk) (by omega);simp only [J6K] at this;exact (this _ (by rw [if_neg h']) _ (by rw [if_neg h])).symm
 ·rcases J5f i j with hlt|hge
  ·have:=J5z.1 n2 i j (by simpa using hi) (by simpa using hj) hlt;simp only [J6K] at this;exact this _ (mem_lvs.2 ⟨k,hk,rfl,h⟩) _ (mem_lvs.2 ⟨k',hk',rfl,h'⟩)
  ·have:=J5z.1 n2 j i (by simpa using hj) (by simpa using hi) (by omega);simp only [J6K] at this;exact (this _ (mem_lvs.2 ⟨k',hk',rfl,h'⟩) _ (mem_lvs.2 ⟨k,hk,rfl,h⟩)).symm
theorem TPX.entry (ok:S.Ok fr N K) (t:TPX S tb own xl xn) {i s:Nat} {p:Pl} (hi:S.l[i]?=some p) (h1:p.st=1) (h2:p.kind=2) (hown:(p.fac:Int)=own) (hs:s<256) (hl:(tb i).lf (s/16)≠0) {o:Option Ent} {xn':List Nat} {m:List Nat} (hlen:m.length=S.P.a.mem.length) (hb:∀b∈m,b<256)
  (hk:Q4f S.P.a.mem m ((tb i).lf (s/16)+16*(s%16)) 16) (ha:Q0u m ((tb i).lf (s/16)+16*(s%16))=Q0s o) (hb2:Q0u m ((tb i).lf (s/16)+16*(s%16)+8)=Q0V o) (hn:(xn'++((tb i).setE s o).nds).Perm (xn++(tb i).nds)) :
  (S.setP (S.P.setA m)).Ok fr N K/\TPX (S.setP (S.P.setA m)) (updT tb i ((tb i).setE s o)) own xl xn':=by
 have hi256:=Q1s ok.inv.len hi;have hL:=t.leaf hi256 (by omega:s/16<16) hl;have hrange:(tb i).lf (s/16)<=(tb i).lf (s/16)+16*(s%16)/\(tb i).lf (s/16)+16*(s%16)+16<=(tb i).lf (s/16)+Q0c 7:=by rw [Q2T];omega
 have hother:∀{j' a':Nat},a'∈S.P.usedOf j'->¬(7=j'/\(tb i).lf (s/16)=a')->Kept S.P.a.mem m a' (Q0c j'):=fun ha' hne=>Q4F ok hL hrange.1 hrange.2 hk ha' hne
 have hcost:((tb i).setE s o).lvs=(tb i).lvs:=rfl;obtain⟨A,B,e1,e2⟩:=Q4B TB.lvs tb hi256 ((tb i).setE s o);obtain⟨A',B',e3,e4⟩:=Q4B TB.nds tb hi256 ((tb i).setE s o);refine⟨ok.stored hlen hb (fun b hb'=>?_),fun j q hj q1 q2=>?_,fun j q hj hq=>?_,?_,?_,fun id=>?_⟩
 ·have:=hother hb' (by omega);exact (this.sub (b:=b) (k:=8) (J2x _) (by show b+8<=b+64;omega)).word
 ·show (updT tb i _ j).In m q.at_;have hj':S.l[j]?=some q:=hj;have hj256:=Q1s ok.inv.len hj';by_cases e:j=i
  ·subst e;rw [updT_same];have hqp:q=p:=by rw [hi] at hj';exact (J3u hj').symm
   subst hqp;refine (t.tin j q hi h1 h2).set hs hl hk ha hb2 ?_ (fun k hk16 hkne hk0=>?_)
   ·have:=Q3A ok.inv.mem.pool (Q1L ok hi h1 h2) hL (by omega);exact this
   ·have hne:=t.leaf_ne ok hi256 hi256 hk16 (by omega:s/16<16) hk0 hl (fun e=>hkne e.2);exact Q3A ok.inv.mem.pool (t.leaf hi256 hk16 hk0) hL (fun e=>hne e.2)
  ·rw [Q0W e];refine (t.tin j q hj' q1 q2).kept (hother (Q1L ok hj' q1 q2) (by omega)) fun k hk16 hk0=>?_
   exact hother (t.leaf hj256 hk16 hk0) (fun e'=>t.leaf_ne ok hi256 hj256 (by omega:s/16<16) hk16 hl hk0 (fun e''=>e e''.1.symm) e'.2)
 ·have hj':S.l[j]?=some q:=hj;have e:j≠i:=fun e=>by
   subst e;rw [hi] at hj';cases hj';exact hq ⟨h1,h2⟩
  rw [Q0W e];exact t.nil j q hj' hq
 ·show (xl++Q2S _).Perm (S.P.usedOf 7);have:Q2S (updT tb i ((tb i).setE s o))=Q2S tb:=by
   unfold Q2S;rw [e1,e2,hcost]
  rw [this];exact t.lvs
 ·show (xn'++Q3g _).Perm (S.P.usedOf 6);refine List.Perm.trans ?_ t.nds;unfold Q3g;rw [e3,e4];have r:∀(X Y:List Nat),(X++(A'++Y++B')).Perm (X++Y++(A'++B')):=fun X Y=>by
   rw [J3x A' Y B',J3x X Y];refine J5m X ?_;rw [<- J3x,<- J3x];exact J5k.append_right B'
  exact (r _ _).trans ((hn.append_right _).trans (r _ _).symm)
 ·show S.xc id=xcOf S.l _ id+_;rw [Q8S hi256 hi,t.xc];have hc:((tb i).setE s o).cost=(tb i).cost+48*(((tb i).setE s o).nds.length:Int)-48*((tb i).nds.length:Int):=by
   unfold TB.cost;rw [hcost];omega
  have hlenp:=hn.length_eq;rw [J3h,J3h] at hlenp;rw [hc];by_cases hid:id=own
  ·subst hid;rw [if_pos rfl,if_pos rfl,if_pos hown];omega
  ·rw [if_neg hid,if_neg hid,if_neg (by omega)];omega
theorem TPX.rootw (ok:S.Ok fr N K) (t:TPX S tb own xl xn) {i k:Nat} {p:Pl} (hi:S.l[i]?=some p) (h1:p.st=1) (h2:p.kind=2) (hown:(p.fac:Int)=own) (hk16:k<16) {L:Nat} {xl':List Nat} {m:List Nat} (hlen:m.length=S.P.a.mem.length) (hb:∀b∈m,b<256)
  (hk:Q4f S.P.a.mem m (p.at_+8*k) 8) (hin:((tb i).setL k L).In m p.at_) (hn:(xl'++((tb i).setL k L).lvs).Perm (xl++(tb i).lvs)) :
  (S.setP (S.P.setA m)).Ok fr N K/\TPX (S.setP (S.P.setA m)) (updT tb i ((tb i).setL k L)) own xl' xn:=by
 have hi256:=Q1s ok.inv.len hi;have hT:=Q1L ok hi h1 h2;have hrange:p.at_<=p.at_+8*k/\p.at_+8*k+8<=p.at_+Q0c 2:=by
  have:Q0c 2=128:=rfl;omega
 have hother:∀{j' a':Nat},a'∈S.P.usedOf j'->¬(2=j'/\p.at_=a')->Kept S.P.a.mem m a' (Q0c j'):=fun ha' hne=>Q4F ok hT hrange.1 hrange.2 hk ha' hne
 have hcost:((tb i).setL k L).nds=(tb i).nds:=rfl;obtain⟨A,B,e1,e2⟩:=Q4B TB.lvs tb hi256 ((tb i).setL k L);obtain⟨A',B',e3,e4⟩:=Q4B TB.nds tb hi256 ((tb i).setL k L);refine⟨ok.stored hlen hb (fun b hb'=>?_),fun j q hj q1 q2=>?_,fun j q hj hq=>?_,?_,?_,fun id=>?_⟩
 ·have:=hother hb' (by omega);exact (this.sub (b:=b) (k:=8) (J2x _) (by show b+8<=b+64;omega)).word
 ·show (updT tb i _ j).In m q.at_;have hj':S.l[j]?=some q:=hj;have hj256:=Q1s ok.inv.len hj';by_cases e:j=i
  ·subst e;rw [updT_same];have hqp:q=p:=by rw [hi] at hj';exact (J3u hj').symm
   subst hqp;exact hin
  ·rw [Q0W e];refine (t.tin j q hj' q1 q2).kept (hother (Q1L ok hj' q1 q2) (fun e'=>?_)) fun k' hk16' hk0=>hother (t.leaf hj256 hk16' hk0) (by omega)
   have:=Z0z ok hi hj' (fun e''=>e e''.symm) h1 q1;rw [h2,q2,Z5O] at this;omega
 ·have hj':S.l[j]?=some q:=hj;have e:j≠i:=fun e=>by
   subst e;rw [hi] at hj';cases hj';exact hq ⟨h1,h2⟩
  rw [Q0W e];exact t.nil j q hj' hq
 ·show (xl'++Q2S _).Perm (S.P.usedOf 7);refine List.Perm.trans ?_ t.lvs;unfold Q2S;rw [e1,e2];have r:∀(X Y:List Nat),(X++(A++Y++B)).Perm (X++Y++(A++B)):=fun X Y=>by
   rw [J3x A Y B,J3x X Y];refine J5m X ?_;rw [<- J3x,<- J3x];exact J5k.append_right B
  exact (r _ _).trans ((hn.append_right _).trans (r _ _).symm)
 ·show (xn++Q3g _).Perm (S.P.usedOf 6);have:Q3g (updT tb i ((tb i).setL k L))=Q3g tb:=by
   unfold Q3g;rw [e3,e4,hcost]
  rw [this];exact t.nds
 ·show S.xc id=xcOf S.l _ id+_;rw [Q8S hi256 hi,t.xc];have hc:((tb i).setL k L).cost=(tb i).cost+256*(((tb i).setL k L).lvs.length:Int)-256*((tb i).lvs.length:Int):=by
   unfold TB.cost;rw [hcost];omega
  have hlenp:=hn.length_eq;rw [J3h,J3h] at hlenp;rw [hc];by_cases hid:id=own
  ·subst hid;rw [if_pos rfl,if_pos rfl,if_pos hown];omega
  ·rw [if_neg hid,if_neg hid,if_neg (by omega)];omega
end
structure Alt (S S':CO) (own:Int):Prop where
 c:S'.c=S.c
 t:S'.t=S.t
 l:S'.l=S.l
 g:S'.g=S.g
 per:S'.period=S.period
 now:S'.now=S.now
 rv:S'.rv=S.rv
 ts:S'.ts=S.ts
 same:SameP S.P S'.P
 next:S'.P.q.next=S.P.q.next
 acc:∀id e,find S.P.q.E id=some e->∃e',find S'.P.q.E id=some e'/\e'.q={e.q with charged:=e'.q.charged}/\(id≠own->e'=e)
 ids:S'.P.q.E.map En.id=S.P.q.E.map En.id
 kept:∀r∈S.l,r.is=true->r.kind≠2->Kept S.P.a.mem S'.P.a.mem r.at_ (costK r.kind)
theorem Alt.refl (S:CO) (own:Int):Alt S S own:=⟨rfl,rfl,rfl,rfl,rfl,rfl,rfl,rfl,SameP.refl _,rfl,fun _ e h=>⟨e,h,rfl,fun _=>rfl⟩,rfl,fun _ _ _ _=>Kept.refl _ _ _⟩
theorem Alt.trans {S S1 S2:CO} {own:Int} (h:Alt S S1 own) (k:Alt S1 S2 own):Alt S S2 own:=by
 refine⟨k.c.trans h.c,k.t.trans h.t,k.l.trans h.l,k.g.trans h.g,k.per.trans h.per,k.now.trans h.now,k.rv.trans h.rv,k.ts.trans h.ts,h.same.trans k.same,k.next.trans h.next,fun id e he=>?_,k.ids.trans h.ids,fun r hr hi hk=>?_⟩
 ·obtain⟨e1,a1,a2,a3⟩:=h.acc id e he;obtain⟨e2,b1,b2,b3⟩:=k.acc id e1 a1;refine⟨e2,b1,?_,fun hne=>(b3 hne).trans (a3 hne)⟩;rw [b2,a2]
 ·exact (h.kept r hr hi hk).trans (k.kept r (by rw [h.l];exact hr) hi hk)
theorem Alt.got {S:CO} {fr:List Nat} {N K:Nat} (ok:S.Ok fr N K) {own:Int} {n a:Nat} {P':PL} (g:GetOk S.P fr own n a P'):Alt S (S.paid P' own ((Q0c n:Nat):Int)) own:=by
 have gm:=g.gotM ok.inv.mem.pool;obtain⟨e,q1,q2,q3⟩:=g.q;refine⟨rfl,rfl,rfl,rfl,rfl,rfl,rfl,rfl,gm.same,by show P'.q.next=_;rw [q3],fun id x hx=>?_,?_,fun r hr hi hk=>?_⟩
 ·show ∃e',find P'.q.E id=some e'/\_;rw [q3];by_cases hid:id=own
  ·subst hid;rw [q1] at hx;cases hx;exact⟨_,Q0h q1 _,rfl,fun h=>absurd rfl h⟩
  ·exact⟨x,by rw [Q0x hid];exact hx,rfl,fun _=>rfl⟩
 ·show P'.q.E.map En.id=_;rw [q3];exact Q1r _ _ _
 ·exact gm.keptL ok.inv.mem r hr hi
theorem Alt.put {S:CO} {fr:List Nat} {N K:Nat} (ok:S.Ok fr N K) {own:Int} {n a:Nat} {P':PL} (g:PutOk S.P fr own n a P'):Alt S (S.paid P' own (-((Q0c n:Nat):Int))) own:=by
 have bm:=g.backM ok.inv.mem.pool;obtain⟨e,q1,q2,q3⟩:=g.q;refine⟨rfl,rfl,rfl,rfl,rfl,rfl,rfl,rfl,bm.same,by show P'.q.next=_;rw [q3],fun id x hx=>?_,?_,fun r hr hi hk=>?_⟩
 ·show ∃e',find P'.q.E id=some e'/\_;rw [q3];by_cases hid:id=own
  ·subst hid;rw [q1] at hx;cases hx;exact⟨_,Q0h q1 _,rfl,fun h=>absurd rfl h⟩
  ·exact⟨x,by rw [Q0x hid];exact hx,rfl,fun _=>rfl⟩
 ·show P'.q.E.map En.id=_;rw [q3];exact Q1r _ _ _
 ·show Kept S.P.a.mem P'.a.mem _ _;rw [bm.mem];exact Kept.refl _ _ _
theorem Alt.mem {S:CO} {fr:List Nat} {N K:Nat} (ok:S.Ok fr N K) (own:Int) {j a b n:Nat} {m:List Nat} (hj:j=2∨j=7) (ha:a∈S.P.usedOf j) (h1:a<=b) (h2:b+n<=a+Q0c j) (hlen:m.length=S.P.a.mem.length) (hk:Q4f S.P.a.mem m b n):Alt S (S.setP (S.P.setA m)) own:=by
 refine⟨rfl,rfl,rfl,rfl,rfl,rfl,rfl,rfl,⟨rfl,rfl,rfl,rfl,rfl,rfl,hlen⟩,rfl,fun _ e h=>⟨e,h,rfl,fun _=>rfl⟩,rfl,fun r hr hi hk2=>?_⟩;show Kept S.P.a.mem m _ _;by_cases h8:r.kind=8
 ·obtain⟨g,hg,e⟩:=ok.inv.mem.frame hr hi h8;have:=Q2F ok.inv.mem.pool hg ha;rw [h8,costK_8,e];exact hk _ _ (by omega)
 ·have hu:=ok.inv.mem.used hr hi h8;have hkd:=(ok.inv.mem.kind r hr hi).resolve_left h8;rw [Q1U h8];exact Q4F ok ha h1 h2 hk hu (fun e=>by omega)
theorem costs_67:Q1j 6=48/\Q1j 7=256:=⟨rfl,rfl⟩
theorem CO.stepPaid {w w':World} {S:CO} (h:Sep w S.hl) (P':PL) (own d:Int) (e:P'.p=S.P.p) (s:Step S.P.hl P'.hl w w'):Step S.hl (S.paid P' own d).hl w w':=CO.stepP h P' e s
theorem CO.stepMem {w w':World} {S:CO} (h:Sep w S.hl) (m:List Nat) (s:Step S.P.a.hl ({S.P.a with mem:=m}:AN).hl w w'):Step S.hl (S.setP (S.P.setA m)).hl w w':=
 CO.stepP h (S.P.setA m) rfl (PL.stepA (CO.sP h) m s)
def onTo (G:Nat->Nat->Bool) (top k s:Nat):List Nat:=((List.range (2 ^ (top-k))).filter (G k)).filter fun i=>decide (i<s)
def Q6N (G:Nat->Nat->Bool) (top k:Nat):List Nat:=(List.range (2 ^ (top-k))).filter (G k)
theorem Z5U (G:Nat->Nat->Bool) (top k:Nat):onTo G top k 0=[]:=by simp [onTo]
theorem mem_on {G:Nat->Nat->Bool} {top k i:Nat}:i∈Q6N G top k↔i<2 ^ (top-k)/\G k i=true:=by simp [Q6N]
theorem Z0A {l:List Nat} (hs:l.Pairwise (·<·)) {s i:Nat} (hi:i∈l) (hsi:s<=i) (hno:∀j∈l,s<=j->i<=j):l.filter (fun j=>decide (j<i+1))=l.filter (fun j=>decide (j<s))++[i]:=by
 induction l with
 | nil=>cases hi
 | cons a r ih =>
  obtain⟨h1,h2⟩:=J2Y.1 hs;rcases J2C.1 hi with rfl|hi'
  ·have e1:r.filter (fun j=>decide (j<i+1))=[]:=by
    rw [J4x];intro j hj;have:=h1 j hj;simp;omega
   have e2:r.filter (fun j=>decide (j<s))=[]:=by
    rw [J4x];intro j hj;have:=h1 j hj;simp;omega
   rw [J4J (by simp),J4K (by simp;omega),e1,e2];rfl
  ·have hai:=h1 i hi';have hlt:a<s:=by
    rcases J5f a s with e|e
    ·exact e
    ·have:=hno a (by simp) e;omega
   rw [J4J (by simp;omega),J4J (by simp;omega),ih h2 hi' (fun j hj hsj=>hno j (by simp [hj]) hsj)];rfl
theorem Z0B {G:Nat->Nat->Bool} {n k i:Nat} (hi:i<n):((List.range n).map (G k))[i]?.getD false=G k i:=by simp [hi]
theorem Z5V {G:Nat->Nat->Bool} {top k s i:Nat} (h:fstG G top k s=some i):onTo G top k (i+1)=onTo G top k s++[i]:=by
 obtain⟨h1,h2,h3,h4⟩:=Q1C h;have hl:i<2 ^ (top-k):=by simpa using h1
 rw [Z0B hl] at h3;refine Z0A (J2Q.filter _) (mem_on.2 ⟨hl,h3⟩) h2 fun j hj hsj=>?_
 rcases J5f j i with e|e
 ·have hj':=mem_on.1 hj;have:=h4 j hsj e;rw [Z0B hj'.1] at this;exact absurd hj'.2 this
 ·exact e
theorem Z8w {G:Nat->Nat->Bool} {top k s:Nat} (h:fstG G top k s=none):onTo G top k s=Q6N G top k:=by
 have h1:=Q8v h;unfold onTo;rw [show (List.range (2 ^ (top-k))).filter (G k)=Q6N G top k from rfl,J6H];intro j hj;have hj':=mem_on.1 hj;rcases J5f j s with e|e
 ·simpa using e
 ·have:=h1 j e (by simpa using hj'.1);rw [Z0B hj'.1] at this;exact absurd hj'.2 this
def blk (k i:Nat):Nat×Nat:=(1024*i*2 ^ k,k)
def Q1z (G:Nat->Nat->Bool) (top k:Nat):List (Nat×Nat):=(List.range k).flatMap fun j=>(Q6N G top j).map (blk j)
def Q2g (G:Nat->Nat->Bool) (top k s:Nat):List (Nat×Nat):=Q1z G top k++(onTo G top k s).map (blk k)
theorem Z0C (G:Nat->Nat->Bool) (top k:Nat):Q2g G top k 0=Q1z G top k:=by simp [Q2g,Z5U]
theorem Q6h {G:Nat->Nat->Bool} {top k s i:Nat} (h:fstG G top k s=some i):Q2g G top k (i+1)=Q2g G top k s++[blk k i]:=by
 unfold Q2g;rw [Z5V h];simp
theorem Z2V {G:Nat->Nat->Bool} {top k s:Nat} (h:fstG G top k s=none):Q2g G top k s=Q1z G top (k+1):=by
 unfold Q2g Q1z;rw [Z8w h,J2I];simp
theorem Z9L (G:Nat->Nat->Bool) (top k:Nat) (ht:top<=20):(Q6N G top k).length<=1048576:=by
 unfold Q6N;exact J2y (J4M _ _) (by rw [J4h];exact Q1E ht)
theorem Q3H (G:Nat->Nat->Bool) (top:Nat) (ht:top<=20):∀k,(Q1z G top k).length<=1048576*k
 | 0=>by simp [Q1z]
 | k+1=>by
  have ih:=Q3H G top ht k;have h1:=Z9L G top k ht;have e:Q1z G top (k+1)=Q1z G top k++(Q6N G top k).map (blk k):=by
   unfold Q1z;rw [J2I];simp
  rw [e,J3h,J4g];omega
theorem Z2W (G:Nat->Nat->Bool) (top k s:Nat) (ht:top<=20):(Q2g G top k s).length<=1048576*k+1048576:=by
 have h1:=Q3H G top ht k;have h2:=Z9L G top k ht;unfold Q2g onTo;rw [J3h,J4g];have h3:=J4M (fun i=>decide (i<s)) (Q6N G top k);unfold Q6N at h2 h3;omega
def encB (x:Nat×Nat):List Value:=[.int .i64 (x.1:Int),.int .i64 (x.2:Int)]
def Q1b (l:List (Nat×Nat)):List Value:=l.flatMap encB
theorem infoblk:(prog.info? 238).map (fun i=>(i.zero,i.size,i.bytes))=some (some (.agg #[.int .i64 0,.int .i64 0]),2,16):=by kernel_rfl
def Q6i (B:Nat) (L:List (Nat×Nat)) (v:Value) (w:World) (r:Ending) (w':World):Prop:=r=.returned v/\∃L':List (Nat×Nat),L'.Perm L/\L'.Pairwise (fun a b=>a.1<=b.1)/\w'.ownsRow B 238 2 v L'.length (Q1b L')/\Below B w w'
def NewBlks (w:World) (L:List (Nat×Nat)) (r:Ending) (w':World):Prop:=∃v L',r=.returned v/\L'.Perm L/\L'.Pairwise (fun a b=>a.1<=b.1)/\w'.ownsRow w.heap.size 238 2 v L'.length (Q1b L')/\Below w.heap.size w w'
def OutB (w wr:World) (v:Value) (L:List (Nat×Nat)):Prop:=wr.ownsRow w.heap.size 238 2 v L.length (Q1b L)/\Below w.heap.size w wr
theorem Z5W {w w1:World} {d:BD} {G:Nat->Nat->Bool} (h:Sep w d.hl) (hi:d.Is G) (hb:Below w.heap.size w w1) (k:Nat) (hk:k<=d.top) (s:Nat) (hs:s<=1048576):∃b,w1.cell? ⟨d.b,1+k,none⟩=some (.pointer (some ⟨b,0,none⟩)) /\
  Calls prog 132 #[.pointer (some ⟨b,0,none⟩),.bool true,.int .i64 s] w1 fun r w'=>r=.returned (.int .i64 (optI (fstG G d.top k s)))/\w1=w':=Q5z (h.grown hb).sep hi k hk s hs
theorem J0F (w:World) (T:TypeId) (v0 v1:Value):∀j u,[v0,v1][j]?=some u->(w.alloc (.cells #[v0,v1] T)).cell? ((⟨w.heap.size,0,none⟩:Addr).add j)=some u:=by
 intro j u hj;have hc:=Cells.new w T [v0,v1]
 match j,hj with
 | 0,hj=>cases hj;exact hc.cell 0 _ rfl
 | 1,hj=>cases hj;exact hc.cell 1 _ rfl
theorem Z5X {w wr w1:World} {o:Obj} {T:TypeId} {size n:Nat} {v:Value} {xs:List Value} (h:wr.ownsRow w.heap.size T size v n xs) (hb:Below w.heap.size w wr) (hg:(wr.alloc o).grownBy w1 v.ownBlock):Below w.heap.size w w1:=
 hb.trans (((Below.refl _ wr).alloc hb.size o).grown hg (by have:=hb.size;simp;omega) (fun k hk=>(h.lt k hk).1))
theorem Z5Y {w:World} {d:BD} {G:Nat->Nat->Bool} (h:Sep w d.hl) (hi:d.Is G)
  (hsort:∀v w1 L,OutB w w1 v L->L.length<=22020096->(L=Q1z G d.top (d.top+1))->Calls prog 133 #[v] w1 (Q6i w.heap.size L v w1)) :
  Calls prog 55 #[.pointer (some ⟨d.b,0,none⟩)] w (NewBlks w (Q1z G d.top (d.top+1))):=by
 have ht:=hi.top;have HC0:Hid (∀w1,Below w.heap.size w w1->w1.cell? ⟨d.b,0,none⟩=some (.int .i64 d.top)):=fun w1 hb=>BD.c0 (h.grown hb).sep
 have HFst:=Q0a (fun w1 hb k hk s hs=>Z5W h hi (w1:=w1) hb k hk s hs);have HS:=Q0a hsort;clear h hi hsort;generalize d.top=top at *
 generalize d.b=db at *
 obtain⟨i0,hinf,hz0,hz1,hz2⟩:=info_parts infoblk;go_enter func55,ntmps55;go_wp2_with fail
 go_loopg [3,4] (top+1) (fun gk ov kv wr=>∃k:Nat,kv=.int .i64 k/\k+gk=top+1/\OutB w wr ov (Q1z G top k))
 case atStart=>exact⟨0,rfl,by omega,World.ownsRow_nil _ _ _ _,Below.refl _ _⟩
 case round =>
  obtain⟨k,rfl,hkg,hout⟩:=hrel;have HO:=Q0a hout;have c0:=HC0.out wr hout.2;have HKG:=Q0a hkg;clear hout;by_cases hlt:k<=top
  ·obtain⟨b,hc1,hcall⟩:=HFst.out wr HO.out.2 k hlt 0 (by omega);have HCall:=Q0a hcall;clear hcall hkg;have hk0:(0:Int)<=k:=by omega
   have hk21:(k:Int)<21:=by omega
   go_wp2_with fail;refine HCall.out.mono ?_;rintro r w' ⟨rfl,rfl⟩;have h18:2 ^ (top-k)<=1048576:=Q1E ht;go_wp2_with fail;obtain⟨gko,hgo⟩:∃g,g=gk:=⟨_,rfl⟩
   subst hgo;obtain⟨wo,hwo⟩:∃wo,wo=wr:=⟨_,rfl⟩
   subst hwo
   go_loopg [3,5] 1048577 (fun gi ov iv wi=>∃s:Nat,iv=.int .i64 (optI (fstG G top k s))/\s+gi=1048577/\OutB w wi ov (Q2g G top k s))
   case atStart=>exact⟨0,rfl,rfl,by rw [Z0C];exact HO.out⟩
   case round =>
    clear HO hc1 c0 HCall;obtain⟨s,rfl,hsg,hout⟩:=hrel;have HO:=Q0a hout;have c0:=HC0.out wr hout.2;have hsz:=hout.2.size;clear hout;cases hfi:fstG G top k s with
    | none =>
     have HFi:=Q0a hfi;clear hfi;rw [show optI none = -1 from rfl];go_wp2_with fail;go_roundg (top+1-(k+1))
     case measure=>have:=HKG.out;omega
     case rel=>exact⟨k+1,by go_num,by omega,by rw [<- Z2V HFi.out];exact HO.out⟩
    | some i =>
     obtain⟨hil,hsi,_,_⟩:=Q1C hfi;have HFi:=Q0a hfi;clear hfi;have hi2:i<2 ^ (top-k):=by simpa using hil
     have hi0:(0:Int)<=i:=by omega
     have hib:(i:Int)<1048576:=by omega
     have HOw:=Q0a HO.out.1;have hlen:=Z2W G top k s ht;have hL:Hid (Q1b (Q2g G top k s)++[.int .i64 (((blk k i).1:Nat):Int),.int .i64 k]=Q1b (Q2g G top k (i+1))/\(Q2g G top k s).length+1=(Q2g G top k (i+1)).length):=by
      constructor
      ·rw [Q6h HFi.out];simp [Q1b,encB,blk]
      ·rw [Q6h HFi.out];simp
     have HB1:=Q0a hi2;have HB2:=Q0a hlen;have HB3:=Q0a hsg;have HSI:=Q0a hsi;have hm:i*2 ^ k<1048576:=by
      have h1:i*2 ^ k<2 ^ (top-k)*2 ^ k:=J5O hi2 (J3M _);rw [<- J3Y,show top-k+k=top by omega] at h1;exact J2z h1 (J2y (J3L (by omega) ht) (by decide))
     have hsh:wrap64 ((i:Int)*1024*2 ^ k)=(((blk k i).1:Nat):Int):=by
      have e:(i:Int)*1024*2 ^ k=((1024*i*2 ^ k:Nat):Int):=by
       rw [J3B,J3B,J4s];show _=(1024:Int)*i*2 ^ k;rw [Int.mul_comm (i:Int) 1024]
      rw [e];have e2:1024*i*2 ^ k=1024*(i*2 ^ k):=J5N _ _ _;exact Go.IntWalk.wrap64_in _ (by omega)
     have HM:=Q0a hm;clear hil hi2 hlen hsg h18 hsi hm;rw [show optI (some i)=(i:Int) from rfl];generalize hva:(((blk k i).1:Nat):Int)=va at hsh hL;have HVa:=Q0a hva;clear hva
     iterate 41 go_step
     rw [hsh];clear hsh;have hB2:=HB2.out
     iterate 2 go_step
     refine wpList_append_own _ rfl _ _ 124 rfl w.heap.size 238 i0 (.agg #[.int .i64 0,.int .i64 0]) 2 16 underlying124 hinf hz0 hz1 hz2 rfl (by decide) _ _ _ rfl (HOw.out.alloc _) ⟨wr.heap.size,0,none⟩ 1 1 [.int .i64 va,.int .i64 k] rfl rfl (J0F wr _ _ _) (by simp [Value.oneCell']) (by unfold maxLen;omega) (by omega) (by simp;omega) ?_;intro v' w1 hown' hgrow _;have hbl:=Z5X HOw.out HO.out.2 hgrow;rw [hL.out.1,hL.out.2] at hown';have HO1:Hid (OutB w w1 v' (Q2g G top k (i+1))):=⟨hown',hbl⟩
     have HBl:=Q0a hbl;clear hown' hgrow hbl hB2 HOw HO HVa hL c0 hsz;obtain⟨b2,hc2,hcall2⟩:=HFst.out w1 HBl.out k hlt (i+1) (by omega);rw [show ((i+1:Nat):Int)=(i:Int)+1 by omega] at hcall2;have HC2:=Q0a hcall2;clear hcall2;go_wp2_with fail;refine HC2.out.mono ?_;rintro r w' ⟨rfl,rfl⟩;go_wp2_with fail;go_roundg (1048577-(i+1))
     case measure=>have:=HB3.out;have:=HSI.out;omega
     case rel=>exact⟨i+1,rfl,by omega,HO1.out⟩
  ·obtain rfl:k=top+1:=by omega
   have hS:=Q0a (HS.out u3 wr _ HO.out (J2y (Q3H G top ht (top+1)) (by omega)) rfl);go_wp2_with fail;refine hS.out.mono ?_;rintro r w' ⟨rfl,L',p1,p2,p3,p4⟩;have HR:Hid (NewBlks w (Q1z G top (top+1)) (.returned u3) w'):=⟨u3,L',rfl,p1,p2,p3,HO.out.2.trans p4⟩
   clear p1 p2 p3 p4;go_wp2_with fail;go_ret;exact HR.out
theorem mem_freeTo {G:Nat->Nat->Bool} {top n:Nat} {b:Nat×Nat}:b∈Q1z G top n↔∃k i,k<n/\i<2 ^ (top-k)/\G k i=true/\b=blk k i:=by
 unfold Q1z;simp only [J2X,J2N,J2D]
 constructor
 ·rintro⟨k,hk,i,hi,rfl⟩;obtain⟨h1,h2⟩:=mem_on.1 hi;exact⟨k,i,hk,h1,h2,rfl⟩
 ·rintro⟨k,i,hk,h1,h2,rfl⟩;exact⟨k,hk,i,mem_on.2 ⟨h1,h2⟩,rfl⟩
theorem Z8x {u:Nat->Bool} {top k i k' i':Nat} (hk:k<=top) (hk':k'<=top) (h:fre u top k i=true) (h':fre u top k' i'=true) (e:i*2 ^ k=i'*2 ^ k'):k=k'/\i=i':=by
 have key:∀{a x b y:Nat},a<b->b<=top->fre u top a x=true->fre u top b y=true->x*2 ^ a=y*2 ^ b->False:=by
  intro a x b y hab hb h1 h2 e;unfold fre at h1 h2;simp only [J2S,J5J,beq_iff_eq,J5G] at h1 h2;rcases h1.2 with e1|e1
  ·omega
  ·have hc:clr u (a+1) (x/2)=true:=by
    rw [clr_iff];intro p hp;refine (clr_iff u b y).1 h2.1 p ?_;have e2:b=(a+1)+(b-(a+1)):=by omega
    have hx:x=y*2 ^ (b-a):=by
     have e3:2 ^ b=2 ^ (b-a)*2 ^ a:=by rw [<- J3Y];congr 1;omega
     rw [e3,<- J5N] at e;exact J6L (J3M a) e
    have hx2:x/2=y*2 ^ (b-(a+1)):=by
     have e3:2 ^ (b-a)=2 ^ (b-(a+1))*2:=by rw [<- J3F];congr 1;omega
     rw [hx,e3,<- J5N,J5w _ (by omega:0<2)]
    rw [e2,J3Y,<- J3Z,hp,hx2,J5w _ (J3M _)]
   rw [hc] at e1;cases e1
 rcases J5y k k' with hlt|rfl|hlt
 ·exact (key hlt hk' h h' e).elim
 ·exact⟨rfl,J6L (J3M k) e⟩
 ·exact (key hlt hk h' h e.symm).elim
theorem Q6j:∀{L M:List (Nat×Nat)},L.Perm M->L.Pairwise (fun a b=>a.1<=b.1)->M.Pairwise (fun a b=>a.1<=b.1)->(∀a∈L,∀b∈L,a.1=b.1->a=b)->L=M
 | [],M,hp,_,_,_=>(J6M.1 hp).symm
 | x::L,M,hp,h1,h2,hi=>by
  cases M with
  | nil=>exact absurd hp.symm (List.not_perm_nil_cons _ _)
  | cons y M =>
   obtain⟨a1,a2⟩:=J2Y.1 h1;obtain⟨b1,b2⟩:=J2Y.1 h2;have hy:y∈x::L:=hp.mem_iff.2 (by simp);have hx:x∈y::M:=hp.mem_iff.1 (by simp);have hxy:x=y:=by
    refine hi x (by simp) y hy ?_;have l1:x.1<=y.1:=by
     rcases J2C.1 hy with e|e
     ·rw [e];exact J2x _
     ·exact a1 y e
    have l2:y.1<=x.1:=by
     rcases J2C.1 hx with e|e
     ·rw [e];exact J2x _
     ·exact b1 x e
    omega
   subst hxy;rw [Q6j (J6l hp) a2 b2 fun a ha b hb=>hi a (by simp [ha]) b (by simp [hb])]
theorem Z5Z {u v:Nat->Bool} {top:Nat} (huv:∀p,u p=v p) {L M:List (Nat×Nat)} (hL:L.Perm (Q1z (fre u top) top (top+1))) (hM:M.Perm (Q1z (fre v top) top (top+1))) (h1:L.Pairwise (fun a b=>a.1<=b.1)) (h2:M.Pairwise (fun a b=>a.1<=b.1)):L=M:=by
 have e:u=v:=funext huv;subst e;refine Q6j (hL.trans hM.symm) h1 h2 fun a ha b hb hab=>?_
 obtain⟨k,i,k1,_,k3,rfl⟩:=mem_freeTo.1 (hL.mem_iff.1 ha);obtain⟨k',i',k1',_,k3',rfl⟩:=mem_freeTo.1 (hL.mem_iff.1 hb);unfold blk at hab ⊢;simp only at hab;have e1:i*2 ^ k=i'*2 ^ k':=by
  rw [J5N,J5N] at hab;exact Nat.eq_of_mul_eq_mul_left (by omega:0<1024) hab
 obtain⟨rfl,rfl⟩:=Z8x (by omega) (by omega) k3 k3' e1;rfl
def ReadsB (w:World) (a:Option Addr) (L:List (Nat×Nat)):Prop:=∀(j:Nat) (x:Nat×Nat),L[j]?=some x->∃g,a=some ⟨g,0,none⟩/\g<w.heap.size/\w.cell? ⟨g,j*2,none⟩=some (.int .i64 (x.1:Int))/\w.cell? ⟨g,j*2+1,none⟩=some (.int .i64 (x.2:Int))
theorem ReadsB.below {w w':World} {a:Option Addr} {L:List (Nat×Nat)} (h:ReadsB w a L) (hb:Below w.heap.size w w'):ReadsB w' a L:=fun j x hj=>by
 obtain⟨g,h1,h2,h3,h4⟩:=h j x hj;exact⟨g,h1,J2z h2 hb.size,(World.cell?_of_block (w:=w) (hb.block g h2)).trans h3,(World.cell?_of_block (w:=w) (hb.block g h2)).trans h4⟩
theorem Q8Y:∀{L:List (Nat×Nat)} {j:Nat} {x:Nat×Nat},L[j]?=some x->(Q1b L)[j*2]?=some (.int .i64 (x.1:Int))/\(Q1b L)[j*2+1]?=some (.int .i64 (x.2:Int))
 | [],j,x,h=>by simp at h
 | y::L,0,x,h=>by
  simp at h;subst h;exact⟨rfl,rfl⟩
 | y::L,j+1,x,h=>by
  rw [J5K] at h;obtain⟨h1,h2⟩:=Q8Y (L:=L) h;have e:Q1b (y::L)=[.int .i64 (y.1:Int),.int .i64 (y.2:Int)]++Q1b L:=rfl;rw [e,J5M (by show 2<=(j+1)*2;omega),J5M (by show 2<=(j+1)*2+1;omega)];have e1:(j+1)*2-[Value.int .i64 (y.1:Int),.int .i64 (y.2:Int)].length=j*2:=by show (j+1)*2-2=j*2;omega
  have e2:(j+1)*2+1-[Value.int .i64 (y.1:Int),.int .i64 (y.2:Int)].length=j*2+1:=by show (j+1)*2+1-2=j*2+1;omega
  rw [e1,e2];exact⟨h1,h2⟩
theorem NewBlks.reads {w w':World} {L:List (Nat×Nat)} {r:Ending} (h:NewBlks w L r w'):∃(a:Option Addr) (cap:Nat) (L':List (Nat×Nat)),r=.returned (.slice a L'.length cap)/\L'.Perm L/\L'.Pairwise (fun a b=>a.1<=b.1)/\Below w.heap.size w w'/\ReadsB w' a L'/\∀b,a=some b->w.heap.size<=b.block:=by
 obtain⟨v,L',rfl,hp,hs,hrow,hb⟩:=h;rcases hrow.2 with ⟨rfl,h0⟩|⟨g,cap,cur,rfl,hg,hgb,hn,hm,hsz,htk⟩
 ·refine⟨none,0,L',by rw [h0],hp,hs,hb,fun j x hj=>?_,fun b hb=>by cases hb⟩;have:=(J2O.1 hj).1;omega
 ·refine⟨_,cap,L',rfl,hp,hs,hb,fun j x hj=>?_,fun b hb=>by cases hb;exact hg⟩;obtain⟨c1,c2⟩:=Q8Y hj;have key:∀(i:Nat) (v:Value),(Q1b L')[i]?=some v->w'.cell? ⟨g,i,none⟩=some v:=fun i v hv=>by
   rw [<- htk,J4A] at hv;split at hv
   ·simp only [World.cell?,hgb,J5A,J6q,if_false];rw [<- J4X];exact hv
   ·cases hv
  exact⟨g,rfl,lt_of_block hgb,key _ _ c1,key _ _ c2⟩
theorem Z6a (w:World) (a b:Option Addr) (ca cb:Nat) (xs:List (Nat×Nat)) (ha:ReadsB w a xs) (hb:ReadsB w b xs) (hl:xs.length<=33554432) :
  Calls prog 53 #[.slice a xs.length ca,.slice b xs.length cb] w (Told w (.bool true)):=by
 have HX:=Q0a ha;have HY:=Q0a hb;clear ha hb;generalize hn:xs.length=n at hl;have HN:Hid (xs.length=n):=hn;clear hn;go_enter func53,ntmps53;go_wp2_with fail
 go_loopg [5] n (fun gk i wr=>∃k:Nat,k+gk=n/\i=.int .i64 k/\Below w.heap.size w wr)
 case atStart=>exact⟨0,J5b _,rfl,Below.refl _ _⟩
 case round =>
  obtain⟨k,hk,rfl,hch⟩:=hrel;by_cases hlt:k<n
  ·have ex:xs[k]?=some (xs[k]'(by rw [HN.out];exact hlt)):=J4O _;generalize xs[k]'(by rw [HN.out];exact hlt)=x at ex;obtain⟨g1,rfl,hg1,cx0,cx1⟩:=HX.out k x ex;obtain⟨g2,rfl,hg2,cy0,cy1⟩:=HY.out k x ex;have c0:=(World.cell?_of_block (w:=w) (hch.block g1 hg1)).trans cx0;have c1:=(World.cell?_of_block (w:=w) (hch.block g1 hg1)).trans cx1;have d0:=(World.cell?_of_block (w:=w) (hch.block g2 hg2)).trans cy0;have d1:=(World.cell?_of_block (w:=w) (hch.block g2 hg2)).trans cy1;have hki:(k:Int)<(n:Int):=by omega
   have hn6:(n:Int)<=33554432:=by omega
   clear ex cx0 cx1 cy0 cy1 hg1 hg2
   go_wp2
   go_region
   all_goals go_wp2
   all_goals go_roundg (n-(k+1))
   all_goals first
    | omega
    | exact⟨k+1,by omega,by go_num,hch.drew⟩
  ·go_wp2
   go_ret;exact⟨rfl,hch⟩
abbrev encI (x:Int):Value:=.int .i64 x
theorem Z0D:(prog.info? 3).map (fun i=>(i.zero,i.size,i.bytes))=some (some (.int .i64 0),1,8):=by kernel_rfl
def AsideV (H:HL) (cs:List Value) (a:Option Addr) (w:World):Prop:=∀(j:Nat) (v:Value),cs[j]?=some v->∃g,a=some ⟨g,0,none⟩/\g∉keys H/\g<w.heap.size/\w.cell? ⟨g,j,none⟩=some v
theorem AsideV.step {H H':HL} {cs:List Value} {a:Option Addr} {w w':World} (h:AsideV H cs a w) (st:Step H H' w w'):AsideV H' cs a w':=fun j x hj=>by
 obtain⟨g,h1,h2,h3,h4⟩:=h j x hj;refine⟨g,h1,fun hk=>?_,J2z h3 st.chg.size,(World.cell?_of_block (w:=w) (st.chg.block g h3 h2)).trans h4⟩;rcases st.new g hk with h'|h'
 ·exact h2 h'
 ·omega
theorem Q7q {w w':World} {H:HL} {T:TypeId} {size n:Nat} {v:Value} {cs:List Value} (hs:Sep w H) (h:w'.ownsRow w.heap.size T size v n cs):∃(a:Option Addr) (cap:Nat),v=.slice a n cap/\AsideV H cs a w':=by
 obtain⟨hl,h2⟩:=h;rcases h2 with ⟨rfl,h0⟩|⟨g,cap,cur,rfl,hg,hgb,hn,hm,hsz,htk⟩
 ·refine⟨none,0,by rw [h0],fun j x hj=>?_⟩;have:=(J2O.1 hj).1;rw [hl,h0,J6o] at this;omega
 ·refine⟨_,cap,rfl,fun j x hj=>⟨g,rfl,fun hk=>by have:=hs.lt hk;omega,lt_of_block hgb,?_⟩⟩;rw [<- hl] at htk;rw [<- htk,J4A] at hj;split at hj
  ·simp only [World.cell?,hgb,J5A,J6q,if_false];rw [<- J4X];exact hj
  ·cases hj
theorem Z6b {w:World} {a:AN} (h:Sep w a.hl) (at_:Nat) (h8:at_%8=0) (hl:at_+16<=a.mem.length) (hm:a.mem.length<=1073741824) :
  Calls prog 230 #[.pointer (some ⟨a.a,0,none⟩),.int .i64 at_,.int .i64 2] w fun r w'=>r=.returned (.tuple #[.slice (some ⟨a.mb,at_,none⟩) 16 (a.mem.length-at_),.int .i64 0])/\w=w':=by
 have k1:=Z0p h at_ 16 (by omega) hl hm;have h1:(at_:Int)%8=0:=by omega
 have h2:((at_:Int)%8 != 0)=false:=by simp;omega
 have h3:((0:Int) != 0)=false:=by simp
 clear h h8;generalize a.mem.length=l at *
 go_enter func230,ntmps230;go_wp2_with (go_at_call 229;refine k1.mono ?_;rintro e w' ⟨rfl,rfl⟩);go_ret2;exact⟨rfl,rfl⟩
theorem Z0E (x y k:Nat) (hk:k<16):(Q0d x++Q0d y)[k]?.getD 0=(if k<8 then x else y)/2 ^ (8*(k%8))%256:=by
 have hl:(Q0d x).length=8:=rfl;by_cases h:k<8
 ·rw [J5L (by rw [hl];exact h),Q4X x k h,if_pos h,J3S h]
 ·rw [J5M (by rw [hl];omega),hl,Q4X y (k-8) (by omega),if_neg h,show k%8=k-8 by omega]
theorem Z6c {w:World} {a:AN} (h:Sep w a.hl) (at_ x y:Nat) (h8:at_%8=0) (hl:at_+16<=a.mem.length) (hm:a.mem.length<=1073741824) (hx:x<18446744073709551616) (hy:y<18446744073709551616) (g:Nat) (hg:w.cell? ⟨g,0,none⟩=some (.int .u64 x)) (hg1:w.cell? ⟨g,1,none⟩=some (.int .u64 y)) (hgl:g<w.heap.size) (hgk:g∉keys a.hl) :
  Calls prog 158 #[.pointer (some ⟨a.a,0,none⟩),.int .i64 at_,.slice (some ⟨g,0,none⟩) 2 2] w fun r w'=>r=.returned (.int .i64 0)/\Step a.hl ({a with mem:=put_ a.mem at_ (Q0d x++Q0d y)}:AN).hl w w':=by
 have k1:=Z6b h at_ h8 hl hm;have hbl:(Q0d x++Q0d y).length=16:=rfl;have HS0:Hid (Step a.hl ({a with mem:=put_ a.mem at_ ((Q0d x++Q0d y).take 0)}:AN).hl w w):=by
  show Step _ _ _ _;rw [J5X,Z0o];exact Step.refl h
 have HN:Hid (∀k wr,k<16->Step a.hl ({a with mem:=put_ a.mem at_ ((Q0d x++Q0d y).take k)}:AN).hl w wr->(∃old,wr.cell? ⟨a.mb,at_+k,none⟩=some old)/\wr.frozen? ⟨a.mb,at_+k,none⟩=false/\wr.cell? ⟨g,0,none⟩=some (.int .u64 x)/\wr.cell? ⟨g,1,none⟩=some (.int .u64 y)/\Step a.hl ({a with mem:=put_ a.mem at_ ((Q0d x++Q0d y).take (k+1))}:AN).hl w (wr.setCell ⟨a.mb,at_+k,none⟩ (.int .u8 ((Q0d x++Q0d y)[k]?.getD 0:Nat)))):=by
  intro k wr hk hs;have eb:=hs.chg.block g hgl hgk;refine⟨⟨_,AN.bcell hs.sep (at_+k) (by show at_+k<(put_ _ _ _).length;rw [Q2t _ _ _ (by rw [J4Q,hbl];omega)];omega)⟩,AN.bfree hs.sep (at_+k),(World.cell?_of_block (w:=w) eb).trans hg,(World.cell?_of_block (w:=w) eb).trans hg1,?_⟩;have h1:=AN.setB hs.sep (at_+k) ((Q0d x++Q0d y)[k]?.getD 0);have h2:=Q7R a.mem at_ (Q0d x++Q0d y) k (by rw [hbl];exact hk) (by rw [hbl];exact hl);have:=hs.trans h1
  simpa [h2] using this
 have HFin:Hid ((Q0d x++Q0d y).take 16=Q0d x++Q0d y):=J4v (by rw [hbl];exact J2x _);have HV:=Q0a (fun k hk=>Z0E x y k hk);generalize hbs:Q0d x++Q0d y=bs at *
 clear h h8 hg hg1 hgk hgl hbs hbl;generalize a.hl=H at *
 generalize a.mem.length=l at *
 go_enter func158,ntmps158;go_wp2_with fail;refine k1.mono ?_;rintro e w' ⟨rfl,rfl⟩;go_wp2_with fail
 go_loopw [20] (fun iv wr=>∃k:Nat,k<=16/\iv=.int .i64 k/\Step H ({a with mem:=put_ a.mem at_ (bs.take k)}:AN).hl w wr) (fun iv _=>16-(intOf iv).toNat)
 case atStart=>exact⟨0,by omega,rfl,HS0.out⟩
 case round =>
  obtain⟨k,hk,rfl,hs⟩:=hrel;by_cases hlt:k<16
  ·obtain⟨⟨old,hco⟩,hf,hgc,hgc1,hs2⟩:=HN.out k wr hlt hs;have hv:=HV.out k hlt;clear hs;obtain⟨j,hj⟩:∃j,j=k%8:=⟨_,rfl⟩
   have hj8:j<8:=by omega
   have hk1:(k:Int)%8=(j:Int):=by omega
   have hk2:k%8=j:=hj.symm;rw [hk2] at hv;by_cases h8:k<8
   ·have hk0:(k:Int)/8=0:=by omega
    rw [if_pos h8] at hv;have hvv:IntKind.u8.wrap ((x:Int)/2 ^ (8*j))=((bs[k]?.getD 0:Nat):Int):=by
     rw [hv,IntKind.wrap_u8,show ((x:Int)/2 ^ (8*j))=((x/2 ^ (8*j):Nat):Int) from by rw [J4r,J4s];rfl];omega
    clear hv hj;generalize bs[k]?.getD 0=v at *
    go_wp2_with fail;go_roundw
    case rel=>exact⟨k+1,by omega,by go_num,hs2⟩
    case measure=>simp [intOf];omega
   ·have hk0:(k:Int)/8=1:=by omega
    rw [if_neg h8] at hv;have hvv:IntKind.u8.wrap ((y:Int)/2 ^ (8*j))=((bs[k]?.getD 0:Nat):Int):=by
     rw [hv,IntKind.wrap_u8,show ((y:Int)/2 ^ (8*j))=((y/2 ^ (8*j):Nat):Int) from by rw [J4r,J4s];rfl];omega
    clear hv hj;generalize bs[k]?.getD 0=v at *
    go_wp2_with fail;go_roundw
    case rel=>exact⟨k+1,by omega,by go_num,hs2⟩
    case measure=>simp [intOf];omega
  ·obtain rfl:k=16:=by omega
   go_wp2_with fail;go_ret;exact⟨rfl,by have:=hs;rw [HFin.out] at this;exact this⟩
end Go.Proofs.YtlakjlmaboioiaaGreatDoor
