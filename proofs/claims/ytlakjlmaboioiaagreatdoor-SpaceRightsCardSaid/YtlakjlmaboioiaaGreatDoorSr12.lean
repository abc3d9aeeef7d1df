/- SpaceRights returns true at every input. No condition. Part of its proof. -/
import Derived.Test.YtlakjlmaboioiaaGreatDoorSr01
import Derived.Test.YtlakjlmaboioiaaGreatDoorSr11
import Derived.Test.YtlakjlmaboioiaaGreatDoorSr05
import Derived.Deep.LoopGhost
import Derived.Maps.AppendAt
import Derived.RangeFuncBox
import Derived.IntWalk
import Derived.Test.YtlakjlmaboioiaaGreatDoorSr09
import Derived.Test.YtlakjlmaboioiaaGreatDoorSr06
set_option maxHeartbeats 2000000
set_option maxRecDepth 100000
set_option linter.unusedVariables false
namespace Go.Proofs.YtlakjlmaboioiaaGreatDoor
open Go.RowKit Go.Proofs.Tryz
def Ent.c (e:Ent):Nat×Nat:=(e.h,e.r)
structure AV where
 en:Nat->Nat->Option (Nat×Nat)
 N:List (En Nd)
def avOf (l:List Pl) (tb:Nat->TB) (N:List (En Nd)):AV:=⟨fun h s=>(Q0f l tb h s).map Ent.c,N⟩
def setA (en:Nat->Nat->Option (Nat×Nat)) (h s:Nat) (o:Option (Nat×Nat)):Nat->Nat->Option (Nat×Nat):=fun h' s'=>if h'=h/\s'=s then o else en h' s'
theorem Q8H (en:Nat->Nat->Option (Nat×Nat)) (h s:Nat) (o:Option (Nat×Nat)):setA en h s o h s=o:=by unfold setA;rw [if_pos ⟨rfl,rfl⟩]
theorem Q4Z {en:Nat->Nat->Option (Nat×Nat)} {h s h' s':Nat} {o:Option (Nat×Nat)} (hne:¬(h'=h/\s'=s)):setA en h s o h' s'=en h' s':=by unfold setA;rw [if_neg hne]
def less (r m:Nat):Nat:=r-(r&&&m)
theorem Q5z:∀r,r<16->∀m,m<16->less r m&&&m=0/\less r m&&&r=less r m/\less r m<=r:=by decide
theorem Q4A:∀r,r<16->less r 15=0:=by decide
theorem Z7G:∀x,x<16->∀r,r<16->∀m,m<16->x&&&r=x->x&&&m=0->x&&&less r m=x:=by decide
def weak1 (m:Nat) (a:AV) (id:Int):AV×Bool:=match find a.N id with
 | none=>(a,false)
 | some n=>match a.en n.q.sp.toNat n.q.sl.toNat with
  | none=>(a,false)
  | some c=>if less c.2 m=0 then (⟨setA a.en n.q.sp.toNat n.q.sl.toNat none,Q0B a.N n n.q.ks.length⟩,true) else (⟨setA a.en n.q.sp.toNat n.q.sl.toNat (some (c.1,less c.2 m)),a.N⟩,false)
def Q0M (m:Nat):AV->List Int->AV×Nat
 | a,[]=>(a,0)
 | a,id::r=>((Q0M m (weak1 m a id).1 r).1,(if (weak1 m a id).2=true then 1 else 0)+(Q0M m (weak1 m a id).1 r).2)
theorem weakA_snoc (m:Nat):∀(l:List Int) (a:AV) (id:Int),Q0M m a (l++[id])=((weak1 m (Q0M m a l).1 id).1,(Q0M m a l).2+if (weak1 m (Q0M m a l).1 id).2=true then 1 else 0)
 | [],a,id=>by
  show ((weak1 m a id).1,(if (weak1 m a id).2=true then 1 else 0)+0)=((weak1 m a id).1,0+if (weak1 m a id).2=true then 1 else 0);rw [J4b,J1G]
 | x::r,a,id=>by
  rw [J3I];unfold Q0M;rw [weakA_snoc m r (weak1 m a x).1 id];simp only [J2X]
theorem Q5A (m:Nat):∀(l:List Int) (a:AV),(Q0M m a l).2<=l.length
 | [],a=>J1x _
 | x::r,a=>by
  have:=Q5A m r (weak1 m a x).1;show (if (weak1 m a x).2=true then 1 else 0)+(Q0M m (weak1 m a x).1 r).2<=r.length+1;split <;> omega
def Q3D (m:Nat) (a:AV) (A:List Int) (id:Int):Prop:=∀e,find a.N id=some e->∀c∈e.q.ks,c∈A∨∀n,find a.N c=some n->∀x,a.en n.q.sp.toNat n.q.sl.toNat=some x->x.2&&&m=0
def WeakOk (m:Nat) (a:AV) (l:List Int):Prop:=m=15∨∀A id B,l=A++id::B->Q3D m a A id
theorem Q7f (a:AV) (l:List Int):WeakOk 15 a l:=.inl rfl
theorem Q3E {N:List (En Nd)} {next:Int} (ok:NOk N next) (e:En Nd) (id:Int):find (Q0B N e e.q.ks.length) id=if id=e.id then none else (find N id).map fun c=>{c with q:=Q0t e e.q.ks.length c}:=by
 unfold Q0B;rw [Q1p,ok.rem_find];split <;> rfl
theorem Q1B (e c:En Nd):Q0t e e.q.ks.length c={c.q with par:=if c.id∈e.q.ks then e.q.par else c.q.par,ks:=if c.id=e.q.par then c.q.ks.filter (fun k=>decide (k≠e.id))++e.q.ks else c.q.ks}:=by
 unfold Q0t;rw [J5G]
theorem Z0d {N:List (En Nd)} {next:Int} (ok:NOk N next) {a b:En Nd} (ha:a∈N) (hb:b∈N) (hne:a.id≠b.id):¬(a.q.sp.toNat=b.q.sp.toNat/\a.q.sl.toNat=b.q.sl.toNat):=fun h=>by
 have h1:=ok.sm a ha;have h2:=ok.sm b hb;exact hne (by rw [Q4a ok ha hb (by omega) (by omega)])
theorem WeakOk.step {m:Nat} {a:AV} {next:Int} (ok:NOk a.N next) (hr:∀h s x,a.en h s=some x->x.2<16) (hm:m<16) {id:Int} {l:List Int} (h:WeakOk m a (id::l)):WeakOk m (weak1 m a id).1 l:=by
 rcases h with h|h
 ·exact .inl h
 refine .inr fun A x B hl=>?_
 have h0:=h [] id l rfl;have h1:=h (id::A) x B (by rw [hl];rfl);unfold weak1;cases hf:find a.N id with
 | none =>
  simp only;intro e he c hc;rcases h1 e he c hc with hx|hx
  ·rcases J1C.1 hx with rfl|hx
   ·exact .inr fun n hn=>by rw [hf] at hn;cases hn
   ·exact .inl hx
  ·exact .inr hx
 | some d =>
  simp only;obtain⟨hd,hdid⟩:=Q0b hf;cases he0:a.en d.q.sp.toNat d.q.sl.toNat with
  | none =>
   simp only;intro e he c hc;rcases h1 e he c hc with hx|hx
   ·rcases J1C.1 hx with rfl|hx
    ·exact .inr fun n hn=>by rw [hf] at hn;cases hn;intro y hy;rw [he0] at hy;cases hy
    ·exact .inl hx
   ·exact .inr hx
  | some y =>
   simp only;have hy:=hr _ _ _ he0;split
   ·-- lifted
    have hdN:find a.N d.id=some d:=by rw [hdid];exact hf
    have old:∀c n',find (Q0B a.N d d.q.ks.length) c=some n'->∃n,find a.N c=some n/\n∈a.N/\n.id≠d.id/\n'.q.sp=n.q.sp/\n'.q.sl=n.q.sl:=fun c n' hn'=>by
     rw [Q3E ok] at hn';split at hn'
     ·cases hn'
     ·rename_i hcd;cases hn:find a.N c with
      | none=>rw [hn] at hn';cases hn'
      | some n =>
       rw [hn] at hn';simp only [J3l,J1L] at hn';subst hn';obtain⟨n1,n2⟩:=Q0b hn;exact⟨n,rfl,n1,by rw [n2];exact hcd,by rw [Q1B],by rw [Q1B]⟩
    have good:∀c,(∀n,find a.N c=some n->∀z,a.en n.q.sp.toNat n.q.sl.toNat=some z->z.2&&&m=0)->∀n',find (Q0B a.N d d.q.ks.length) c=some n'->∀z,setA a.en d.q.sp.toNat d.q.sl.toNat none n'.q.sp.toNat n'.q.sl.toNat=some z->z.2&&&m=0:=fun c hc n' hn' z hz=>by
     obtain⟨n,n1,n2,n3,n4,n5⟩:=old c n' hn';rw [n4,n5,Q4Z (Z0d ok n2 hd n3)] at hz;exact hc n n1 z hz
    intro e' he' c hc;have he2:find (Q0B a.N d d.q.ks.length) x=some e':=he';rw [Q3E ok] at he2;split at he2
    ·cases he2
    ·rename_i hxd;cases he3:find a.N x with
     | none=>rw [he3] at he2;cases he2
     | some e =>
      rw [he3] at he2;simp only [J3l,J1L] at he2;subst he2;have hc':c∈(Q0t d d.q.ks.length e).ks:=hc;rw [Q1B] at hc';simp only at hc';obtain⟨e1,e2⟩:=Q0b he3;have fromOld:c∈e.q.ks->c≠d.id->c∈A∨∀n',find (Q0B a.N d d.q.ks.length) c=some n'->∀z,setA a.en d.q.sp.toNat d.q.sl.toNat none n'.q.sp.toNat n'.q.sl.toNat=some z->z.2&&&m=0:=fun k1 k2=>by
       rcases h1 e he3 c k1 with hx|hx
       ·rcases J1C.1 hx with h|hx
        ·exact absurd (h.trans hdid.symm) k2
        ·exact .inl hx
       ·exact .inr (good c hx)
      split at hc'
      ·rcases J2l.1 hc' with hc'|hc'
       ·obtain⟨k1,k2⟩:=J1R.1 hc';exact fromOld k1 (by simpa using k2)
       ·rcases h0 d hf c hc' with hx|hx
        ·cases hx
        ·exact .inr (good c hx)
      ·rename_i hpar;refine fromOld hc' fun k=>?_
       obtain⟨k1,k2,k3⟩:=ok.kids e e1 c hc';rw [k,hdN] at k2;cases k2;exact hpar k3.symm
   ·-- weakened
    intro e he c hc;have he2:find a.N x=some e:=he;have hen:∀n,n∈a.N->n.id≠d.id->setA a.en d.q.sp.toNat d.q.sl.toNat (some (y.1,less y.2 m)) n.q.sp.toNat n.q.sl.toNat=a.en n.q.sp.toNat n.q.sl.toNat:=fun n n1 n2=>Q4Z (Z0d ok n1 hd n2)
    by_cases hcd:c=id
    ·refine .inr fun n hn z hz=>?_
     have hn2:find a.N c=some n:=hn;rw [hcd,hf] at hn2;cases hn2;have hz2:setA a.en d.q.sp.toNat d.q.sl.toNat (some (y.1,less y.2 m)) d.q.sp.toNat d.q.sl.toNat=some z:=hz;rw [Q8H] at hz2;cases hz2;exact (Q5z y.2 hy m hm).1
    ·rcases h1 e he2 c hc with hx|hx
     ·rcases J1C.1 hx with h|hx
      ·exact absurd h hcd
      ·exact .inl hx
     ·refine .inr fun n hn z hz=>?_
      have hn2:find a.N c=some n:=hn;obtain⟨n1,n2⟩:=Q0b hn2;have hz2:setA a.en d.q.sp.toNat d.q.sl.toNat (some (y.1,less y.2 m)) n.q.sp.toNat n.q.sl.toNat=some z:=hz;rw [hen n n1 (by rw [n2,hdid];exact hcd)] at hz2;exact hx n hn2 z hz2
theorem Q8I {m:Nat} {a:AV} {next:Int} (ok:NOk a.N next) (id:Int) (self:Bool):WeakOk m a (Q0G (kdF a.N) (rkF next) id++if self=true then [id] else []):=by
 refine .inr fun A x B hl e he c hc=>.inl ?_
 have t:=ok.tree;have hk:c∈kdF a.N x:=by unfold kdF;rw [he];exact hc
 have hcx:c≠x:=fun h=>by
  have:=t.dn x c hk;rw [h] at this;omega
 have hin:Dn (kdF a.N) id x->c∈Q0G (kdF a.N) (rkF next) id:=fun hd=>by
  refine (Q7d t).2 ⟨hd.trans (.down x c c hk (.here c)),fun h=>?_⟩;have h1:=(Dn.rank t hd).1;have h2:=t.dn x c hk;rw [h] at h2;omega
 have hp:=Z2o t id;rcases List.append_eq_append_iff.1 hl with ⟨C,e1,e2⟩|⟨C,e1,e2⟩
 ·-- x is the last
  cases C with
  | nil =>
   rw [J3H] at e2;rw [J3D] at e1;cases self with
   | false=>rw [if_neg (by decide)] at e2;cases e2
   | true =>
    rw [if_pos rfl] at e2
    injection e2 with e2 e3
    subst e2;rw [e1];exact hin (.here _)
  | cons y C =>
   cases self with
   | false=>rw [if_neg (by decide)] at e2;simp at e2
   | true=>rw [if_pos rfl] at e2;simp at e2
 ·-- x is below
  cases C with
  | nil =>
   rw [J3D] at e1;rw [J3H] at e2;cases self with
   | false=>rw [if_neg (by decide)] at e2;cases e2
   | true =>
    rw [if_pos rfl] at e2
    injection e2 with e2 e3
    subst e2;rw [<- e1];exact hin (.here _)
  | cons y C =>
   rw [J3I] at e2
   injection e2 with e2 e3
   subst e2;have hx:x∈Q0G (kdF a.N) (rkF next) id:=by rw [e1];simp
   have hcb:=hin ((Q7d t).1 hx).1;rw [e1] at hcb;rcases J2l.1 hcb with h|h
   ·exact h
   ·rcases J1C.1 h with h|h
    ·exact absurd h hcx
    ·rw [e1] at hp;have:=((J2k.1 hp).2.1)
     have:=(J1Y.1 this).1 c h;exact absurd (.down x c c hk (.here c)) this.2
theorem Z0e {S:CO} {fr:List Nat} {N K:Nat} (ok:S.Ok fr N K) {i j:Nat} {p r:Pl} (hi:S.l[i]?=some p) (hj:S.l[j]?=some r) (hij:i≠j) (hp:p.st=1) (hr:r.st=1):p.at_+costK p.kind<=r.at_∨r.at_+costK r.kind<=p.at_:=by
 have m:=ok.inv.mem;have hpi:p.is=true:=Pl.is_iff.2 (.inl hp);have hri:r.is=true:=Pl.is_iff.2 (.inl hr);have hpm:=J3L hi;have hrm:=J3L hj;by_cases hp8:p.kind=8
 ·obtain⟨g,hg,eg⟩:=m.frame hpm hpi hp8;by_cases hr8:r.kind=8
  ·obtain⟨g',hg',eg'⟩:=m.frame hrm hri hr8;have hnd:(Q1Y S.l 8).Nodup:=by
    refine m.frs.nodup_iff.2 ?_;unfold List.Nodup;rw [J2c];exact (Q4s m.pool).1.imp fun h e=>h (by omega)
   have:g≠g':=fun e=>hij (Q9W (atsF 8) hnd hi hj (b:=p.at_) (by rw [<- hp8];exact Q1a hpi) (by rw [<- hr8,Q1a hri,eg',<- e,eg]))
   rw [hp8,hr8,costK_8];omega
  ·have:=Q2z m.pool hg (m.used hrm hri hr8);rw [hp8,costK_8,Q1O hr8];omega
 ·have hu:=m.used hpm hpi hp8;by_cases hr8:r.kind=8
  ·obtain⟨g',hg',eg'⟩:=m.frame hrm hri hr8;have:=Q2z m.pool hg' hu;rw [hr8,costK_8,Q1O hp8];omega
  ·have hv:=m.used hrm hri hr8;rw [Q1O hp8,Q1O hr8];refine Q3y m.pool hu hv fun e=>?_
   obtain⟨k1,k5⟩:=(m.kind p hpm hpi).resolve_left hp8;exact hij (Q9W (atsF p.kind) (m.at_nd p.kind k1 k5) hi hj (b:=p.at_) (Q1a hpi) (by rw [e.1,Q1a hri,e.2]))
theorem bytes8_len (x:Nat):(Q0d x).length=8:=rfl
theorem Q1l (x y:Nat):(Q0d x++Q0d y).length=16:=rfl
theorem Q3h (x:Nat):∀y∈Q0d x,y<256:=by
 intro y hy;unfold Q0d at hy;simp only [J1C,J1T,or_false] at hy;omega
theorem Q8J {m bs:List Nat} {a:Nat} (h:∀b∈m,b<256) (hb:∀b∈bs,b<256):∀b∈put_ m a bs,b<256:=by
 intro y hy;unfold put_ at hy;simp only [J2l] at hy;rcases hy with (hy|hy)|hy
 ·exact h y (J4S hy)
 ·exact hb y hy
 ·exact h y (J4a hy)
def Q4b (m m':List Nat) (a n:Nat):Prop:=∀b k,b+k<=a∨a+n<=b->Kept m m' b k
theorem Q6b {m bs:List Nat} {a:Nat} (hl:a+bs.length<=m.length):Q4b m (put_ m a bs) a bs.length:=fun _ _ h=>Q1A hl h
theorem Z2r {m:List Nat} {a x:Nat} (hl:a+8<=m.length) (hx:x<18446744073709551616):Q0u (put_ m a (Q0d x)) a=x:=by
 unfold Q0u;have:((put_ m a (Q0d x)).drop a).take 8=Q0d x:=by
  apply J3f
  intro i;rw [J3A];split
  ·rw [J3Z];exact Q6Y (by rw [bytes8_len];exact hl) (by rw [bytes8_len];assumption)
  ·rw [J3m (by rw [bytes8_len];omega)]
 rw [this];exact Q3w x hx
theorem Z2s {m:List Nat} {a x y:Nat} (hl:a+16<=m.length) (hx:x<18446744073709551616) (hy:y<18446744073709551616):Q0u (put_ m a (Q0d x++Q0d y)) a=x/\Q0u (put_ m a (Q0d x++Q0d y)) (a+8)=y:=by
 have h1:((put_ m a (Q0d x++Q0d y)).drop a).take 8=Q0d x:=by
  apply J3f
  intro i;rw [J3A];split
  ·rename_i hi;rw [J3Z,Q6Y (by rw [Q1l];exact hl) (by rw [Q1l];omega),J4K (by rw [bytes8_len];exact hi)]
  ·rw [J3m (by rw [bytes8_len];omega)]
 have h2:((put_ m a (Q0d x++Q0d y)).drop (a+8)).take 8=Q0d y:=by
  apply J3f
  intro i;rw [J3A];split
  ·rename_i hi;rw [J3Z,J2X,Q6Y (by rw [Q1l];exact hl) (by rw [Q1l];omega),J4L (by rw [bytes8_len];omega),bytes8_len,show 8+i-8=i by omega]
  ·rw [J3m (by rw [bytes8_len];omega)]
 unfold Q0u;rw [h1,h2];exact⟨Q3w x hx,Q3w y hy⟩
section
variable {S:CO} {fr:List Nat} {N K:Nat} {tb:Nat->TB} {own:Int} {xl xn:List Nat}
theorem Q4B (ok:S.Ok fr N K) {j a b n:Nat} {m:List Nat} (ha:a∈S.P.usedOf j) (h1:a<=b) (h2:b+n<=a+Q0c j) (hk:Q4b S.P.a.mem m b n) {j' a':Nat} (ha':a'∈S.P.usedOf j') (hne:¬(j=j'/\a=a')):Kept S.P.a.mem m a' (Q0c j'):=by
 have:=Q3y ok.inv.mem.pool ha ha' hne;exact hk _ _ (by omega)
theorem TPX.leaf_ne (ok:S.Ok fr N K) (t:TPX S tb own xl xn) {i j k k':Nat} (hi:i<256) (hj:j<256) (hk:k<16) (hk':k'<16) (h:(tb i).lf k≠0) (h':(tb j).lf k'≠0) (hne:¬(i=j/\k=k')):(tb i).lf k≠(tb j).lf k':=by
 have hnd:(xl++Q3e tb).Nodup:=t.lvs.nodup_iff.2 ((Q1X ok.inv.mem.pool 7).imp fun h=>Nat.ne_of_lt h);have hnd:=(J2q.1 hnd).2.1;unfold Q3e List.Nodup at hnd;rw [J1Z] at hnd;obtain⟨n1,n2⟩:=hnd;by_cases e:i=j
 ·subst e;have hkk:k≠k':=fun e=>hne ⟨rfl,e⟩
  have:=n1 i (J1N.2 hi);unfold TB.lvs at this;rw [J1P] at this;rcases J4f k k' with hlt|hge
  ·have:=J4z.1 this k k' (by simpa using hk) (by simpa using hk') hlt;simp only [J5H] at this;exact this _ (by rw [if_neg h]) _ (by rw [if_neg h'])
  ·have:=J4z.1 this k' k (by simpa using hk') (by simpa using hk) (by omega);simp only [J5H] at this;exact (this _ (by rw [if_neg h']) _ (by rw [if_neg h])).symm
 ·rcases J4f i j with hlt|hge
  ·have:=J4z.1 n2 i j (by simpa using hi) (by simpa using hj) hlt;simp only [J5H] at this;exact this _ (mem_lvs.2 ⟨k,hk,rfl,h⟩) _ (mem_lvs.2 ⟨k',hk',rfl,h'⟩)
  ·have:=J4z.1 n2 j i (by simpa using hj) (by simpa using hi) (by omega);simp only [J5H] at this;exact (this _ (mem_lvs.2 ⟨k',hk',rfl,h'⟩) _ (mem_lvs.2 ⟨k,hk,rfl,h⟩)).symm
theorem TPX.entry (ok:S.Ok fr N K) (t:TPX S tb own xl xn) {i s:Nat} {p:Pl} (hi:S.l[i]?=some p) (h1:p.st=1) (h2:p.kind=2) (hown:(p.fac:Int)=own) (hs:s<256) (hl:(tb i).lf (s/16)≠0) {o:Option Ent} {xn':List Nat} {m:List Nat} (hlen:m.length=S.P.a.mem.length) (hb:∀b∈m,b<256)
  (hk:Q4b S.P.a.mem m ((tb i).lf (s/16)+16*(s%16)) 16) (ha:Q0u m ((tb i).lf (s/16)+16*(s%16))=Q0s o) (hb2:Q0u m ((tb i).lf (s/16)+16*(s%16)+8)=Q0U o) (hn:(xn'++((tb i).setE s o).nds).Perm (xn++(tb i).nds)) :
  (S.setP (S.P.setA m)).Ok fr N K/\TPX (S.setP (S.P.setA m)) (updT tb i ((tb i).setE s o)) own xl xn':=by
 have hi256:=Q1o ok.inv.len hi;have hL:=t.leaf hi256 (by omega:s/16<16) hl;have hrange:(tb i).lf (s/16)<=(tb i).lf (s/16)+16*(s%16)/\(tb i).lf (s/16)+16*(s%16)+16<=(tb i).lf (s/16)+Q0c 7:=by rw [Q2N];omega
 have hother:∀{j' a':Nat},a'∈S.P.usedOf j'->¬(7=j'/\(tb i).lf (s/16)=a')->Kept S.P.a.mem m a' (Q0c j'):=fun ha' hne=>Q4B ok hL hrange.1 hrange.2 hk ha' hne
 have hcost:((tb i).setE s o).lvs=(tb i).lvs:=rfl;obtain⟨A,B,e1,e2⟩:=Q4x TB.lvs tb hi256 ((tb i).setE s o);obtain⟨A',B',e3,e4⟩:=Q4x TB.nds tb hi256 ((tb i).setE s o);refine⟨ok.stored hlen hb (fun b hb'=>?_),fun j q hj q1 q2=>?_,fun j q hj hq=>?_,?_,?_,fun id=>?_⟩
 ·have:=hother hb' (by omega);exact (this.sub (b:=b) (k:=8) (J1x _) (by show b+8<=b+64;omega)).word
 ·show (updT tb i _ j).In m q.at_;have hj':S.l[j]?=some q:=hj;have hj256:=Q1o ok.inv.len hj';by_cases e:j=i
  ·subst e;rw [updT_same];have hqp:q=p:=by rw [hi] at hj';exact (J2u hj').symm
   subst hqp;refine (t.tin j q hi h1 h2).set hs hl hk ha hb2 ?_ (fun k hk16 hkne hk0=>?_)
   ·have:=Q3y ok.inv.mem.pool (Q1G ok hi h1 h2) hL (by omega);exact this
   ·have hne:=t.leaf_ne ok hi256 hi256 hk16 (by omega:s/16<16) hk0 hl (fun e=>hkne e.2);exact Q3y ok.inv.mem.pool (t.leaf hi256 hk16 hk0) hL (fun e=>hne e.2)
  ·rw [Q0V e];refine (t.tin j q hj' q1 q2).kept (hother (Q1G ok hj' q1 q2) (by omega)) fun k hk16 hk0=>?_
   exact hother (t.leaf hj256 hk16 hk0) (fun e'=>t.leaf_ne ok hi256 hj256 (by omega:s/16<16) hk16 hl hk0 (fun e''=>e e''.1.symm) e'.2)
 ·have hj':S.l[j]?=some q:=hj;have e:j≠i:=fun e=>by
   subst e;rw [hi] at hj';cases hj';exact hq ⟨h1,h2⟩
  rw [Q0V e];exact t.nil j q hj' hq
 ·show (xl++Q3e _).Perm (S.P.usedOf 7);have:Q3e (updT tb i ((tb i).setE s o))=Q3e tb:=by
   unfold Q3e;rw [e1,e2,hcost]
  rw [this];exact t.lvs
 ·show (xn'++Q3Z _).Perm (S.P.usedOf 6);refine List.Perm.trans ?_ t.nds;unfold Q3Z;rw [e3,e4];have r:∀(X Y:List Nat),(X++(A'++Y++B')).Perm (X++Y++(A'++B')):=fun X Y=>by
   rw [J2x A' Y B',J2x X Y];refine J4m X ?_;rw [<- J2x,<- J2x];exact J4k.append_right B'
  exact (r _ _).trans ((hn.append_right _).trans (r _ _).symm)
 ·show S.xc id=xcOf S.l _ id+_;rw [Q8E hi256 hi,t.xc];have hc:((tb i).setE s o).cost=(tb i).cost+48*(((tb i).setE s o).nds.length:Int)-48*((tb i).nds.length:Int):=by
   unfold TB.cost;rw [hcost];omega
  have hlenp:=hn.length_eq;rw [J2h,J2h] at hlenp;rw [hc];by_cases hid:id=own
  ·subst hid;rw [if_pos rfl,if_pos rfl,if_pos hown];omega
  ·rw [if_neg hid,if_neg hid,if_neg (by omega)];omega
theorem TPX.rootw (ok:S.Ok fr N K) (t:TPX S tb own xl xn) {i k:Nat} {p:Pl} (hi:S.l[i]?=some p) (h1:p.st=1) (h2:p.kind=2) (hown:(p.fac:Int)=own) (hk16:k<16) {L:Nat} {xl':List Nat} {m:List Nat} (hlen:m.length=S.P.a.mem.length) (hb:∀b∈m,b<256)
  (hk:Q4b S.P.a.mem m (p.at_+8*k) 8) (hin:((tb i).setL k L).In m p.at_) (hn:(xl'++((tb i).setL k L).lvs).Perm (xl++(tb i).lvs)) :
  (S.setP (S.P.setA m)).Ok fr N K/\TPX (S.setP (S.P.setA m)) (updT tb i ((tb i).setL k L)) own xl' xn:=by
 have hi256:=Q1o ok.inv.len hi;have hT:=Q1G ok hi h1 h2;have hrange:p.at_<=p.at_+8*k/\p.at_+8*k+8<=p.at_+Q0c 2:=by
  have:Q0c 2=128:=rfl;omega
 have hother:∀{j' a':Nat},a'∈S.P.usedOf j'->¬(2=j'/\p.at_=a')->Kept S.P.a.mem m a' (Q0c j'):=fun ha' hne=>Q4B ok hT hrange.1 hrange.2 hk ha' hne
 have hcost:((tb i).setL k L).nds=(tb i).nds:=rfl;obtain⟨A,B,e1,e2⟩:=Q4x TB.lvs tb hi256 ((tb i).setL k L);obtain⟨A',B',e3,e4⟩:=Q4x TB.nds tb hi256 ((tb i).setL k L);refine⟨ok.stored hlen hb (fun b hb'=>?_),fun j q hj q1 q2=>?_,fun j q hj hq=>?_,?_,?_,fun id=>?_⟩
 ·have:=hother hb' (by omega);exact (this.sub (b:=b) (k:=8) (J1x _) (by show b+8<=b+64;omega)).word
 ·show (updT tb i _ j).In m q.at_;have hj':S.l[j]?=some q:=hj;have hj256:=Q1o ok.inv.len hj';by_cases e:j=i
  ·subst e;rw [updT_same];have hqp:q=p:=by rw [hi] at hj';exact (J2u hj').symm
   subst hqp;exact hin
  ·rw [Q0V e];refine (t.tin j q hj' q1 q2).kept (hother (Q1G ok hj' q1 q2) (fun e'=>?_)) fun k' hk16' hk0=>hother (t.leaf hj256 hk16' hk0) (by omega)
   have:=Z0e ok hi hj' (fun e''=>e e''.symm) h1 q1;rw [h2,q2,Z5j] at this;omega
 ·have hj':S.l[j]?=some q:=hj;have e:j≠i:=fun e=>by
   subst e;rw [hi] at hj';cases hj';exact hq ⟨h1,h2⟩
  rw [Q0V e];exact t.nil j q hj' hq
 ·show (xl'++Q3e _).Perm (S.P.usedOf 7);refine List.Perm.trans ?_ t.lvs;unfold Q3e;rw [e1,e2];have r:∀(X Y:List Nat),(X++(A++Y++B)).Perm (X++Y++(A++B)):=fun X Y=>by
   rw [J2x A Y B,J2x X Y];refine J4m X ?_;rw [<- J2x,<- J2x];exact J4k.append_right B
  exact (r _ _).trans ((hn.append_right _).trans (r _ _).symm)
 ·show (xn++Q3Z _).Perm (S.P.usedOf 6);have:Q3Z (updT tb i ((tb i).setL k L))=Q3Z tb:=by
   unfold Q3Z;rw [e3,e4,hcost]
  rw [this];exact t.nds
 ·show S.xc id=xcOf S.l _ id+_;rw [Q8E hi256 hi,t.xc];have hc:((tb i).setL k L).cost=(tb i).cost+256*(((tb i).setL k L).lvs.length:Int)-256*((tb i).lvs.length:Int):=by
   unfold TB.cost;rw [hcost];omega
  have hlenp:=hn.length_eq;rw [J2h,J2h] at hlenp;rw [hc];by_cases hid:id=own
  ·subst hid;rw [if_pos rfl,if_pos rfl,if_pos hown];omega
  ·rw [if_neg hid,if_neg hid,if_neg (by omega)];omega
end
structure Alt (S S':CO) (own:Int):Prop where
 c:S'.c=S.c
 t:S'.t=S.t
 l:S'.l=S.l
 g:S'.g=S.g
 per:S'.period=S.period
 now:S'.now=S.now
 rv:S'.rv=S.rv
 ts:S'.ts=S.ts
 same:SameP S.P S'.P
 next:S'.P.q.next=S.P.q.next
 acc:∀id e,find S.P.q.E id=some e->∃e',find S'.P.q.E id=some e'/\e'.q={e.q with charged:=e'.q.charged}/\(id≠own->e'=e)
 ids:S'.P.q.E.map En.id=S.P.q.E.map En.id
 kept:∀r∈S.l,r.is=true->r.kind≠2->Kept S.P.a.mem S'.P.a.mem r.at_ (costK r.kind)
theorem Alt.refl (S:CO) (own:Int):Alt S S own:=⟨rfl,rfl,rfl,rfl,rfl,rfl,rfl,rfl,SameP.refl _,rfl,fun _ e h=>⟨e,h,rfl,fun _=>rfl⟩,rfl,fun _ _ _ _=>Kept.refl _ _ _⟩
theorem Alt.trans {S S1 S2:CO} {own:Int} (h:Alt S S1 own) (k:Alt S1 S2 own):Alt S S2 own:=by
 refine⟨k.c.trans h.c,k.t.trans h.t,k.l.trans h.l,k.g.trans h.g,k.per.trans h.per,k.now.trans h.now,k.rv.trans h.rv,k.ts.trans h.ts,h.same.trans k.same,k.next.trans h.next,fun id e he=>?_,k.ids.trans h.ids,fun r hr hi hk=>?_⟩
 ·obtain⟨e1,a1,a2,a3⟩:=h.acc id e he;obtain⟨e2,b1,b2,b3⟩:=k.acc id e1 a1;refine⟨e2,b1,?_,fun hne=>(b3 hne).trans (a3 hne)⟩;rw [b2,a2]
 ·exact (h.kept r hr hi hk).trans (k.kept r (by rw [h.l];exact hr) hi hk)
theorem Alt.got {S:CO} {fr:List Nat} {N K:Nat} (ok:S.Ok fr N K) {own:Int} {n a:Nat} {P':PL} (g:GetOk S.P fr own n a P'):Alt S (S.paid P' own ((Q0c n:Nat):Int)) own:=by
 have gm:=g.gotM ok.inv.mem.pool;obtain⟨e,q1,q2,q3⟩:=g.q;refine⟨rfl,rfl,rfl,rfl,rfl,rfl,rfl,rfl,gm.same,by show P'.q.next=_;rw [q3],fun id x hx=>?_,?_,fun r hr hi hk=>?_⟩
 ·show ∃e',find P'.q.E id=some e'/\_;rw [q3];by_cases hid:id=own
  ·subst hid;rw [q1] at hx;cases hx;exact⟨_,Q0h q1 _,rfl,fun h=>absurd rfl h⟩
  ·exact⟨x,by rw [Q0w hid];exact hx,rfl,fun _=>rfl⟩
 ·show P'.q.E.map En.id=_;rw [q3];exact Q1n _ _ _
 ·exact gm.keptL ok.inv.mem r hr hi
theorem Alt.put {S:CO} {fr:List Nat} {N K:Nat} (ok:S.Ok fr N K) {own:Int} {n a:Nat} {P':PL} (g:PutOk S.P fr own n a P'):Alt S (S.paid P' own (-((Q0c n:Nat):Int))) own:=by
 have bm:=g.backM ok.inv.mem.pool;obtain⟨e,q1,q2,q3⟩:=g.q;refine⟨rfl,rfl,rfl,rfl,rfl,rfl,rfl,rfl,bm.same,by show P'.q.next=_;rw [q3],fun id x hx=>?_,?_,fun r hr hi hk=>?_⟩
 ·show ∃e',find P'.q.E id=some e'/\_;rw [q3];by_cases hid:id=own
  ·subst hid;rw [q1] at hx;cases hx;exact⟨_,Q0h q1 _,rfl,fun h=>absurd rfl h⟩
  ·exact⟨x,by rw [Q0w hid];exact hx,rfl,fun _=>rfl⟩
 ·show P'.q.E.map En.id=_;rw [q3];exact Q1n _ _ _
 ·show Kept S.P.a.mem P'.a.mem _ _;rw [bm.mem];exact Kept.refl _ _ _
theorem Alt.mem {S:CO} {fr:List Nat} {N K:Nat} (ok:S.Ok fr N K) (own:Int) {j a b n:Nat} {m:List Nat} (hj:j=2∨j=7) (ha:a∈S.P.usedOf j) (h1:a<=b) (h2:b+n<=a+Q0c j) (hlen:m.length=S.P.a.mem.length) (hk:Q4b S.P.a.mem m b n):Alt S (S.setP (S.P.setA m)) own:=by
 refine⟨rfl,rfl,rfl,rfl,rfl,rfl,rfl,rfl,⟨rfl,rfl,rfl,rfl,rfl,rfl,hlen⟩,rfl,fun _ e h=>⟨e,h,rfl,fun _=>rfl⟩,rfl,fun r hr hi hk2=>?_⟩;show Kept S.P.a.mem m _ _;by_cases h8:r.kind=8
 ·obtain⟨g,hg,e⟩:=ok.inv.mem.frame hr hi h8;have:=Q2z ok.inv.mem.pool hg ha;rw [h8,costK_8,e];exact hk _ _ (by omega)
 ·have hu:=ok.inv.mem.used hr hi h8;have hkd:=(ok.inv.mem.kind r hr hi).resolve_left h8;rw [Q1O h8];exact Q4B ok ha h1 h2 hk hu (fun e=>by omega)
theorem costs_67:Q1g 6=48/\Q1g 7=256:=⟨rfl,rfl⟩
theorem CO.stepPaid {w w':World} {S:CO} (h:Sep w S.hl) (P':PL) (own d:Int) (e:P'.p=S.P.p) (s:Step S.P.hl P'.hl w w'):Step S.hl (S.paid P' own d).hl w w':=CO.stepP h P' e s
theorem CO.stepMem {w w':World} {S:CO} (h:Sep w S.hl) (m:List Nat) (s:Step S.P.a.hl ({S.P.a with mem:=m}:AN).hl w w'):Step S.hl (S.setP (S.P.setA m)).hl w w':=
 CO.stepP h (S.P.setA m) rfl (PL.stepA (CO.sP h) m s)
def blk (k i:Nat):Nat×Nat:=(1024*i*2 ^ k,k)
abbrev encI (x:Int):Value:=.int .i64 x
theorem Z0f:(prog.info? 3).map (fun i=>(i.zero,i.size,i.bytes))=some (some (.int .i64 0),1,8):=by kernel_rfl
def AsideV (H:HL) (cs:List Value) (a:Option Addr) (w:World):Prop:=∀(j:Nat) (v:Value),cs[j]?=some v->∃g,a=some ⟨g,0,none⟩/\g∉keys H/\g<w.heap.size/\w.cell? ⟨g,j,none⟩=some v
theorem AsideV.step {H H':HL} {cs:List Value} {a:Option Addr} {w w':World} (h:AsideV H cs a w) (st:Step H H' w w'):AsideV H' cs a w':=fun j x hj=>by
 obtain⟨g,h1,h2,h3,h4⟩:=h j x hj;refine⟨g,h1,fun hk=>?_,J1z h3 st.chg.size,(World.cell?_of_block (w:=w) (st.chg.block g h3 h2)).trans h4⟩;rcases st.new g hk with h'|h'
 ·exact h2 h'
 ·omega
theorem Q7g {w w':World} {H:HL} {T:TypeId} {size n:Nat} {v:Value} {cs:List Value} (hs:Sep w H) (h:w'.ownsRow w.heap.size T size v n cs):∃(a:Option Addr) (cap:Nat),v=.slice a n cap/\AsideV H cs a w':=by
 obtain⟨hl,h2⟩:=h;rcases h2 with ⟨rfl,h0⟩|⟨g,cap,cur,rfl,hg,hgb,hn,hm,hsz,htk⟩
 ·refine⟨none,0,by rw [h0],fun j x hj=>?_⟩;have:=(J1O.1 hj).1;rw [hl,h0,J5n] at this;omega
 ·refine⟨_,cap,rfl,fun j x hj=>⟨g,rfl,fun hk=>by have:=hs.lt hk;omega,lt_of_block hgb,?_⟩⟩;rw [<- hl] at htk;rw [<- htk,J3A] at hj;split at hj
  ·simp only [World.cell?,hgb,J4A,J5p,if_false];rw [<- J3X];exact hj
  ·cases hj
theorem Z5p {w:World} {a:AN} (h:Sep w a.hl) (at_:Nat) (h8:at_%8=0) (hl:at_+16<=a.mem.length) (hm:a.mem.length<=1073741824) :
  Calls prog 230 #[.pointer (some ⟨a.a,0,none⟩),.int .i64 at_,.int .i64 2] w fun r w'=>r=.returned (.tuple #[.slice (some ⟨a.mb,at_,none⟩) 16 (a.mem.length-at_),.int .i64 0])/\w=w':=by
 have k1:=Q9U h at_ 16 (by omega) hl hm;have h1:(at_:Int)%8=0:=by omega
 have h2:((at_:Int)%8 != 0)=false:=by simp;omega
 have h3:((0:Int) != 0)=false:=by simp
 clear h h8;generalize a.mem.length=l at *
 go_enter func230,ntmps230;go_wp2_with (go_at_call 229;refine k1.mono ?_;rintro e w' ⟨rfl,rfl⟩);go_ret2;exact⟨rfl,rfl⟩
theorem Z0g (x y k:Nat) (hk:k<16):(Q0d x++Q0d y)[k]?.getD 0=(if k<8 then x else y)/2 ^ (8*(k%8))%256:=by
 have hl:(Q0d x).length=8:=rfl;by_cases h:k<8
 ·rw [J4K (by rw [hl];exact h),Q4R x k h,if_pos h,J2S h]
 ·rw [J4L (by rw [hl];omega),hl,Q4R y (k-8) (by omega),if_neg h,show k%8=k-8 by omega]
theorem Z5q {w:World} {a:AN} (h:Sep w a.hl) (at_ x y:Nat) (h8:at_%8=0) (hl:at_+16<=a.mem.length) (hm:a.mem.length<=1073741824) (hx:x<18446744073709551616) (hy:y<18446744073709551616) (g:Nat) (hg:w.cell? ⟨g,0,none⟩=some (.int .u64 x)) (hg1:w.cell? ⟨g,1,none⟩=some (.int .u64 y)) (hgl:g<w.heap.size) (hgk:g∉keys a.hl) :
  Calls prog 158 #[.pointer (some ⟨a.a,0,none⟩),.int .i64 at_,.slice (some ⟨g,0,none⟩) 2 2] w fun r w'=>r=.returned (.int .i64 0)/\Step a.hl ({a with mem:=put_ a.mem at_ (Q0d x++Q0d y)}:AN).hl w w':=by
 have k1:=Z5p h at_ h8 hl hm;have hbl:(Q0d x++Q0d y).length=16:=rfl;have HS0:Hid (Step a.hl ({a with mem:=put_ a.mem at_ ((Q0d x++Q0d y).take 0)}:AN).hl w w):=by
  show Step _ _ _ _;rw [J4W,Q9T];exact Step.refl h
 have HN:Hid (∀k wr,k<16->Step a.hl ({a with mem:=put_ a.mem at_ ((Q0d x++Q0d y).take k)}:AN).hl w wr->(∃old,wr.cell? ⟨a.mb,at_+k,none⟩=some old)/\wr.frozen? ⟨a.mb,at_+k,none⟩=false/\wr.cell? ⟨g,0,none⟩=some (.int .u64 x)/\wr.cell? ⟨g,1,none⟩=some (.int .u64 y)/\Step a.hl ({a with mem:=put_ a.mem at_ ((Q0d x++Q0d y).take (k+1))}:AN).hl w (wr.setCell ⟨a.mb,at_+k,none⟩ (.int .u8 ((Q0d x++Q0d y)[k]?.getD 0:Nat)))):=by
  intro k wr hk hs;have eb:=hs.chg.block g hgl hgk;refine⟨⟨_,AN.bcell hs.sep (at_+k) (by show at_+k<(put_ _ _ _).length;rw [Q2p _ _ _ (by rw [J3Q,hbl];omega)];omega)⟩,AN.bfree hs.sep (at_+k),(World.cell?_of_block (w:=w) eb).trans hg,(World.cell?_of_block (w:=w) eb).trans hg1,?_⟩;have h1:=AN.setB hs.sep (at_+k) ((Q0d x++Q0d y)[k]?.getD 0);have h2:=Q7I a.mem at_ (Q0d x++Q0d y) k (by rw [hbl];exact hk) (by rw [hbl];exact hl);have:=hs.trans h1
  simpa [h2] using this
 have HFin:Hid ((Q0d x++Q0d y).take 16=Q0d x++Q0d y):=J3v (by rw [hbl];exact J1x _);have HV:=Q0a (fun k hk=>Z0g x y k hk);generalize hbs:Q0d x++Q0d y=bs at *
 clear h h8 hg hg1 hgk hgl hbs hbl;generalize a.hl=H at *
 generalize a.mem.length=l at *
 go_enter func158,ntmps158;go_wp2_with fail;refine k1.mono ?_;rintro e w' ⟨rfl,rfl⟩;go_wp2_with fail
 go_loopw [20] (fun iv wr=>∃k:Nat,k<=16/\iv=.int .i64 k/\Step H ({a with mem:=put_ a.mem at_ (bs.take k)}:AN).hl w wr) (fun iv _=>16-(intOf iv).toNat)
 case atStart=>exact⟨0,by omega,rfl,HS0.out⟩
 case round =>
  obtain⟨k,hk,rfl,hs⟩:=hrel;by_cases hlt:k<16
  ·obtain⟨⟨old,hco⟩,hf,hgc,hgc1,hs2⟩:=HN.out k wr hlt hs;have hv:=HV.out k hlt;clear hs;obtain⟨j,hj⟩:∃j,j=k%8:=⟨_,rfl⟩
   have hj8:j<8:=by omega
   have hk1:(k:Int)%8=(j:Int):=by omega
   have hk2:k%8=j:=hj.symm;rw [hk2] at hv;by_cases h8:k<8
   ·have hk0:(k:Int)/8=0:=by omega
    rw [if_pos h8] at hv;have hvv:IntKind.u8.wrap ((x:Int)/2 ^ (8*j))=((bs[k]?.getD 0:Nat):Int):=by
     rw [hv,IntKind.wrap_u8,show ((x:Int)/2 ^ (8*j))=((x/2 ^ (8*j):Nat):Int) from by rw [J3r,J3s];rfl];omega
    clear hv hj;generalize bs[k]?.getD 0=v at *
    go_wp2_with fail;go_roundw
    case rel=>exact⟨k+1,by omega,by go_num,hs2⟩
    case measure=>simp [intOf];omega
   ·have hk0:(k:Int)/8=1:=by omega
    rw [if_neg h8] at hv;have hvv:IntKind.u8.wrap ((y:Int)/2 ^ (8*j))=((bs[k]?.getD 0:Nat):Int):=by
     rw [hv,IntKind.wrap_u8,show ((y:Int)/2 ^ (8*j))=((y/2 ^ (8*j):Nat):Int) from by rw [J3r,J3s];rfl];omega
    clear hv hj;generalize bs[k]?.getD 0=v at *
    go_wp2_with fail;go_roundw
    case rel=>exact⟨k+1,by omega,by go_num,hs2⟩
    case measure=>simp [intOf];omega
  ·obtain rfl:k=16:=by omega
   go_wp2_with fail;go_ret;exact⟨rfl,by have:=hs;rw [HFin.out] at this;exact this⟩
def TblC (S:CO) (p:Pl) (g:Nat) (w:World):Prop:=AsideV S.hl [ptr S.P.p,.int .i64 (p.fac:Int),.int .i64 (p.at_:Int)] (some ⟨g,0,none⟩) w
theorem TblC.c0 {S:CO} {p:Pl} {g:Nat} {w:World} (h:TblC S p g w):w.cell? ⟨g,0,none⟩=some (.pointer (some ⟨S.P.p,0,none⟩)):=by
 obtain⟨g',e,_,_,c⟩:=h 0 _ rfl;cases e;exact c
theorem TblC.c1 {S:CO} {p:Pl} {g:Nat} {w:World} (h:TblC S p g w):w.cell? ⟨g,1,none⟩=some (.int .i64 (p.fac:Int)):=by
 obtain⟨g',e,_,_,c⟩:=h 1 _ rfl;cases e;exact c
theorem TblC.c2 {S:CO} {p:Pl} {g:Nat} {w:World} (h:TblC S p g w):w.cell? ⟨g,2,none⟩=some (.int .i64 (p.at_:Int)):=by
 obtain⟨g',e,_,_,c⟩:=h 2 _ rfl;cases e;exact c
structure TT (S:CO) (t:TB) (p:Pl) (g:Nat) (w:World):Prop where
 sep:Sep w S.hl
 pool:∃fr,S.P.Ok fr
 tab:TblC S p g w
 tin:t.In S.P.a.mem p.at_
 al:p.at_%8=0/\p.at_+128<=S.P.a.mem.length
 lv:∀k,k<16->t.lf k≠0->t.lf k%8=0/\t.lf k+256<=S.P.a.mem.length
theorem TT.grown {S:CO} {t:TB} {p:Pl} {g:Nat} {w w':World} (h:TT S t p g w) (hb:Below w.heap.size w w'):TT S t p g w':=
 ⟨(h.sep.grown hb).sep,h.pool,h.tab.step (h.sep.grown hb),h.tin,h.al,h.lv⟩
theorem TPX.tt {S:CO} {fr:List Nat} {N K:Nat} {tb:Nat->TB} {own:Int} {xl xn:List Nat} (ok:S.Ok fr N K) (t:TPX S tb own xl xn) {i:Nat} {p:Pl} {g:Nat} {w:World} (hi:S.l[i]?=some p) (h1:p.st=1) (h2:p.kind=2) (hs:Sep w S.hl) (hg:TblC S p g w):TT S (tb i) p g w:=by
 have hi256:=Q1o ok.inv.len hi;have hu:=Q1G ok hi h1 h2;have hm:=Q0m ok.inv.mem.pool hu;have h128:Q0c 2=128:=rfl;refine⟨hs,⟨fr,ok.inv.mem.pool⟩,hg,t.tin i p hi h1 h2,⟨Q2m ok.inv.mem.pool hu,by omega⟩,fun k hk h0=>?_⟩;have hl:=t.leaf hi256 hk h0;have hm:=Q0m ok.inv.mem.pool hl;rw [Q2N] at hm;exact⟨Q2m ok.inv.mem.pool hl,hm.1⟩
section
variable {w:World} {S:CO} {t:TB} {p:Pl} {g:Nat}
theorem Q4C (h:TT S t p g w) (a:Nat) (h8:a%8=0) (hl:a+8<=S.P.a.mem.length):Calls prog 180 #[.pointer (some ⟨g,0,none⟩),.int .i64 a] w fun r w'=>r=.returned (.int .u64 (Q0u S.P.a.mem a:Nat))/\w=w':=by
 obtain⟨fr,hp⟩:=h.pool;have c0:=h.tab.c0;have ka:=Q1e (CO.sP h.sep);have kl:=Z4y (PL.sA (CO.sP h.sep)) hp.bytes a h8 hl (Q0p hp);clear h hp h8 hl;unfold ptr at *
 generalize Q0u S.P.a.mem a=x at *
 go_enter func180,ntmps180;go_wp2_with (first|(go_at_call 155;refine ka.mono ?_;rintro e w' ⟨rfl,rfl⟩)|(go_at_call 216;refine kl.mono ?_;rintro e w' ⟨rfl,rfl⟩));go_ret;exact⟨rfl,rfl⟩
theorem Q6c (h:TT S t p g w) (s:Nat) (hs:s<256):Calls prog 181 #[.pointer (some ⟨g,0,none⟩),.int .i64 s] w fun r w'=>r=.returned (.int .i64 ((p.at_+8*(s/16):Nat):Int))/\w=w':=by
 have c2:=h.tab.c2;obtain⟨fr,hp⟩:=h.pool;have hm:=Q0p hp;have hal:=h.al.2;have h1:(s:Int).tdiv 16=((s/16:Nat):Int):=by
  rw [J3n (by omega)];omega
 have h2:(s:Int)/16=((s/16:Nat):Int):=by omega
 have hk:s/16<16:=by omega
 have e:((p.at_+8*(s/16):Nat):Int)=(p.at_:Int)+((s/16:Nat):Int)*8:=by omega
 rw [e];generalize s/16=k at *
 generalize p.at_=a at *
 have ha:(a:Int)<=1073741824:=by omega
 have hk2:(k:Int)<16:=by omega
 clear h hp hm hal hk e;go_enter func181,ntmps181
 go_wp2
 go_ret;exact⟨by first|rfl|(simp only [h1,h2])|(rw [h2]),rfl⟩
theorem Q5B (w:World) (z:Int):Calls prog 177 #[.int .i64 z] w fun r w'=>r=.returned (.bool (decide (0<=z/\z<256)))/\w=w':=by
 by_cases h0:0<=z
 ·by_cases h1:z<256
  ·rw [decide_eq_true (show 0<=z/\z<256 from ⟨h0,h1⟩)];go_enter func177,ntmps177
   go_wp2
   go_ret;exact⟨rfl,rfl⟩
  ·rw [decide_eq_false (show ¬(0<=z/\z<256) from fun h=>h1 h.2)];have hd:decide (z<256)=false:=by simpa using h1
   go_enter func177,ntmps177
   go_wp2
   go_ret;exact⟨rfl,rfl⟩
 ·rw [decide_eq_false (show ¬(0<=z/\z<256) from fun h=>h0 h.1)];have hd:decide (0<=z)=false:=by simpa using h0
  go_enter func177,ntmps177
  go_wp2
  go_ret;exact⟨rfl,rfl⟩
theorem Q3i (w:World) (L s:Nat) (hL:L<=1073741824) (hs:s<256):Calls prog 179 #[.int .i64 L,.int .i64 s] w fun r w'=>r=.returned (.int .i64 ((L+16*(s%16):Nat):Int))/\w=w':=by
 have h1:(s:Int).tmod 16=((s%16:Nat):Int):=by
  rw [J3o (by omega)];omega
 have h2:(s:Int)%16=((s%16:Nat):Int):=by omega
 have hk:s%16<16:=by omega
 have e:((L+16*(s%16):Nat):Int)=(L:Int)+((s%16:Nat):Int)*16:=by omega
 rw [e];generalize s%16=k at *
 have ha:(L:Int)<=1073741824:=by omega
 have hk2:(k:Int)<16:=by omega
 clear hk e hL;go_enter func179,ntmps179
 go_wp2
 go_ret;exact⟨by first|rfl|(simp only [h1,h2])|(rw [h2]),rfl⟩
theorem Q4D (h:TT S t p g w) (s:Nat) (hs:s<256):Calls prog 178 #[.pointer (some ⟨g,0,none⟩),.int .i64 s] w fun r w'=>r=.returned (.int .i64 ((t.lf (s/16):Nat):Int))/\w=w':=by
 have hk:s/16<16:=by omega
 have kr:=Q6c h s hs;have hal:=h.al;have kw:=Q4C h (p.at_+8*(s/16)) (by omega) (by omega);rw [h.tin.root (s/16) hk] at kw;obtain⟨fr,hp⟩:=h.pool;have hm:=Q0p hp;have hlf:((t.lf (s/16):Nat):Int)<=1073741824:=by
  by_cases h0:t.lf (s/16)=0
  ·omega
  ·have:=(h.lv _ hk h0).2;omega
 clear h hp hm hal hk;generalize t.lf (s/16)=x at *
 generalize (p.at_+8*(s/16):Nat)=y at *
 go_enter func178,ntmps178;go_wp2_with (first|(go_at_call 181;refine kr.mono ?_;rintro e w' ⟨rfl,rfl⟩)|(go_at_call 180;refine kw.mono ?_;rintro e w' ⟨rfl,rfl⟩));go_ret;exact⟨rfl,rfl⟩
end
def TB.at' (t:TB) (z:Int):Option Ent:=if 0<=z/\z<256 then t.en z.toNat else none
def getV (o:Option Ent):Ending:=.returned (.tuple #[.int .u64 (Q0s o:Nat),.int .u64 (Q0U o:Nat)])
section
variable {w:World} {S:CO} {t:TB} {p:Pl} {g:Nat}
theorem Q3F (h:TT S t p g w) (z:Int):Calls prog 103 #[.pointer (some ⟨g,0,none⟩),.int .i64 z] w fun r w'=>r=getV (t.at' z)/\w=w':=by
 have km:=Q5B w z;by_cases hz:0<=z/\z<256
 ·obtain⟨s,rfl⟩:=J3b hz.1;have hs:s<256:=by omega
  rw [decide_eq_true hz] at km;have ho:t.at' (s:Int)=t.en s:=by unfold TB.at';rw [if_pos hz,J2C]
  rw [ho];have kl:=Q4D h s hs;by_cases h0:t.lf (s/16)=0
  ·rw [h.tin.hole s hs h0];rw [h0] at kl;unfold getV Q0s Q0U;clear h h0 ho hz;go_enter func103,ntmps103;go_wp2_with (first|(go_at_call 177;refine km.mono ?_;rintro e w' ⟨rfl,rfl⟩)|(go_at_call 178;refine kl.mono ?_;rintro e w' ⟨rfl,rfl⟩));go_ret2;exact⟨rfl,rfl⟩
  ·obtain⟨e1,e2⟩:=h.tin.ent s hs h0;obtain⟨l8,ll⟩:=h.lv (s/16) (by omega) h0;obtain⟨fr,hp⟩:=h.pool;have hm:=Q0p hp;have ks:=Q3i w (t.lf (s/16)) s (by omega) hs;have k0:=Q4C h (t.lf (s/16)+16*(s%16)) (by omega) (by omega);have k1:=Q4C h (t.lf (s/16)+16*(s%16)+8) (by omega) (by omega);rw [e1] at k0;rw [e2] at k1;have hx:t.lf (s/16)+16*(s%16)<=1073741824:=by omega
   have hne:(((t.lf (s/16):Nat):Int)==0)=false:=by simpa using h0
   have hc:((t.lf (s/16)+16*(s%16)+8:Nat):Int)=((t.lf (s/16)+16*(s%16):Nat):Int)+8:=by omega
   rw [hc] at k1;unfold getV;generalize Q0s (t.en s)=ca at *
   generalize Q0U (t.en s)=cb at *
   generalize (t.lf (s/16)+16*(s%16):Nat)=x at *
   generalize t.lf (s/16)=L at *
   have hxi:(x:Int)<=1073741824:=by omega
   clear h h0 ho hz e1 e2 l8 ll hp hm hc hx;go_enter func103,ntmps103;go_wp2_with fail;refine km.mono ?_;rintro e w' ⟨rfl,rfl⟩;go_wp2_with fail;refine kl.mono ?_;rintro e w' ⟨rfl,rfl⟩;go_wp2_with fail;refine kl.mono ?_;rintro e w' ⟨rfl,rfl⟩;go_wp2_with fail;refine ks.mono ?_;rintro e w' ⟨rfl,rfl⟩;go_wp2_with fail;refine k0.mono ?_;rintro e w' ⟨rfl,rfl⟩;go_wp2_with fail;refine k1.mono ?_;rintro e w' ⟨rfl,rfl⟩;go_wp2_with fail
   first|exact⟨rfl,rfl⟩|(go_ret2;exact⟨rfl,rfl⟩)
 ·rw [decide_eq_false hz] at km;have ho:t.at' z=none:=by unfold TB.at';rw [if_neg hz]
  rw [ho];unfold getV Q0s Q0U;clear h ho hz;go_enter func103,ntmps103;go_wp2_with (go_at_call 177;refine km.mono ?_;rintro e w' ⟨rfl,rfl⟩);go_ret2;exact⟨rfl,rfl⟩
def TB.noneIn (t:TB) (k:Nat):Bool:=(List.range 16).all fun j=>(t.en (16*k+j)).isNone
theorem Z2t (h:TT S t p g w) (k:Nat) (hk:k<16) (h0:t.lf k≠0):Calls prog 234 #[.pointer (some ⟨g,0,none⟩),.int .i64 ((t.lf k:Nat):Int)] w fun r w'=>r=.returned (.bool (t.noneIn k))/\w=w':=by
 obtain⟨fr,hp⟩:=h.pool;have hm:=Q0p hp;obtain⟨l8,ll⟩:=h.lv k hk h0;have HC:Hid (∀j:Nat,j<16->(Calls prog 179 #[.int .i64 ((t.lf k:Nat):Int),.int .i64 j] w fun r w'=>r=.returned (.int .i64 ((t.lf k+16*j:Nat):Int))/\w=w')/\Calls prog 180 #[.pointer (some ⟨g,0,none⟩),.int .i64 ((t.lf k+16*j:Nat):Int)] w fun r w'=>r=.returned (.int .u64 (Q0s (t.en (16*k+j)):Nat))/\w=w'):=fun j hj=>by
  have hd:(16*k+j)/16=k:=by omega
  have hmo:(16*k+j)%16=j:=by omega
  have e:=(h.tin.ent (16*k+j) (by omega) (by rw [hd];exact h0)).1;rw [hd,hmo] at e;have k1:=Q3i w (t.lf k) j (by omega) (by omega);rw [J2S hj] at k1;have k2:=Q4C h (t.lf k+16*j) (by omega) (by omega);rw [e] at k2;exact⟨k1,k2⟩
 have HT:Hid (∀j:Nat,(∀i:Nat,i<j->t.en (16*k+i)=none)->j=16->t.noneIn k=true):=fun j hj e=>by
  subst e;unfold TB.noneIn;rw [J4C];intro i hi;rw [hj i (J1N.1 hi)];rfl
 have HF:Hid (∀j:Nat,j<16->t.en (16*k+j)≠none->t.noneIn k=false):=fun j hj hne=>by
  unfold TB.noneIn;rw [List.all_eq_false];exact⟨j,J1N.2 hj,by cases hx:t.en (16*k+j) with|none=>exact absurd hx hne|some e=>simp⟩
 clear h hp hm l8 ll h0;go_enter func234,ntmps234;go_wp2_with fail
 go_loopg [6] 16 (fun gk iv wr=>∃j:Nat,iv=.int .i64 j/\j+gk=16/\(∀i,i<j->t.en (16*k+i)=none)/\w=wr)
 case atStart=>exact⟨0,rfl,rfl,fun i hi=>by omega,rfl⟩
 case round =>
  obtain⟨j,rfl,hjg,hall,rfl⟩:=hrel;have HAll:=Q0a hall;have HJg:=Q0a hjg;clear hall hjg;by_cases hj:j<16
  ·obtain⟨k1,k2⟩:=HC.out j hj;have hji:(j:Int)<16:=by omega
   cases he:t.en (16*k+j) with
   | none =>
    rw [he] at k2;have HE:=Q0a he;unfold Q0s at k2;generalize (t.lf k+16*j:Nat)=x at *
    generalize t.lf k=L at *
    clear he;go_wp2_with fail;refine k1.mono ?_;rintro e w' ⟨rfl,rfl⟩;go_wp2_with fail;refine k2.mono ?_;rintro e w' ⟨rfl,rfl⟩;go_wp2_with fail;go_roundg (16-(j+1))
    case measure=>have:=HJg.out;omega
    case rel=>exact⟨j+1,by go_num,by have:=HJg.out;omega,fun i hi=>by
     by_cases e:i=j
     ·subst e;exact HE.out
     ·exact HAll.out i (by omega),rfl⟩
   | some e =>
    rw [he] at k2;have hne:Q0s (some e)≠0:=fun hz=>by cases codeA_zero.1 hz
    have hnb:(((Q0s (some e):Nat):Int) != 0)=true:=by simpa using hne
    have hnb2:(((Q0s (some e):Nat):Int)==0)=false:=by simpa using hne
    have HR:=Q0a (HF.out j hj (by rw [he];simp));generalize Q0s (some e)=ca at *
    generalize (t.lf k+16*j:Nat)=x at *
    generalize t.lf k=L at *
    clear he hne;go_wp2_with fail;refine k1.mono ?_;rintro e w' ⟨rfl,rfl⟩;go_wp2_with fail;refine k2.mono ?_;rintro e w' ⟨rfl,rfl⟩;go_wp2_with fail
    first|exact⟨by first|(rw [HR.out];done)|(rw [HR.out];rfl),rfl⟩|(go_ret;exact⟨by first|(rw [HR.out];done)|(rw [HR.out];rfl),rfl⟩)
  ·have hj16:j=16:=by have:=HJg.out;omega
   have HR:=Q0a (HT.out j HAll.out hj16);subst hj16;go_wp2_with fail;go_ret;exact⟨by first|(rw [HR.out];done)|(rw [HR.out];rfl),rfl⟩
end
theorem Q8K {w:World} {H:HL} (h:Sep w H):w.heap.size∉keys H:=fun hk=>by have:=h.lt hk;omega
section
variable {S:CO} {fr:List Nat} {N K:Nat} {tb:Nat->TB} {own:Int} {xl xn:List Nat}
theorem Q4c (ok:S.Ok fr N K) (t:TPX S tb own xl xn) {i s:Nat} {p:Pl} (hi:S.l[i]?=some p) (h1:p.st=1) (h2:p.kind=2) (hown:(p.fac:Int)=own) (hs:s<256) (hl:(tb i).lf (s/16)≠0) {o:Option Ent} {xn':List Nat} (hn:(xn'++((tb i).setE s o).nds).Perm (xn++(tb i).nds))
  (hA:Q0s o<18446744073709551616) (hB:Q0U o<18446744073709551616) {w:World} (hsep:Sep w S.hl) :
  Calls prog 158 #[.pointer (some ⟨S.P.a.a,0,none⟩),.int .i64 (((tb i).lf (s/16)+16*(s%16):Nat):Int),.slice (some ⟨w.heap.size,0,none⟩) 2 2] (w.alloc (.cells #[.int .u64 (Q0s o:Nat),.int .u64 (Q0U o:Nat)] 171)) fun r w' =>
   r=.returned (.int .i64 0)/\∃S':CO,S'.Ok fr N K/\TPX S' (updT tb i ((tb i).setE s o)) own xl xn'/\Alt S S' own/\Step S.hl S'.hl w w':=by
 have hi256:=Q1o ok.inv.len hi;have hL:=t.leaf hi256 (by omega:s/16<16) hl;have hm:=Q0m ok.inv.mem.pool hL;rw [Q2N] at hm;have h8:=Q2m ok.inv.mem.pool hL;have hb:=Q0p ok.inv.mem.pool;have sa:=hsep.alloc (.cells #[.int .u64 (Q0s o:Nat),.int .u64 (Q0U o:Nat)] 171);have cn:=Cells.new w 171 [.int .u64 (Q0s o:Nat),.int .u64 (Q0U o:Nat)];have k:=Z5q (PL.sA (CO.sP sa)) ((tb i).lf (s/16)+16*(s%16)) (Q0s o) (Q0U o) (by omega) (by omega) hb hA hB w.heap.size (cn.cell 0 _ rfl) (cn.cell 1 _ rfl) (by simp) (Q8K (PL.sA (CO.sP hsep)));refine k.mono ?_;rintro r w' ⟨rfl,st⟩;obtain⟨m,hme⟩:∃m,m=put_ S.P.a.mem ((tb i).lf (s/16)+16*(s%16)) (Q0d (Q0s o)++Q0d (Q0U o)):=⟨_,rfl⟩
 rw [<- hme] at st;have hlen:m.length=S.P.a.mem.length:=by rw [hme];exact Q2p _ _ _ (by rw [Q1l];omega)
 have hsm:∀b∈m,b<256:=by
  rw [hme];refine Q8J ok.inv.mem.pool.bytes fun b hb'=>?_
  rcases J2l.1 hb' with hb'|hb'
  ·exact Q3h _ b hb'
  ·exact Q3h _ b hb'
 have hk:Q4b S.P.a.mem m ((tb i).lf (s/16)+16*(s%16)) 16:=by
  rw [hme];have:=Q6b (m:=S.P.a.mem) (bs:=Q0d (Q0s o)++Q0d (Q0U o)) (a:=(tb i).lf (s/16)+16*(s%16)) (by rw [Q1l];omega)
  rwa [Q1l] at this
 obtain⟨ha,hb2⟩:=Z2s (m:=S.P.a.mem) (a:=(tb i).lf (s/16)+16*(s%16)) (x:=Q0s o) (y:=Q0U o) (by omega) hA hB;rw [<- hme] at ha hb2;obtain⟨ok',t'⟩:=t.entry ok hi h1 h2 hown hs hl hlen hsm hk ha hb2 hn;have st':Step S.hl (S.setP (S.P.setA m)).hl (w.alloc (.cells #[.int .u64 (Q0s o:Nat),.int .u64 (Q0U o:Nat)] 171)) w':=CO.stepMem sa m st;exact⟨rfl,_,ok',t',Alt.mem ok own (.inr rfl) hL (by omega) (by rw [Q2N];omega) hlen hk,st'.from_alloc⟩
theorem Q7h (ok:S.Ok fr N K) (t:TPX S tb own xl xn) {i k:Nat} {p:Pl} (hi:S.l[i]?=some p) (h1:p.st=1) (h2:p.kind=2) (hown:(p.fac:Int)=own) (hk16:k<16) {L:Nat} {xl':List Nat} (hL64:L<18446744073709551616) (hn:(xl'++((tb i).setL k L).lvs).Perm (xl++(tb i).lvs))
  (hcase:((tb i).lf k=0/\L≠0/\L∈S.P.usedOf 7/\∀j,L<=j->j<L+256->S.P.a.mem[j]?=some 0)∨(L=0/\∀s,s<256->s/16=k->(tb i).en s=none)) {w:World} (hsep:Sep w S.hl) :
  Calls prog 158 #[.pointer (some ⟨S.P.a.a,0,none⟩),.int .i64 ((p.at_+8*k:Nat):Int),.slice (some ⟨w.heap.size,0,none⟩) 1 1] (w.alloc (.cells #[.int .u64 (L:Nat)] 171)) fun r w' =>
   r=.returned (.int .i64 0)/\∃S':CO,S'.Ok fr N K/\TPX S' (updT tb i ((tb i).setL k L)) own xl' xn/\Alt S S' own/\Step S.hl S'.hl w w':=by
 have hi256:=Q1o ok.inv.len hi;have hT:=Q1G ok hi h1 h2;have h128:Q0c 2=128:=rfl;have hm:=Q0m ok.inv.mem.pool hT;rw [h128] at hm;have h8:=Q2m ok.inv.mem.pool hT;have hb:=Q0p ok.inv.mem.pool;have sa:=hsep.alloc (.cells #[.int .u64 (L:Nat)] 171);have cn:=Cells.new w 171 [.int .u64 (L:Nat)];have kk:=Z1f (PL.sA (CO.sP sa)) (p.at_+8*k) L (by omega) (by omega) hb hL64 w.heap.size (cn.cell 0 _ rfl) (by simp) (Q8K (PL.sA (CO.sP hsep)));refine kk.mono ?_;rintro r w' ⟨rfl,st⟩;obtain⟨m,hme⟩:∃m,m=put_ S.P.a.mem (p.at_+8*k) (Q0d L):=⟨_,rfl⟩
 rw [<- hme] at st;have hlen:m.length=S.P.a.mem.length:=by rw [hme];exact Q2p _ _ _ (by rw [bytes8_len];omega)
 have hsm:∀b∈m,b<256:=by
  rw [hme];exact Q8J ok.inv.mem.pool.bytes (Q3h _)
 have hk:Q4b S.P.a.mem m (p.at_+8*k) 8:=by
  rw [hme];exact Q6b (m:=S.P.a.mem) (bs:=Q0d L) (a:=p.at_+8*k) (by rw [bytes8_len];omega)
 have hroot:Q0u m (p.at_+8*k)=L:=by rw [hme];exact Z2r (by omega) hL64
 have hr:∀x,x<16->x≠k->Kept S.P.a.mem m (p.at_+8*x) 8:=fun x hx hne=>hk _ _ (by omega)
 have hother:∀a,a∈S.P.usedOf 7->Kept S.P.a.mem m a 256:=fun a ha=>Q4B ok hT (b:=p.at_+8*k) (n:=8) (by omega) (by omega) hk ha (by omega)
 have hin:((tb i).setL k L).In m p.at_:=by
  rcases hcase with ⟨c1,c2,c3,c4⟩|⟨c1,c2⟩
  ·refine (t.tin i p hi h1 h2).grow hk16 c1 c2 hroot (fun j j1 j2=>?_) hr (fun x hx h0=>hother _ (t.leaf hi256 hx h0));rw [hother L c3 j j1 j2];exact c4 j j1 j2
  ·subst c1;exact (t.tin i p hi h1 h2).drop hk16 c2 hroot hr (fun x hx hne h0=>hother _ (t.leaf hi256 hx h0))
 obtain⟨ok',t'⟩:=t.rootw ok hi h1 h2 hown hk16 hlen hsm hk hin hn;have st':Step S.hl (S.setP (S.P.setA m)).hl (w.alloc (.cells #[.int .u64 (L:Nat)] 171)) w':=CO.stepMem sa m st;exact⟨rfl,_,ok',t',Alt.mem ok own (.inl rfl) hT (by omega) (by omega) hlen hk,st'.from_alloc⟩
end
end Go.Proofs.YtlakjlmaboioiaaGreatDoor
