/- SpaceFails returns true at every input. No condition. Part of its proof. -/
import Derived.Test.YtfidemmgofcnmaaGreatDoorSf11
import Derived.Deep.LoopGhost
set_option maxHeartbeats 4000000
set_option maxRecDepth 100000
set_option linter.unusedVariables false
namespace Go.Proofs.YtfidemmgofcnmaaGreatDoor
open Go.RowKit Go.Proofs.Tryz
def Ent.c(e:Ent):Nat×Nat:=(e.h,e.r)
structure AV where
 en:Nat->Nat->Option (Nat×Nat)
 N:List (En Nd)
def avOf(l:List Pl)(tb:Nat->TB)(N:List (En Nd)):AV:=⟨fun h s=>(Q0f l tb h s).map Ent.c,N⟩
def setA(en:Nat->Nat->Option (Nat×Nat))(h s:Nat)(o:Option (Nat×Nat)):Nat->Nat->Option (Nat×Nat):=fun h' s'=>if h'=h/\s'=s then o else en h' s'
theorem Q9i(en:Nat->Nat->Option (Nat×Nat))(h s:Nat)(o:Option (Nat×Nat)):setA en h s o h s=o:=by unfold setA;rw[if_pos ⟨rfl,rfl⟩]
theorem Q5j{en:Nat->Nat->Option (Nat×Nat)}{h s h' s':Nat}{o:Option (Nat×Nat)}(Aa:¬(h'=h/\s'=s)):setA en h s o h' s'=en h' s':=by unfold setA;rw[if_neg Aa]
def less(r m:Nat):Nat:=r-(r&&&m)
theorem Q5J:∀r,r<16->∀m,m<16->less r m&&&m=0/\less r m&&&r=less r m/\less r m<=r:=by decide
theorem Q4H:∀r,r<16->less r 15=0:=by decide
theorem Z8L:∀x,x<16->∀r,r<16->∀m,m<16->x&&&r=x->x&&&m=0->x&&&less r m=x:=by decide
def weak1(m:Nat)(a:AV)(id:Int):AV×Bool:=match find a.N id with
 | none=>(a,false)
 | some n=>match a.en n.q.sp.toNat n.q.sl.toNat with
  | none=>(a,false)
  | some c=>if less c.2 m=0 then(⟨setA a.en n.q.sp.toNat n.q.sl.toNat none,Q0B a.N n n.q.ks.length⟩,true) else(⟨setA a.en n.q.sp.toNat n.q.sl.toNat (some (c.1,less c.2 m)),a.N⟩,false)
def Q0P(m:Nat):AV->List Int->AV×Nat
 | a,[]=>(a,0)
 | a,id::r=>((Q0P m (weak1 m a id).1 r).1,(if (weak1 m a id).2=true then 1 else 0)+(Q0P m (weak1 m a id).1 r).2)
theorem weakA_snoc(m:Nat):∀(l:List Int) (a:AV) (id:Int),Q0P m a (l++[id])=((weak1 m (Q0P m a l).1 id).1,(Q0P m a l).2+if (weak1 m (Q0P m a l).1 id).2=true then 1 else 0)
 | [],a,id=>by
  show((weak1 m a id).1,(if (weak1 m a id).2=true then 1 else 0)+0)=((weak1 m a id).1,0+if (weak1 m a id).2=true then 1 else 0);rw[J5G,J3k]
 | x::r,a,id=>by
  rw[J5n];unfold Q0P;rw[weakA_snoc m r (weak1 m a x).1 id];simp only[J4C]
theorem Q5K(m:Nat):∀(l:List Int) (a:AV),(Q0P m a l).2<=l.length
 | [],a=>J3b _
 | x::r,a=>by
  have:=Q5K m r (weak1 m a x).1;show(if (weak1 m a x).2=true then 1 else 0)+(Q0P m (weak1 m a x).1 r).2<=r.length+1;split <;> omega
def Q3O(m:Nat)(a:AV)(A:List Int)(id:Int):Prop:=∀e,find a.N id=some e->∀c∈e.q.ks,c∈A∨∀n,find a.N c=some n->∀x,a.en n.q.sp.toNat n.q.sl.toNat=some x->x.2&&&m=0
def WeakOk(m:Nat)(a:AV)(l:List Int):Prop:=m=15∨∀A id B,l=A++id::B->Q3O m a A id
theorem Q7E(a:AV)(l:List Int):WeakOk 15 a l:=.inl rfl
theorem Q3P{N:List (En Nd)}{next:Int}(ok:NOk N next)(e:En Nd)(id:Int):find (Q0B N e e.q.ks.length) id=if id=e.id then none else(find N id).map fun c=>{c with q:=Q0t e e.q.ks.length c}:=by
 unfold Q0B;rw[Q1v,ok.rem_find];split <;> rfl
theorem Q1K(e c:En Nd):Q0t e e.q.ks.length c={c.q with par:=if c.id∈e.q.ks then e.q.par else c.q.par,ks:=if c.id=e.q.par then c.q.ks.filter (fun k=>decide (k≠e.id))++e.q.ks else c.q.ks}:=by
 unfold Q0t;rw[J7m]
theorem Z0I{N:List (En Nd)}{next:Int}(ok:NOk N next){a b:En Nd}(ha:a∈N)(hb:b∈N)(Aa:a.id≠b.id):¬(a.q.sp.toNat=b.q.sp.toNat/\a.q.sl.toNat=b.q.sl.toNat):=fun h=>by
 have h1:=ok.sm a ha;have h2:=ok.sm b hb;exact Aa (by rw[Q4i ok ha hb (by omega) (by omega)])
theorem WeakOk.step{m:Nat}{a:AV}{next:Int}(ok:NOk a.N next)(hr:∀h s x,a.en h s=some x->x.2<16)(hm:m<16){id:Int}{l:List Int}(h:WeakOk m a (id::l)):WeakOk m (weak1 m a id).1 l:=by
 rcases h with h|h
 ·exact .inl h
 refine .inr fun A x B hl=>?_
 have h0:=h [] id l rfl;have h1:=h (id::A) x B (by rw[hl];rfl);unfold weak1;cases hf:find a.N id with
 | none =>
  simp only;intro e he c hc;rcases h1 e he c hc with hx|hx
  ·rcases J3g.1 hx with rfl|hx
   ·exact .inr fun n hn=>by rw[hf] at hn;cases hn
   ·exact .inl hx
  ·exact .inr hx
 | some d =>
  simp only;obtain⟨hd,Iu⟩:=Q0b hf;cases E8:a.en d.q.sp.toNat d.q.sl.toNat with
  | none =>
   simp only;intro e he c hc;rcases h1 e he c hc with hx|hx
   ·rcases J3g.1 hx with rfl|hx
    ·exact .inr fun n hn=>by rw[hf] at hn;cases hn;intro y hy;rw[E8] at hy;cases hy
    ·exact .inl hx
   ·exact .inr hx
  | some y =>
   simp only;have hy:=hr _ _ _ E8;split
   ·-- lifted
    have VD:find a.N d.id=some d:=by rw[Iu];exact hf
    have old:∀c n',find (Q0B a.N d d.q.ks.length) c=some n'->∃n,find a.N c=some n/\n∈a.N/\n.id≠d.id/\n'.q.sp=n.q.sp/\n'.q.sl=n.q.sl:=fun c n' DQ=>by
     rw[Q3P ok] at DQ;split at DQ
     ·cases DQ
     ·rename_i Ep;cases hn:find a.N c with
      | none=>rw[hn] at DQ;cases DQ
      | some n =>
       rw[hn] at DQ;simp only[J4Q,J3q] at DQ;subst DQ;obtain⟨n1,n2⟩:=Q0b hn;exact⟨n,rfl,n1,by rw[n2];exact Ep,by rw[Q1K],by rw[Q1K]⟩
    have good:∀c,(∀n,find a.N c=some n->∀z,a.en n.q.sp.toNat n.q.sl.toNat=some z->z.2&&&m=0)->∀n',find (Q0B a.N d d.q.ks.length) c=some n'->∀z,setA a.en d.q.sp.toNat d.q.sl.toNat none n'.q.sp.toNat n'.q.sl.toNat=some z->z.2&&&m=0:=fun c hc n' DQ z hz=>by
     obtain⟨n,n1,n2,n3,n4,n5⟩:=old c n' DQ;rw[n4,n5,Q5j (Z0I ok n2 hd n3)] at hz;exact hc n n1 z hz
    intro e' AT c hc;have EP:find (Q0B a.N d d.q.ks.length) x=some e':=AT;rw[Q3P ok] at EP;split at EP
    ·cases EP
    ·rename_i VU;cases Kp:find a.N x with
     | none=>rw[Kp] at EP;cases EP
     | some e =>
      rw[Kp] at EP;simp only[J4Q,J3q] at EP;subst EP;have Bj:c∈(Q0t d d.q.ks.length e).ks:=hc;rw[Q1K] at Bj;simp only at Bj;obtain⟨e1,e2⟩:=Q0b Kp;have fromOld:c∈e.q.ks->c≠d.id->c∈A∨∀n',find (Q0B a.N d d.q.ks.length) c=some n'->∀z,setA a.en d.q.sp.toNat d.q.sl.toNat none n'.q.sp.toNat n'.q.sl.toNat=some z->z.2&&&m=0:=fun k1 k2=>by
       rcases h1 e Kp c k1 with hx|hx
       ·rcases J3g.1 hx with h|hx
        ·exact absurd (h.trans Iu.symm) k2
        ·exact .inl hx
       ·exact .inr (good c hx)
      split at Bj
      ·rcases J3Q.1 Bj with Bj|Bj
       ·obtain⟨k1,k2⟩:=J3w.1 Bj;exact fromOld k1 (by simpa using k2)
       ·rcases h0 d hf c Bj with hx|hx
        ·cases hx
        ·exact .inr (good c hx)
      ·rename_i Bo;refine fromOld Bj fun k=>?_
       obtain⟨k1,k2,k3⟩:=ok.kids e e1 c Bj;rw[k,VD] at k2;cases k2;exact Bo k3.symm
   ·-- weakened
    intro e he c hc;have EP:find a.N x=some e:=he;have Bf:∀n,n∈a.N->n.id≠d.id->setA a.en d.q.sp.toNat d.q.sl.toNat (some (y.1,less y.2 m)) n.q.sp.toNat n.q.sl.toNat=a.en n.q.sp.toNat n.q.sl.toNat:=fun n n1 n2=>Q5j (Z0I ok n1 hd n2)
    by_cases Ep:c=id
    ·refine .inr fun n hn z hz=>?_
     have Hn:find a.N c=some n:=hn;rw[Ep,hf] at Hn;cases Hn;have AU:setA a.en d.q.sp.toNat d.q.sl.toNat (some (y.1,less y.2 m)) d.q.sp.toNat d.q.sl.toNat=some z:=hz;rw[Q9i] at AU;cases AU;exact(Q5J y.2 hy m hm).1
    ·rcases h1 e EP c hc with hx|hx
     ·rcases J3g.1 hx with h|hx
      ·exact absurd h Ep
      ·exact .inl hx
     ·refine .inr fun n hn z hz=>?_
      have Hn:find a.N c=some n:=hn;obtain⟨n1,n2⟩:=Q0b Hn;have AU:setA a.en d.q.sp.toNat d.q.sl.toNat (some (y.1,less y.2 m)) n.q.sp.toNat n.q.sl.toNat=some z:=hz;rw[Bf n n1 (by rw[n2,Iu];exact Ep)] at AU;exact hx n Hn z AU
theorem Q9j{m:Nat}{a:AV}{next:Int}(ok:NOk a.N next)(id:Int)(self:Bool):WeakOk m a (Q0H (kdF a.N) (rkF next) id++if self=true then [id] else []):=by
 refine .inr fun A x B hl e he c hc=>.inl ?_
 have t:=ok.tree;have hk:c∈kdF a.N x:=by unfold kdF;rw[he];exact hc
 have EA:c≠x:=fun h=>by
  have:=t.dn x c hk;rw[h] at this;omega
 have Cm:Dn (kdF a.N) id x->c∈Q0H (kdF a.N) (rkF next) id:=fun hd=>by
  refine(Q7C t).2 ⟨hd.trans (.down x c c hk (.here c)),fun h=>?_⟩;have h1:=(Dn.rank t hd).1;have h2:=t.dn x c hk;rw[h] at h2;omega
 have hp:=Z3c t id;rcases List.append_eq_append_iff.1 hl with ⟨C,e1,e2⟩|⟨C,e1,e2⟩
 ·-- x is the last
  cases C with
  | nil =>
   rw[J5m] at e2;rw[J5i] at e1;cases self with
   | false=>rw[if_neg (by decide)] at e2;cases e2
   | true =>
    rw[if_pos rfl] at e2
    injection e2 with e2 e3
    subst e2;rw[e1];exact Cm (.here _)
  | cons y C =>
   cases self with
   | false=>rw[if_neg (by decide)] at e2;simp at e2
   | true=>rw[if_pos rfl] at e2;simp at e2
 ·-- x is below
  cases C with
  | nil =>
   rw[J5i] at e1;rw[J5m] at e2;cases self with
   | false=>rw[if_neg (by decide)] at e2;cases e2
   | true =>
    rw[if_pos rfl] at e2
    injection e2 with e2 e3
    subst e2;rw[<- e1];exact Cm (.here _)
  | cons y C =>
   rw[J5n] at e2
   injection e2 with e2 e3
   subst e2;have hx:x∈Q0H (kdF a.N) (rkF next) id:=by rw[e1];simp
   have EO:=Cm ((Q7C t).1 hx).1;rw[e1] at EO;rcases J3Q.1 EO with h|h
   ·exact h
   ·rcases J3g.1 h with h|h
    ·exact absurd h EA
    ·rw[e1] at hp;have:=((J3P.1 hp).2.1)
     have:=(J3D.1 this).1 c h;exact absurd (.down x c c hk (.here c)) this.2
theorem Z0J{S:CO}{fr:List Nat}{N K:Nat}(ok:S.Ok fr N K){i j:Nat}{p r:Pl}(hi:S.l[i]?=some p)(hj:S.l[j]?=some r)(Fj:i≠j)(hp:p.st=1)(hr:r.st=1):p.at_+costK p.kind<=r.at_∨r.at_+costK r.kind<=p.at_:=by
 have m:=ok.inv.mem;have Cv:p.is=true:=Pl.is_iff.2 (.inl hp);have KY:r.is=true:=Pl.is_iff.2 (.inl hr);have BP:=J5q hi;have NA:=J5q hj;by_cases IU:p.kind=8
 ·obtain⟨g,hg,eg⟩:=m.frame BP Cv IU;by_cases GZ:r.kind=8
  ·obtain⟨g',EM,eg'⟩:=m.frame NA KY GZ;have AO:(Q2i S.l 8).Nodup:=by
    refine m.frs.nodup_iff.2 ?_;unfold List.Nodup;rw[J3H];exact(Q4A m.pool).1.imp fun h e=>h (by omega)
   have:g≠g':=fun e=>Fj (Z0B (atsF 8) AO hi hj (b:=p.at_) (by rw[<- IU];exact Q1a Cv) (by rw[<- GZ,Q1a KY,eg',<- e,eg]))
   rw[IU,GZ,costK_8];omega
  ·have:=Q2F m.pool hg (m.used NA KY GZ);rw[IU,costK_8,Q2a GZ];omega
 ·have hu:=m.used BP Cv IU;by_cases GZ:r.kind=8
  ·obtain⟨g',EM,eg'⟩:=m.frame NA KY GZ;have:=Q2F m.pool EM hu;rw[GZ,costK_8,Q2a IU];omega
  ·have hv:=m.used NA KY GZ;rw[Q2a IU,Q2a GZ];refine Q3I m.pool hu hv fun e=>?_
   obtain⟨k1,k5⟩:=(m.kind p BP Cv).resolve_left IU;exact Fj (Z0B (atsF p.kind) (m.at_nd p.kind k1 k5) hi hj (b:=p.at_) (Q1a Cv) (by rw[e.1,Q1a KY,e.2]))
theorem bytes8_len(x:Nat):(Q0d x).length=8:=rfl
theorem Q1n(x y:Nat):(Q0d x++Q0d y).length=16:=rfl
theorem Q3r(x:Nat):∀y∈Q0d x,y<256:=by
 intro y hy;unfold Q0d at hy;simp only[J3g,J3y,or_false] at hy;omega
theorem Q9k{m bs:List Nat}{a:Nat}(h:∀b∈m,b<256)(hb:∀b∈bs,b<256):∀b∈put_ m a bs,b<256:=by
 intro y hy;unfold put_ at hy;simp only[J3Q] at hy;rcases hy with (hy|hy)|hy
 ·exact h y (J6y hy)
 ·exact hb y hy
 ·exact h y (J5F hy)
def Q4j(m m':List Nat)(a n:Nat):Prop:=∀b k,b+k<=a∨a+n<=b->Kept m m' b k
theorem Q6o{m bs:List Nat}{a:Nat}(hl:a+bs.length<=m.length):Q4j m (put_ m a bs) a bs.length:=fun _ _ h=>Q1J hl h
theorem Z3f{m:List Nat}{a x:Nat}(hl:a+8<=m.length)(hx:x<18446744073709551616):Q0u (put_ m a (Q0d x)) a=x:=by
 unfold Q0u;have:((put_ m a (Q0d x)).drop a).take 8=Q0d x:=by
  apply J4K
  intro i;rw[J5f];split
  ·rw[J5E];exact Q7y (by rw[bytes8_len];exact hl) (by rw[bytes8_len];assumption)
  ·rw[J4R (by rw[bytes8_len];omega)]
 rw[this];exact Q3G x hx
theorem Z3g{m:List Nat}{a x y:Nat}(hl:a+16<=m.length)(hx:x<18446744073709551616)(hy:y<18446744073709551616):Q0u (put_ m a (Q0d x++Q0d y)) a=x/\Q0u (put_ m a (Q0d x++Q0d y)) (a+8)=y:=by
 have h1:((put_ m a (Q0d x++Q0d y)).drop a).take 8=Q0d x:=by
  apply J4K
  intro i;rw[J5f];split
  ·rename_i hi;rw[J5E,Q7y (by rw[Q1n];exact hl) (by rw[Q1n];omega),J6q (by rw[bytes8_len];exact hi)]
  ·rw[J4R (by rw[bytes8_len];omega)]
 have h2:((put_ m a (Q0d x++Q0d y)).drop (a+8)).take 8=Q0d y:=by
  apply J4K
  intro i;rw[J5f];split
  ·rename_i hi;rw[J5E,J4C,Q7y (by rw[Q1n];exact hl) (by rw[Q1n];omega),J6r (by rw[bytes8_len];omega),bytes8_len,show 8+i-8=i by omega]
  ·rw[J4R (by rw[bytes8_len];omega)]
 unfold Q0u;rw[h1,h2];exact⟨Q3G x hx,Q3G y hy⟩
section
variable {S:CO} {fr:List Nat} {N K:Nat} {tb:Nat->TB} {own:Int} {xl xn:List Nat}
theorem Q4I(ok:S.Ok fr N K){j a b n:Nat}{m:List Nat}(ha:a∈S.P.usedOf j)(h1:a<=b)(h2:b+n<=a+Q0c j)(hk:Q4j S.P.a.mem m b n){j' a':Nat}(FT:a'∈S.P.usedOf j')(Aa:¬(j=j'/\a=a')):Kept S.P.a.mem m a' (Q0c j'):=by
 have:=Q3I ok.inv.mem.pool ha FT Aa;exact hk _ _ (by omega)
theorem TPX.leaf_ne(ok:S.Ok fr N K)(t:TPX S tb own xl xn){i j k k':Nat}(hi:i<256)(hj:j<256)(hk:k<16)(Bt:k'<16)(h:(tb i).lf k≠0)(h':(tb j).lf k'≠0)(Aa:¬(i=j/\k=k')):(tb i).lf k≠(tb j).lf k':=by
 have AO:(xl++Q2o tb).Nodup:=t.lvs.nodup_iff.2 ((Q2h ok.inv.mem.pool 7).imp fun h=>Nat.ne_of_lt h);have AO:=(J3V.1 AO).2.1;unfold Q2o List.Nodup at AO;rw[J3E] at AO;obtain⟨n1,n2⟩:=AO;by_cases e:i=j
 ·subst e;have NV:k≠k':=fun e=>Aa ⟨rfl,e⟩
  have:=n1 i (J3s.2 hi);unfold TB.lvs at this;rw[J3u] at this;rcases J5K k k' with Ab|Jh
  ·have:=J6e.1 this k k' (by simpa using hk) (by simpa using Bt) Ab;simp only[J7n] at this;exact this _ (by rw[if_neg h]) _ (by rw[if_neg h'])
  ·have:=J6e.1 this k' k (by simpa using Bt) (by simpa using hk) (by omega);simp only[J7n] at this;exact(this _ (by rw[if_neg h']) _ (by rw[if_neg h])).symm
 ·rcases J5K i j with Ab|Jh
  ·have:=J6e.1 n2 i j (by simpa using hi) (by simpa using hj) Ab;simp only[J7n] at this;exact this _ (mem_lvs.2 ⟨k,hk,rfl,h⟩) _ (mem_lvs.2 ⟨k',Bt,rfl,h'⟩)
  ·have:=J6e.1 n2 j i (by simpa using hj) (by simpa using hi) (by omega);simp only[J7n] at this;exact(this _ (mem_lvs.2 ⟨k',Bt,rfl,h'⟩) _ (mem_lvs.2 ⟨k,hk,rfl,h⟩)).symm
theorem TPX.entry(ok:S.Ok fr N K)(t:TPX S tb own xl xn){i s:Nat}{p:Pl}(hi:S.l[i]?=some p)(h1:p.st=1)(h2:p.kind=2)(Af:(p.fac:Int)=own)(hs:s<256)(hl:(tb i).lf (s/16)≠0){o:Option Ent}{xn':List Nat}{m:List Nat}(Ac:m.length=S.P.a.mem.length)(hb:∀b∈m,b<256)
  (hk:Q4j S.P.a.mem m ((tb i).lf (s/16)+16*(s%16)) 16) (ha:Q0u m ((tb i).lf (s/16)+16*(s%16))=Q0s o) (Ai:Q0u m ((tb i).lf (s/16)+16*(s%16)+8)=Q0W o) (hn:(xn'++((tb i).setE s o).nds).Perm (xn++(tb i).nds)) :
  (S.setP (S.P.setA m)).Ok fr N K/\TPX (S.setP (S.P.setA m)) (updT tb i ((tb i).setE s o)) own xl xn':=by
 have Ao:=Q1t ok.inv.len hi;have hL:=t.leaf Ao (by omega:s/16<16) hl;have Dg:(tb i).lf (s/16)<=(tb i).lf (s/16)+16*(s%16)/\(tb i).lf (s/16)+16*(s%16)+16<=(tb i).lf (s/16)+Q0c 7:=by rw[Q2W];omega
 have Bs:∀{j' a':Nat},a'∈S.P.usedOf j'->¬(7=j'/\(tb i).lf (s/16)=a')->Kept S.P.a.mem m a' (Q0c j'):=fun FT Aa=>Q4I ok hL Dg.1 Dg.2 hk FT Aa
 have AQ:((tb i).setE s o).lvs=(tb i).lvs:=rfl;obtain⟨A,B,e1,e2⟩:=Q4E TB.lvs tb Ao ((tb i).setE s o);obtain⟨A',B',e3,e4⟩:=Q4E TB.nds tb Ao ((tb i).setE s o);refine⟨ok.stored Ac hb (fun b Al=>?_),fun j q hj q1 q2=>?_,fun j q hj hq=>?_,?_,?_,fun id=>?_⟩
 ·have:=Bs Al (by omega);exact(this.sub (b:=b) (k:=8) (J3b _) (by show b+8<=b+64;omega)).word
 ·show(updT tb i _ j).In m q.at_;have AY:S.l[j]?=some q:=hj;have Ck:=Q1t ok.inv.len AY;by_cases e:j=i
  ·subst e;rw[updT_same];have Ml:q=p:=by rw[hi] at AY;exact(J3Z AY).symm
   subst Ml;refine(t.tin j q hi h1 h2).set hs hl hk ha Ai ?_ (fun k CL hkne Bz=>?_)
   ·have:=Q3I ok.inv.mem.pool (Q1P ok hi h1 h2) hL (by omega);exact this
   ·have Aa:=t.leaf_ne ok Ao Ao CL (by omega:s/16<16) Bz hl (fun e=>hkne e.2);exact Q3I ok.inv.mem.pool (t.leaf Ao CL Bz) hL (fun e=>Aa e.2)
  ·rw[Q0K e];refine(t.tin j q AY q1 q2).kept (Bs (Q1P ok AY q1 q2) (by omega)) fun k CL Bz=>?_
   exact Bs (t.leaf Ck CL Bz) (fun e'=>t.leaf_ne ok Ao Ck (by omega:s/16<16) CL hl Bz (fun e''=>e e''.1.symm) e'.2)
 ·have AY:S.l[j]?=some q:=hj;have e:j≠i:=fun e=>by
   subst e;rw[hi] at AY;cases AY;exact hq ⟨h1,h2⟩
  rw[Q0K e];exact t.nil j q AY hq
 ·show(xl++Q2o _).Perm (S.P.usedOf 7);have:Q2o (updT tb i ((tb i).setE s o))=Q2o tb:=by
   unfold Q2o;rw[e1,e2,AQ]
  rw[this];exact t.lvs
 ·show(xn'++Q2J _).Perm (S.P.usedOf 6);refine List.Perm.trans ?_ t.nds;unfold Q2J;rw[e3,e4];have r:∀(X Y:List Nat),(X++(A'++Y++B')).Perm (X++Y++(A'++B')):=fun X Y=>by
   rw[J4c A' Y B',J4c X Y];refine J5R X ?_;rw[<- J4c,<- J4c];exact J5P.append_right B'
  exact(r _ _).trans ((hn.append_right _).trans (r _ _).symm)
 ·show S.xc id=xcOf S.l _ id+_;rw[Q9f Ao hi,t.xc];have hc:((tb i).setE s o).cost=(tb i).cost+48*(((tb i).setE s o).nds.length:Int)-48*((tb i).nds.length:Int):=by
   unfold TB.cost;rw[AQ];omega
  have G1:=hn.length_eq;rw[J3M,J3M] at G1;rw[hc];by_cases hid:id=own
  ·subst hid;rw[if_pos rfl,if_pos rfl,if_pos Af];omega
  ·rw[if_neg hid,if_neg hid,if_neg (by omega)];omega
theorem TPX.rootw(ok:S.Ok fr N K)(t:TPX S tb own xl xn){i k:Nat}{p:Pl}(hi:S.l[i]?=some p)(h1:p.st=1)(h2:p.kind=2)(Af:(p.fac:Int)=own)(CL:k<16){L:Nat}{xl':List Nat}{m:List Nat}(Ac:m.length=S.P.a.mem.length)(hb:∀b∈m,b<256)
  (hk:Q4j S.P.a.mem m (p.at_+8*k) 8) (Cm:((tb i).setL k L).In m p.at_) (hn:(xl'++((tb i).setL k L).lvs).Perm (xl++(tb i).lvs)) :
  (S.setP (S.P.setA m)).Ok fr N K/\TPX (S.setP (S.P.setA m)) (updT tb i ((tb i).setL k L)) own xl' xn:=by
 have Ao:=Q1t ok.inv.len hi;have hT:=Q1P ok hi h1 h2;have Dg:p.at_<=p.at_+8*k/\p.at_+8*k+8<=p.at_+Q0c 2:=by
  have:Q0c 2=128:=rfl;omega
 have Bs:∀{j' a':Nat},a'∈S.P.usedOf j'->¬(2=j'/\p.at_=a')->Kept S.P.a.mem m a' (Q0c j'):=fun FT Aa=>Q4I ok hT Dg.1 Dg.2 hk FT Aa
 have AQ:((tb i).setL k L).nds=(tb i).nds:=rfl;obtain⟨A,B,e1,e2⟩:=Q4E TB.lvs tb Ao ((tb i).setL k L);obtain⟨A',B',e3,e4⟩:=Q4E TB.nds tb Ao ((tb i).setL k L);refine⟨ok.stored Ac hb (fun b Al=>?_),fun j q hj q1 q2=>?_,fun j q hj hq=>?_,?_,?_,fun id=>?_⟩
 ·have:=Bs Al (by omega);exact(this.sub (b:=b) (k:=8) (J3b _) (by show b+8<=b+64;omega)).word
 ·show(updT tb i _ j).In m q.at_;have AY:S.l[j]?=some q:=hj;have Ck:=Q1t ok.inv.len AY;by_cases e:j=i
  ·subst e;rw[updT_same];have Ml:q=p:=by rw[hi] at AY;exact(J3Z AY).symm
   subst Ml;exact Cm
  ·rw[Q0K e];refine(t.tin j q AY q1 q2).kept (Bs (Q1P ok AY q1 q2) (fun e'=>?_)) fun k' hk16' Bz=>Bs (t.leaf Ck hk16' Bz) (by omega)
   have:=Z0J ok hi AY (fun e''=>e e''.symm) h1 q1;rw[h2,q2,Z6a] at this;omega
 ·have AY:S.l[j]?=some q:=hj;have e:j≠i:=fun e=>by
   subst e;rw[hi] at AY;cases AY;exact hq ⟨h1,h2⟩
  rw[Q0K e];exact t.nil j q AY hq
 ·show(xl'++Q2o _).Perm (S.P.usedOf 7);refine List.Perm.trans ?_ t.lvs;unfold Q2o;rw[e1,e2];have r:∀(X Y:List Nat),(X++(A++Y++B)).Perm (X++Y++(A++B)):=fun X Y=>by
   rw[J4c A Y B,J4c X Y];refine J5R X ?_;rw[<- J4c,<- J4c];exact J5P.append_right B
  exact(r _ _).trans ((hn.append_right _).trans (r _ _).symm)
 ·show(xn++Q2J _).Perm (S.P.usedOf 6);have:Q2J (updT tb i ((tb i).setL k L))=Q2J tb:=by
   unfold Q2J;rw[e3,e4,AQ]
  rw[this];exact t.nds
 ·show S.xc id=xcOf S.l _ id+_;rw[Q9f Ao hi,t.xc];have hc:((tb i).setL k L).cost=(tb i).cost+256*(((tb i).setL k L).lvs.length:Int)-256*((tb i).lvs.length:Int):=by
   unfold TB.cost;rw[AQ];omega
  have G1:=hn.length_eq;rw[J3M,J3M] at G1;rw[hc];by_cases hid:id=own
  ·subst hid;rw[if_pos rfl,if_pos rfl,if_pos Af];omega
  ·rw[if_neg hid,if_neg hid,if_neg (by omega)];omega
end
structure Alt(S S':CO)(own:Int):Prop where
 c:S'.c=S.c
 t:S'.t=S.t
 l:S'.l=S.l
 g:S'.g=S.g
 per:S'.period=S.period
 now:S'.now=S.now
 rv:S'.rv=S.rv
 ts:S'.ts=S.ts
 same:SameP S.P S'.P
 next:S'.P.q.next=S.P.q.next
 acc:∀id e,find S.P.q.E id=some e->∃e',find S'.P.q.E id=some e'/\e'.q={e.q with charged:=e'.q.charged}/\(id≠own->e'=e)
 ids:S'.P.q.E.map En.id=S.P.q.E.map En.id
 kept:∀r∈S.l,r.is=true->r.kind≠2->Kept S.P.a.mem S'.P.a.mem r.at_ (costK r.kind)
theorem Alt.refl(S:CO)(own:Int):Alt S S own:=⟨rfl,rfl,rfl,rfl,rfl,rfl,rfl,rfl,SameP.refl _,rfl,fun _ e h=>⟨e,h,rfl,fun _=>rfl⟩,rfl,fun _ _ _ _=>Kept.refl _ _ _⟩
theorem Alt.trans{S S1 S2:CO}{own:Int}(h:Alt S S1 own)(k:Alt S1 S2 own):Alt S S2 own:=by
 refine⟨k.c.trans h.c,k.t.trans h.t,k.l.trans h.l,k.g.trans h.g,k.per.trans h.per,k.now.trans h.now,k.rv.trans h.rv,k.ts.trans h.ts,h.same.trans k.same,k.next.trans h.next,fun id e he=>?_,k.ids.trans h.ids,fun r hr hi hk=>?_⟩
 ·obtain⟨e1,a1,a2,a3⟩:=h.acc id e he;obtain⟨e2,b1,b2,b3⟩:=k.acc id e1 a1;refine⟨e2,b1,?_,fun Aa=>(b3 Aa).trans (a3 Aa)⟩;rw[b2,a2]
 ·exact(h.kept r hr hi hk).trans (k.kept r (by rw[h.l];exact hr) hi hk)
theorem Alt.got{S:CO}{fr:List Nat}{N K:Nat}(ok:S.Ok fr N K){own:Int}{n a:Nat}{P':PL}(g:GetOk S.P fr own n a P'):Alt S (S.paid P' own ((Q0c n:Nat):Int)) own:=by
 have gm:=g.gotM ok.inv.mem.pool;obtain⟨e,q1,q2,q3⟩:=g.q;refine⟨rfl,rfl,rfl,rfl,rfl,rfl,rfl,rfl,gm.same,by show P'.q.next=_;rw[q3],fun id x hx=>?_,?_,fun r hr hi hk=>?_⟩
 ·show ∃e',find P'.q.E id=some e'/\_;rw[q3];by_cases hid:id=own
  ·subst hid;rw[q1] at hx;cases hx;exact⟨_,Q0h q1 _,rfl,fun h=>absurd rfl h⟩
  ·exact⟨x,by rw[Q0w hid];exact hx,rfl,fun _=>rfl⟩
 ·show P'.q.E.map En.id=_;rw[q3];exact Q1s _ _ _
 ·exact gm.keptL ok.inv.mem r hr hi
theorem Alt.put{S:CO}{fr:List Nat}{N K:Nat}(ok:S.Ok fr N K){own:Int}{n a:Nat}{P':PL}(g:PutOk S.P fr own n a P'):Alt S (S.paid P' own (-((Q0c n:Nat):Int))) own:=by
 have bm:=g.backM ok.inv.mem.pool;obtain⟨e,q1,q2,q3⟩:=g.q;refine⟨rfl,rfl,rfl,rfl,rfl,rfl,rfl,rfl,bm.same,by show P'.q.next=_;rw[q3],fun id x hx=>?_,?_,fun r hr hi hk=>?_⟩
 ·show ∃e',find P'.q.E id=some e'/\_;rw[q3];by_cases hid:id=own
  ·subst hid;rw[q1] at hx;cases hx;exact⟨_,Q0h q1 _,rfl,fun h=>absurd rfl h⟩
  ·exact⟨x,by rw[Q0w hid];exact hx,rfl,fun _=>rfl⟩
 ·show P'.q.E.map En.id=_;rw[q3];exact Q1s _ _ _
 ·show Kept S.P.a.mem P'.a.mem _ _;rw[bm.mem];exact Kept.refl _ _ _
theorem Alt.mem{S:CO}{fr:List Nat}{N K:Nat}(ok:S.Ok fr N K)(own:Int){j a b n:Nat}{m:List Nat}(hj:j=2∨j=7)(ha:a∈S.P.usedOf j)(h1:a<=b)(h2:b+n<=a+Q0c j)(Ac:m.length=S.P.a.mem.length)(hk:Q4j S.P.a.mem m b n):Alt S (S.setP (S.P.setA m)) own:=by
 refine⟨rfl,rfl,rfl,rfl,rfl,rfl,rfl,rfl,⟨rfl,rfl,rfl,rfl,rfl,rfl,Ac⟩,rfl,fun _ e h=>⟨e,h,rfl,fun _=>rfl⟩,rfl,fun r hr hi A2=>?_⟩;show Kept S.P.a.mem m _ _;by_cases h8:r.kind=8
 ·obtain⟨g,hg,e⟩:=ok.inv.mem.frame hr hi h8;have:=Q2F ok.inv.mem.pool hg ha;rw[h8,costK_8,e];exact hk _ _ (by omega)
 ·have hu:=ok.inv.mem.used hr hi h8;have Wh:=(ok.inv.mem.kind r hr hi).resolve_left h8;rw[Q2a h8];exact Q4I ok ha h1 h2 hk hu (fun e=>by omega)
theorem costs_67:Q1j 6=48/\Q1j 7=256:=⟨rfl,rfl⟩
theorem CO.stepPaid{w w':World}{S:CO}(h:Sep w S.hl)(P':PL)(own d:Int)(e:P'.p=S.P.p)(s:Step S.P.hl P'.hl w w'):Step S.hl (S.paid P' own d).hl w w':=CO.stepP h P' e s
theorem CO.stepMem{w w':World}{S:CO}(h:Sep w S.hl)(m:List Nat)(s:Step S.P.a.hl ({S.P.a with mem:=m}:AN).hl w w'):Step S.hl (S.setP (S.P.setA m)).hl w w':=
 CO.stepP h (S.P.setA m) rfl (PL.stepA (CO.sP h) m s)
def onTo(G:Nat->Nat->Bool)(top k s:Nat):List Nat:=((List.range (2 ^ (top-k))).filter (G k)).filter fun i=>decide (i<s)
def Q7b(G:Nat->Nat->Bool)(top k:Nat):List Nat:=(List.range (2 ^ (top-k))).filter (G k)
theorem Z6g(G:Nat->Nat->Bool)(top k:Nat):onTo G top k 0=[]:=by simp[onTo]
theorem mem_on{G:Nat->Nat->Bool}{top k i:Nat}:i∈Q7b G top k↔i<2 ^ (top-k)/\G k i=true:=by simp[Q7b]
theorem Z0K{l:List Nat}(hs:l.Pairwise (·<·)){s i:Nat}(hi:i∈l)(Qv:s<=i)(Aq:∀j∈l,s<=j->i<=j):l.filter (fun j=>decide (j<i+1))=l.filter (fun j=>decide (j<s))++[i]:=by
 induction l with
 | nil=>cases hi
 | cons a r ih =>
  obtain⟨h1,h2⟩:=J3D.1 hs;rcases J3g.1 hi with rfl|Ny
  ·have e1:r.filter (fun j=>decide (j<i+1))=[]:=by
    rw[J5c];intro j hj;have:=h1 j hj;simp;omega
   have e2:r.filter (fun j=>decide (j<s))=[]:=by
    rw[J5c];intro j hj;have:=h1 j hj;simp;omega
   rw[J5o (by simp),J5p (by simp;omega),e1,e2];rfl
  ·have Un:=h1 i Ny;have Ab:a<s:=by
    rcases J5K a s with e|e
    ·exact e
    ·have:=Aq a (by simp) e;omega
   rw[J5o (by simp;omega),J5o (by simp;omega),ih h2 Ny (fun j hj hsj=>Aq j (by simp[hj]) hsj)];rfl
theorem Z0L{G:Nat->Nat->Bool}{n k i:Nat}(hi:i<n):((List.range n).map (G k))[i]?.getD false=G k i:=by simp[hi]
theorem Z6h{G:Nat->Nat->Bool}{top k s i:Nat}(h:fstG G top k s=some i):onTo G top k (i+1)=onTo G top k s++[i]:=by
 obtain⟨h1,h2,h3,h4⟩:=Q1F h;have hl:i<2 ^ (top-k):=by simpa using h1
 rw[Z0L hl] at h3;refine Z0K (J3v.filter _) (mem_on.2 ⟨hl,h3⟩) h2 fun j hj hsj=>?_
 rcases J5K j i with e|e
 ·have AY:=mem_on.1 hj;have:=h4 j hsj e;rw[Z0L AY.1] at this;exact absurd AY.2 this
 ·exact e
theorem Z8M{G:Nat->Nat->Bool}{top k s:Nat}(h:fstG G top k s=none):onTo G top k s=Q7b G top k:=by
 have h1:=Q8J h;unfold onTo;rw[show(List.range (2 ^ (top-k))).filter (G k)=Q7b G top k from rfl,J7k];intro j hj;have AY:=mem_on.1 hj;rcases J5K j s with e|e
 ·simpa using e
 ·have:=h1 j e (by simpa using AY.1);rw[Z0L AY.1] at this;exact absurd AY.2 this
def blk(k i:Nat):Nat×Nat:=(1024*i*2 ^ k,k)
def Q1x(G:Nat->Nat->Bool)(top k:Nat):List (Nat×Nat):=(List.range k).flatMap fun j=>(Q7b G top j).map (blk j)
def Q2l(G:Nat->Nat->Bool)(top k s:Nat):List (Nat×Nat):=Q1x G top k++(onTo G top k s).map (blk k)
theorem Z0M(G:Nat->Nat->Bool)(top k:Nat):Q2l G top k 0=Q1x G top k:=by simp[Q2l,Z6g]
theorem Q6p{G:Nat->Nat->Bool}{top k s i:Nat}(h:fstG G top k s=some i):Q2l G top k (i+1)=Q2l G top k s++[blk k i]:=by
 unfold Q2l;rw[Z6h h];simp
theorem Z3h{G:Nat->Nat->Bool}{top k s:Nat}(h:fstG G top k s=none):Q2l G top k s=Q1x G top (k+1):=by
 unfold Q2l Q1x;rw[Z8M h,J3m];simp
theorem J0g(G:Nat->Nat->Bool)(top k:Nat)(ht:top<=20):(Q7b G top k).length<=1048576:=by
 unfold Q7b;exact J3c (J5r _ _) (by rw[J4M];exact Q1H ht)
theorem Q3Q(G:Nat->Nat->Bool)(top:Nat)(ht:top<=20):∀k,(Q1x G top k).length<=1048576*k
 | 0=>by simp[Q1x]
 | k+1=>by
  have ih:=Q3Q G top ht k;have h1:=J0g G top k ht;have e:Q1x G top (k+1)=Q1x G top k++(Q7b G top k).map (blk k):=by
   unfold Q1x;rw[J3m];simp
  rw[e,J3M,J4L];omega
theorem Z3i(G:Nat->Nat->Bool)(top k s:Nat)(ht:top<=20):(Q2l G top k s).length<=1048576*k+1048576:=by
 have h1:=Q3Q G top ht k;have h2:=J0g G top k ht;unfold Q2l onTo;rw[J3M,J4L];have h3:=J5r (fun i=>decide (i<s)) (Q7b G top k);unfold Q7b at h2 h3;omega
def encB(x:Nat×Nat):List Value:=[.int .i64 (x.1:Int),.int .i64 (x.2:Int)]
def Q1b(l:List (Nat×Nat)):List Value:=l.flatMap encB
theorem infoblk:(prog.info? 161).map (fun i=>(i.zero,i.size,i.bytes))=some (some (.agg #[.int .i64 0,.int .i64 0]),2,16):=by kernel_rfl
def Q6q(B:Nat)(L:List (Nat×Nat))(v:Value)(w:World)(r:Ending)(w':World):Prop:=r=.returned v/\∃L':List (Nat×Nat),L'.Perm L/\L'.Pairwise (fun a b=>a.1<=b.1)/\w'.ownsRow B 161 2 v L'.length (Q1b L')/\Below B w w'
def NewBlks(w:World)(L:List (Nat×Nat))(r:Ending)(w':World):Prop:=∃v L',r=.returned v/\L'.Perm L/\L'.Pairwise (fun a b=>a.1<=b.1)/\w'.ownsRow w.heap.size 161 2 v L'.length (Q1b L')/\Below w.heap.size w w'
def OutB(w wr:World)(v:Value)(L:List (Nat×Nat)):Prop:=wr.ownsRow w.heap.size 161 2 v L.length (Q1b L)/\Below w.heap.size w wr
theorem Z6i{w w1:World}{d:BD}{G:Nat->Nat->Bool}(h:Sep w d.hl)(hi:d.Is G)(hb:Below w.heap.size w w1)(k:Nat)(hk:k<=d.top)(s:Nat)(hs:s<=1048576):∃b,w1.cell? ⟨d.b,1+k,none⟩=some (.pointer (some ⟨b,0,none⟩)) /\
  Calls prog 72 #[.pointer (some ⟨b,0,none⟩),.bool true,.int .i64 s] w1 fun r w'=>r=.returned (.int .i64 (optI (fstG G d.top k s)))/\w1=w':=Q5E (h.grown hb).sep hi k hk s hs
theorem J1c(w:World)(T:TypeId)(v0 v1:Value):∀j u,[v0,v1][j]?=some u->(w.alloc (.cells #[v0,v1] T)).cell? ((⟨w.heap.size,0,none⟩:Addr).add j)=some u:=by
 intro j u hj;have hc:=Cells.new w T [v0,v1]
 match j,hj with
 | 0,hj=>cases hj;exact hc.cell 0 _ rfl
 | 1,hj=>cases hj;exact hc.cell 1 _ rfl
theorem Z6j{w wr w1:World}{o:Obj}{T:TypeId}{size n:Nat}{v:Value}{xs:List Value}(h:wr.ownsRow w.heap.size T size v n xs)(hb:Below w.heap.size w wr)(hg:(wr.alloc o).grownBy w1 v.ownBlock):Below w.heap.size w w1:=
 hb.trans (((Below.refl _ wr).alloc hb.size o).grown hg (by have:=hb.size;simp;omega) (fun k hk=>(h.lt k hk).1))
theorem Z6k{w:World}{d:BD}{G:Nat->Nat->Bool}(h:Sep w d.hl)(hi:d.Is G)
  (hsort:∀v w1 L,OutB w w1 v L->L.length<=22020096->(L=Q1x G d.top (d.top+1))->Calls prog 73 #[v] w1 (Q6q w.heap.size L v w1)) :
  Calls prog 17 #[.pointer (some ⟨d.b,0,none⟩)] w (NewBlks w (Q1x G d.top (d.top+1))):=by
 have ht:=hi.top;have Ga:Hid (∀w1,Below w.heap.size w w1->w1.cell? ⟨d.b,0,none⟩=some (.int .i64 d.top)):=fun w1 hb=>BD.c0 (h.grown hb).sep
 have Dw:=Q0a (fun w1 hb k hk s hs=>Z6i h hi (w1:=w1) hb k hk s hs);have HS:=Q0a hsort;clear h hi hsort;generalize d.top=top at *
 generalize d.b=db at *
 obtain⟨i0,CU,Bx,AX,AU⟩:=info_parts infoblk;go_enter func17,ntmps17;go_wp2_with fail
 go_loopg [3,4] (top+1) (fun gk ov kv wr=>∃k:Nat,kv=.int .i64 k/\k+gk=top+1/\OutB w wr ov (Q1x G top k))
 case atStart=>exact⟨0,rfl,by omega,World.ownsRow_nil _ _ _ _,Below.refl _ _⟩
 case round =>
  obtain⟨k,rfl,AC,Am⟩:=hrel;have HO:=Q0a Am;have c0:=Ga.out wr Am.2;have BE:=Q0a AC;clear Am;by_cases Ab:k<=top
  ·obtain⟨b,CM,AR⟩:=Dw.out wr HO.out.2 k Ab 0 (by omega);have Cz:=Q0a AR;clear AR AC;have Bz:(0:Int)<=k:=by omega
   have L4:(k:Int)<21:=by omega
   go_wp2_with fail;refine Cz.out.mono ?_;rintro r w'⟨rfl,rfl⟩;have UL:2 ^ (top-k)<=1048576:=Q1H ht;go_wp2_with fail;obtain⟨gko,GI⟩:∃g,g=gk:=⟨_,rfl⟩
   subst GI;obtain⟨wo,PQ⟩:∃wo,wo=wr:=⟨_,rfl⟩
   subst PQ
   go_loopg [3,5] 1048577 (fun gi ov iv wi=>∃s:Nat,iv=.int .i64 (optI (fstG G top k s))/\s+gi=1048577/\OutB w wi ov (Q2l G top k s))
   case atStart=>exact⟨0,rfl,rfl,by rw[Z0M];exact HO.out⟩
   case round =>
    clear HO CM c0 Cz;obtain⟨s,rfl,QD,Am⟩:=hrel;have HO:=Q0a Am;have c0:=Ga.out wr Am.2;have Be:=Am.2.size;clear Am;cases La:fstG G top k s with
    | none =>
     have Nw:=Q0a La;clear La;rw[show optI none = -1 from rfl];go_wp2_with fail;go_roundg (top+1-(k+1))
     case measure=>have:=BE.out;omega
     case rel=>exact⟨k+1,by go_num,by omega,by rw[<- Z3h Nw.out];exact HO.out⟩
    | some i =>
     obtain⟨C4,Qv,_,_⟩:=Q1F La;have Nw:=Q0a La;clear La;have D8:i<2 ^ (top-k):=by simpa using C4
     have BJ:(0:Int)<=i:=by omega
     have J3:(i:Int)<1048576:=by omega
     have LA:=Q0a HO.out.1;have Ac:=Z3i G top k s ht;have hL:Hid (Q1b (Q2l G top k s)++[.int .i64 (((blk k i).1:Nat):Int),.int .i64 k]=Q1b (Q2l G top k (i+1))/\(Q2l G top k s).length+1=(Q2l G top k (i+1)).length):=by
      constructor
      ·rw[Q6p Nw.out];simp[Q1b,encB,blk]
      ·rw[Q6p Nw.out];simp
     have Bp:=Q0a D8;have E3:=Q0a Ac;have FB:=Q0a QD;have Vs:=Q0a Qv;have hm:i*2 ^ k<1048576:=by
      have h1:i*2 ^ k<2 ^ (top-k)*2 ^ k:=J6t D8 (J4r _);rw[<- J4D,show top-k+k=top by omega] at h1;exact J3d h1 (J3c (J4q (by omega) ht) (by decide))
     have IS:wrap64 ((i:Int)*1024*2 ^ k)=(((blk k i).1:Nat):Int):=by
      have e:(i:Int)*1024*2 ^ k=((1024*i*2 ^ k:Nat):Int):=by
       rw[J4g,J4g,J4X];show _=(1024:Int)*i*2 ^ k;rw[Int.mul_comm (i:Int) 1024]
      rw[e];have e2:1024*i*2 ^ k=1024*(i*2 ^ k):=J6s _ _ _;exact Go.IntWalk.wrap64_in _ (by omega)
     have HM:=Q0a hm;clear C4 D8 Ac QD UL Qv hm;rw[show optI (some i)=(i:Int) from rfl];generalize hva:(((blk k i).1:Nat):Int)=va at IS hL;have VC:=Q0a hva;clear hva
     iterate 41 go_step
     rw[IS];clear IS;have Ji:=E3.out
     iterate 2 go_step
     refine wpList_append_own _ rfl _ _ 34 rfl w.heap.size 161 i0 (.agg #[.int .i64 0,.int .i64 0]) 2 16 underlying34 CU Bx AX AU rfl (by decide) _ _ _ rfl (LA.out.alloc _) ⟨wr.heap.size,0,none⟩ 1 1 [.int .i64 va,.int .i64 k] rfl rfl (J1c wr _ _ _) (by simp[Value.oneCell']) (by unfold maxLen;omega) (by omega) (by simp;omega) ?_;intro v' w1 AH B9 _;have CS:=Z6j LA.out HO.out.2 B9;rw[hL.out.1,hL.out.2] at AH;have Vw:Hid (OutB w w1 v' (Q2l G top k (i+1))):=⟨AH,CS⟩
     have KK:=Q0a CS;clear AH B9 CS Ji LA HO VC hL c0 Be;obtain⟨b2,BF,EI⟩:=Dw.out w1 KK.out k Ab (i+1) (by omega);rw[show((i+1:Nat):Int)=(i:Int)+1 by omega] at EI;have I5:=Q0a EI;clear EI;go_wp2_with fail;refine I5.out.mono ?_;rintro r w'⟨rfl,rfl⟩;go_wp2_with fail;go_roundg (1048577-(i+1))
     case measure=>have:=FB.out;have:=Vs.out;omega
     case rel=>exact⟨i+1,rfl,by omega,Vw.out⟩
  ·obtain rfl:k=top+1:=by omega
   have hS:=Q0a (HS.out u3 wr _ HO.out (J3c (Q3Q G top ht (top+1)) (by omega)) rfl);go_wp2_with fail;refine hS.out.mono ?_;rintro r w'⟨rfl,L',p1,p2,p3,p4⟩;have HR:Hid (NewBlks w (Q1x G top (top+1)) (.returned u3) w'):=⟨u3,L',rfl,p1,p2,p3,HO.out.2.trans p4⟩
   clear p1 p2 p3 p4;go_wp2_with fail;go_ret;exact HR.out
theorem mem_freeTo{G:Nat->Nat->Bool}{top n:Nat}{b:Nat×Nat}:b∈Q1x G top n↔∃k i,k<n/\i<2 ^ (top-k)/\G k i=true/\b=blk k i:=by
 unfold Q1x;simp only[J3C,J3s,J3h]
 constructor
 ·rintro⟨k,hk,i,hi,rfl⟩;obtain⟨h1,h2⟩:=mem_on.1 hi;exact⟨k,i,hk,h1,h2,rfl⟩
 ·rintro⟨k,i,hk,h1,h2,rfl⟩;exact⟨k,hk,i,mem_on.2 ⟨h1,h2⟩,rfl⟩
theorem Z8N{u:Nat->Bool}{top k i k' i':Nat}(hk:k<=top)(Bt:k'<=top)(h:fre u top k i=true)(h':fre u top k' i'=true)(e:i*2 ^ k=i'*2 ^ k'):k=k'/\i=i':=by
 have key:∀{a x b y:Nat},a<b->b<=top->fre u top a x=true->fre u top b y=true->x*2 ^ a=y*2 ^ b->False:=by
  intro a x b y Cp hb h1 h2 e;unfold fre at h1 h2;simp only[J3x,J6o,beq_iff_eq,J6l] at h1 h2;rcases h1.2 with e1|e1
  ·omega
  ·have hc:clr u (a+1) (x/2)=true:=by
    rw[clr_iff];intro p hp;refine(clr_iff u b y).1 h2.1 p ?_;have e2:b=(a+1)+(b-(a+1)):=by omega
    have hx:x=y*2 ^ (b-a):=by
     have e3:2 ^ b=2 ^ (b-a)*2 ^ a:=by rw[<- J4D];congr 1;omega
     rw[e3,<- J6s] at e;exact J7o (J4r a) e
    have D3:x/2=y*2 ^ (b-(a+1)):=by
     have e3:2 ^ (b-a)=2 ^ (b-(a+1))*2:=by rw[<- J4k];congr 1;omega
     rw[hx,e3,<- J6s,J6b _ (by omega:0<2)]
    rw[e2,J4D,<- J4E,hp,D3,J6b _ (J4r _)]
   rw[hc] at e1;cases e1
 rcases J6d k k' with Ab|rfl|Ab
 ·exact(key Ab Bt h h' e).elim
 ·exact⟨rfl,J7o (J4r k) e⟩
 ·exact(key Ab hk h' h e.symm).elim
theorem Q6r:∀{L M:List (Nat×Nat)},L.Perm M->L.Pairwise (fun a b=>a.1<=b.1)->M.Pairwise (fun a b=>a.1<=b.1)->(∀a∈L,∀b∈L,a.1=b.1->a=b)->L=M
 | [],M,hp,_,_,_=>(List.nil_perm.1 hp).symm
 | x::L,M,hp,h1,h2,hi=>by
  cases M with
  | nil=>exact absurd hp.symm (List.not_perm_nil_cons _ _)
  | cons y M =>
   obtain⟨a1,a2⟩:=J3D.1 h1;obtain⟨b1,b2⟩:=J3D.1 h2;have hy:y∈x::L:=hp.mem_iff.2 (by simp);have hx:x∈y::M:=hp.mem_iff.1 (by simp);have JG:x=y:=by
    refine hi x (by simp) y hy ?_;have l1:x.1<=y.1:=by
     rcases J3g.1 hy with e|e
     ·rw[e];exact J3b _
     ·exact a1 y e
    have l2:y.1<=x.1:=by
     rcases J3g.1 hx with e|e
     ·rw[e];exact J3b _
     ·exact b1 x e
    omega
   subst JG;rw[Q6r (J6Q hp) a2 b2 fun a ha b hb=>hi a (by simp[ha]) b (by simp[hb])]
theorem Z6l{u v:Nat->Bool}{top:Nat}(huv:∀p,u p=v p){L M:List (Nat×Nat)}(hL:L.Perm (Q1x (fre u top) top (top+1)))(hM:M.Perm (Q1x (fre v top) top (top+1)))(h1:L.Pairwise (fun a b=>a.1<=b.1))(h2:M.Pairwise (fun a b=>a.1<=b.1)):L=M:=by
 have e:u=v:=funext huv;subst e;refine Q6r (hL.trans hM.symm) h1 h2 fun a ha b hb Cp=>?_
 obtain⟨k,i,k1,_,k3,rfl⟩:=mem_freeTo.1 (hL.mem_iff.1 ha);obtain⟨k',i',OJ,_,Ur,rfl⟩:=mem_freeTo.1 (hL.mem_iff.1 hb);unfold blk at Cp ⊢;simp only at Cp;have e1:i*2 ^ k=i'*2 ^ k':=by
  rw[J6s,J6s] at Cp;exact Nat.eq_of_mul_eq_mul_left (by omega:0<1024) Cp
 obtain⟨rfl,rfl⟩:=Z8N (by omega) (by omega) k3 Ur e1;rfl
def Z2f(w:World)(a:Option Addr)(L:List (Nat×Nat)):Prop:=∀(j:Nat) (x:Nat×Nat),L[j]?=some x->∃g,a=some ⟨g,0,none⟩/\g<w.heap.size/\w.cell? ⟨g,j*2,none⟩=some (.int .i64 (x.1:Int))/\w.cell? ⟨g,j*2+1,none⟩=some (.int .i64 (x.2:Int))
theorem Q9l:∀{L:List (Nat×Nat)} {j:Nat} {x:Nat×Nat},L[j]?=some x->(Q1b L)[j*2]?=some (.int .i64 (x.1:Int))/\(Q1b L)[j*2+1]?=some (.int .i64 (x.2:Int))
 | [],j,x,h=>by simp at h
 | y::L,0,x,h=>by
  simp at h;subst h;exact⟨rfl,rfl⟩
 | y::L,j+1,x,h=>by
  rw[J6p] at h;obtain⟨h1,h2⟩:=Q9l (L:=L) h;have e:Q1b (y::L)=[.int .i64 (y.1:Int),.int .i64 (y.2:Int)]++Q1b L:=rfl;rw[e,J6r (by show 2<=(j+1)*2;omega),J6r (by show 2<=(j+1)*2+1;omega)];have e1:(j+1)*2-[Value.int .i64 (y.1:Int),.int .i64 (y.2:Int)].length=j*2:=by show(j+1)*2-2=j*2;omega
  have e2:(j+1)*2+1-[Value.int .i64 (y.1:Int),.int .i64 (y.2:Int)].length=j*2+1:=by show(j+1)*2+1-2=j*2+1;omega
  rw[e1,e2];exact⟨h1,h2⟩
theorem NewBlks.reads{w w':World}{L:List (Nat×Nat)}{r:Ending}(h:NewBlks w L r w'):∃(a:Option Addr) (cap:Nat) (L':List (Nat×Nat)),r=.returned (.slice a L'.length cap)/\L'.Perm L/\L'.Pairwise (fun a b=>a.1<=b.1)/\Below w.heap.size w w'/\Z2f w' a L'/\∀b,a=some b->w.heap.size<=b.block:=by
 obtain⟨v,L',rfl,hp,hs,Au,hb⟩:=h;rcases Au.2 with ⟨rfl,h0⟩|⟨g,cap,Ag,rfl,hg,BK,hn,hm,Be,AW⟩
 ·refine⟨none,0,L',by rw[h0],hp,hs,hb,fun j x hj=>?_,fun b hb=>by cases hb⟩;have:=(J3t.1 hj).1;omega
 ·refine⟨_,cap,L',rfl,hp,hs,hb,fun j x hj=>?_,fun b hb=>by cases hb;exact hg⟩;obtain⟨c1,c2⟩:=Q9l hj;have key:∀(i:Nat) (v:Value),(Q1b L')[i]?=some v->w'.cell? ⟨g,i,none⟩=some v:=fun i v hv=>by
   rw[<- AW,J5f] at hv;split at hv
   ·simp only[World.cell?,BK,J6f,J6V,if_false];rw[<- J5C];exact hv
   ·cases hv
  exact⟨g,rfl,lt_of_block BK,key _ _ c1,key _ _ c2⟩
theorem Z6m(w:World)(a b:Option Addr)(ca cb:Nat)(xs:List (Nat×Nat))(ha:Z2f w a xs)(hb:Z2f w b xs)(hl:xs.length<=33554432) :
  Calls prog 22 #[.slice a xs.length ca,.slice b xs.length cb] w (Told w (.bool true)):=by
 have HX:=Q0a ha;have HY:=Q0a hb;clear ha hb;generalize hn:xs.length=n at hl;have HN:Hid (xs.length=n):=hn;clear hn;go_enter func22,ntmps22;go_wp2_with fail
 go_loopg [5] n (fun gk i wr=>∃k:Nat,k+gk=n/\i=.int .i64 k/\Below w.heap.size w wr)
 case atStart=>exact⟨0,J5G _,rfl,Below.refl _ _⟩
 case round =>
  obtain⟨k,hk,rfl,CZ⟩:=hrel;by_cases Ab:k<n
  ·have ex:xs[k]?=some (xs[k]'(by rw[HN.out];exact Ab)):=J5t _;generalize xs[k]'(by rw[HN.out];exact Ab)=x at ex;obtain⟨g1,rfl,Ch,SD,SQ⟩:=HX.out k x ex;obtain⟨g2,rfl,Bu,S8,RP⟩:=HY.out k x ex;have c0:=(World.cell?_of_block (w:=w) (CZ.block g1 Ch)).trans SD;have c1:=(World.cell?_of_block (w:=w) (CZ.block g1 Ch)).trans SQ;have d0:=(World.cell?_of_block (w:=w) (CZ.block g2 Bu)).trans S8;have d1:=(World.cell?_of_block (w:=w) (CZ.block g2 Bu)).trans RP;have C3:(k:Int)<(n:Int):=by omega
   have QW:(n:Int)<=33554432:=by omega
   clear ex SD SQ S8 RP Ch Bu
   go_wp2
   go_region
   all_goals go_wp2
   all_goals go_roundg (n-(k+1))
   all_goals first
    | omega
    | exact⟨k+1,by omega,by go_num,CZ.drew⟩
  ·go_wp2
   go_ret;exact⟨rfl,CZ⟩
abbrev encI(x:Int):Value:=.int .i64 x
theorem Q8q:(prog.info? 3).map (fun i=>(i.zero,i.size,i.bytes))=some (some (.int .i64 0),1,8):=by kernel_rfl
def AsideV(H:HL)(cs:List Value)(a:Option Addr)(w:World):Prop:=∀(j:Nat) (v:Value),cs[j]?=some v->∃g,a=some ⟨g,0,none⟩/\g∉keys H/\g<w.heap.size/\w.cell? ⟨g,j,none⟩=some v
theorem AsideV.step{H H':HL}{cs:List Value}{a:Option Addr}{w w':World}(h:AsideV H cs a w)(st:Step H H' w w'):AsideV H' cs a w':=fun j x hj=>by
 obtain⟨g,h1,h2,h3,h4⟩:=h j x hj;refine⟨g,h1,fun hk=>?_,J3d h3 st.chg.size,(World.cell?_of_block (w:=w) (st.chg.block g h3 h2)).trans h4⟩;rcases st.new g hk with h'|h'
 ·exact h2 h'
 ·omega
theorem Q5k{w w':World}{H:HL}{T:TypeId}{size n:Nat}{v:Value}{cs:List Value}(hs:Sep w H)(h:w'.ownsRow w.heap.size T size v n cs):∃(a:Option Addr) (cap:Nat),v=.slice a n cap/\AsideV H cs a w':=by
 obtain⟨hl,h2⟩:=h;rcases h2 with ⟨rfl,h0⟩|⟨g,cap,Ag,rfl,hg,BK,hn,hm,Be,AW⟩
 ·refine⟨none,0,by rw[h0],fun j x hj=>?_⟩;have:=(J3t.1 hj).1;rw[hl,h0,J6T] at this;omega
 ·refine⟨_,cap,rfl,fun j x hj=>⟨g,rfl,fun hk=>by have:=hs.lt hk;omega,lt_of_block BK,?_⟩⟩;rw[<- hl] at AW;rw[<- AW,J5f] at hj;split at hj
  ·simp only[World.cell?,BK,J6f,J6V,if_false];rw[<- J5C];exact hj
  ·cases hj
def AsideB(H:HL)(L:List (Nat×Nat))(a:Option Addr)(w:World):Prop:=∀(j:Nat) (x:Nat×Nat),L[j]?=some x->∃g,a=some ⟨g,0,none⟩/\g∉keys H/\g<w.heap.size/\w.cell? ⟨g,j*2,none⟩=some (.int .i64 (x.1:Int))/\w.cell? ⟨g,j*2+1,none⟩=some (.int .i64 (x.2:Int))
theorem AsideB.step{H H':HL}{L:List (Nat×Nat)}{a:Option Addr}{w w':World}(h:AsideB H L a w)(st:Step H H' w w'):AsideB H' L a w':=fun j x hj=>by
 obtain⟨g,h1,h2,h3,h4,h5⟩:=h j x hj;have e:=st.chg.block g h3 h2;refine⟨g,h1,fun hk=>?_,J3d h3 st.chg.size,(World.cell?_of_block (w:=w) e).trans h4,(World.cell?_of_block (w:=w) e).trans h5⟩;rcases st.new g hk with h'|h'
 ·exact h2 h'
 ·omega
theorem AsideB.reads{H:HL}{L:List (Nat×Nat)}{a:Option Addr}{w:World}(h:AsideB H L a w):Z2f w a L:=fun j x hj=>by
 obtain⟨g,h1,_,h3,h4,h5⟩:=h j x hj;exact⟨g,h1,h3,h4,h5⟩
theorem J1d{w:World}{H:HL}{rv:RV}{l:List Int}(h:Sep w (rowH rv 3 1 (l.map encI)++H))(Bg:rvOk rv l.length)(hl:l.length<=1000)(x:Int)(ty:TypeId) :
  ∃rv' w',(Builtin.append_ #[38,38] ty #[lvOf rv l.length,.slice (some ⟨w.heap.size,0,none⟩) 1 1]).run prog (w.alloc (.cells #[.int .i64 x] 3))=.ok (lvOf rv' (l.length+1)) w'/\rvOk rv' (l.length+1)/\Step (rowH rv 3 1 (l.map encI)++H) (rowH rv' 3 1 ((l++[x]).map encI)++H) w w':=by
 obtain⟨i0,hi,Bx,AX,AU⟩:=info_parts Q8q;have ha:=h.alloc (.cells #[.int .i64 x] 3);have Af:=Q4t ha.left Bg (by rw[J4L,J4i]);obtain⟨v',w',hr,q1,q2,_,q4⟩:=run_append_own_at (P:=prog) (w.alloc (.cells #[.int .i64 x] 3)) 0 38 ty 3 i0 (.int .i64 0) 1 8 underlying38 hi Bx AX AU rfl (by decide) (lvOf rv l.length) l.length (l.map encI) Af ⟨w.heap.size,0,none⟩ 1 1 [.int .i64 x] rfl (by
  intro j u hj;have:=(Cells.new w 3 [.int .i64 x]).cell j u hj;have e:(⟨w.heap.size,0,none⟩:Addr).add j=⟨w.heap.size,j,none⟩:=by unfold Addr.add;split <;> simp_all
  rw[e];exact this) (fun u hu=>by rw[J5j.1 hu];rfl) (by unfold maxLen;omega) (by omega) (J5e _)
 obtain⟨rv',rfl,e2,e3⟩:=Q1p (A:=[]) (B:=H) (by simpa using ha) q1 q2 q4;refine⟨rv',w',hr,e2,?_⟩;rw[J6G];have e4:Step (rowH rv 3 1 (l.map encI)++H) (rowH rv' 3 1 (l.map encI++[encI x])++H) (w.alloc (.cells #[.int .i64 x] 3)) w':=by simpa using e3
 exact e4.from_alloc
theorem Z6n{w:World}{a:AN}(h:Sep w a.hl)(at_:Nat)(h8:at_%8=0)(hl:at_+16<=a.mem.length)(hm:a.mem.length<=1073741824) :
  Calls prog 121 #[.pointer (some ⟨a.a,0,none⟩),.int .i64 at_,.int .i64 2] w fun r w'=>r=.returned (.tuple #[.slice (some ⟨a.mb,at_,none⟩) 16 (a.mem.length-at_),.int .i64 0])/\w=w':=by
 have k1:=Z0z h at_ 16 (by omega) hl hm;have h1:(at_:Int)%8=0:=by omega
 have h2:((at_:Int)%8 != 0)=false:=by simp;omega
 have h3:((0:Int) != 0)=false:=by simp
 clear h h8;generalize a.mem.length=l at *
 go_enter func121,ntmps121;go_wp2_with (go_at_call 113;refine k1.mono ?_;rintro e w'⟨rfl,rfl⟩);go_ret2;exact⟨rfl,rfl⟩
theorem Z0N(x y k:Nat)(hk:k<16):(Q0d x++Q0d y)[k]?.getD 0=(if k<8 then x else y)/2 ^ (8*(k%8))%256:=by
 have hl:(Q0d x).length=8:=rfl;by_cases h:k<8
 ·rw[J6q (by rw[hl];exact h),Q5a x k h,if_pos h,J4x h]
 ·rw[J6r (by rw[hl];omega),hl,Q5a y (k-8) (by omega),if_neg h,show k%8=k-8 by omega]
theorem Z6o{w:World}{a:AN}(h:Sep w a.hl)(at_ x y:Nat)(h8:at_%8=0)(hl:at_+16<=a.mem.length)(hm:a.mem.length<=1073741824)(hx:x<18446744073709551616)(hy:y<18446744073709551616)(g:Nat)(hg:w.cell? ⟨g,0,none⟩=some (.int .u64 x))(Ch:w.cell? ⟨g,1,none⟩=some (.int .u64 y))(DE:g<w.heap.size)(EH:g∉keys a.hl) :
  Calls prog 57 #[.pointer (some ⟨a.a,0,none⟩),.int .i64 at_,.slice (some ⟨g,0,none⟩) 2 2] w fun r w'=>r=.returned (.int .i64 0)/\Step a.hl ({a with mem:=put_ a.mem at_ (Q0d x++Q0d y)}:AN).hl w w':=by
 have k1:=Z6n h at_ h8 hl hm;have CS:(Q0d x++Q0d y).length=16:=rfl;have Mc:Hid (Step a.hl ({a with mem:=put_ a.mem at_ ((Q0d x++Q0d y).take 0)}:AN).hl w w):=by
  show Step _ _ _ _;rw[J6C,Z0y];exact Step.refl h
 have HN:Hid (∀k wr,k<16->Step a.hl ({a with mem:=put_ a.mem at_ ((Q0d x++Q0d y).take k)}:AN).hl w wr->(∃old,wr.cell? ⟨a.mb,at_+k,none⟩=some old)/\wr.frozen? ⟨a.mb,at_+k,none⟩=false/\wr.cell? ⟨g,0,none⟩=some (.int .u64 x)/\wr.cell? ⟨g,1,none⟩=some (.int .u64 y)/\Step a.hl ({a with mem:=put_ a.mem at_ ((Q0d x++Q0d y).take (k+1))}:AN).hl w (wr.setCell ⟨a.mb,at_+k,none⟩ (.int .u8 ((Q0d x++Q0d y)[k]?.getD 0:Nat)))):=by
  intro k wr hk hs;have eb:=hs.chg.block g DE EH;refine⟨⟨_,AN.bcell hs.sep (at_+k) (by show at_+k<(put_ _ _ _).length;rw[Q2v _ _ _ (by rw[J5v,CS];omega)];omega)⟩,AN.bfree hs.sep (at_+k),(World.cell?_of_block (w:=w) eb).trans hg,(World.cell?_of_block (w:=w) eb).trans Ch,?_⟩;have h1:=AN.setB hs.sep (at_+k) ((Q0d x++Q0d y)[k]?.getD 0);have h2:=Q8g a.mem at_ (Q0d x++Q0d y) k (by rw[CS];exact hk) (by rw[CS];exact hl);have:=hs.trans h1
  simpa[h2] using this
 have Bi:Hid ((Q0d x++Q0d y).take 16=Q0d x++Q0d y):=J5a (by rw[CS];exact J3b _);have HV:=Q0a (fun k hk=>Z0N x y k hk);generalize hbs:Q0d x++Q0d y=bs at *
 clear h h8 hg Ch EH DE hbs CS;generalize a.hl=H at *
 generalize a.mem.length=l at *
 go_enter func57,ntmps57;go_wp2_with fail;refine k1.mono ?_;rintro e w'⟨rfl,rfl⟩;go_wp2_with fail
 go_loopw [20] (fun iv wr=>∃k:Nat,k<=16/\iv=.int .i64 k/\Step H ({a with mem:=put_ a.mem at_ (bs.take k)}:AN).hl w wr) (fun iv _=>16-(intOf iv).toNat)
 case atStart=>exact⟨0,by omega,rfl,Mc.out⟩
 case round =>
  obtain⟨k,hk,rfl,hs⟩:=hrel;by_cases Ab:k<16
  ·obtain⟨⟨old,KM⟩,hf,Mq,Ux,AB⟩:=HN.out k wr Ab hs;have hv:=HV.out k Ab;clear hs;obtain⟨j,hj⟩:∃j,j=k%8:=⟨_,rfl⟩
   have VR:j<8:=by omega
   have A0:(k:Int)%8=(j:Int):=by omega
   have A2:k%8=j:=hj.symm;rw[A2] at hv;by_cases h8:k<8
   ·have Bz:(k:Int)/8=0:=by omega
    rw[if_pos h8] at hv;have SV:IntKind.u8.wrap ((x:Int)/2 ^ (8*j))=((bs[k]?.getD 0:Nat):Int):=by
     rw[hv,IntKind.wrap_u8,show((x:Int)/2 ^ (8*j))=((x/2 ^ (8*j):Nat):Int) from by rw[J4W,J4X];rfl];omega
    clear hv hj;generalize bs[k]?.getD 0=v at *
    go_wp2_with fail;go_roundw
    case rel=>exact⟨k+1,by omega,by go_num,AB⟩
    case measure=>simp[intOf];omega
   ·have Bz:(k:Int)/8=1:=by omega
    rw[if_neg h8] at hv;have SV:IntKind.u8.wrap ((y:Int)/2 ^ (8*j))=((bs[k]?.getD 0:Nat):Int):=by
     rw[hv,IntKind.wrap_u8,show((y:Int)/2 ^ (8*j))=((y/2 ^ (8*j):Nat):Int) from by rw[J4W,J4X];rfl];omega
    clear hv hj;generalize bs[k]?.getD 0=v at *
    go_wp2_with fail;go_roundw
    case rel=>exact⟨k+1,by omega,by go_num,AB⟩
    case measure=>simp[intOf];omega
  ·obtain rfl:k=16:=by omega
   go_wp2_with fail;go_ret;exact⟨rfl,by have:=hs;rw[Bi.out] at this;exact this⟩
end Go.Proofs.YtfidemmgofcnmaaGreatDoor
