/- What the laws of spaces share is proved. No condition. Part of a proof. -/
import Derived.Test.YtfidemmgofcnmaaGreatDoorAt12
set_option maxHeartbeats 2000000
set_option linter.unusedVariables false
namespace Go.Proofs.YtfidemmgofcnmaaGreatDoor
open Go.RowKit Go.Proofs.Tryz
def Q0g(l:List Pl)(tb:Nat->TB)(h s:Nat):Option Ent:=match pget l 1 h with
 | some p=>if p.kind=2/\s<256 then(tb (h%256)).en s else none
 | none=>none
theorem Z2j{l:List Pl}{tb:Nat->TB}{h s:Nat}{e:Ent}(x:Q0g l tb h s=some e):∃p,pget l 1 h=some p/\p.kind=2/\s<256/\(tb (h%256)).en s=some e:=by
 unfold Q0g at x;cases hp:pget l 1 h with
 | none=>rw[hp] at x;cases x
 | some p =>
  rw[hp] at x;simp only at x;split at x
  ·rename_i hc;exact⟨p,rfl,hc.1,hc.2,x⟩
  ·cases x
theorem Q0h{l:List Pl}{tb:Nat->TB}{h s:Nat}{p:Pl}(hp:pget l 1 h=some p)(hk:p.kind=2)(hs:s<256):Q0g l tb h s=(tb (h%256)).en s:=by
 unfold Q0g;rw[hp];simp only;rw[if_pos ⟨hk,hs⟩]
structure Q6q(l:List Pl)(s:Nat)(e:Ent):Prop where
 live:∃q,pget l 1 e.h=some q/\(q.kind=8↔128<=s)
 r:1<=e.r/\e.r<=15
def Q0F(l:List Pl)(tb:Nat->TB)(n:En Nd):Option Ent:=Q0g l tb n.q.sp.toNat n.q.sl.toNat
structure FPI(l:List Pl)(tb:Nat->TB)(N:List (En Nd)):Prop where
 cap:∀h s e,Q0g l tb h s=some e->Q6q l s e
 has:∀h s e,Q0g l tb h s=some e->∃n∈N,n.q.sp=(h:Int)/\n.q.sl=(s:Int)
 is:∀n∈N,∃e,Q0F l tb n=some e
 up:∀n∈N,∀m,find N n.q.par=some m->∀e e',Q0F l tb n=some e->Q0F l tb m=some e'->e.h=e'.h/\e.r&&&e'.r=e.r
theorem Q3d{l:List Pl}{tb:Nat->TB}{h s:Nat}{p:Pl}(hp:pget l 1 h=some p)(hk:p.kind=2)(hs:s<256){t':TB}{o:Option Ent}(ht:∀x,t'.en x=if x=s then o else(tb (h%256)).en x)(h' s':Nat) :
  Q0g l (updT tb (h%256) t') h' s'=if h'=h/\s'=s then o else Q0g l tb h' s':=by
 unfold Q0g;cases AL:pget l 1 h' with
 | none =>
  simp only;rw[if_neg];rintro⟨rfl,_⟩;rw[hp] at AL;cases AL
 | some q =>
  simp only;by_cases e:h'%256=h%256
  ·obtain⟨e1,e2,_⟩:=Q5k AL hp e;subst e1;subst e2;rw[updT_same];by_cases hc:q.kind=2/\s'<256
   ·rw[if_pos hc,if_pos hc,ht];by_cases es:s'=s
    ·rw[if_pos es,if_pos ⟨rfl,es⟩]
    ·rw[if_neg es,if_neg (fun h=>es h.2)]
   ·rw[if_neg hc,if_neg hc,if_neg];rintro⟨_,rfl⟩;exact hc ⟨hk,hs⟩
  ·have hn:¬(h'=h/\s'=s):=fun x=>e (by rw[x.1])
   rw[Q0P e,if_neg hn]
theorem Q6R{l l':List Pl}{s:Nat}{e:Ent}(c:Q6q l s e)(h:∀q,pget l 1 e.h=some q->∃q',pget l' 1 e.h=some q'/\q'.kind=q.kind):Q6q l' s e:=by
 obtain⟨q,h1,h2⟩:=c.live;obtain⟨q',h3,h4⟩:=h q h1;exact⟨⟨q',h3,by rw[h4];exact h2⟩,c.r⟩
theorem FPI.same{l l':List Pl}{tb:Nat->TB}{N:List (En Nd)}(f:FPI l tb N)(he:∀h s,Q0g l' tb h s=Q0g l tb h s)(hl:∀h s e,Q0g l tb h s=some e->∀q,pget l 1 e.h=some q->∃q',pget l' 1 e.h=some q'/\q'.kind=q.kind):FPI l' tb N:=by
 have ho:∀n,Q0F l' tb n=Q0F l tb n:=fun n=>he _ _
 refine⟨fun h s e x=>?_,fun h s e x=>?_,fun n hn=>?_,fun n hn m hm e e' x y=>?_⟩
 ·rw[he] at x;exact Q6R (f.cap h s e x) (hl h s e x)
 ·rw[he] at x;exact f.has h s e x
 ·rw[ho];exact f.is n hn
 ·rw[ho] at x y;exact f.up n hn m hm e e' x y
theorem FPI.made{l:List Pl}{tb:Nat->TB}{N:List (En Nd)}(f:FPI l tb N){i:Nat}{p q:Pl}(hi:l[i]?=some p)(hp:p.st=0)(hn:(tb i).Nil):FPI (l.set i q) tb N:=by
 have Ds:∀x r,pget l 1 x=some r->pget (l.set i q) 1 x=some r:=fun x r hr=>by
  obtain⟨a,b,c⟩:=pget_some.1 hr;rw[Q2o q hi,if_neg]
  ·exact hr
  ·intro e;rw[e,hi] at a;cases a;omega
 refine f.same (fun h s=>?_) (fun h s e x r hr=>⟨r,Ds _ _ hr,rfl⟩);by_cases e:h%256=i
 ·have z:∀l',Q0g l' tb h s=none:=fun l'=>by
   unfold Q0g;split
   ·split
    ·rename_i hc;rw[e];exact hn.2 s hc.2
    ·rfl
   ·rfl
  rw[z,z]
 ·unfold Q0g;rw[Q2o q hi,if_neg e]
section
variable {l:List Pl} {tb:Nat->TB} {N:List (En Nd)} {next:Int} {h s:Nat} {p:Pl}
theorem Q4a{par sp sl:Int}{b:Nat}(ok:NOk N next)(id:Int):find (addN N par (next+1) b sp sl) id=if id=next+1 then some ⟨next+1,b,⟨sp,sl,par,[]⟩⟩ else(find N id).map fun c=>{c with q:=if c.id=par then {c.q with ks:=c.q.ks++[next+1]} else c.q}:=by
 have D8:find N (next+1)=none:=by
  cases hf:find N (next+1) with
  | none=>rfl
  | some e =>
   obtain⟨e1,e2⟩:=Q0d hf;have:=ok.rng e e1;omega
 unfold addN;rw[Q7G,Q1l];by_cases h:id=next+1
 ·subst h;rw[D8];simp
 ·cases hf:find N id with
  | none=>simp[h]
  | some e=>simp[h]
theorem Z2k{l:List Pl}{tb:Nat->TB}(n m:En Nd)(h1:n.q.sp=m.q.sp)(h2:n.q.sl=m.q.sl):Q0F l tb n=Q0F l tb m:=by unfold Q0F;rw[h1,h2]
theorem Z4T(e:En Nd)(par k:Int):(if e.id=par then({e.q with ks:=e.q.ks++[k]}:Nd) else e.q).sp=e.q.sp/\(if e.id=par then({e.q with ks:=e.q.ks++[k]}:Nd) else e.q).sl=e.q.sl/\(if e.id=par then({e.q with ks:=e.q.ks++[k]}:Nd) else e.q).par=e.q.par:=by
 split <;> exact⟨rfl,rfl,rfl⟩
theorem FPI.add(f:FPI l tb N)(ok:NOk N next)(hp:pget l 1 h=some p)(hk:p.kind=2)(hs:s<256)(h0:Q0g l tb h s=none){t':TB}{e:Ent}(ht:∀x,t'.en x=if x=s then some e else(tb (h%256)).en x)(hc:Q6q l s e){par:Int}(b:Nat)
  (Bu:par=0∨∃m em,find N par=some m/\Q0F l tb m=some em/\e.h=em.h/\e.r&&&em.r=e.r):FPI l (updT tb (h%256) t') (addN N par (next+1) b (h:Int) (s:Int)):=by
 have ha:=Q3d hp hk hs ht;have Ac:∀n∈N,¬(n.q.sp.toNat=h/\n.q.sl.toNat=s):=fun n hn ⟨h1,h2⟩=>by
  obtain⟨e1,DO⟩:=f.is n hn;unfold Q0F at DO;rw[h1,h2,h0] at DO;cases DO
 have Ca:∀n∈N,Q0F l (updT tb (h%256) t') n=Q0F l tb n:=fun n hn=>by
  unfold Q0F;rw[ha,if_neg (Ac n hn)]
 have A8:∀{x},x∈addN N par (next+1) b (h:Int) (s:Int)->(∃n∈N,x={n with q:=if n.id=par then {n.q with ks:=n.q.ks++[next+1]} else n.q})∨x=⟨next+1,b,⟨(h:Int),(s:Int),par,[]⟩⟩:=fun {x} hx=>by
  rcases J2m.1 hx with hx|hx
  ·exact .inl (Q1r hx)
  ·exact .inr (J3E.1 hx)
 have NL:∀n∈N,Q0F l (updT tb (h%256) t') {n with q:=if n.id=par then {n.q with ks:=n.q.ks++[next+1]} else n.q}=Q0F l tb n:=fun n hn=>by
  rw[<- Ca n hn];obtain⟨q1,q2,_⟩:=Z4T n par (next+1);exact Z2k _ _ q1 q2
 have D8:Q0F l (updT tb (h%256) t') ⟨next+1,b,⟨(h:Int),(s:Int),par,[]⟩⟩=some e:=by
  unfold Q0F;rw[ha,if_pos ⟨by simp,by simp⟩]
 refine⟨fun h' s' x hx=>?_,fun h' s' x hx=>?_,fun n hn=>?_,fun n hn m hm x y hx hy=>?_⟩
 ·rw[ha] at hx;split at hx
  ·rename_i Bj;cases hx;rw[Bj.2];exact hc
  ·exact f.cap h' s' x hx
 ·rw[ha] at hx;split at hx
  ·rename_i Bj;exact⟨_,J2r _ (J3E.2 rfl),by rw[Bj.1],by rw[Bj.2]⟩
  ·obtain⟨n,hn,h1,h2⟩:=f.has h' s' x hx;obtain⟨q1,q2,_⟩:=Z4T n par (next+1);exact⟨_,J2s _ (J1K.2 ⟨n,hn,rfl⟩),q1.trans h1,q2.trans h2⟩
 ·rcases A8 hn with ⟨c,Bj,rfl⟩|rfl
  ·rw[NL c Bj];exact f.is c Bj
  ·exact⟨e,D8⟩
 ·-- the parent,in the old row
  have old:∀c,find N c.id=some c->∀m,find (addN N par (next+1) b (h:Int) (s:Int)) c.q.par=some m->find N c.q.par=none->False:=fun c hcf m hm GH=>by
   rw[Q4a ok] at hm;split at hm
   ·rename_i e1;obtain⟨c1,_⟩:=Q0d hcf;have:=ok.rise c c1;have:=ok.rng c c1;omega
   ·rw[GH] at hm;cases hm
  rcases A8 hn with ⟨c,Bj,rfl⟩|rfl
  ·obtain⟨_,_,q3⟩:=Z4T c par (next+1);have B8:find (addN N par (next+1) b (h:Int) (s:Int)) c.q.par=some m:=by rw[<- q3];exact hm
   rw[NL c Bj] at hx;have KY:=ok.rng c Bj;have AQ:=ok.rise c Bj;rw[Q4a ok,if_neg (by omega)] at B8;obtain⟨m0,Fb,rfl⟩:=J5q.1 B8;rw[NL m0 (Q0d Fb).1] at hy;exact f.up c Bj m0 Fb x y hx hy
  ·rw[D8] at hx;cases hx;have B8:find (addN N par (next+1) b (h:Int) (s:Int)) par=some m:=hm;rcases Bu with rfl|⟨m1,em,g1,g2,g3,g4⟩
   ·rw[Q4a ok,if_neg (by have:=ok.next0;omega),ok.zero] at B8;cases B8
   ·have:=ok.rng m1 (Q0d g1).1;have e2:=(Q0d g1).2;rw[Q4a ok,if_neg (by omega),g1] at B8;cases B8;rw[NL m1 (Q0d g1).1,g2] at hy;cases hy;exact⟨g3,g4⟩
theorem FPI.weak(f:FPI l tb N)(ok:NOk N next)(hp:pget l 1 h=some p)(hk:p.kind=2)(hs:s<256){e e2:Ent}(h0:Q0g l tb h s=some e){t':TB}(ht:∀x,t'.en x=if x=s then some e2 else(tb (h%256)).en x)(hh:e2.h=e.h)(hr:1<=e2.r/\e2.r<=15)(BP:e2.r&&&e.r=e2.r)
  (Cw:∀n∈N,∀m,find N n.q.par=some m->m.q.sp=(h:Int)->m.q.sl=(s:Int)->∀x,Q0F l tb n=some x->x.r&&&e2.r=x.r):FPI l (updT tb (h%256) t') N:=by
 have ha:=Q3d hp hk hs ht;have spot:∀n∈N,n.q.sp.toNat=h->n.q.sl.toNat=s->n.q.sp=(h:Int)/\n.q.sl=(s:Int):=fun n hn h1 h2=>by
  have:=ok.sm n hn;omega
 refine⟨fun h' s' x hx=>?_,fun h' s' x hx=>?_,fun n hn=>?_,fun n hn m hm x y hx hy=>?_⟩
 ·rw[ha] at hx;split at hx
  ·rename_i Bj;cases hx;have:=f.cap h s e h0;rw[Bj.2];exact⟨by rw[hh];exact this.live,hr⟩
  ·exact f.cap h' s' x hx
 ·rw[ha] at hx;split at hx
  ·rename_i Bj;rw[Bj.1,Bj.2];exact f.has h s e h0
  ·exact f.has h' s' x hx
 ·unfold Q0F;rw[ha];split
  ·exact⟨e2,rfl⟩
  ·exact f.is n hn
 ·unfold Q0F at hx hy;rw[ha] at hx hy;split at hx
  ·rename_i c1;cases hx;split at hy
   ·rename_i c2
    -- a node of its own parent: the same spot
    exfalso;obtain⟨n1,n2⟩:=spot n hn c1.1 c1.2;obtain⟨m1,m2⟩:=spot m (Q0d hm).1 c2.1 c2.2;have i1:=Q4B ok hn (Q0d hm).1 (n1.trans m1.symm) (n2.trans m2.symm);have:=ok.rise n hn;have:=(Q0d hm).2;subst i1;omega
   ·obtain⟨q1,q2⟩:=f.up n hn m hm e y (by unfold Q0F;rw[c1.1,c1.2];exact h0) (by unfold Q0F;exact hy);refine⟨hh.trans q1,?_⟩;rw[<- BP,Nat.and_assoc,q2]
  ·split at hy
   ·rename_i c2;cases hy;obtain⟨q1,q2⟩:=f.up n hn m hm x e (by unfold Q0F;exact hx) (by unfold Q0F;rw[c2.1,c2.2];exact h0);obtain⟨m1,m2⟩:=spot m (Q0d hm).1 c2.1 c2.2;exact⟨q1.trans hh.symm,Cw n hn m hm m1 m2 x (by unfold Q0F;exact hx)⟩
   ·exact f.up n hn m hm x y (by unfold Q0F;exact hx) (by unfold Q0F;exact hy)
theorem FPI.lift(f:FPI l tb N)(ok:NOk N next)(hp:pget l 1 h=some p)(hk:p.kind=2)(hs:s<256){t':TB}(ht:∀x,t'.en x=if x=s then none else(tb (h%256)).en x){e:En Nd}(he:find N e.id=some e)(h1:e.q.sp=(h:Int))(h2:e.q.sl=(s:Int)):FPI l (updT tb (h%256) t') (Q0E N e e.q.ks.length):=by
 have ha:=Q3d hp hk hs ht;have BO:=(Q0d he).1;have Bh:e.q.ks.take e.q.ks.length=e.q.ks:=J5B;have KJ:∀c,(Q0s e e.q.ks.length c).sp=c.q.sp/\(Q0s e e.q.ks.length c).sl=c.q.sl:=fun c=>⟨rfl,rfl⟩
 have A8:∀{x},x∈Q0E N e e.q.ks.length->∃c∈N,c.id≠e.id/\x={c with q:=Q0s e e.q.ks.length c}:=fun {x} hx=>by
  obtain⟨c,hc,rfl⟩:=Q1r hx;obtain⟨g1,g2⟩:=(Q4A ok.ids e.id c).1 hc;exact⟨c,g1,g2,rfl⟩
 have Ac:∀c∈N,c.id≠e.id->¬(c.q.sp.toNat=h/\c.q.sl.toNat=s):=fun c hc hid ⟨g1,g2⟩=>by
  have:=ok.sm c hc;have:=Q4B ok hc BO (by omega) (by omega);subst this;exact hid rfl
 have Ca:∀c∈N,c.id≠e.id->Q0F l (updT tb (h%256) t') {c with q:=Q0s e e.q.ks.length c}=Q0F l tb c:=fun c hc hid=>by
  unfold Q0F;show Q0g l _ c.q.sp.toNat c.q.sl.toNat=_;rw[ha,if_neg (Ac c hc hid)]
 refine⟨fun h' s' x hx=>?_,fun h' s' x hx=>?_,fun n hn=>?_,fun n hn m hm x y hx hy=>?_⟩
 ·rw[ha] at hx;split at hx
  ·cases hx
  ·exact f.cap h' s' x hx
 ·rw[ha] at hx;split at hx
  ·cases hx
  ·rename_i Bj;obtain⟨n,hn,g1,g2⟩:=f.has h' s' x hx;have hid:n.id≠e.id:=fun e1=>by
    rw[e1.symm,Q0r ok.ids hn] at he;cases he;exact Bj ⟨by omega,by omega⟩
   exact⟨_,J1K.2 ⟨n,(Q4A ok.ids e.id n).2 ⟨hn,hid⟩,rfl⟩,g1,g2⟩
 ·obtain⟨c,hc,hid,rfl⟩:=A8 hn;rw[Ca c hc hid];exact f.is c hc
 ·obtain⟨c,hc,hid,rfl⟩:=A8 hn;rw[Ca c hc hid] at hx;have B8:find (Q0E N e e.q.ks.length) (Q0s e e.q.ks.length c).par=some m:=hm;unfold Q0E at B8;rw[Q1l,ok.rem_find] at B8;split at B8
  ·cases B8
  ·rename_i Gy;obtain⟨m0,Fb,rfl⟩:=J5q.1 B8;have Qd:=(Q0d Fb).1;have Q3:m0.id≠e.id:=by rw[(Q0d Fb).2];exact Gy
   rw[Ca m0 Qd Q3] at hy;have Bu:(Q0s e e.q.ks.length c).par=if c.id∈e.q.ks then e.q.par else c.q.par:=by unfold Q0s;rw[Bh]
   rw[Bu] at Fb;by_cases FR:c.id∈e.q.ks
   ·rw[if_pos FR] at Fb;obtain⟨d,hd,E4⟩:=ok.kids e BO c.id FR;rw[Q0r ok.ids hc] at hd;cases hd;obtain⟨z,hz⟩:=f.is e BO;obtain⟨a1,a2⟩:=f.up c hc e (by rw[E4];exact he) x z hx hz;obtain⟨b1,b2⟩:=f.up e BO m0 Fb z y hz hy;refine⟨a1.trans b1,?_⟩;rw[<- a2,Nat.and_assoc,b2]
   ·rw[if_neg FR] at Fb;exact f.up c hc m0 Fb x y hx hy
end
def Ent.c(e:Ent):Nat×Nat:=(e.h,e.r)
structure AV where
 en:Nat->Nat->Option (Nat×Nat)
 N:List (En Nd)
def avOf(l:List Pl)(tb:Nat->TB)(N:List (En Nd)):AV:=⟨fun h s=>(Q0g l tb h s).map Ent.c,N⟩
def setA(en:Nat->Nat->Option (Nat×Nat))(h s:Nat)(o:Option (Nat×Nat)):Nat->Nat->Option (Nat×Nat):=fun h' s'=>if h'=h/\s'=s then o else en h' s'
theorem Z4U(en:Nat->Nat->Option (Nat×Nat))(h s:Nat)(o:Option (Nat×Nat)):setA en h s o h s=o:=by unfold setA;rw[if_pos ⟨rfl,rfl⟩]
theorem Q9P{en:Nat->Nat->Option (Nat×Nat)}{h s h' s':Nat}{o:Option (Nat×Nat)}(Ac:¬(h'=h/\s'=s)):setA en h s o h' s'=en h' s':=by unfold setA;rw[if_neg Ac]
def less(r m:Nat):Nat:=r-(r&&&m)
theorem Q5g:∀r,r<16->∀m,m<16->less r m&&&m=0/\less r m&&&r=less r m/\less r m<=r:=by decide
theorem Q7H:∀r,r<16->less r 15=0:=by decide
theorem Z7z:∀x,x<16->∀r,r<16->∀m,m<16->x&&&r=x->x&&&m=0->x&&&less r m=x:=by decide
def Q1Q(m:Nat)(a:AV)(id:Int):AV×Bool:=match find a.N id with
 | none=>(a,false)
 | some n=>match a.en n.q.sp.toNat n.q.sl.toNat with
  | none=>(a,false)
  | some c=>if less c.2 m=0 then(⟨setA a.en n.q.sp.toNat n.q.sl.toNat none,Q0E a.N n n.q.ks.length⟩,true) else(⟨setA a.en n.q.sp.toNat n.q.sl.toNat (some (c.1,less c.2 m)),a.N⟩,false)
def Q1C(m:Nat):AV->List Int->AV×Nat
 | a,[]=>(a,0)
 | a,id::r=>((Q1C m (Q1Q m a id).1 r).1,(if (Q1Q m a id).2=true then 1 else 0)+(Q1C m (Q1Q m a id).1 r).2)
theorem weakA_snoc(m:Nat):∀(l:List Int) (a:AV) (id:Int),Q1C m a (l++[id])=((Q1Q m (Q1C m a l).1 id).1,(Q1C m a l).2+if (Q1Q m (Q1C m a l).1 id).2=true then 1 else 0)
 | [],a,id=>by
  show((Q1Q m a id).1,(if (Q1Q m a id).2=true then 1 else 0)+0)=((Q1Q m a id).1,0+if (Q1Q m a id).2=true then 1 else 0);rw[J4b,J1N]
 | x::r,a,id=>by
  rw[J3I];unfold Q1C;rw[weakA_snoc m r (Q1Q m a x).1 id];simp only[J2X]
theorem Z0U(m:Nat):∀(l:List Int) (a:AV),(Q1C m a l).2<=l.length
 | [],a=>J1E _
 | x::r,a=>by
  have:=Z0U m r (Q1Q m a x).1;show(if (Q1Q m a x).2=true then 1 else 0)+(Q1C m (Q1Q m a x).1 r).2<=r.length+1;split <;> omega
def Q3e(m:Nat)(a:AV)(A:List Int)(id:Int):Prop:=∀e,find a.N id=some e->∀c∈e.q.ks,c∈A∨∀n,find a.N c=some n->∀x,a.en n.q.sp.toNat n.q.sl.toNat=some x->x.2&&&m=0
def WeakOk(m:Nat)(a:AV)(l:List Int):Prop:=m=15∨∀A id B,l=A++id::B->Q3e m a A id
theorem Q6S{N:List (En Nd)}{next:Int}(ok:NOk N next)(e:En Nd)(id:Int):find (Q0E N e e.q.ks.length) id=if id=e.id then none else(find N id).map fun c=>{c with q:=Q0s e e.q.ks.length c}:=by
 unfold Q0E;rw[Q1l,ok.rem_find];split <;> rfl
theorem Q7I(e c:En Nd):Q0s e e.q.ks.length c={c.q with par:=if c.id∈e.q.ks then e.q.par else c.q.par,ks:=if c.id=e.q.par then c.q.ks.filter (fun k=>decide (k≠e.id))++e.q.ks else c.q.ks}:=by
 unfold Q0s;rw[J5B]
theorem Z4V{N:List (En Nd)}{next:Int}(ok:NOk N next){a b:En Nd}(ha:a∈N)(hb:b∈N)(Ac:a.id≠b.id):¬(a.q.sp.toNat=b.q.sp.toNat/\a.q.sl.toNat=b.q.sl.toNat):=fun h=>by
 have h1:=ok.sm a ha;have h2:=ok.sm b hb;exact Ac (by rw[Q4B ok ha hb (by omega) (by omega)])
theorem WeakOk.step{m:Nat}{a:AV}{next:Int}(ok:NOk a.N next)(hr:∀h s x,a.en h s=some x->x.2<16)(hm:m<16){id:Int}{l:List Int}(h:WeakOk m a (id::l)):WeakOk m (Q1Q m a id).1 l:=by
 rcases h with h|h
 ·exact .inl h
 refine .inr fun A x B hl=>?_
 have h0:=h [] id l rfl;have h1:=h (id::A) x B (by rw[hl];rfl);unfold Q1Q;cases hf:find a.N id with
 | none =>
  simp only;intro e he c hc;rcases h1 e he c hc with hx|hx
  ·rcases J1J.1 hx with rfl|hx
   ·exact .inr fun n hn=>by rw[hf] at hn;cases hn
   ·exact .inl hx
  ·exact .inr hx
 | some d =>
  simp only;obtain⟨hd,Io⟩:=Q0d hf;cases CN:a.en d.q.sp.toNat d.q.sl.toNat with
  | none =>
   simp only;intro e he c hc;rcases h1 e he c hc with hx|hx
   ·rcases J1J.1 hx with rfl|hx
    ·exact .inr fun n hn=>by rw[hf] at hn;cases hn;intro y hy;rw[CN] at hy;cases hy
    ·exact .inl hx
   ·exact .inr hx
  | some y =>
   simp only;have hy:=hr _ _ _ CN;split
   ·-- lifted
    have Tn:find a.N d.id=some d:=by rw[Io];exact hf
    have old:∀c n',find (Q0E a.N d d.q.ks.length) c=some n'->∃n,find a.N c=some n/\n∈a.N/\n.id≠d.id/\n'.q.sp=n.q.sp/\n'.q.sl=n.q.sl:=fun c n' hn'=>by
     rw[Q6S ok] at hn';split at hn'
     ·cases hn'
     ·rename_i ET;cases hn:find a.N c with
      | none=>rw[hn] at hn';cases hn'
      | some n =>
       rw[hn] at hn';simp only[J3l,J1S] at hn';subst hn';obtain⟨n1,n2⟩:=Q0d hn;exact⟨n,rfl,n1,by rw[n2];exact ET,by rw[Q7I],by rw[Q7I]⟩
    have good:∀c,(∀n,find a.N c=some n->∀z,a.en n.q.sp.toNat n.q.sl.toNat=some z->z.2&&&m=0)->∀n',find (Q0E a.N d d.q.ks.length) c=some n'->∀z,setA a.en d.q.sp.toNat d.q.sl.toNat none n'.q.sp.toNat n'.q.sl.toNat=some z->z.2&&&m=0:=fun c hc n' hn' z hz=>by
     obtain⟨n,n1,n2,n3,n4,n5⟩:=old c n' hn';rw[n4,n5,Q9P (Z4V ok n2 hd n3)] at hz;exact hc n n1 z hz
    intro e' AH c hc;have DX:find (Q0E a.N d d.q.ks.length) x=some e':=AH;rw[Q6S ok] at DX;split at DX
    ·cases DX
    ·rename_i SS;cases Kg:find a.N x with
     | none=>rw[Kg] at DX;cases DX
     | some e =>
      rw[Kg] at DX;simp only[J3l,J1S] at DX;subst DX;have Bj:c∈(Q0s d d.q.ks.length e).ks:=hc;rw[Q7I] at Bj;simp only at Bj;obtain⟨e1,e2⟩:=Q0d Kg;have fromOld:c∈e.q.ks->c≠d.id->c∈A∨∀n',find (Q0E a.N d d.q.ks.length) c=some n'->∀z,setA a.en d.q.sp.toNat d.q.sl.toNat none n'.q.sp.toNat n'.q.sl.toNat=some z->z.2&&&m=0:=fun k1 k2=>by
       rcases h1 e Kg c k1 with hx|hx
       ·rcases J1J.1 hx with h|hx
        ·exact absurd (h.trans Io.symm) k2
        ·exact .inl hx
       ·exact .inr (good c hx)
      split at Bj
      ·rcases J2m.1 Bj with Bj|Bj
       ·obtain⟨k1,k2⟩:=J1X.1 Bj;exact fromOld k1 (by simpa using k2)
       ·rcases h0 d hf c Bj with hx|hx
        ·cases hx
        ·exact .inr (good c hx)
      ·rename_i Bu;refine fromOld Bj fun k=>?_
       obtain⟨k1,k2,k3⟩:=ok.kids e e1 c Bj;rw[k,Tn] at k2;cases k2;exact Bu k3.symm
   ·-- weakened
    intro e he c hc;have DX:find a.N x=some e:=he;have Bz:∀n,n∈a.N->n.id≠d.id->setA a.en d.q.sp.toNat d.q.sl.toNat (some (y.1,less y.2 m)) n.q.sp.toNat n.q.sl.toNat=a.en n.q.sp.toNat n.q.sl.toNat:=fun n n1 n2=>Q9P (Z4V ok n1 hd n2)
    by_cases ET:c=id
    ·refine .inr fun n hn z hz=>?_
     have Ge:find a.N c=some n:=hn;rw[ET,hf] at Ge;cases Ge;have Bd:setA a.en d.q.sp.toNat d.q.sl.toNat (some (y.1,less y.2 m)) d.q.sp.toNat d.q.sl.toNat=some z:=hz;rw[Z4U] at Bd;cases Bd;exact(Q5g y.2 hy m hm).1
    ·rcases h1 e DX c hc with hx|hx
     ·rcases J1J.1 hx with h|hx
      ·exact absurd h ET
      ·exact .inl hx
     ·refine .inr fun n hn z hz=>?_
      have Ge:find a.N c=some n:=hn;obtain⟨n1,n2⟩:=Q0d Ge;have Bd:setA a.en d.q.sp.toNat d.q.sl.toNat (some (y.1,less y.2 m)) n.q.sp.toNat n.q.sl.toNat=some z:=hz;rw[Bz n n1 (by rw[n2,Io];exact ET)] at Bd;exact hx n Ge z Bd
theorem Q8F{m:Nat}{a:AV}{next:Int}(ok:NOk a.N next)(id:Int)(self:Bool):WeakOk m a (Q0Q (kdF a.N) (rkF next) id++if self=true then [id] else []):=by
 refine .inr fun A x B hl e he c hc=>.inl ?_
 have t:=ok.tree;have hk:c∈kdF a.N x:=by unfold kdF;rw[he];exact hc
 have Kp:c≠x:=fun h=>by
  have:=t.dn x c hk;rw[h] at this;omega
 have BU:Dn (kdF a.N) id x->c∈Q0Q (kdF a.N) (rkF next) id:=fun hd=>by
  refine(Q6Q t).2 ⟨hd.trans (.down x c c hk (.here c)),fun h=>?_⟩;have h1:=(Dn.rank t hd).1;have h2:=t.dn x c hk;rw[h] at h2;omega
 have hp:=Z2h t id;rcases List.append_eq_append_iff.1 hl with ⟨C,e1,e2⟩|⟨C,e1,e2⟩
 ·-- x is the last
  cases C with
  | nil =>
   rw[J3H] at e2;rw[J3D] at e1;cases self with
   | false=>rw[if_neg (by decide)] at e2;cases e2
   | true =>
    rw[if_pos rfl] at e2
    injection e2 with e2 e3
    subst e2;rw[e1];exact BU (.here _)
  | cons y C =>
   cases self with
   | false=>rw[if_neg (by decide)] at e2;simp at e2
   | true=>rw[if_pos rfl] at e2;simp at e2
 ·-- x is below
  cases C with
  | nil =>
   rw[J3D] at e1;rw[J3H] at e2;cases self with
   | false=>rw[if_neg (by decide)] at e2;cases e2
   | true =>
    rw[if_pos rfl] at e2
    injection e2 with e2 e3
    subst e2;rw[<- e1];exact BU (.here _)
  | cons y C =>
   rw[J3I] at e2
   injection e2 with e2 e3
   subst e2;have hx:x∈Q0Q (kdF a.N) (rkF next) id:=by rw[e1];simp
   have LD:=BU ((Q6Q t).1 hx).1;rw[e1] at LD;rcases J2m.1 LD with h|h
   ·exact h
   ·rcases J1J.1 h with h|h
    ·exact absurd h Kp
    ·rw[e1] at hp;have:=((J2l.1 hp).2.1)
     have:=(J2d.1 this).1 c h;exact absurd (.down x c c hk (.here c)) this.2
theorem Q1L{S:CO}{fr:List Nat}{N K:Nat}(ok:S.Ok fr N K){i j:Nat}{p r:Pl}(hi:S.l[i]?=some p)(hj:S.l[j]?=some r)(DE:i≠j)(hp:p.st=1)(hr:r.st=1):p.at_+costK p.kind<=r.at_∨r.at_+costK r.kind<=p.at_:=by
 have m:=ok.inv.mem;have LC:p.is=true:=Pl.is_iff.2 (.inl hp);have KU:r.is=true:=Pl.is_iff.2 (.inl hr);have GF:=J3L hi;have KC:=J3L hj;by_cases EW:p.kind=8
 ·obtain⟨g,hg,eg⟩:=m.frame GF LC EW;by_cases FH:r.kind=8
  ·obtain⟨g',Fu,eg'⟩:=m.frame KC KU FH;have AO:(Q1P S.l 8).Nodup:=by
    refine m.frs.nodup_iff.2 ?_;unfold List.Nodup;rw[J2h];exact(Q2H m.pool).1.imp fun h e=>h (by omega)
   have:g≠g':=fun e=>DE (Z4d (atsF 8) AO hi hj (b:=p.at_) (by rw[<- EW];exact Q1v LC) (by rw[<- FH,Q1v KU,eg',<- e,eg]))
   rw[EW,FH,costK_8];omega
  ·have:=Q1E m.pool hg (m.used KC KU FH);rw[EW,costK_8,Q1j FH];omega
 ·have hu:=m.used GF LC EW;by_cases FH:r.kind=8
  ·obtain⟨g',Fu,eg'⟩:=m.frame KC KU FH;have:=Q1E m.pool Fu hu;rw[FH,costK_8,Q1j EW];omega
  ·have hv:=m.used KC KU FH;rw[Q1j EW,Q1j FH];refine Q3a m.pool hu hv fun e=>?_
   obtain⟨k1,k5⟩:=(m.kind p GF LC).resolve_left EW;exact DE (Z4d (atsF p.kind) (m.at_nd p.kind k1 k5) hi hj (b:=p.at_) (Q1v LC) (by rw[e.1,Q1v KU,e.2]))
theorem bytes8_len(x:Nat):(Q0c x).length=8:=rfl
theorem Q1b(x y:Nat):(Q0c x++Q0c y).length=16:=rfl
theorem Q2M(x:Nat):∀y∈Q0c x,y<256:=by
 intro y hy;unfold Q0c at hy;simp only[J1J,J1Z,or_false] at hy;omega
theorem Q8G{m bs:List Nat}{a:Nat}(h:∀b∈m,b<256)(hb:∀b∈bs,b<256):∀b∈put_ m a bs,b<256:=by
 intro y hy;unfold put_ at hy;simp only[J2m] at hy;rcases hy with (hy|hy)|hy
 ·exact h y (J4T hy)
 ·exact hb y hy
 ·exact h y (J4a hy)
def Q2N(m m':List Nat)(a n:Nat):Prop:=∀b k,b+k<=a∨a+n<=b->Kept m m' b k
theorem Q2r{m bs:List Nat}{a:Nat}(hl:a+bs.length<=m.length):Q2N m (put_ m a bs) a bs.length:=fun _ _ h=>Q1q hl h
theorem Z2l{m:List Nat}{a x:Nat}(hl:a+8<=m.length)(hx:x<18446744073709551616):Q0m (put_ m a (Q0c x)) a=x:=by
 unfold Q0m;have:((put_ m a (Q0c x)).drop a).take 8=Q0c x:=by
  apply J3f
  intro i;rw[J3A];split
  ·rw[J3Z];exact Q6N (by rw[bytes8_len];exact hl) (by rw[bytes8_len];assumption)
  ·rw[J3m (by rw[bytes8_len];omega)]
 rw[this];exact Q2b x hx
theorem Z2m{m:List Nat}{a x y:Nat}(hl:a+16<=m.length)(hx:x<18446744073709551616)(hy:y<18446744073709551616):Q0m (put_ m a (Q0c x++Q0c y)) a=x/\Q0m (put_ m a (Q0c x++Q0c y)) (a+8)=y:=by
 have h1:((put_ m a (Q0c x++Q0c y)).drop a).take 8=Q0c x:=by
  apply J3f
  intro i;rw[J3A];split
  ·rename_i hi;rw[J3Z,Q6N (by rw[Q1b];exact hl) (by rw[Q1b];omega),J4K (by rw[bytes8_len];exact hi)]
  ·rw[J3m (by rw[bytes8_len];omega)]
 have h2:((put_ m a (Q0c x++Q0c y)).drop (a+8)).take 8=Q0c y:=by
  apply J3f
  intro i;rw[J3A];split
  ·rename_i hi;rw[J3Z,J2X,Q6N (by rw[Q1b];exact hl) (by rw[Q1b];omega),J4L (by rw[bytes8_len];omega),bytes8_len,show 8+i-8=i by omega]
  ·rw[J3m (by rw[bytes8_len];omega)]
 unfold Q0m;rw[h1,h2];exact⟨Q2b x hx,Q2b y hy⟩
section
variable {S:CO} {fr:List Nat} {N K:Nat} {tb:Nat->TB} {own:Int} {xl xn:List Nat}
theorem Q2O(ok:S.Ok fr N K){j a b n:Nat}{m:List Nat}(ha:a∈S.P.usedOf j)(h1:a<=b)(h2:b+n<=a+Q0e j)(hk:Q2N S.P.a.mem m b n){j' a':Nat}(FP:a'∈S.P.usedOf j')(Ac:¬(j=j'/\a=a')):Kept S.P.a.mem m a' (Q0e j'):=by
 have:=Q3a ok.inv.mem.pool ha FP Ac;exact hk _ _ (by omega)
theorem TPX.leaf_ne(ok:S.Ok fr N K)(t:TPX S tb own xl xn){i j k k':Nat}(hi:i<256)(hj:j<256)(hk:k<16)(BE:k'<16)(h:(tb i).lf k≠0)(h':(tb j).lf k'≠0)(Ac:¬(i=j/\k=k')):(tb i).lf k≠(tb j).lf k':=by
 have AO:(xl++Q2K tb).Nodup:=t.lvs.nodup_iff.2 ((Q1I ok.inv.mem.pool 7).imp fun h=>Nat.ne_of_lt h);have AO:=(J2q.1 AO).2.1;unfold Q2K List.Nodup at AO;rw[J2e] at AO;obtain⟨n1,n2⟩:=AO;by_cases e:i=j
 ·subst e;have Dl:k≠k':=fun e=>Ac ⟨rfl,e⟩
  have:=n1 i (J1U.2 hi);unfold TB.lvs at this;rw[J1W] at this;rcases J4g k k' with Aa|MN
  ·have:=J4z.1 this k k' (by simpa using hk) (by simpa using BE) Aa;simp only[J5C] at this;exact this _ (by rw[if_neg h]) _ (by rw[if_neg h'])
  ·have:=J4z.1 this k' k (by simpa using BE) (by simpa using hk) (by omega);simp only[J5C] at this;exact(this _ (by rw[if_neg h']) _ (by rw[if_neg h])).symm
 ·rcases J4g i j with Aa|MN
  ·have:=J4z.1 n2 i j (by simpa using hi) (by simpa using hj) Aa;simp only[J5C] at this;exact this _ (mem_lvs.2 ⟨k,hk,rfl,h⟩) _ (mem_lvs.2 ⟨k',BE,rfl,h'⟩)
  ·have:=J4z.1 n2 j i (by simpa using hj) (by simpa using hi) (by omega);simp only[J5C] at this;exact(this _ (mem_lvs.2 ⟨k',BE,rfl,h'⟩) _ (mem_lvs.2 ⟨k,hk,rfl,h⟩)).symm
theorem TPX.entry(ok:S.Ok fr N K)(t:TPX S tb own xl xn){i s:Nat}{p:Pl}(hi:S.l[i]?=some p)(h1:p.st=1)(h2:p.kind=2)(Al:(p.fac:Int)=own)(hs:s<256)(hl:(tb i).lf (s/16)≠0){o:Option Ent}{xn':List Nat}{m:List Nat}(Ab:m.length=S.P.a.mem.length)(hb:∀b∈m,b<256)
  (hk:Q2N S.P.a.mem m ((tb i).lf (s/16)+16*(s%16)) 16) (ha:Q0m m ((tb i).lf (s/16)+16*(s%16))=Q0t o) (Ae:Q0m m ((tb i).lf (s/16)+16*(s%16)+8)=Q0T o) (hn:(xn'++((tb i).setE s o).nds).Perm (xn++(tb i).nds)) :
  (S.setP (S.P.setA m)).Ok fr N K/\TPX (S.setP (S.P.setA m)) (updT tb i ((tb i).setE s o)) own xl xn':=by
 have Ap:=Q1w ok.inv.len hi;have hL:=t.leaf Ap (by omega:s/16<16) hl;have CJ:(tb i).lf (s/16)<=(tb i).lf (s/16)+16*(s%16)/\(tb i).lf (s/16)+16*(s%16)+16<=(tb i).lf (s/16)+Q0e 7:=by rw[Q2q];omega
 have Bg:∀{j' a':Nat},a'∈S.P.usedOf j'->¬(7=j'/\(tb i).lf (s/16)=a')->Kept S.P.a.mem m a' (Q0e j'):=fun FP Ac=>Q2O ok hL CJ.1 CJ.2 hk FP Ac
 have AJ:((tb i).setE s o).lvs=(tb i).lvs:=rfl;obtain⟨A,B,e1,e2⟩:=Q3Y TB.lvs tb Ap ((tb i).setE s o);obtain⟨A',B',e3,e4⟩:=Q3Y TB.nds tb Ap ((tb i).setE s o);refine⟨ok.stored Ab hb (fun b Aj=>?_),fun j q hj q1 q2=>?_,fun j q hj hq=>?_,?_,?_,fun id=>?_⟩
 ·have:=Bg Aj (by omega);exact(this.sub (b:=b) (k:=8) (J1E _) (by show b+8<=b+64;omega)).word
 ·show(updT tb i _ j).In m q.at_;have BN:S.l[j]?=some q:=hj;have Dw:=Q1w ok.inv.len BN;by_cases e:j=i
  ·subst e;rw[updT_same];have Nf:q=p:=by rw[hi] at BN;exact(J2u BN).symm
   subst Nf;refine(t.tin j q hi h1 h2).set hs hl hk ha Ae ?_ (fun k C6 hkne B4=>?_)
   ·have:=Q3a ok.inv.mem.pool (Q1k ok hi h1 h2) hL (by omega);exact this
   ·have Ac:=t.leaf_ne ok Ap Ap C6 (by omega:s/16<16) B4 hl (fun e=>hkne e.2);exact Q3a ok.inv.mem.pool (t.leaf Ap C6 B4) hL (fun e=>Ac e.2)
  ·rw[Q0P e];refine(t.tin j q BN q1 q2).kept (Bg (Q1k ok BN q1 q2) (by omega)) fun k C6 B4=>?_
   exact Bg (t.leaf Dw C6 B4) (fun e'=>t.leaf_ne ok Ap Dw (by omega:s/16<16) C6 hl B4 (fun e''=>e e''.1.symm) e'.2)
 ·have BN:S.l[j]?=some q:=hj;have e:j≠i:=fun e=>by
   subst e;rw[hi] at BN;cases BN;exact hq ⟨h1,h2⟩
  rw[Q0P e];exact t.nil j q BN hq
 ·show(xl++Q2K _).Perm (S.P.usedOf 7);have:Q2K (updT tb i ((tb i).setE s o))=Q2K tb:=by
   unfold Q2K;rw[e1,e2,AJ]
  rw[this];exact t.lvs
 ·show(xn'++Q3D _).Perm (S.P.usedOf 6);refine List.Perm.trans ?_ t.nds;unfold Q3D;rw[e3,e4];have r:∀(X Y:List Nat),(X++(A'++Y++B')).Perm (X++Y++(A'++B')):=fun X Y=>by
   rw[J2x A' Y B',J2x X Y];refine J4o X ?_;rw[<- J2x,<- J2x];exact J4l.append_right B'
  exact(r _ _).trans ((hn.append_right _).trans (r _ _).symm)
 ·show S.xc id=xcOf S.l _ id+_;rw[Q8C Ap hi,t.xc];have hc:((tb i).setE s o).cost=(tb i).cost+48*(((tb i).setE s o).nds.length:Int)-48*((tb i).nds.length:Int):=by
   unfold TB.cost;rw[AJ];omega
  have Gn:=hn.length_eq;rw[J2j,J2j] at Gn;rw[hc];by_cases hid:id=own
  ·subst hid;rw[if_pos rfl,if_pos rfl,if_pos Al];omega
  ·rw[if_neg hid,if_neg hid,if_neg (by omega)];omega
theorem TPX.rootw(ok:S.Ok fr N K)(t:TPX S tb own xl xn){i k:Nat}{p:Pl}(hi:S.l[i]?=some p)(h1:p.st=1)(h2:p.kind=2)(Al:(p.fac:Int)=own)(C6:k<16){L:Nat}{xl':List Nat}{m:List Nat}(Ab:m.length=S.P.a.mem.length)(hb:∀b∈m,b<256)
  (hk:Q2N S.P.a.mem m (p.at_+8*k) 8) (BU:((tb i).setL k L).In m p.at_) (hn:(xl'++((tb i).setL k L).lvs).Perm (xl++(tb i).lvs)) :
  (S.setP (S.P.setA m)).Ok fr N K/\TPX (S.setP (S.P.setA m)) (updT tb i ((tb i).setL k L)) own xl' xn:=by
 have Ap:=Q1w ok.inv.len hi;have hT:=Q1k ok hi h1 h2;have CJ:p.at_<=p.at_+8*k/\p.at_+8*k+8<=p.at_+Q0e 2:=by
  have:Q0e 2=128:=rfl;omega
 have Bg:∀{j' a':Nat},a'∈S.P.usedOf j'->¬(2=j'/\p.at_=a')->Kept S.P.a.mem m a' (Q0e j'):=fun FP Ac=>Q2O ok hT CJ.1 CJ.2 hk FP Ac
 have AJ:((tb i).setL k L).nds=(tb i).nds:=rfl;obtain⟨A,B,e1,e2⟩:=Q3Y TB.lvs tb Ap ((tb i).setL k L);obtain⟨A',B',e3,e4⟩:=Q3Y TB.nds tb Ap ((tb i).setL k L);refine⟨ok.stored Ab hb (fun b Aj=>?_),fun j q hj q1 q2=>?_,fun j q hj hq=>?_,?_,?_,fun id=>?_⟩
 ·have:=Bg Aj (by omega);exact(this.sub (b:=b) (k:=8) (J1E _) (by show b+8<=b+64;omega)).word
 ·show(updT tb i _ j).In m q.at_;have BN:S.l[j]?=some q:=hj;have Dw:=Q1w ok.inv.len BN;by_cases e:j=i
  ·subst e;rw[updT_same];have Nf:q=p:=by rw[hi] at BN;exact(J2u BN).symm
   subst Nf;exact BU
  ·rw[Q0P e];refine(t.tin j q BN q1 q2).kept (Bg (Q1k ok BN q1 q2) (fun e'=>?_)) fun k' hk16' B4=>Bg (t.leaf Dw hk16' B4) (by omega)
   have:=Q1L ok hi BN (fun e''=>e e''.symm) h1 q1;rw[h2,q2,Z4N] at this;omega
 ·have BN:S.l[j]?=some q:=hj;have e:j≠i:=fun e=>by
   subst e;rw[hi] at BN;cases BN;exact hq ⟨h1,h2⟩
  rw[Q0P e];exact t.nil j q BN hq
 ·show(xl'++Q2K _).Perm (S.P.usedOf 7);refine List.Perm.trans ?_ t.lvs;unfold Q2K;rw[e1,e2];have r:∀(X Y:List Nat),(X++(A++Y++B)).Perm (X++Y++(A++B)):=fun X Y=>by
   rw[J2x A Y B,J2x X Y];refine J4o X ?_;rw[<- J2x,<- J2x];exact J4l.append_right B
  exact(r _ _).trans ((hn.append_right _).trans (r _ _).symm)
 ·show(xn++Q3D _).Perm (S.P.usedOf 6);have:Q3D (updT tb i ((tb i).setL k L))=Q3D tb:=by
   unfold Q3D;rw[e3,e4,AJ]
  rw[this];exact t.nds
 ·show S.xc id=xcOf S.l _ id+_;rw[Q8C Ap hi,t.xc];have hc:((tb i).setL k L).cost=(tb i).cost+256*(((tb i).setL k L).lvs.length:Int)-256*((tb i).lvs.length:Int):=by
   unfold TB.cost;rw[AJ];omega
  have Gn:=hn.length_eq;rw[J2j,J2j] at Gn;rw[hc];by_cases hid:id=own
  ·subst hid;rw[if_pos rfl,if_pos rfl,if_pos Al];omega
  ·rw[if_neg hid,if_neg hid,if_neg (by omega)];omega
end
structure Alt(S S':CO)(own:Int):Prop where
 c:S'.c=S.c
 t:S'.t=S.t
 l:S'.l=S.l
 g:S'.g=S.g
 per:S'.period=S.period
 now:S'.now=S.now
 rv:S'.rv=S.rv
 ts:S'.ts=S.ts
 same:SameP S.P S'.P
 next:S'.P.q.next=S.P.q.next
 acc:∀id e,find S.P.q.E id=some e->∃e',find S'.P.q.E id=some e'/\e'.q={e.q with charged:=e'.q.charged}/\(id≠own->e'=e)
 ids:S'.P.q.E.map En.id=S.P.q.E.map En.id
 kept:∀r∈S.l,r.is=true->r.kind≠2->Kept S.P.a.mem S'.P.a.mem r.at_ (costK r.kind)
theorem Alt.refl(S:CO)(own:Int):Alt S S own:=⟨rfl,rfl,rfl,rfl,rfl,rfl,rfl,rfl,SameP.refl _,rfl,fun _ e h=>⟨e,h,rfl,fun _=>rfl⟩,rfl,fun _ _ _ _=>Kept.refl _ _ _⟩
theorem Alt.trans{S S1 S2:CO}{own:Int}(h:Alt S S1 own)(k:Alt S1 S2 own):Alt S S2 own:=by
 refine⟨k.c.trans h.c,k.t.trans h.t,k.l.trans h.l,k.g.trans h.g,k.per.trans h.per,k.now.trans h.now,k.rv.trans h.rv,k.ts.trans h.ts,h.same.trans k.same,k.next.trans h.next,fun id e he=>?_,k.ids.trans h.ids,fun r hr hi hk=>?_⟩
 ·obtain⟨e1,a1,a2,a3⟩:=h.acc id e he;obtain⟨e2,b1,b2,b3⟩:=k.acc id e1 a1;refine⟨e2,b1,?_,fun Ac=>(b3 Ac).trans (a3 Ac)⟩;rw[b2,a2]
 ·exact(h.kept r hr hi hk).trans (k.kept r (by rw[h.l];exact hr) hi hk)
theorem Alt.got{S:CO}{fr:List Nat}{N K:Nat}(ok:S.Ok fr N K){own:Int}{n a:Nat}{P':PL}(g:GetOk S.P fr own n a P'):Alt S (S.paid P' own ((Q0e n:Nat):Int)) own:=by
 have gm:=g.gotM ok.inv.mem.pool;obtain⟨e,q1,q2,q3⟩:=g.q;refine⟨rfl,rfl,rfl,rfl,rfl,rfl,rfl,rfl,gm.same,by show P'.q.next=_;rw[q3],fun id x hx=>?_,?_,fun r hr hi hk=>?_⟩
 ·show ∃e',find P'.q.E id=some e'/\_;rw[q3];by_cases hid:id=own
  ·subst hid;rw[q1] at hx;cases hx;exact⟨_,Q0n q1 _,rfl,fun h=>absurd rfl h⟩
  ·exact⟨x,by rw[Q0K hid];exact hx,rfl,fun _=>rfl⟩
 ·show P'.q.E.map En.id=_;rw[q3];exact Q2d _ _ _
 ·exact gm.keptL ok.inv.mem r hr hi
theorem Alt.put{S:CO}{fr:List Nat}{N K:Nat}(ok:S.Ok fr N K){own:Int}{n a:Nat}{P':PL}(g:PutOk S.P fr own n a P'):Alt S (S.paid P' own (-((Q0e n:Nat):Int))) own:=by
 have bm:=g.backM ok.inv.mem.pool;obtain⟨e,q1,q2,q3⟩:=g.q;refine⟨rfl,rfl,rfl,rfl,rfl,rfl,rfl,rfl,bm.same,by show P'.q.next=_;rw[q3],fun id x hx=>?_,?_,fun r hr hi hk=>?_⟩
 ·show ∃e',find P'.q.E id=some e'/\_;rw[q3];by_cases hid:id=own
  ·subst hid;rw[q1] at hx;cases hx;exact⟨_,Q0n q1 _,rfl,fun h=>absurd rfl h⟩
  ·exact⟨x,by rw[Q0K hid];exact hx,rfl,fun _=>rfl⟩
 ·show P'.q.E.map En.id=_;rw[q3];exact Q2d _ _ _
 ·show Kept S.P.a.mem P'.a.mem _ _;rw[bm.mem];exact Kept.refl _ _ _
theorem Alt.mem{S:CO}{fr:List Nat}{N K:Nat}(ok:S.Ok fr N K)(own:Int){j a b n:Nat}{m:List Nat}(hj:j=2∨j=7)(ha:a∈S.P.usedOf j)(h1:a<=b)(h2:b+n<=a+Q0e j)(Ab:m.length=S.P.a.mem.length)(hk:Q2N S.P.a.mem m b n):Alt S (S.setP (S.P.setA m)) own:=by
 refine⟨rfl,rfl,rfl,rfl,rfl,rfl,rfl,rfl,⟨rfl,rfl,rfl,rfl,rfl,rfl,Ab⟩,rfl,fun _ e h=>⟨e,h,rfl,fun _=>rfl⟩,rfl,fun r hr hi Av=>?_⟩;show Kept S.P.a.mem m _ _;by_cases h8:r.kind=8
 ·obtain⟨g,hg,e⟩:=ok.inv.mem.frame hr hi h8;have:=Q1E ok.inv.mem.pool hg ha;rw[h8,costK_8,e];exact hk _ _ (by omega)
 ·have hu:=ok.inv.mem.used hr hi h8;have Bf:=(ok.inv.mem.kind r hr hi).resolve_left h8;rw[Q1j h8];exact Q2O ok ha h1 h2 hk hu (fun e=>by omega)
theorem costs_67:Q0X 6=48/\Q0X 7=256:=⟨rfl,rfl⟩
theorem CO.stepPaid{w w':World}{S:CO}(h:Sep w S.hl)(P':PL)(own d:Int)(e:P'.p=S.P.p)(s:Step S.P.hl P'.hl w w'):Step S.hl (S.paid P' own d).hl w w':=CO.stepP h P' e s
theorem CO.stepMem{w w':World}{S:CO}(h:Sep w S.hl)(m:List Nat)(s:Step S.P.a.hl ({S.P.a with mem:=m}:AN).hl w w'):Step S.hl (S.setP (S.P.setA m)).hl w w':=
 CO.stepP h (S.P.setA m) rfl (PL.stepA (CO.sP h) m s)
def blk(k i:Nat):Nat×Nat:=(1024*i*2 ^ k,k)
abbrev encI(x:Int):Value:=.int .i64 x
theorem Q9Q:(prog.info? 3).map (fun i=>(i.zero,i.size,i.bytes))=some (some (.int .i64 0),1,8):=by kernel_rfl
def AsideV(H:HL)(cs:List Value)(a:Option Addr)(w:World):Prop:=∀(j:Nat) (v:Value),cs[j]?=some v->∃g,a=some ⟨g,0,none⟩/\g∉keys H/\g<w.heap.size/\w.cell? ⟨g,j,none⟩=some v
theorem AsideV.step{H H':HL}{cs:List Value}{a:Option Addr}{w w':World}(h:AsideV H cs a w)(st:Step H H' w w'):AsideV H' cs a w':=fun j x hj=>by
 obtain⟨g,h1,h2,h3,h4⟩:=h j x hj;refine⟨g,h1,fun hk=>?_,J1G h3 st.chg.size,(World.cell?_of_block (w:=w) (st.chg.block g h3 h2)).trans h4⟩;rcases st.new g hk with h'|h'
 ·exact h2 h'
 ·omega
theorem Q6T{w w':World}{H:HL}{T:TypeId}{size n:Nat}{v:Value}{cs:List Value}(hs:Sep w H)(h:w'.ownsRow w.heap.size T size v n cs):∃(a:Option Addr) (cap:Nat),v=.slice a n cap/\AsideV H cs a w':=by
 obtain⟨hl,h2⟩:=h;rcases h2 with ⟨rfl,h0⟩|⟨g,cap,Ao,rfl,hg,Em,hn,hm,Be,Bh⟩
 ·refine⟨none,0,by rw[h0],fun j x hj=>?_⟩;have:=(J1V.1 hj).1;rw[hl,h0,J5l] at this;omega
 ·refine⟨_,cap,rfl,fun j x hj=>⟨g,rfl,fun hk=>by have:=hs.lt hk;omega,lt_of_block Em,?_⟩⟩;rw[<- hl] at Bh;rw[<- Bh,J3A] at hj;split at hj
  ·simp only[World.cell?,Em,J4A,J5n,if_false];rw[<- J3X];exact hj
  ·cases hj
theorem Z4W{w:World}{a:AN}(h:Sep w a.hl)(at_:Nat)(h8:at_%8=0)(hl:at_+16<=a.mem.length)(hm:a.mem.length<=1073741824) :
  Calls prog 121 #[.pointer (some ⟨a.a,0,none⟩),.int .i64 at_,.int .i64 2] w fun r w'=>r=.returned (.tuple #[.slice (some ⟨a.mb,at_,none⟩) 16 (a.mem.length-at_),.int .i64 0])/\w=w':=by
 have k1:=Q5r h at_ 16 (by omega) hl hm;have h1:(at_:Int)%8=0:=by omega
 have h2:((at_:Int)%8 != 0)=false:=by simp;omega
 have h3:((0:Int) != 0)=false:=by simp
 clear h h8;generalize a.mem.length=l at *
 go_enter func121,ntmps121;go_wp2_with (go_at_call 113;refine k1.mono ?_;rintro e w'⟨rfl,rfl⟩);go_ret2;exact⟨rfl,rfl⟩
theorem Q9R(x y k:Nat)(hk:k<16):(Q0c x++Q0c y)[k]?.getD 0=(if k<8 then x else y)/2 ^ (8*(k%8))%256:=by
 have hl:(Q0c x).length=8:=rfl;by_cases h:k<8
 ·rw[J4K (by rw[hl];exact h),Q2X x k h,if_pos h,J2S h]
 ·rw[J4L (by rw[hl];omega),hl,Q2X y (k-8) (by omega),if_neg h,show k%8=k-8 by omega]
theorem Z4X{w:World}{a:AN}(h:Sep w a.hl)(at_ x y:Nat)(h8:at_%8=0)(hl:at_+16<=a.mem.length)(hm:a.mem.length<=1073741824)(hx:x<18446744073709551616)(hy:y<18446744073709551616)(g:Nat)(hg:w.cell? ⟨g,0,none⟩=some (.int .u64 x))(BX:w.cell? ⟨g,1,none⟩=some (.int .u64 y))(FT:g<w.heap.size)(FK:g∉keys a.hl) :
  Calls prog 57 #[.pointer (some ⟨a.a,0,none⟩),.int .i64 at_,.slice (some ⟨g,0,none⟩) 2 2] w fun r w'=>r=.returned (.int .i64 0)/\Step a.hl ({a with mem:=put_ a.mem at_ (Q0c x++Q0c y)}:AN).hl w w':=by
 have k1:=Z4W h at_ h8 hl hm;have Ha:(Q0c x++Q0c y).length=16:=rfl;have Hw:Hid (Step a.hl ({a with mem:=put_ a.mem at_ ((Q0c x++Q0c y).take 0)}:AN).hl w w):=by
  show Step _ _ _ _;rw[J4X,Q7v];exact Step.refl h
 have HN:Hid (∀k wr,k<16->Step a.hl ({a with mem:=put_ a.mem at_ ((Q0c x++Q0c y).take k)}:AN).hl w wr->(∃old,wr.cell? ⟨a.mb,at_+k,none⟩=some old)/\wr.frozen? ⟨a.mb,at_+k,none⟩=false/\wr.cell? ⟨g,0,none⟩=some (.int .u64 x)/\wr.cell? ⟨g,1,none⟩=some (.int .u64 y)/\Step a.hl ({a with mem:=put_ a.mem at_ ((Q0c x++Q0c y).take (k+1))}:AN).hl w (wr.setCell ⟨a.mb,at_+k,none⟩ (.int .u8 ((Q0c x++Q0c y)[k]?.getD 0:Nat)))):=by
  intro k wr hk hs;have eb:=hs.chg.block g FT FK;refine⟨⟨_,AN.bcell hs.sep (at_+k) (by show at_+k<(put_ _ _ _).length;rw[Q1h _ _ _ (by rw[J3Q,Ha];omega)];omega)⟩,AN.bfree hs.sep (at_+k),(World.cell?_of_block (w:=w) eb).trans hg,(World.cell?_of_block (w:=w) eb).trans BX,?_⟩;have h1:=AN.setB hs.sep (at_+k) ((Q0c x++Q0c y)[k]?.getD 0);have h2:=Q5b a.mem at_ (Q0c x++Q0c y) k (by rw[Ha];exact hk) (by rw[Ha];exact hl);have:=hs.trans h1
  simpa[h2] using this
 have AU:Hid ((Q0c x++Q0c y).take 16=Q0c x++Q0c y):=J3v (by rw[Ha];exact J1E _);have HV:=Q0a (fun k hk=>Q9R x y k hk);generalize hbs:Q0c x++Q0c y=bs at *
 clear h h8 hg BX FK FT hbs Ha;generalize a.hl=H at *
 generalize a.mem.length=l at *
 go_enter func57,ntmps57;go_wp2_with fail;refine k1.mono ?_;rintro e w'⟨rfl,rfl⟩;go_wp2_with fail
 go_loopw [20] (fun iv wr=>∃k:Nat,k<=16/\iv=.int .i64 k/\Step H ({a with mem:=put_ a.mem at_ (bs.take k)}:AN).hl w wr) (fun iv _=>16-(intOf iv).toNat)
 case atStart=>exact⟨0,by omega,rfl,Hw.out⟩
 case round =>
  obtain⟨k,hk,rfl,hs⟩:=hrel;by_cases Aa:k<16
  ·obtain⟨⟨old,KT⟩,hf,SM,Uc,AG⟩:=HN.out k wr Aa hs;have hv:=HV.out k Aa;clear hs;obtain⟨j,hj⟩:∃j,j=k%8:=⟨_,rfl⟩
   have VQ:j<8:=by omega
   have AE:(k:Int)%8=(j:Int):=by omega
   have Av:k%8=j:=hj.symm;rw[Av] at hv;by_cases h8:k<8
   ·have B4:(k:Int)/8=0:=by omega
    rw[if_pos h8] at hv;have PU:IntKind.u8.wrap ((x:Int)/2 ^ (8*j))=((bs[k]?.getD 0:Nat):Int):=by
     rw[hv,IntKind.wrap_u8,show((x:Int)/2 ^ (8*j))=((x/2 ^ (8*j):Nat):Int) from by rw[J3r,J3s];rfl];omega
    clear hv hj;generalize bs[k]?.getD 0=v at *
    go_wp2_with fail;go_roundw
    case rel=>exact⟨k+1,by omega,by go_num,AG⟩
    case measure=>simp[intOf];omega
   ·have B4:(k:Int)/8=1:=by omega
    rw[if_neg h8] at hv;have PU:IntKind.u8.wrap ((y:Int)/2 ^ (8*j))=((bs[k]?.getD 0:Nat):Int):=by
     rw[hv,IntKind.wrap_u8,show((y:Int)/2 ^ (8*j))=((y/2 ^ (8*j):Nat):Int) from by rw[J3r,J3s];rfl];omega
    clear hv hj;generalize bs[k]?.getD 0=v at *
    go_wp2_with fail;go_roundw
    case rel=>exact⟨k+1,by omega,by go_num,AG⟩
    case measure=>simp[intOf];omega
  ·obtain rfl:k=16:=by omega
   go_wp2_with fail;go_ret;exact⟨rfl,by have:=hs;rw[AU.out] at this;exact this⟩
def TblC(S:CO)(p:Pl)(g:Nat)(w:World):Prop:=AsideV S.hl [ptr S.P.p,.int .i64 (p.fac:Int),.int .i64 (p.at_:Int)] (some ⟨g,0,none⟩) w
theorem TblC.c0{S:CO}{p:Pl}{g:Nat}{w:World}(h:TblC S p g w):w.cell? ⟨g,0,none⟩=some (.pointer (some ⟨S.P.p,0,none⟩)):=by
 obtain⟨g',e,_,_,c⟩:=h 0 _ rfl;cases e;exact c
theorem TblC.c1{S:CO}{p:Pl}{g:Nat}{w:World}(h:TblC S p g w):w.cell? ⟨g,1,none⟩=some (.int .i64 (p.fac:Int)):=by
 obtain⟨g',e,_,_,c⟩:=h 1 _ rfl;cases e;exact c
theorem TblC.c2{S:CO}{p:Pl}{g:Nat}{w:World}(h:TblC S p g w):w.cell? ⟨g,2,none⟩=some (.int .i64 (p.at_:Int)):=by
 obtain⟨g',e,_,_,c⟩:=h 2 _ rfl;cases e;exact c
structure TT(S:CO)(t:TB)(p:Pl)(g:Nat)(w:World):Prop where
 sep:Sep w S.hl
 pool:∃fr,S.P.Ok fr
 tab:TblC S p g w
 tin:t.In S.P.a.mem p.at_
 al:p.at_%8=0/\p.at_+128<=S.P.a.mem.length
 lv:∀k,k<16->t.lf k≠0->t.lf k%8=0/\t.lf k+256<=S.P.a.mem.length
theorem TT.grown{S:CO}{t:TB}{p:Pl}{g:Nat}{w w':World}(h:TT S t p g w)(hb:Below w.heap.size w w'):TT S t p g w':=
 ⟨(h.sep.grown hb).sep,h.pool,h.tab.step (h.sep.grown hb),h.tin,h.al,h.lv⟩
theorem TPX.tt{S:CO}{fr:List Nat}{N K:Nat}{tb:Nat->TB}{own:Int}{xl xn:List Nat}(ok:S.Ok fr N K)(t:TPX S tb own xl xn){i:Nat}{p:Pl}{g:Nat}{w:World}(hi:S.l[i]?=some p)(h1:p.st=1)(h2:p.kind=2)(hs:Sep w S.hl)(hg:TblC S p g w):TT S (tb i) p g w:=by
 have Ap:=Q1w ok.inv.len hi;have hu:=Q1k ok hi h1 h2;have hm:=Q0l ok.inv.mem.pool hu;have M4:Q0e 2=128:=rfl;refine⟨hs,⟨fr,ok.inv.mem.pool⟩,hg,t.tin i p hi h1 h2,⟨Q1V ok.inv.mem.pool hu,by omega⟩,fun k hk h0=>?_⟩;have hl:=t.leaf Ap hk h0;have hm:=Q0l ok.inv.mem.pool hl;rw[Q2q] at hm;exact⟨Q1V ok.inv.mem.pool hl,hm.1⟩
section
variable {w:World} {S:CO} {t:TB} {p:Pl} {g:Nat}
theorem Q4b(h:TT S t p g w)(a:Nat)(h8:a%8=0)(hl:a+8<=S.P.a.mem.length):Calls prog 178 #[.pointer (some ⟨g,0,none⟩),.int .i64 a] w fun r w'=>r=.returned (.int .u64 (Q0m S.P.a.mem a:Nat))/\w=w':=by
 obtain⟨fr,hp⟩:=h.pool;have c0:=h.tab.c0;have ka:=Q0v (CO.sP h.sep);have kl:=Q9A (PL.sA (CO.sP h.sep)) hp.bytes a h8 hl (Q0f hp);clear h hp h8 hl;unfold ptr at *
 generalize Q0m S.P.a.mem a=x at *
 go_enter func178,ntmps178;go_wp2_with (first|(go_at_call 50;refine ka.mono ?_;rintro e w'⟨rfl,rfl⟩)|(go_at_call 58;refine kl.mono ?_;rintro e w'⟨rfl,rfl⟩));go_ret;exact⟨rfl,rfl⟩
theorem Q5J(h:TT S t p g w)(s:Nat)(hs:s<256):Calls prog 179 #[.pointer (some ⟨g,0,none⟩),.int .i64 s] w fun r w'=>r=.returned (.int .i64 ((p.at_+8*(s/16):Nat):Int))/\w=w':=by
 have c2:=h.tab.c2;obtain⟨fr,hp⟩:=h.pool;have hm:=Q0f hp;have Bo:=h.al.2;have h1:(s:Int).tdiv 16=((s/16:Nat):Int):=by
  rw[J3n (by omega)];omega
 have h2:(s:Int)/16=((s/16:Nat):Int):=by omega
 have hk:s/16<16:=by omega
 have e:((p.at_+8*(s/16):Nat):Int)=(p.at_:Int)+((s/16:Nat):Int)*8:=by omega
 rw[e];generalize s/16=k at *
 generalize p.at_=a at *
 have ha:(a:Int)<=1073741824:=by omega
 have Av:(k:Int)<16:=by omega
 clear h hp hm Bo hk e;go_enter func179,ntmps179
 go_wp2
 go_ret;exact⟨by first|rfl|(simp only[h1,h2])|(rw[h2]),rfl⟩
theorem Q5h(w:World)(z:Int):Calls prog 175 #[.int .i64 z] w fun r w'=>r=.returned (.bool (decide (0<=z/\z<256)))/\w=w':=by
 by_cases h0:0<=z
 ·by_cases h1:z<256
  ·rw[decide_eq_true (show 0<=z/\z<256 from⟨h0,h1⟩)];go_enter func175,ntmps175
   go_wp2
   go_ret;exact⟨rfl,rfl⟩
  ·rw[decide_eq_false (show ¬(0<=z/\z<256) from fun h=>h1 h.2)];have hd:decide (z<256)=false:=by simpa using h1
   go_enter func175,ntmps175
   go_wp2
   go_ret;exact⟨rfl,rfl⟩
 ·rw[decide_eq_false (show ¬(0<=z/\z<256) from fun h=>h0 h.1)];have hd:decide (0<=z)=false:=by simpa using h0
  go_enter func175,ntmps175
  go_wp2
  go_ret;exact⟨rfl,rfl⟩
theorem Q2P(w:World)(L s:Nat)(hL:L<=1073741824)(hs:s<256):Calls prog 177 #[.int .i64 L,.int .i64 s] w fun r w'=>r=.returned (.int .i64 ((L+16*(s%16):Nat):Int))/\w=w':=by
 have h1:(s:Int).tmod 16=((s%16:Nat):Int):=by
  rw[J3o (by omega)];omega
 have h2:(s:Int)%16=((s%16:Nat):Int):=by omega
 have hk:s%16<16:=by omega
 have e:((L+16*(s%16):Nat):Int)=(L:Int)+((s%16:Nat):Int)*16:=by omega
 rw[e];generalize s%16=k at *
 have ha:(L:Int)<=1073741824:=by omega
 have Av:(k:Int)<16:=by omega
 clear hk e hL;go_enter func177,ntmps177
 go_wp2
 go_ret;exact⟨by first|rfl|(simp only[h1,h2])|(rw[h2]),rfl⟩
theorem Q4c(h:TT S t p g w)(s:Nat)(hs:s<256):Calls prog 176 #[.pointer (some ⟨g,0,none⟩),.int .i64 s] w fun r w'=>r=.returned (.int .i64 ((t.lf (s/16):Nat):Int))/\w=w':=by
 have hk:s/16<16:=by omega
 have kr:=Q5J h s hs;have Bo:=h.al;have kw:=Q4b h (p.at_+8*(s/16)) (by omega) (by omega);rw[h.tin.root (s/16) hk] at kw;obtain⟨fr,hp⟩:=h.pool;have hm:=Q0f hp;have F5:((t.lf (s/16):Nat):Int)<=1073741824:=by
  by_cases h0:t.lf (s/16)=0
  ·omega
  ·have:=(h.lv _ hk h0).2;omega
 clear h hp hm Bo hk;generalize t.lf (s/16)=x at *
 generalize (p.at_+8*(s/16):Nat)=y at *
 go_enter func176,ntmps176;go_wp2_with (first|(go_at_call 179;refine kr.mono ?_;rintro e w'⟨rfl,rfl⟩)|(go_at_call 178;refine kw.mono ?_;rintro e w'⟨rfl,rfl⟩));go_ret;exact⟨rfl,rfl⟩
end
end Go.Proofs.YtfidemmgofcnmaaGreatDoor
