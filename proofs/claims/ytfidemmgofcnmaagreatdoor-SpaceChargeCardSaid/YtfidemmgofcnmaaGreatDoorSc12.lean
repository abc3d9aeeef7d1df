/- SpaceCharge returns true at every input. No condition. Part of its proof. -/
import Derived.Test.YtfidemmgofcnmaaGreatDoorSc11
set_option linter.unusedVariables false
namespace Go.Proofs.YtfidemmgofcnmaaGreatDoor
open Go.RowKit Go.Proofs.Tryz
structure Nd where
 sp:Int
 sl:Int
 par:Int
 ks:List Int
def mapE (f:En Nd->Nd) (N:List (En Nd)):List (En Nd):=N.map fun e=>{e with q:=f e}
theorem Q1q (f:En Nd->Nd) (N:List (En Nd)) (id:Int):find (mapE f N) id=(find N id).map fun e=>{e with q:=f e}:=by
 induction N with
 | nil=>rfl
 | cons x r ih =>
  by_cases h:id=x.id
  ·simp [mapE,find,h]
  ·have ih':find (r.map fun e=>{e with q:=f e}) id=_:=ih;simp [mapE,find,h,ih']
theorem Q1r {f:En Nd->Nd} {N:List (En Nd)} {x:En Nd} (h:x∈mapE f N):∃e∈N,x={e with q:=f e}:=by
 obtain⟨e,he,rfl⟩:=J2E.1 h;exact⟨e,he,rfl⟩
theorem Z0u {f:En Nd->Nd} {N:List (En Nd)} (h:∀e∈N,f e=e.q):mapE f N=N:=by
 unfold mapE
 conv=>rhs;rw [<- List.map_id N]
 exact J4J fun e he=>by rw [h e he];rfl
theorem Q6h (f g:En Nd->Nd) (N:List (En Nd)):mapE g (mapE f N)=mapE (fun e=>g {e with q:=f e}) N:=by
 unfold mapE;rw [J4I];rfl
theorem Q5b {f g:En Nd->Nd} {N:List (En Nd)} (h:∀e∈N,f e=g e):mapE f N=mapE g N:=by
 unfold mapE;exact J4J fun e he=>by rw [h e he]
theorem Q2d {f:En Nd->Nd} {N:List (En Nd)} {R:En Nd->En Nd->Prop} (h:∀a b,R a b->R {a with q:=f a} {b with q:=f b}) (hp:N.Pairwise R):(mapE f N).Pairwise R:=by
 unfold mapE;rw [J3e];exact hp.imp fun {a b} CI=>h a b CI
theorem Q2C {N:List (En Nd)} (Ac:N.Pairwise (fun a b=>a.id≠b.id)) (id:Int):∀x,x∈rem N id↔x∈N/\x.id≠id:=by
 induction N with
 | nil=>simp [rem]
 | cons y r ih =>
  obtain⟨h1,h2⟩:=J3a.1 Ac;intro x;by_cases hk:id=y.id
  ·subst hk;simp only [rem,if_true,J2D]
   constructor
   ·intro hx;exact⟨.inr hx,fun e=>h1 x hx e.symm⟩
   ·rintro⟨rfl|hx,Aa⟩
    ·exact absurd rfl Aa
    ·exact hx
  ·simp only [rem,hk,if_false,J2D];rw [ih h2 x]
   constructor
   ·rintro (rfl|⟨hx,Aa⟩)
    ·exact⟨.inl rfl,fun e=>hk e.symm⟩
    ·exact⟨.inr hx,Aa⟩
   ·rintro⟨rfl|hx,Aa⟩
    ·exact .inl rfl
    ·exact .inr ⟨hx,Aa⟩
structure NOk (N:List (En Nd)) (next:Int):Prop where
 ids:N.Pairwise (fun a b=>a.id≠b.id)
 spots:N.Pairwise (fun a b=>(a.q.sp,a.q.sl)≠(b.q.sp,b.q.sl))
 next0:0<=next
 rng:∀e∈N,1<=e.id/\e.id<=next
 sm:∀e∈N,0<=e.q.sp/\e.q.sp<4294967296/\0<=e.q.sl/\e.q.sl<256
 par:∀e∈N,0<=e.q.par/\(e.q.par≠0->∃p,find N e.q.par=some p/\e.id∈p.q.ks)
 kids:∀p∈N,∀k∈p.q.ks,∃e,find N k=some e/\e.q.par=p.id
 nd:∀p∈N,p.q.ks.Nodup
 rise:∀e∈N,e.q.par<e.id
theorem Q0l {N:List (En Nd)} (Ac:N.Pairwise (fun a b=>a.id≠b.id)) {e:En Nd} (h:e∈N):find N e.id=some e:=by
 induction N with
 | nil=>cases h
 | cons x r ih =>
  obtain⟨h1,h2⟩:=J3a.1 Ac;rcases J2D.1 h with rfl|h
  ·simp [find]
  ·have Aa:¬e.id=x.id:=fun e'=>h1 e h e'.symm
   simp only [find,Aa,if_false];exact ih h2 h
theorem Q4d {N:List (En Nd)} {next:Int} (ok:NOk N next) {a b:En Nd} (ha:a∈N) (hb:b∈N) (h1:a.q.sp=b.q.sp) (h2:a.q.sl=b.q.sl):a=b:=by
 obtain⟨i,hi⟩:=J5o.1 ha;obtain⟨j,hj⟩:=J5o.1 hb;obtain⟨i1,i2⟩:=J2Q.1 hi;obtain⟨j1,j2⟩:=J2Q.1 hj;rcases J5B i j with h|h|h
 ·have:=J5C.1 ok.spots i j i1 j1 h;rw [i2,j2] at this;exact absurd (Prod.ext h1 h2) this
 ·subst h;rw [<- i2,<- j2]
 ·have:=J5C.1 ok.spots j i j1 i1 h;rw [i2,j2] at this;exact absurd (Prod.ext h1.symm h2.symm) this
def kdF (N:List (En Nd)) (id:Int):List Int:=match find N id with
 | some e=>e.q.ks
 | none=>[]
def rkF (next:Int) (id:Int):Nat:=(next+1-id).toNat
theorem NOk.tree {N:List (En Nd)} {next:Int} (ok:NOk N next):Fst3 (kdF N) (rkF next):=by
 have get:∀{h x},x∈kdF N h->∃p e,find N h=some p/\x∈p.q.ks/\find N x=some e/\e.q.par=p.id/\p.id=h:=by
  intro h x hx;unfold kdF at hx;cases hf:find N h with
  | none=>rw [hf] at hx;cases hx
  | some p =>
   rw [hf] at hx;obtain⟨e,h1,h2⟩:=ok.kids p (Q0b hf).1 x hx;exact⟨p,e,rfl,hx,h1,h2,(Q0b hf).2⟩
 refine⟨fun h x hx=>?_,fun a b x ha hb=>?_,fun h=>?_⟩
 ·obtain⟨p,e,h1,h2,h3,h4,h5⟩:=get hx;obtain⟨e1,e2⟩:=Q0b h3;have:=ok.rise e e1;have:=ok.rng e e1;unfold rkF;omega
 ·obtain⟨p,e,h1,h2,h3,h4,h5⟩:=get ha;obtain⟨p',e',PP,VN,Sg,Vx,S0⟩:=get hb;rw [h3] at Sg;cases Sg;omega
 ·unfold kdF;cases hf:find N h with
  | none=>simp
  | some p=>exact ok.nd p (Q0b hf).1
theorem NOk.zero {N:List (En Nd)} {next:Int} (ok:NOk N next):find N 0=none:=by
 cases hf:find N 0 with
 | none=>rfl
 | some e =>
  obtain⟨h1,h2⟩:=Q0b hf;have:=ok.rng e h1;omega
def addN (N:List (En Nd)) (par:Int) (k:Int) (b:Nat) (sp sl:Int):List (En Nd):=mapE (fun c=>if c.id=par then {c.q with ks:=c.q.ks++[k]} else c.q) N++[⟨k,b,⟨sp,sl,par,[]⟩⟩]
theorem Q8b (N:List (En Nd)) (x:En Nd) (id:Int):find (N++[x]) id=(find N id).or (if id=x.id then some x else none):=by
 rw [Q1Z];cases find N id <;> rfl
theorem NOk.add {N:List (En Nd)} {next:Int} (ok:NOk N next) {par sp sl:Int} (b:Nat) (hp:par=0∨∃p,find N par=some p) (Aq:∀e∈N,(e.q.sp,e.q.sl)≠(sp,sl)) (h1:0<=sp) (h2:sp<4294967296) (h3:0<=sl) (h4:sl<256):NOk (addN N par (next+1) b sp sl) (next+1):=by
 have CQ:=ok.next0;have Ck:find N (next+1)=none:=by
  cases hf:find N (next+1) with
  | none=>rfl
  | some e =>
   obtain⟨e1,e2⟩:=Q0b hf;have:=ok.rng e e1;omega
 have SD:0<=par/\par<=next:=by
  rcases hp with rfl|⟨p,hp⟩
  ·omega
  ·obtain⟨e1,e2⟩:=Q0b hp;have:=ok.rng p e1;omega
 have Cp:∀id,find (addN N par (next+1) b sp sl) id=if id=next+1 then some ⟨next+1,b,⟨sp,sl,par,[]⟩⟩ else (find N id).map fun c=>{c with q:=if c.id=par then {c.q with ks:=c.q.ks++[next+1]} else c.q}:=fun id=>by
  unfold addN;rw [Q8b,Q1q];by_cases h:id=next+1
  ·subst h;rw [Ck];simp
  ·cases hf:find N id with
   | none=>simp [h]
   | some e=>simp [h]
 have Az:∀{x},x∈addN N par (next+1) b sp sl->(∃e∈N,x={e with q:=if e.id=par then {e.q with ks:=e.q.ks++[next+1]} else e.q})∨x=⟨next+1,b,⟨sp,sl,par,[]⟩⟩:=fun {x} hx=>by
  rcases J3o.1 hx with hx|hx
  ·exact .inl (Q1r hx)
  ·exact .inr (J4H.1 hx)
 refine⟨?_,?_,by omega,fun x hx=>?_,fun x hx=>?_,fun x hx=>?_,fun x hx k hk=>?_,fun x hx=>?_,fun x hx=>?_⟩
 ·unfold addN;rw [J3n];refine⟨Q2d (fun a b h=>h) ok.ids,by simp,fun x hx y hy=>?_⟩;obtain⟨e,he,rfl⟩:=Q1r hx;rw [J4H] at hy;subst hy;have:=ok.rng e he;show e.id≠next+1;omega
 ·unfold addN;rw [J3n];refine⟨Q2d (fun a b h=>?_) ok.spots,by simp,fun x hx y hy=>?_⟩
  ·have e1:∀c:En Nd,(if c.id=par then ({c.q with ks:=c.q.ks++[next+1]}:Nd) else c.q).sp=c.q.sp/\(if c.id=par then ({c.q with ks:=c.q.ks++[next+1]}:Nd) else c.q).sl=c.q.sl:=fun c=>by split <;> exact⟨rfl,rfl⟩
   show ((if a.id=par then ({a.q with ks:=a.q.ks++[next+1]}:Nd) else a.q).sp,_)≠_;rw [(e1 a).1,(e1 a).2,(e1 b).1,(e1 b).2];exact h
  ·obtain⟨e,he,rfl⟩:=Q1r hx;rw [J4H] at hy;subst hy;have:=Aq e he;show ((if e.id=par then ({e.q with ks:=e.q.ks++[next+1]}:Nd) else e.q).sp,(if e.id=par then ({e.q with ks:=e.q.ks++[next+1]}:Nd) else e.q).sl)≠_;split <;> exact this
 ·rcases Az hx with ⟨e,he,rfl⟩|rfl
  ·have:=ok.rng e he;exact⟨this.1,by show e.id<=_;omega⟩
  ·exact⟨by show 1<=next+1;omega,J6E _⟩
 ·rcases Az hx with ⟨e,he,rfl⟩|rfl
  ·have:=ok.sm e he;simp only;split <;> exact this
  ·exact⟨h1,h2,h3,h4⟩
 ·have key:∀e∈N,∀pr:Int,pr=e.q.par->0<=pr/\(pr≠0->∃p,find (addN N par (next+1) b sp sl) pr=some p/\e.id∈p.q.ks):=fun e he pr hpr'=>by
   subst hpr';obtain⟨q1,q2⟩:=ok.par e he;refine⟨q1,fun h0=>?_⟩;obtain⟨p,hp,hk⟩:=q2 h0;obtain⟨p1,p2⟩:=Q0b hp;have:=ok.rng p p1;refine⟨_,by rw [Cp,if_neg (by omega),hp];rfl,?_⟩;simp only;split
   ·exact J3v _ hk
   ·exact hk
  rcases Az hx with ⟨e,he,rfl⟩|rfl
  ·exact key e he _ (by simp only;split <;> rfl)
  ·refine⟨SD.1,fun h0=>?_⟩;have Df:par≠0:=h0;obtain⟨p,hp⟩:=hp.resolve_left Df;obtain⟨p1,p2⟩:=Q0b hp;refine⟨_,by rw [Cp,if_neg (by show par≠_;omega)];show (find N par).map _=_;rw [hp];rfl,?_⟩;simp only [p2,if_true];exact J3u _ (by simp)
 ·have old:∀e∈N,∀k∈e.q.ks,∃c,find (addN N par (next+1) b sp sl) k=some c/\c.q.par=e.id:=fun e he k hk=>by
   obtain⟨c,hc,Gp⟩:=ok.kids e he k hk;obtain⟨c1,c2⟩:=Q0b hc;have:=ok.rng c c1;refine⟨_,by rw [Cp,if_neg (by omega),hc];rfl,?_⟩;simp only;split <;> exact Gp
  rcases Az hx with ⟨e,he,rfl⟩|rfl
  ·by_cases O9:e.id=par
   ·have Bu:k∈e.q.ks++[next+1]:=by
     have:=hk;simp only [O9,if_true] at this;exact this
    rcases J3o.1 Bu with Bu|Bu
    ·exact old e he k Bu
    ·rw [J4H] at Bu;subst Bu;exact⟨_,by rw [Cp,if_pos rfl],O9.symm⟩
   ·have Bu:k∈e.q.ks:=by
     have:=hk;simp only [O9,if_false] at this;exact this
    exact old e he k Bu
  ·cases hk
 ·rcases Az hx with ⟨e,he,rfl⟩|rfl
  ·have AG:=ok.nd e he;simp only;split
   ·show (e.q.ks++[next+1]).Nodup;rw [J3t];refine⟨AG,by simp,fun a ha b' Ak=>?_⟩;rw [J4H] at Ak;subst Ak;obtain⟨c,hc,_⟩:=ok.kids e he a ha;obtain⟨c1,c2⟩:=Q0b hc;have:=ok.rng c c1;omega
   ·exact AG
  ·exact J6D
 ·rcases Az hx with ⟨e,he,rfl⟩|rfl
  ·have:=ok.rise e he;simp only;split <;> exact this
  ·show par<next+1;omega
def Q0t (e:En Nd) (j:Nat) (c:En Nd):Nd:=
 {c.q with par:=if c.id∈e.q.ks.take j then e.q.par else c.q.par,ks:=if c.id=e.q.par then c.q.ks.filter (fun k=>decide (k≠e.id))++e.q.ks.take j else c.q.ks}
def Q0C (N:List (En Nd)) (e:En Nd) (j:Nat):List (En Nd):=mapE (Q0t e j) (rem N e.id)
theorem NOk.rem_find {N:List (En Nd)} {next:Int} (ok:NOk N next) (e:En Nd) (id:Int):find (rem N e.id) id=if id=e.id then none else find N id:=Q2l ok.ids e.id id
theorem NOk.lift {N:List (En Nd)} {next:Int} (ok:NOk N next) {e:En Nd} (he:find N e.id=some e):NOk (Q0C N e e.q.ks.length) next:=by
 obtain⟨BU,_⟩:=Q0b he;have Jz:=ok.rng e BU;have Qa:=ok.rise e BU;have Bg:=ok.par e BU;have AR:e.q.ks.take e.q.ks.length=e.q.ks:=J6J;have hL:∀c,Q0t e e.q.ks.length c={c.q with par:=if c.id∈e.q.ks then e.q.par else c.q.par,ks:=if c.id=e.q.par then c.q.ks.filter (fun k=>decide (k≠e.id))++e.q.ks else c.q.ks}:=fun c=>by unfold Q0t;rw [AR]
 have Cp:∀id,find (Q0C N e e.q.ks.length) id=if id=e.id then none else (find N id).map fun c=>{c with q:=Q0t e e.q.ks.length c}:=fun id=>by
  unfold Q0C;rw [Q1q,ok.rem_find];split <;> rfl
 have Az:∀{x},x∈Q0C N e e.q.ks.length->∃c∈N,c.id≠e.id/\x={c with q:=Q0t e e.q.ks.length c}:=fun {x} hx=>by
  obtain⟨c,hc,rfl⟩:=Q1r hx;obtain⟨h1,h2⟩:=(Q2C ok.ids e.id c).1 hc;exact⟨c,h1,h2,rfl⟩
 -- whose child is whose
 have JF:∀c∈N,(c.id∈e.q.ks↔c.q.par=e.id):=fun c hc=>by
  constructor
  ·intro h;obtain⟨d,hd,Eq⟩:=ok.kids e BU c.id h;rw [Q0l ok.ids hc] at hd;cases hd;exact Eq
  ·intro h;obtain⟨p,hp,hk⟩:=(ok.par c hc).2 (by omega);rw [h,he] at hp;cases hp;exact hk
 have BG:(rem N e.id).Sublist N:=Q1y N e.id;refine⟨Q2d (fun a b h=>h) (ok.ids.sublist BG),Q2d (fun a b h=>h) (ok.spots.sublist BG),ok.next0,fun x hx=>?_,fun x hx=>?_,fun x hx=>?_,fun x hx k hk=>?_,fun x hx=>?_,fun x hx=>?_⟩
 ·obtain⟨c,hc,_,rfl⟩:=Az hx;exact ok.rng c hc
 ·obtain⟨c,hc,_,rfl⟩:=Az hx;exact ok.sm c hc
 ·obtain⟨c,hc,Aa,rfl⟩:=Az hx;show 0<=(Q0t e e.q.ks.length c).par/\((Q0t e e.q.ks.length c).par≠0->_);rw [hL];simp only;by_cases FC:c.id∈e.q.ks
  ·rw [if_pos FC];refine⟨Bg.1,fun h0=>?_⟩;obtain⟨p,hp,hk⟩:=Bg.2 h0;obtain⟨p1,p2⟩:=Q0b hp;refine⟨_,by rw [Cp,if_neg (by omega),hp];rfl,?_⟩;show c.id∈(Q0t e e.q.ks.length p).ks;rw [hL];simp only [p2,if_true];exact J3u _ FC
  ·rw [if_neg FC];obtain⟨q1,q2⟩:=ok.par c hc;refine⟨q1,fun h0=>?_⟩;obtain⟨p,hp,hk⟩:=q2 h0;have I3:c.q.par≠e.id:=fun h=>FC ((JF c hc).2 h)
   refine⟨_,by rw [Cp,if_neg I3,hp];rfl,?_⟩;show c.id∈(Q0t e e.q.ks.length p).ks;rw [hL];simp only;split
   ·exact J3v _ (J2T.2 ⟨hk,by simpa using Aa⟩)
   ·exact hk
 ·obtain⟨c,hc,Aa,rfl⟩:=Az hx;have Bu:k∈(Q0t e e.q.ks.length c).ks:=hk;rw [hL] at Bu;simp only at Bu;have fromC:k∈c.q.ks->k≠e.id->∃d,find (Q0C N e e.q.ks.length) k=some d/\d.q.par=c.id:=fun h1 h2=>by
   obtain⟨d,hd,Eq⟩:=ok.kids c hc k h1;obtain⟨d1,d2⟩:=Q0b hd;refine⟨_,by rw [Cp,if_neg h2,hd];rfl,?_⟩;show (Q0t e e.q.ks.length d).par=c.id;rw [hL];simp only;rw [if_neg (fun h=>Aa (by rw [<- Eq];exact (JF d d1).1 h))];exact Eq
  split at Bu
  ·rename_i Gp;rcases J3o.1 Bu with Bu|Bu
   ·obtain⟨h1,h2⟩:=J2T.1 Bu;exact fromC h1 (by simpa using h2)
   ·obtain⟨d,hd,Eq⟩:=ok.kids e BU k Bu;obtain⟨d1,d2⟩:=Q0b hd;have:=ok.rise d d1;refine⟨_,by rw [Cp,if_neg (by omega),hd];rfl,?_⟩;show (Q0t e e.q.ks.length d).par=c.id;rw [hL];simp only;rw [if_pos (by rw [d2];exact Bu),Gp]
  ·refine fromC Bu fun h=>?_
   rename_i Gp;obtain⟨d,hd,Eq⟩:=ok.kids c hc k Bu;rw [h,he] at hd;cases hd;exact Gp Eq.symm
 ·obtain⟨c,hc,Aa,rfl⟩:=Az hx;show (Q0t e e.q.ks.length c).ks.Nodup;rw [hL];simp only;split
  ·rw [J3t];refine⟨(ok.nd c hc).filter _,ok.nd e BU,fun a ha b hb CI=>?_⟩;subst CI;obtain⟨d,hd,Eq⟩:=ok.kids c hc a (J2T.1 ha).1;obtain⟨d',Eo,SM⟩:=ok.kids e BU a hb;rw [hd] at Eo;cases Eo;omega
  ·exact ok.nd c hc
 ·obtain⟨c,hc,Aa,rfl⟩:=Az hx;show (Q0t e e.q.ks.length c).par<c.id;rw [hL];simp only;split
  ·rename_i h;have:=(JF c hc).1 h;have:=ok.rise c hc;omega
  ·exact ok.rise c hc
def Q0f (l:List Pl) (tb:Nat->TB) (h s:Nat):Option Ent:=match pget l 1 h with
 | some p=>if p.kind=2/\s<256 then (tb (h%256)).en s else none
 | none=>none
theorem Q3D {l:List Pl} {tb:Nat->TB} {h s:Nat} {e:Ent} (x:Q0f l tb h s=some e):∃p,pget l 1 h=some p/\p.kind=2/\s<256/\(tb (h%256)).en s=some e:=by
 unfold Q0f at x;cases hp:pget l 1 h with
 | none=>rw [hp] at x;cases x
 | some p =>
  rw [hp] at x;simp only at x;split at x
  ·rename_i hc;exact⟨p,rfl,hc.1,hc.2,x⟩
  ·cases x
theorem Q0g {l:List Pl} {tb:Nat->TB} {h s:Nat} {p:Pl} (hp:pget l 1 h=some p) (hk:p.kind=2) (hs:s<256):Q0f l tb h s=(tb (h%256)).en s:=by
 unfold Q0f;rw [hp];simp only;rw [if_pos ⟨hk,hs⟩]
structure Q6O (l:List Pl) (s:Nat) (e:Ent):Prop where
 live:∃q,pget l 1 e.h=some q/\(q.kind=8↔128<=s)
 r:1<=e.r/\e.r<=15
def Q0M (l:List Pl) (tb:Nat->TB) (n:En Nd):Option Ent:=Q0f l tb n.q.sp.toNat n.q.sl.toNat
structure FPI (l:List Pl) (tb:Nat->TB) (N:List (En Nd)):Prop where
 cap:∀h s e,Q0f l tb h s=some e->Q6O l s e
 has:∀h s e,Q0f l tb h s=some e->∃n∈N,n.q.sp=(h:Int)/\n.q.sl=(s:Int)
 is:∀n∈N,∃e,Q0M l tb n=some e
 up:∀n∈N,∀m,find N n.q.par=some m->∀e e',Q0M l tb n=some e->Q0M l tb m=some e'->e.h=e'.h/\e.r&&&e'.r=e.r
theorem Q3E {l:List Pl} {tb:Nat->TB} {h s:Nat} {p:Pl} (hp:pget l 1 h=some p) (hk:p.kind=2) (hs:s<256) {t':TB} {o:Option Ent} (ht:∀x,t'.en x=if x=s then o else (tb (h%256)).en x) (h' s':Nat) :
  Q0f l (updT tb (h%256) t') h' s'=if h'=h/\s'=s then o else Q0f l tb h' s':=by
 unfold Q0f;cases B8:pget l 1 h' with
 | none =>
  simp only;rw [if_neg];rintro⟨rfl,_⟩;rw [hp] at B8;cases B8
 | some q =>
  simp only;by_cases e:h'%256=h%256
  ·obtain⟨e1,e2,_⟩:=Q0R B8 hp e;subst e1;subst e2;rw [updT_same];by_cases hc:q.kind=2/\s'<256
   ·rw [if_pos hc,if_pos hc,ht];by_cases es:s'=s
    ·rw [if_pos es,if_pos ⟨rfl,es⟩]
    ·rw [if_neg es,if_neg (fun h=>es h.2)]
   ·rw [if_neg hc,if_neg hc,if_neg];rintro⟨_,rfl⟩;exact hc ⟨hk,hs⟩
  ·have hn:¬(h'=h/\s'=s):=fun x=>e (by rw [x.1])
   rw [Q0X e,if_neg hn]
theorem Q7o {l l':List Pl} {s:Nat} {e:Ent} (c:Q6O l s e) (h:∀q,pget l 1 e.h=some q->∃q',pget l' 1 e.h=some q'/\q'.kind=q.kind):Q6O l' s e:=by
 obtain⟨q,h1,h2⟩:=c.live;obtain⟨q',h3,h4⟩:=h q h1;exact⟨⟨q',h3,by rw [h4];exact h2⟩,c.r⟩
theorem FPI.same {l l':List Pl} {tb:Nat->TB} {N:List (En Nd)} (f:FPI l tb N) (he:∀h s,Q0f l' tb h s=Q0f l tb h s) (hl:∀h s e,Q0f l tb h s=some e->∀q,pget l 1 e.h=some q->∃q',pget l' 1 e.h=some q'/\q'.kind=q.kind):FPI l' tb N:=by
 have ho:∀n,Q0M l' tb n=Q0M l tb n:=fun n=>he _ _
 refine⟨fun h s e x=>?_,fun h s e x=>?_,fun n hn=>?_,fun n hn m hm e e' x y=>?_⟩
 ·rw [he] at x;exact Q7o (f.cap h s e x) (hl h s e x)
 ·rw [he] at x;exact f.has h s e x
 ·rw [ho];exact f.is n hn
 ·rw [ho] at x y;exact f.up n hn m hm e e' x y
theorem FPI.made {l:List Pl} {tb:Nat->TB} {N:List (En Nd)} (f:FPI l tb N) {i:Nat} {p q:Pl} (hi:l[i]?=some p) (hp:p.st=0) (hn:(tb i).Nil):FPI (l.set i q) tb N:=by
 have DI:∀x r,pget l 1 x=some r->pget (l.set i q) 1 x=some r:=fun x r hr=>by
  obtain⟨a,b,c⟩:=pget_some.1 hr;rw [Q0B q hi,if_neg]
  ·exact hr
  ·intro e;rw [e,hi] at a;cases a;omega
 refine f.same (fun h s=>?_) (fun h s e x r hr=>⟨r,DI _ _ hr,rfl⟩);by_cases e:h%256=i
 ·have z:∀l',Q0f l' tb h s=none:=fun l'=>by
   unfold Q0f;split
   ·split
    ·rename_i hc;rw [e];exact hn.2 s hc.2
    ·rfl
   ·rfl
  rw [z,z]
 ·unfold Q0f;rw [Q0B q hi,if_neg e]
theorem FPI.doomed {l:List Pl} {tb:Nat->TB} {N:List (En Nd)} (f:FPI l tb N) {h:Nat} {p:Pl} (hp:pget l 1 h=some p) (hn:(tb (h%256)).Nil) (Aq:∀h' s e,Q0f l tb h' s=some e->e.h≠h):FPI (l.set (h%256) {p with st:=2}) tb N:=by
 obtain⟨hi,JA,_⟩:=pget_some.1 hp;refine f.same (fun h' s=>?_) (fun h' s e x r hr=>⟨r,?_,rfl⟩)
 ·by_cases e:h'%256=h%256
  ·have z:∀l',Q0f l' tb h' s=none:=fun l'=>by
    unfold Q0f;split
    ·split
     ·rename_i hc;rw [e];exact hn.2 s hc.2
     ·rfl
    ·rfl
   rw [z,z]
  ·unfold Q0f;rw [Q0B _ hi,if_neg e]
 ·have Aa:=Aq h' s e x;rw [Q0B _ hi,if_neg]
  ·exact hr
  ·intro e1;exact Aa (Q0R hr hp e1).1
theorem FPI.live {l l':List Pl} {tb:Nat->TB} {N:List (En Nd)} (f:FPI l tb N) (h:∀x,pget l' 1 x=pget l 1 x):FPI l' tb N:=
 f.same (fun h' s=>by unfold Q0f;rw [h]) (fun _ _ e _ q hq=>⟨q,by rw [h];exact hq,rfl⟩)
section
variable {l:List Pl} {tb:Nat->TB} {N:List (En Nd)} {next:Int} {h s:Nat} {p:Pl}
theorem Q4C {par sp sl:Int} {b:Nat} (ok:NOk N next) (id:Int):find (addN N par (next+1) b sp sl) id=if id=next+1 then some ⟨next+1,b,⟨sp,sl,par,[]⟩⟩ else (find N id).map fun c=>{c with q:=if c.id=par then {c.q with ks:=c.q.ks++[next+1]} else c.q}:=by
 have Ck:find N (next+1)=none:=by
  cases hf:find N (next+1) with
  | none=>rfl
  | some e =>
   obtain⟨e1,e2⟩:=Q0b hf;have:=ok.rng e e1;omega
 unfold addN;rw [Q8b,Q1q];by_cases h:id=next+1
 ·subst h;rw [Ck];simp
 ·cases hf:find N id with
  | none=>simp [h]
  | some e=>simp [h]
theorem Z2J {l:List Pl} {tb:Nat->TB} (n m:En Nd) (h1:n.q.sp=m.q.sp) (h2:n.q.sl=m.q.sl):Q0M l tb n=Q0M l tb m:=by unfold Q0M;rw [h1,h2]
theorem Z5I (e:En Nd) (par k:Int):(if e.id=par then ({e.q with ks:=e.q.ks++[k]}:Nd) else e.q).sp=e.q.sp/\(if e.id=par then ({e.q with ks:=e.q.ks++[k]}:Nd) else e.q).sl=e.q.sl/\(if e.id=par then ({e.q with ks:=e.q.ks++[k]}:Nd) else e.q).par=e.q.par:=by
 split <;> exact⟨rfl,rfl,rfl⟩
theorem FPI.add (f:FPI l tb N) (ok:NOk N next) (hp:pget l 1 h=some p) (hk:p.kind=2) (hs:s<256) (h0:Q0f l tb h s=none) {t':TB} {e:Ent} (ht:∀x,t'.en x=if x=s then some e else (tb (h%256)).en x) (hc:Q6O l s e) {par:Int} (b:Nat)
  (Bg:par=0∨∃m em,find N par=some m/\Q0M l tb m=some em/\e.h=em.h/\e.r&&&em.r=e.r):FPI l (updT tb (h%256) t') (addN N par (next+1) b (h:Int) (s:Int)):=by
 have ha:=Q3E hp hk hs ht;have Aa:∀n∈N,¬(n.q.sp.toNat=h/\n.q.sl.toNat=s):=fun n hn ⟨h1,h2⟩=>by
  obtain⟨e1,Fu⟩:=f.is n hn;unfold Q0M at Fu;rw [h1,h2,h0] at Fu;cases Fu
 have BX:∀n∈N,Q0M l (updT tb (h%256) t') n=Q0M l tb n:=fun n hn=>by
  unfold Q0M;rw [ha,if_neg (Aa n hn)]
 have Az:∀{x},x∈addN N par (next+1) b (h:Int) (s:Int)->(∃n∈N,x={n with q:=if n.id=par then {n.q with ks:=n.q.ks++[next+1]} else n.q})∨x=⟨next+1,b,⟨(h:Int),(s:Int),par,[]⟩⟩:=fun {x} hx=>by
  rcases J3o.1 hx with hx|hx
  ·exact .inl (Q1r hx)
  ·exact .inr (J4H.1 hx)
 have Ni:∀n∈N,Q0M l (updT tb (h%256) t') {n with q:=if n.id=par then {n.q with ks:=n.q.ks++[next+1]} else n.q}=Q0M l tb n:=fun n hn=>by
  rw [<- BX n hn];obtain⟨q1,q2,_⟩:=Z5I n par (next+1);exact Z2J _ _ q1 q2
 have Ck:Q0M l (updT tb (h%256) t') ⟨next+1,b,⟨(h:Int),(s:Int),par,[]⟩⟩=some e:=by
  unfold Q0M;rw [ha,if_pos ⟨by simp,by simp⟩]
 refine⟨fun h' s' x hx=>?_,fun h' s' x hx=>?_,fun n hn=>?_,fun n hn m hm x y hx hy=>?_⟩
 ·rw [ha] at hx;split at hx
  ·rename_i Bd;cases hx;rw [Bd.2];exact hc
  ·exact f.cap h' s' x hx
 ·rw [ha] at hx;split at hx
  ·rename_i Bd;exact⟨_,J3u _ (J4H.2 rfl),by rw [Bd.1],by rw [Bd.2]⟩
  ·obtain⟨n,hn,h1,h2⟩:=f.has h' s' x hx;obtain⟨q1,q2,_⟩:=Z5I n par (next+1);exact⟨_,J3v _ (J2E.2 ⟨n,hn,rfl⟩),q1.trans h1,q2.trans h2⟩
 ·rcases Az hn with ⟨c,Bd,rfl⟩|rfl
  ·rw [Ni c Bd];exact f.is c Bd
  ·exact⟨e,Ck⟩
 ·-- the parent,in the old row
  have old:∀c,find N c.id=some c->∀m,find (addN N par (next+1) b (h:Int) (s:Int)) c.q.par=some m->find N c.q.par=none->False:=fun c LY m hm El=>by
   rw [Q4C ok] at hm;split at hm
   ·rename_i e1;obtain⟨c1,_⟩:=Q0b LY;have:=ok.rise c c1;have:=ok.rng c c1;omega
   ·rw [El] at hm;cases hm
  rcases Az hn with ⟨c,Bd,rfl⟩|rfl
  ·obtain⟨_,_,q3⟩:=Z5I c par (next+1);have Cd:find (addN N par (next+1) b (h:Int) (s:Int)) c.q.par=some m:=by rw [<- q3];exact hm
   rw [Ni c Bd] at hx;have RJ:=ok.rng c Bd;have Bt:=ok.rise c Bd;rw [Q4C ok,if_neg (by omega)] at Cd;obtain⟨m0,EX,rfl⟩:=J6x.1 Cd;rw [Ni m0 (Q0b EX).1] at hy;exact f.up c Bd m0 EX x y hx hy
  ·rw [Ck] at hx;cases hx;have Cd:find (addN N par (next+1) b (h:Int) (s:Int)) par=some m:=hm;rcases Bg with rfl|⟨m1,em,g1,g2,g3,g4⟩
   ·rw [Q4C ok,if_neg (by have:=ok.next0;omega),ok.zero] at Cd;cases Cd
   ·have:=ok.rng m1 (Q0b g1).1;have e2:=(Q0b g1).2;rw [Q4C ok,if_neg (by omega),g1] at Cd;cases Cd;rw [Ni m1 (Q0b g1).1,g2] at hy;cases hy;exact⟨g3,g4⟩
theorem FPI.weak (f:FPI l tb N) (ok:NOk N next) (hp:pget l 1 h=some p) (hk:p.kind=2) (hs:s<256) {e e2:Ent} (h0:Q0f l tb h s=some e) {t':TB} (ht:∀x,t'.en x=if x=s then some e2 else (tb (h%256)).en x) (hh:e2.h=e.h) (hr:1<=e2.r/\e2.r<=15) (BG:e2.r&&&e.r=e2.r)
  (Dt:∀n∈N,∀m,find N n.q.par=some m->m.q.sp=(h:Int)->m.q.sl=(s:Int)->∀x,Q0M l tb n=some x->x.r&&&e2.r=x.r):FPI l (updT tb (h%256) t') N:=by
 have ha:=Q3E hp hk hs ht;have spot:∀n∈N,n.q.sp.toNat=h->n.q.sl.toNat=s->n.q.sp=(h:Int)/\n.q.sl=(s:Int):=fun n hn h1 h2=>by
  have:=ok.sm n hn;omega
 refine⟨fun h' s' x hx=>?_,fun h' s' x hx=>?_,fun n hn=>?_,fun n hn m hm x y hx hy=>?_⟩
 ·rw [ha] at hx;split at hx
  ·rename_i Bd;cases hx;have:=f.cap h s e h0;rw [Bd.2];exact⟨by rw [hh];exact this.live,hr⟩
  ·exact f.cap h' s' x hx
 ·rw [ha] at hx;split at hx
  ·rename_i Bd;rw [Bd.1,Bd.2];exact f.has h s e h0
  ·exact f.has h' s' x hx
 ·unfold Q0M;rw [ha];split
  ·exact⟨e2,rfl⟩
  ·exact f.is n hn
 ·unfold Q0M at hx hy;rw [ha] at hx hy;split at hx
  ·rename_i c1;cases hx;split at hy
   ·rename_i c2
    -- a node of its own parent: the same spot
    exfalso;obtain⟨n1,n2⟩:=spot n hn c1.1 c1.2;obtain⟨m1,m2⟩:=spot m (Q0b hm).1 c2.1 c2.2;have i1:=Q4d ok hn (Q0b hm).1 (n1.trans m1.symm) (n2.trans m2.symm);have:=ok.rise n hn;have:=(Q0b hm).2;subst i1;omega
   ·obtain⟨q1,q2⟩:=f.up n hn m hm e y (by unfold Q0M;rw [c1.1,c1.2];exact h0) (by unfold Q0M;exact hy);refine⟨hh.trans q1,?_⟩;rw [<- BG,Nat.and_assoc,q2]
  ·split at hy
   ·rename_i c2;cases hy;obtain⟨q1,q2⟩:=f.up n hn m hm x e (by unfold Q0M;exact hx) (by unfold Q0M;rw [c2.1,c2.2];exact h0);obtain⟨m1,m2⟩:=spot m (Q0b hm).1 c2.1 c2.2;exact⟨q1.trans hh.symm,Dt n hn m hm m1 m2 x (by unfold Q0M;exact hx)⟩
   ·exact f.up n hn m hm x y (by unfold Q0M;exact hx) (by unfold Q0M;exact hy)
theorem FPI.lift (f:FPI l tb N) (ok:NOk N next) (hp:pget l 1 h=some p) (hk:p.kind=2) (hs:s<256) {t':TB} (ht:∀x,t'.en x=if x=s then none else (tb (h%256)).en x) {e:En Nd} (he:find N e.id=some e) (h1:e.q.sp=(h:Int)) (h2:e.q.sl=(s:Int)):FPI l (updT tb (h%256) t') (Q0C N e e.q.ks.length):=by
 have ha:=Q3E hp hk hs ht;have BU:=(Q0b he).1;have AR:e.q.ks.take e.q.ks.length=e.q.ks:=J6J;have Ki:∀c,(Q0t e e.q.ks.length c).sp=c.q.sp/\(Q0t e e.q.ks.length c).sl=c.q.sl:=fun c=>⟨rfl,rfl⟩
 have Az:∀{x},x∈Q0C N e e.q.ks.length->∃c∈N,c.id≠e.id/\x={c with q:=Q0t e e.q.ks.length c}:=fun {x} hx=>by
  obtain⟨c,hc,rfl⟩:=Q1r hx;obtain⟨g1,g2⟩:=(Q2C ok.ids e.id c).1 hc;exact⟨c,g1,g2,rfl⟩
 have Aa:∀c∈N,c.id≠e.id->¬(c.q.sp.toNat=h/\c.q.sl.toNat=s):=fun c hc hid ⟨g1,g2⟩=>by
  have:=ok.sm c hc;have:=Q4d ok hc BU (by omega) (by omega);subst this;exact hid rfl
 have BX:∀c∈N,c.id≠e.id->Q0M l (updT tb (h%256) t') {c with q:=Q0t e e.q.ks.length c}=Q0M l tb c:=fun c hc hid=>by
  unfold Q0M;show Q0f l _ c.q.sp.toNat c.q.sl.toNat=_;rw [ha,if_neg (Aa c hc hid)]
 refine⟨fun h' s' x hx=>?_,fun h' s' x hx=>?_,fun n hn=>?_,fun n hn m hm x y hx hy=>?_⟩
 ·rw [ha] at hx;split at hx
  ·cases hx
  ·exact f.cap h' s' x hx
 ·rw [ha] at hx;split at hx
  ·cases hx
  ·rename_i Bd;obtain⟨n,hn,g1,g2⟩:=f.has h' s' x hx;have hid:n.id≠e.id:=fun e1=>by
    rw [e1.symm,Q0l ok.ids hn] at he;cases he;exact Bd ⟨by omega,by omega⟩
   exact⟨_,J2E.2 ⟨n,(Q2C ok.ids e.id n).2 ⟨hn,hid⟩,rfl⟩,g1,g2⟩
 ·obtain⟨c,hc,hid,rfl⟩:=Az hn;rw [BX c hc hid];exact f.is c hc
 ·obtain⟨c,hc,hid,rfl⟩:=Az hn;rw [BX c hc hid] at hx;have Cd:find (Q0C N e e.q.ks.length) (Q0t e e.q.ks.length c).par=some m:=hm;unfold Q0C at Cd;rw [Q1q,ok.rem_find] at Cd;split at Cd
  ·cases Cd
  ·rename_i I3;obtain⟨m0,EX,rfl⟩:=J6x.1 Cd;have Po:=(Q0b EX).1;have EC:m0.id≠e.id:=by rw [(Q0b EX).2];exact I3
   rw [BX m0 Po EC] at hy;have Bg:(Q0t e e.q.ks.length c).par=if c.id∈e.q.ks then e.q.par else c.q.par:=by unfold Q0t;rw [AR]
   rw [Bg] at EX;by_cases FC:c.id∈e.q.ks
   ·rw [if_pos FC] at EX;obtain⟨d,hd,Eq⟩:=ok.kids e BU c.id FC;rw [Q0l ok.ids hc] at hd;cases hd;obtain⟨z,hz⟩:=f.is e BU;obtain⟨a1,a2⟩:=f.up c hc e (by rw [Eq];exact he) x z hx hz;obtain⟨b1,b2⟩:=f.up e BU m0 EX z y hz hy;refine⟨a1.trans b1,?_⟩;rw [<- a2,Nat.and_assoc,b2]
   ·rw [if_neg FC] at EX;exact f.up c hc m0 EX x y hx hy
end
def Ent.c (e:Ent):Nat×Nat:=(e.h,e.r)
structure AV where
 en:Nat->Nat->Option (Nat×Nat)
 N:List (En Nd)
def avOf (l:List Pl) (tb:Nat->TB) (N:List (En Nd)):AV:=⟨fun h s=>(Q0f l tb h s).map Ent.c,N⟩
def setA (en:Nat->Nat->Option (Nat×Nat)) (h s:Nat) (o:Option (Nat×Nat)):Nat->Nat->Option (Nat×Nat):=fun h' s'=>if h'=h/\s'=s then o else en h' s'
theorem Q8T (en:Nat->Nat->Option (Nat×Nat)) (h s:Nat) (o:Option (Nat×Nat)):setA en h s o h s=o:=by unfold setA;rw [if_pos ⟨rfl,rfl⟩]
theorem Q5c {en:Nat->Nat->Option (Nat×Nat)} {h s h' s':Nat} {o:Option (Nat×Nat)} (Aa:¬(h'=h/\s'=s)):setA en h s o h' s'=en h' s':=by unfold setA;rw [if_neg Aa]
def less (r m:Nat):Nat:=r-(r&&&m)
theorem Q5E:∀r,r<16->∀m,m<16->less r m&&&m=0/\less r m&&&r=less r m/\less r m<=r:=by decide
theorem Q4D:∀r,r<16->less r 15=0:=by decide
theorem Z8k:∀x,x<16->∀r,r<16->∀m,m<16->x&&&r=x->x&&&m=0->x&&&less r m=x:=by decide
def weak1 (m:Nat) (a:AV) (id:Int):AV×Bool:=match find a.N id with
 | none=>(a,false)
 | some n=>match a.en n.q.sp.toNat n.q.sl.toNat with
  | none=>(a,false)
  | some c=>if less c.2 m=0 then (⟨setA a.en n.q.sp.toNat n.q.sl.toNat none,Q0C a.N n n.q.ks.length⟩,true) else (⟨setA a.en n.q.sp.toNat n.q.sl.toNat (some (c.1,less c.2 m)),a.N⟩,false)
def Q0N (m:Nat):AV->List Int->AV×Nat
 | a,[]=>(a,0)
 | a,id::r=>((Q0N m (weak1 m a id).1 r).1,(if (weak1 m a id).2=true then 1 else 0)+(Q0N m (weak1 m a id).1 r).2)
theorem weakA_snoc (m:Nat):∀(l:List Int) (a:AV) (id:Int),Q0N m a (l++[id])=((weak1 m (Q0N m a l).1 id).1,(Q0N m a l).2+if (weak1 m (Q0N m a l).1 id).2=true then 1 else 0)
 | [],a,id=>by
  show ((weak1 m a id).1,(if (weak1 m a id).2=true then 1 else 0)+0)=((weak1 m a id).1,0+if (weak1 m a id).2=true then 1 else 0);rw [J5e,J2H]
 | x::r,a,id=>by
  rw [J4L];unfold Q0N;rw [weakA_snoc m r (weak1 m a x).1 id];simp only [J4a]
theorem Q5F (m:Nat):∀(l:List Int) (a:AV),(Q0N m a l).2<=l.length
 | [],a=>J2y _
 | x::r,a=>by
  have:=Q5F m r (weak1 m a x).1;show (if (weak1 m a x).2=true then 1 else 0)+(Q0N m (weak1 m a x).1 r).2<=r.length+1;split <;> omega
def Q3F (m:Nat) (a:AV) (A:List Int) (id:Int):Prop:=∀e,find a.N id=some e->∀c∈e.q.ks,c∈A∨∀n,find a.N c=some n->∀x,a.en n.q.sp.toNat n.q.sl.toNat=some x->x.2&&&m=0
def WeakOk (m:Nat) (a:AV) (l:List Int):Prop:=m=15∨∀A id B,l=A++id::B->Q3F m a A id
theorem Q7p (a:AV) (l:List Int):WeakOk 15 a l:=.inl rfl
theorem Q3G {N:List (En Nd)} {next:Int} (ok:NOk N next) (e:En Nd) (id:Int):find (Q0C N e e.q.ks.length) id=if id=e.id then none else (find N id).map fun c=>{c with q:=Q0t e e.q.ks.length c}:=by
 unfold Q0C;rw [Q1q,ok.rem_find];split <;> rfl
theorem Q1E (e c:En Nd):Q0t e e.q.ks.length c={c.q with par:=if c.id∈e.q.ks then e.q.par else c.q.par,ks:=if c.id=e.q.par then c.q.ks.filter (fun k=>decide (k≠e.id))++e.q.ks else c.q.ks}:=by
 unfold Q0t;rw [J6J]
theorem Z0v {N:List (En Nd)} {next:Int} (ok:NOk N next) {a b:En Nd} (ha:a∈N) (hb:b∈N) (Aa:a.id≠b.id):¬(a.q.sp.toNat=b.q.sp.toNat/\a.q.sl.toNat=b.q.sl.toNat):=fun h=>by
 have h1:=ok.sm a ha;have h2:=ok.sm b hb;exact Aa (by rw [Q4d ok ha hb (by omega) (by omega)])
theorem WeakOk.step {m:Nat} {a:AV} {next:Int} (ok:NOk a.N next) (hr:∀h s x,a.en h s=some x->x.2<16) (hm:m<16) {id:Int} {l:List Int} (h:WeakOk m a (id::l)):WeakOk m (weak1 m a id).1 l:=by
 rcases h with h|h
 ·exact .inl h
 refine .inr fun A x B hl=>?_
 have h0:=h [] id l rfl;have h1:=h (id::A) x B (by rw [hl];rfl);unfold weak1;cases hf:find a.N id with
 | none =>
  simp only;intro e he c hc;rcases h1 e he c hc with hx|hx
  ·rcases J2D.1 hx with rfl|hx
   ·exact .inr fun n hn=>by rw [hf] at hn;cases hn
   ·exact .inl hx
  ·exact .inr hx
 | some d =>
  simp only;obtain⟨hd,If⟩:=Q0b hf;cases DB:a.en d.q.sp.toNat d.q.sl.toNat with
  | none =>
   simp only;intro e he c hc;rcases h1 e he c hc with hx|hx
   ·rcases J2D.1 hx with rfl|hx
    ·exact .inr fun n hn=>by rw [hf] at hn;cases hn;intro y hy;rw [DB] at hy;cases hy
    ·exact .inl hx
   ·exact .inr hx
  | some y =>
   simp only;have hy:=hr _ _ _ DB;split
   ·-- lifted
    have Uu:find a.N d.id=some d:=by rw [If];exact hf
    have old:∀c n',find (Q0C a.N d d.q.ks.length) c=some n'->∃n,find a.N c=some n/\n∈a.N/\n.id≠d.id/\n'.q.sp=n.q.sp/\n'.q.sl=n.q.sl:=fun c n' Dj=>by
     rw [Q3G ok] at Dj;split at Dj
     ·cases Dj
     ·rename_i DL;cases hn:find a.N c with
      | none=>rw [hn] at Dj;cases Dj
      | some n =>
       rw [hn] at Dj;simp only [J4o,J2N] at Dj;subst Dj;obtain⟨n1,n2⟩:=Q0b hn;exact⟨n,rfl,n1,by rw [n2];exact DL,by rw [Q1E],by rw [Q1E]⟩
    have good:∀c,(∀n,find a.N c=some n->∀z,a.en n.q.sp.toNat n.q.sl.toNat=some z->z.2&&&m=0)->∀n',find (Q0C a.N d d.q.ks.length) c=some n'->∀z,setA a.en d.q.sp.toNat d.q.sl.toNat none n'.q.sp.toNat n'.q.sl.toNat=some z->z.2&&&m=0:=fun c hc n' Dj z hz=>by
     obtain⟨n,n1,n2,n3,n4,n5⟩:=old c n' Dj;rw [n4,n5,Q5c (Z0v ok n2 hd n3)] at hz;exact hc n n1 z hz
    intro e' AM c hc;have Fz:find (Q0C a.N d d.q.ks.length) x=some e':=AM;rw [Q3G ok] at Fz;split at Fz
    ·cases Fz
    ·rename_i VC;cases Ka:find a.N x with
     | none=>rw [Ka] at Fz;cases Fz
     | some e =>
      rw [Ka] at Fz;simp only [J4o,J2N] at Fz;subst Fz;have Bd:c∈(Q0t d d.q.ks.length e).ks:=hc;rw [Q1E] at Bd;simp only at Bd;obtain⟨e1,e2⟩:=Q0b Ka;have fromOld:c∈e.q.ks->c≠d.id->c∈A∨∀n',find (Q0C a.N d d.q.ks.length) c=some n'->∀z,setA a.en d.q.sp.toNat d.q.sl.toNat none n'.q.sp.toNat n'.q.sl.toNat=some z->z.2&&&m=0:=fun k1 k2=>by
       rcases h1 e Ka c k1 with hx|hx
       ·rcases J2D.1 hx with h|hx
        ·exact absurd (h.trans If.symm) k2
        ·exact .inl hx
       ·exact .inr (good c hx)
      split at Bd
      ·rcases J3o.1 Bd with Bd|Bd
       ·obtain⟨k1,k2⟩:=J2T.1 Bd;exact fromOld k1 (by simpa using k2)
       ·rcases h0 d hf c Bd with hx|hx
        ·cases hx
        ·exact .inr (good c hx)
      ·rename_i Bg;refine fromOld Bd fun k=>?_
       obtain⟨k1,k2,k3⟩:=ok.kids e e1 c Bd;rw [k,Uu] at k2;cases k2;exact Bg k3.symm
   ·-- weakened
    intro e he c hc;have Fz:find a.N x=some e:=he;have AX:∀n,n∈a.N->n.id≠d.id->setA a.en d.q.sp.toNat d.q.sl.toNat (some (y.1,less y.2 m)) n.q.sp.toNat n.q.sl.toNat=a.en n.q.sp.toNat n.q.sl.toNat:=fun n n1 n2=>Q5c (Z0v ok n1 hd n2)
    by_cases DL:c=id
    ·refine .inr fun n hn z hz=>?_
     have FT:find a.N c=some n:=hn;rw [DL,hf] at FT;cases FT;have Be:setA a.en d.q.sp.toNat d.q.sl.toNat (some (y.1,less y.2 m)) d.q.sp.toNat d.q.sl.toNat=some z:=hz;rw [Q8T] at Be;cases Be;exact (Q5E y.2 hy m hm).1
    ·rcases h1 e Fz c hc with hx|hx
     ·rcases J2D.1 hx with h|hx
      ·exact absurd h DL
      ·exact .inl hx
     ·refine .inr fun n hn z hz=>?_
      have FT:find a.N c=some n:=hn;obtain⟨n1,n2⟩:=Q0b FT;have Be:setA a.en d.q.sp.toNat d.q.sl.toNat (some (y.1,less y.2 m)) n.q.sp.toNat n.q.sl.toNat=some z:=hz;rw [AX n n1 (by rw [n2,If];exact DL)] at Be;exact hx n FT z Be
theorem Q8U {m:Nat} {a:AV} {next:Int} (ok:NOk a.N next) (id:Int) (self:Bool):WeakOk m a (Q0H (kdF a.N) (rkF next) id++if self=true then [id] else []):=by
 refine .inr fun A x B hl e he c hc=>.inl ?_
 have t:=ok.tree;have hk:c∈kdF a.N x:=by unfold kdF;rw [he];exact hc
 have GD:c≠x:=fun h=>by
  have:=t.dn x c hk;rw [h] at this;omega
 have Cf:Dn (kdF a.N) id x->c∈Q0H (kdF a.N) (rkF next) id:=fun hd=>by
  refine (Q7n t).2 ⟨hd.trans (.down x c c hk (.here c)),fun h=>?_⟩;have h1:=(Dn.rank t hd).1;have h2:=t.dn x c hk;rw [h] at h2;omega
 have hp:=Z2H t id;rcases List.append_eq_append_iff.1 hl with ⟨C,e1,e2⟩|⟨C,e1,e2⟩
 ·-- x is the last
  cases C with
  | nil =>
   rw [J4K] at e2;rw [J4G] at e1;cases self with
   | false=>rw [if_neg (by decide)] at e2;cases e2
   | true =>
    rw [if_pos rfl] at e2
    injection e2 with e2 e3
    subst e2;rw [e1];exact Cf (.here _)
  | cons y C =>
   cases self with
   | false=>rw [if_neg (by decide)] at e2;simp at e2
   | true=>rw [if_pos rfl] at e2;simp at e2
 ·-- x is below
  cases C with
  | nil =>
   rw [J4G] at e1;rw [J4K] at e2;cases self with
   | false=>rw [if_neg (by decide)] at e2;cases e2
   | true =>
    rw [if_pos rfl] at e2
    injection e2 with e2 e3
    subst e2;rw [<- e1];exact Cf (.here _)
  | cons y C =>
   rw [J4L] at e2
   injection e2 with e2 e3
   subst e2;have hx:x∈Q0H (kdF a.N) (rkF next) id:=by rw [e1];simp
   have E8:=Cf ((Q7n t).1 hx).1;rw [e1] at E8;rcases J3o.1 E8 with h|h
   ·exact h
   ·rcases J2D.1 h with h|h
    ·exact absurd h GD
    ·rw [e1] at hp;have:=((J3n.1 hp).2.1)
     have:=(J3a.1 this).1 c h;exact absurd (.down x c c hk (.here c)) this.2
theorem Z0w {S:CO} {fr:List Nat} {N K:Nat} (ok:S.Ok fr N K) {i j:Nat} {p r:Pl} (hi:S.l[i]?=some p) (hj:S.l[j]?=some r) (FE:i≠j) (hp:p.st=1) (hr:r.st=1):p.at_+costK p.kind<=r.at_∨r.at_+costK r.kind<=p.at_:=by
 have m:=ok.inv.mem;have Cn:p.is=true:=Pl.is_iff.2 (.inl hp);have KK:r.is=true:=Pl.is_iff.2 (.inl hr);have BF:=J4O hi;have NG:=J4O hj;by_cases IW:p.kind=8
 ·obtain⟨g,hg,eg⟩:=m.frame BF Cn IW;by_cases Hg:r.kind=8
  ·obtain⟨g',FZ,eg'⟩:=m.frame NG KK Hg;have AG:(Q2b S.l 8).Nodup:=by
    refine m.frs.nodup_iff.2 ?_;unfold List.Nodup;rw [J3e];exact (Q4v m.pool).1.imp fun h e=>h (by omega)
   have:g≠g':=fun e=>FE (Z0o (atsF 8) AG hi hj (b:=p.at_) (by rw [<- IW];exact Q1a Cn) (by rw [<- Hg,Q1a KK,eg',<- e,eg]))
   rw [IW,Hg,costK_8];omega
  ·have:=Q2z m.pool hg (m.used NG KK Hg);rw [IW,costK_8,Q1R Hg];omega
 ·have hu:=m.used BF Cn IW;by_cases Hg:r.kind=8
  ·obtain⟨g',FZ,eg'⟩:=m.frame NG KK Hg;have:=Q2z m.pool FZ hu;rw [Hg,costK_8,Q1R IW];omega
  ·have hv:=m.used NG KK Hg;rw [Q1R IW,Q1R Hg];refine Q3z m.pool hu hv fun e=>?_
   obtain⟨k1,k5⟩:=(m.kind p BF Cn).resolve_left IW;exact FE (Z0o (atsF p.kind) (m.at_nd p.kind k1 k5) hi hj (b:=p.at_) (Q1a Cn) (by rw [e.1,Q1a KK,e.2]))
theorem bytes8_len (x:Nat):(Q0d x).length=8:=rfl
theorem Q1l (x y:Nat):(Q0d x++Q0d y).length=16:=rfl
theorem Q3h (x:Nat):∀y∈Q0d x,y<256:=by
 intro y hy;unfold Q0d at hy;simp only [J2D,J2V,or_false] at hy;omega
theorem Q8V {m bs:List Nat} {a:Nat} (h:∀b∈m,b<256) (hb:∀b∈bs,b<256):∀b∈put_ m a bs,b<256:=by
 intro y hy;unfold put_ at hy;simp only [J3o] at hy;rcases hy with (hy|hy)|hy
 ·exact h y (J5V hy)
 ·exact hb y hy
 ·exact h y (J5d hy)
def Q4e (m m':List Nat) (a n:Nat):Prop:=∀b k,b+k<=a∨a+n<=b->Kept m m' b k
theorem Q6i {m bs:List Nat} {a:Nat} (hl:a+bs.length<=m.length):Q4e m (put_ m a bs) a bs.length:=fun _ _ h=>Q1D hl h
theorem Z2K {m:List Nat} {a x:Nat} (hl:a+8<=m.length) (hx:x<18446744073709551616):Q0u (put_ m a (Q0d x)) a=x:=by
 unfold Q0u;have:((put_ m a (Q0d x)).drop a).take 8=Q0d x:=by
  apply J4i
  intro i;rw [J4D];split
  ·rw [J5c];exact Q7i (by rw [bytes8_len];exact hl) (by rw [bytes8_len];assumption)
  ·rw [J4p (by rw [bytes8_len];omega)]
 rw [this];exact Q3x x hx
theorem Z2L {m:List Nat} {a x y:Nat} (hl:a+16<=m.length) (hx:x<18446744073709551616) (hy:y<18446744073709551616):Q0u (put_ m a (Q0d x++Q0d y)) a=x/\Q0u (put_ m a (Q0d x++Q0d y)) (a+8)=y:=by
 have h1:((put_ m a (Q0d x++Q0d y)).drop a).take 8=Q0d x:=by
  apply J4i
  intro i;rw [J4D];split
  ·rename_i hi;rw [J5c,Q7i (by rw [Q1l];exact hl) (by rw [Q1l];omega),J5N (by rw [bytes8_len];exact hi)]
  ·rw [J4p (by rw [bytes8_len];omega)]
 have h2:((put_ m a (Q0d x++Q0d y)).drop (a+8)).take 8=Q0d y:=by
  apply J4i
  intro i;rw [J4D];split
  ·rename_i hi;rw [J5c,J4a,Q7i (by rw [Q1l];exact hl) (by rw [Q1l];omega),J5O (by rw [bytes8_len];omega),bytes8_len,show 8+i-8=i by omega]
  ·rw [J4p (by rw [bytes8_len];omega)]
 unfold Q0u;rw [h1,h2];exact⟨Q3x x hx,Q3x y hy⟩
section
variable {S:CO} {fr:List Nat} {N K:Nat} {tb:Nat->TB} {own:Int} {xl xn:List Nat}
theorem Q4E (ok:S.Ok fr N K) {j a b n:Nat} {m:List Nat} (ha:a∈S.P.usedOf j) (h1:a<=b) (h2:b+n<=a+Q0c j) (hk:Q4e S.P.a.mem m b n) {j' a':Nat} (FN:a'∈S.P.usedOf j') (Aa:¬(j=j'/\a=a')):Kept S.P.a.mem m a' (Q0c j'):=by
 have:=Q3z ok.inv.mem.pool ha FN Aa;exact hk _ _ (by omega)
theorem TPX.leaf_ne (ok:S.Ok fr N K) (t:TPX S tb own xl xn) {i j k k':Nat} (hi:i<256) (hj:j<256) (hk:k<16) (Bu:k'<16) (h:(tb i).lf k≠0) (h':(tb j).lf k'≠0) (Aa:¬(i=j/\k=k')):(tb i).lf k≠(tb j).lf k':=by
 have AG:(xl++Q3e tb).Nodup:=t.lvs.nodup_iff.2 ((Q2a ok.inv.mem.pool 7).imp fun h=>Nat.ne_of_lt h);have AG:=(J3t.1 AG).2.1;unfold Q3e List.Nodup at AG;rw [J3b] at AG;obtain⟨n1,n2⟩:=AG;by_cases e:i=j
 ·subst e;have Nh:k≠k':=fun e=>Aa ⟨rfl,e⟩
  have:=n1 i (J2P.2 hi);unfold TB.lvs at this;rw [J2R] at this;rcases J5i k k' with Ab|Kr
  ·have:=J5C.1 this k k' (by simpa using hk) (by simpa using Bu) Ab;simp only [J6K] at this;exact this _ (by rw [if_neg h]) _ (by rw [if_neg h'])
  ·have:=J5C.1 this k' k (by simpa using Bu) (by simpa using hk) (by omega);simp only [J6K] at this;exact (this _ (by rw [if_neg h']) _ (by rw [if_neg h])).symm
 ·rcases J5i i j with Ab|Kr
  ·have:=J5C.1 n2 i j (by simpa using hi) (by simpa using hj) Ab;simp only [J6K] at this;exact this _ (mem_lvs.2 ⟨k,hk,rfl,h⟩) _ (mem_lvs.2 ⟨k',Bu,rfl,h'⟩)
  ·have:=J5C.1 n2 j i (by simpa using hj) (by simpa using hi) (by omega);simp only [J6K] at this;exact (this _ (mem_lvs.2 ⟨k',Bu,rfl,h'⟩) _ (mem_lvs.2 ⟨k,hk,rfl,h⟩)).symm
theorem TPX.entry (ok:S.Ok fr N K) (t:TPX S tb own xl xn) {i s:Nat} {p:Pl} (hi:S.l[i]?=some p) (h1:p.st=1) (h2:p.kind=2) (Ah:(p.fac:Int)=own) (hs:s<256) (hl:(tb i).lf (s/16)≠0) {o:Option Ent} {xn':List Nat} {m:List Nat} (Ae:m.length=S.P.a.mem.length) (hb:∀b∈m,b<256)
  (hk:Q4e S.P.a.mem m ((tb i).lf (s/16)+16*(s%16)) 16) (ha:Q0u m ((tb i).lf (s/16)+16*(s%16))=Q0s o) (Ag:Q0u m ((tb i).lf (s/16)+16*(s%16)+8)=Q0W o) (hn:(xn'++((tb i).setE s o).nds).Perm (xn++(tb i).nds)) :
  (S.setP (S.P.setA m)).Ok fr N K/\TPX (S.setP (S.P.setA m)) (updT tb i ((tb i).setE s o)) own xl xn':=by
 have Am:=Q1p ok.inv.len hi;have hL:=t.leaf Am (by omega:s/16<16) hl;have CM:(tb i).lf (s/16)<=(tb i).lf (s/16)+16*(s%16)/\(tb i).lf (s/16)+16*(s%16)+16<=(tb i).lf (s/16)+Q0c 7:=by rw [Q2O];omega
 have Bn:∀{j' a':Nat},a'∈S.P.usedOf j'->¬(7=j'/\(tb i).lf (s/16)=a')->Kept S.P.a.mem m a' (Q0c j'):=fun FN Aa=>Q4E ok hL CM.1 CM.2 hk FN Aa
 have AI:((tb i).setE s o).lvs=(tb i).lvs:=rfl;obtain⟨A,B,e1,e2⟩:=Q4A TB.lvs tb Am ((tb i).setE s o);obtain⟨A',B',e3,e4⟩:=Q4A TB.nds tb Am ((tb i).setE s o);refine⟨ok.stored Ae hb (fun b Ak=>?_),fun j q hj q1 q2=>?_,fun j q hj hq=>?_,?_,?_,fun id=>?_⟩
 ·have:=Bn Ak (by omega);exact (this.sub (b:=b) (k:=8) (J2y _) (by show b+8<=b+64;omega)).word
 ·show (updT tb i _ j).In m q.at_;have Bl:S.l[j]?=some q:=hj;have Cc:=Q1p ok.inv.len Bl;by_cases e:j=i
  ·subst e;rw [updT_same];have Lf:q=p:=by rw [hi] at Bl;exact (J3x Bl).symm
   subst Lf;refine (t.tin j q hi h1 h2).set hs hl hk ha Ag ?_ (fun k C8 hkne Bs=>?_)
   ·have:=Q3z ok.inv.mem.pool (Q1J ok hi h1 h2) hL (by omega);exact this
   ·have Aa:=t.leaf_ne ok Am Am C8 (by omega:s/16<16) Bs hl (fun e=>hkne e.2);exact Q3z ok.inv.mem.pool (t.leaf Am C8 Bs) hL (fun e=>Aa e.2)
  ·rw [Q0X e];refine (t.tin j q Bl q1 q2).kept (Bn (Q1J ok Bl q1 q2) (by omega)) fun k C8 Bs=>?_
   exact Bn (t.leaf Cc C8 Bs) (fun e'=>t.leaf_ne ok Am Cc (by omega:s/16<16) C8 hl Bs (fun e''=>e e''.1.symm) e'.2)
 ·have Bl:S.l[j]?=some q:=hj;have e:j≠i:=fun e=>by
   subst e;rw [hi] at Bl;cases Bl;exact hq ⟨h1,h2⟩
  rw [Q0X e];exact t.nil j q Bl hq
 ·show (xl++Q3e _).Perm (S.P.usedOf 7);have:Q3e (updT tb i ((tb i).setE s o))=Q3e tb:=by
   unfold Q3e;rw [e1,e2,AI]
  rw [this];exact t.lvs
 ·show (xn'++Q4c _).Perm (S.P.usedOf 6);refine List.Perm.trans ?_ t.nds;unfold Q4c;rw [e3,e4];have r:∀(X Y:List Nat),(X++(A'++Y++B')).Perm (X++Y++(A'++B')):=fun X Y=>by
   rw [J3A A' Y B',J3A X Y];refine J5p X ?_;rw [<- J3A,<- J3A];exact J5n.append_right B'
  exact (r _ _).trans ((hn.append_right _).trans (r _ _).symm)
 ·show S.xc id=xcOf S.l _ id+_;rw [Q8Q Am hi,t.xc];have hc:((tb i).setE s o).cost=(tb i).cost+48*(((tb i).setE s o).nds.length:Int)-48*((tb i).nds.length:Int):=by
   unfold TB.cost;rw [AI];omega
  have G1:=hn.length_eq;rw [J3j,J3j] at G1;rw [hc];by_cases hid:id=own
  ·subst hid;rw [if_pos rfl,if_pos rfl,if_pos Ah];omega
  ·rw [if_neg hid,if_neg hid,if_neg (by omega)];omega
theorem TPX.rootw (ok:S.Ok fr N K) (t:TPX S tb own xl xn) {i k:Nat} {p:Pl} (hi:S.l[i]?=some p) (h1:p.st=1) (h2:p.kind=2) (Ah:(p.fac:Int)=own) (C8:k<16) {L:Nat} {xl':List Nat} {m:List Nat} (Ae:m.length=S.P.a.mem.length) (hb:∀b∈m,b<256)
  (hk:Q4e S.P.a.mem m (p.at_+8*k) 8) (Cf:((tb i).setL k L).In m p.at_) (hn:(xl'++((tb i).setL k L).lvs).Perm (xl++(tb i).lvs)) :
  (S.setP (S.P.setA m)).Ok fr N K/\TPX (S.setP (S.P.setA m)) (updT tb i ((tb i).setL k L)) own xl' xn:=by
 have Am:=Q1p ok.inv.len hi;have hT:=Q1J ok hi h1 h2;have CM:p.at_<=p.at_+8*k/\p.at_+8*k+8<=p.at_+Q0c 2:=by
  have:Q0c 2=128:=rfl;omega
 have Bn:∀{j' a':Nat},a'∈S.P.usedOf j'->¬(2=j'/\p.at_=a')->Kept S.P.a.mem m a' (Q0c j'):=fun FN Aa=>Q4E ok hT CM.1 CM.2 hk FN Aa
 have AI:((tb i).setL k L).nds=(tb i).nds:=rfl;obtain⟨A,B,e1,e2⟩:=Q4A TB.lvs tb Am ((tb i).setL k L);obtain⟨A',B',e3,e4⟩:=Q4A TB.nds tb Am ((tb i).setL k L);refine⟨ok.stored Ae hb (fun b Ak=>?_),fun j q hj q1 q2=>?_,fun j q hj hq=>?_,?_,?_,fun id=>?_⟩
 ·have:=Bn Ak (by omega);exact (this.sub (b:=b) (k:=8) (J2y _) (by show b+8<=b+64;omega)).word
 ·show (updT tb i _ j).In m q.at_;have Bl:S.l[j]?=some q:=hj;have Cc:=Q1p ok.inv.len Bl;by_cases e:j=i
  ·subst e;rw [updT_same];have Lf:q=p:=by rw [hi] at Bl;exact (J3x Bl).symm
   subst Lf;exact Cf
  ·rw [Q0X e];refine (t.tin j q Bl q1 q2).kept (Bn (Q1J ok Bl q1 q2) (fun e'=>?_)) fun k' hk16' Bs=>Bn (t.leaf Cc hk16' Bs) (by omega)
   have:=Z0w ok hi Bl (fun e''=>e e''.symm) h1 q1;rw [h2,q2,Z5D] at this;omega
 ·have Bl:S.l[j]?=some q:=hj;have e:j≠i:=fun e=>by
   subst e;rw [hi] at Bl;cases Bl;exact hq ⟨h1,h2⟩
  rw [Q0X e];exact t.nil j q Bl hq
 ·show (xl'++Q3e _).Perm (S.P.usedOf 7);refine List.Perm.trans ?_ t.lvs;unfold Q3e;rw [e1,e2];have r:∀(X Y:List Nat),(X++(A++Y++B)).Perm (X++Y++(A++B)):=fun X Y=>by
   rw [J3A A Y B,J3A X Y];refine J5p X ?_;rw [<- J3A,<- J3A];exact J5n.append_right B
  exact (r _ _).trans ((hn.append_right _).trans (r _ _).symm)
 ·show (xn++Q4c _).Perm (S.P.usedOf 6);have:Q4c (updT tb i ((tb i).setL k L))=Q4c tb:=by
   unfold Q4c;rw [e3,e4,AI]
  rw [this];exact t.nds
 ·show S.xc id=xcOf S.l _ id+_;rw [Q8Q Am hi,t.xc];have hc:((tb i).setL k L).cost=(tb i).cost+256*(((tb i).setL k L).lvs.length:Int)-256*((tb i).lvs.length:Int):=by
   unfold TB.cost;rw [AI];omega
  have G1:=hn.length_eq;rw [J3j,J3j] at G1;rw [hc];by_cases hid:id=own
  ·subst hid;rw [if_pos rfl,if_pos rfl,if_pos Ah];omega
  ·rw [if_neg hid,if_neg hid,if_neg (by omega)];omega
end
structure Alt (S S':CO) (own:Int):Prop where
 c:S'.c=S.c
 t:S'.t=S.t
 l:S'.l=S.l
 g:S'.g=S.g
 per:S'.period=S.period
 now:S'.now=S.now
 rv:S'.rv=S.rv
 ts:S'.ts=S.ts
 same:SameP S.P S'.P
 next:S'.P.q.next=S.P.q.next
 acc:∀id e,find S.P.q.E id=some e->∃e',find S'.P.q.E id=some e'/\e'.q={e.q with charged:=e'.q.charged}/\(id≠own->e'=e)
 ids:S'.P.q.E.map En.id=S.P.q.E.map En.id
 kept:∀r∈S.l,r.is=true->r.kind≠2->Kept S.P.a.mem S'.P.a.mem r.at_ (costK r.kind)
theorem Alt.refl (S:CO) (own:Int):Alt S S own:=⟨rfl,rfl,rfl,rfl,rfl,rfl,rfl,rfl,SameP.refl _,rfl,fun _ e h=>⟨e,h,rfl,fun _=>rfl⟩,rfl,fun _ _ _ _=>Kept.refl _ _ _⟩
theorem Alt.trans {S S1 S2:CO} {own:Int} (h:Alt S S1 own) (k:Alt S1 S2 own):Alt S S2 own:=by
 refine⟨k.c.trans h.c,k.t.trans h.t,k.l.trans h.l,k.g.trans h.g,k.per.trans h.per,k.now.trans h.now,k.rv.trans h.rv,k.ts.trans h.ts,h.same.trans k.same,k.next.trans h.next,fun id e he=>?_,k.ids.trans h.ids,fun r hr hi hk=>?_⟩
 ·obtain⟨e1,a1,a2,a3⟩:=h.acc id e he;obtain⟨e2,b1,b2,b3⟩:=k.acc id e1 a1;refine⟨e2,b1,?_,fun Aa=>(b3 Aa).trans (a3 Aa)⟩;rw [b2,a2]
 ·exact (h.kept r hr hi hk).trans (k.kept r (by rw [h.l];exact hr) hi hk)
theorem Alt.got {S:CO} {fr:List Nat} {N K:Nat} (ok:S.Ok fr N K) {own:Int} {n a:Nat} {P':PL} (g:GetOk S.P fr own n a P'):Alt S (S.paid P' own ((Q0c n:Nat):Int)) own:=by
 have gm:=g.gotM ok.inv.mem.pool;obtain⟨e,q1,q2,q3⟩:=g.q;refine⟨rfl,rfl,rfl,rfl,rfl,rfl,rfl,rfl,gm.same,by show P'.q.next=_;rw [q3],fun id x hx=>?_,?_,fun r hr hi hk=>?_⟩
 ·show ∃e',find P'.q.E id=some e'/\_;rw [q3];by_cases hid:id=own
  ·subst hid;rw [q1] at hx;cases hx;exact⟨_,Q0h q1 _,rfl,fun h=>absurd rfl h⟩
  ·exact⟨x,by rw [Q0y hid];exact hx,rfl,fun _=>rfl⟩
 ·show P'.q.E.map En.id=_;rw [q3];exact Q1o _ _ _
 ·exact gm.keptL ok.inv.mem r hr hi
theorem Alt.put {S:CO} {fr:List Nat} {N K:Nat} (ok:S.Ok fr N K) {own:Int} {n a:Nat} {P':PL} (g:PutOk S.P fr own n a P'):Alt S (S.paid P' own (-((Q0c n:Nat):Int))) own:=by
 have bm:=g.backM ok.inv.mem.pool;obtain⟨e,q1,q2,q3⟩:=g.q;refine⟨rfl,rfl,rfl,rfl,rfl,rfl,rfl,rfl,bm.same,by show P'.q.next=_;rw [q3],fun id x hx=>?_,?_,fun r hr hi hk=>?_⟩
 ·show ∃e',find P'.q.E id=some e'/\_;rw [q3];by_cases hid:id=own
  ·subst hid;rw [q1] at hx;cases hx;exact⟨_,Q0h q1 _,rfl,fun h=>absurd rfl h⟩
  ·exact⟨x,by rw [Q0y hid];exact hx,rfl,fun _=>rfl⟩
 ·show P'.q.E.map En.id=_;rw [q3];exact Q1o _ _ _
 ·show Kept S.P.a.mem P'.a.mem _ _;rw [bm.mem];exact Kept.refl _ _ _
theorem Alt.mem {S:CO} {fr:List Nat} {N K:Nat} (ok:S.Ok fr N K) (own:Int) {j a b n:Nat} {m:List Nat} (hj:j=2∨j=7) (ha:a∈S.P.usedOf j) (h1:a<=b) (h2:b+n<=a+Q0c j) (Ae:m.length=S.P.a.mem.length) (hk:Q4e S.P.a.mem m b n):Alt S (S.setP (S.P.setA m)) own:=by
 refine⟨rfl,rfl,rfl,rfl,rfl,rfl,rfl,rfl,⟨rfl,rfl,rfl,rfl,rfl,rfl,Ae⟩,rfl,fun _ e h=>⟨e,h,rfl,fun _=>rfl⟩,rfl,fun r hr hi A2=>?_⟩;show Kept S.P.a.mem m _ _;by_cases h8:r.kind=8
 ·obtain⟨g,hg,e⟩:=ok.inv.mem.frame hr hi h8;have:=Q2z ok.inv.mem.pool hg ha;rw [h8,costK_8,e];exact hk _ _ (by omega)
 ·have hu:=ok.inv.mem.used hr hi h8;have Jw:=(ok.inv.mem.kind r hr hi).resolve_left h8;rw [Q1R h8];exact Q4E ok ha h1 h2 hk hu (fun e=>by omega)
theorem costs_67:Q1g 6=48/\Q1g 7=256:=⟨rfl,rfl⟩
theorem CO.stepPaid {w w':World} {S:CO} (h:Sep w S.hl) (P':PL) (own d:Int) (e:P'.p=S.P.p) (s:Step S.P.hl P'.hl w w'):Step S.hl (S.paid P' own d).hl w w':=CO.stepP h P' e s
theorem CO.stepMem {w w':World} {S:CO} (h:Sep w S.hl) (m:List Nat) (s:Step S.P.a.hl ({S.P.a with mem:=m}:AN).hl w w'):Step S.hl (S.setP (S.P.setA m)).hl w w':=
 CO.stepP h (S.P.setA m) rfl (PL.stepA (CO.sP h) m s)
end Go.Proofs.YtfidemmgofcnmaaGreatDoor
