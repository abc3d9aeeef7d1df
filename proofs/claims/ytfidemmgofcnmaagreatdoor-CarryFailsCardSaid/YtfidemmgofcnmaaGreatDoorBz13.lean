/- What the laws of spaces share is proved. No condition. Part of a proof. -/
import Derived.Test.YtfidemmgofcnmaaGreatDoorBz12
set_option linter.unusedVariables false
namespace Go.Proofs.YtfidemmgofcnmaaGreatDoor
open Go.RowKit Go.Proofs.Tryz
structure Nd where
 sp:Int
 sl:Int
 par:Int
 ks:List Int
def mapE(f:En Nd->Nd)(N:List (En Nd)):List (En Nd):=N.map fun e=>{e with q:=f e}
theorem Q1n(f:En Nd->Nd)(N:List (En Nd))(id:Int):find (mapE f N) id=(find N id).map fun e=>{e with q:=f e}:=by
 induction N with
 | nil=>rfl
 | cons x r ih =>
  by_cases h:id=x.id
  ·simp[mapE,find,h]
  ·have ih':find (r.map fun e=>{e with q:=f e}) id=_:=ih;simp[mapE,find,h,ih']
theorem Q1x{f:En Nd->Nd}{N:List (En Nd)}{x:En Nd}(h:x∈mapE f N):∃e∈N,x={e with q:=f e}:=by
 obtain⟨e,he,rfl⟩:=J3n.1 h;exact⟨e,he,rfl⟩
theorem Z0x{f:En Nd->Nd}{N:List (En Nd)}(h:∀e∈N,f e=e.q):mapE f N=N:=by
 unfold mapE
 conv=>rhs;rw[<- List.map_id N]
 exact J5k fun e he=>by rw[h e he];rfl
theorem Q5T(f g:En Nd->Nd)(N:List (En Nd)):mapE g (mapE f N)=mapE (fun e=>g {e with q:=f e}) N:=by
 unfold mapE;rw[J5j];rfl
theorem Q4I{f g:En Nd->Nd}{N:List (En Nd)}(h:∀e∈N,f e=g e):mapE f N=mapE g N:=by
 unfold mapE;exact J5k fun e he=>by rw[h e he]
theorem Q1S{f:En Nd->Nd}{N:List (En Nd)}{R:En Nd->En Nd->Prop}(h:∀a b,R a b->R {a with q:=f a} {b with q:=f b})(hp:N.Pairwise R):(mapE f N).Pairwise R:=by
 unfold mapE;rw[J3L];exact hp.imp fun {a b} Dx=>h a b Dx
theorem Q4J{N:List (En Nd)}(Ai:N.Pairwise (fun a b=>a.id≠b.id))(id:Int):∀x,x∈rem N id↔x∈N/\x.id≠id:=by
 induction N with
 | nil=>simp[rem]
 | cons y r ih =>
  obtain⟨h1,h2⟩:=J3H.1 Ai;intro x;by_cases hk:id=y.id
  ·subst hk;simp only[rem,if_true,J3m]
   constructor
   ·intro hx;exact⟨.inr hx,fun e=>h1 x hx e.symm⟩
   ·rintro⟨rfl|hx,Ac⟩
    ·exact absurd rfl Ac
    ·exact hx
  ·simp only[rem,hk,if_false,J3m];rw[ih h2 x]
   constructor
   ·rintro(rfl|⟨hx,Ac⟩)
    ·exact⟨.inl rfl,fun e=>hk e.symm⟩
    ·exact⟨.inr hx,Ac⟩
   ·rintro⟨rfl|hx,Ac⟩
    ·exact .inl rfl
    ·exact .inr ⟨hx,Ac⟩
structure NOk(N:List (En Nd))(next:Int):Prop where
 ids:N.Pairwise (fun a b=>a.id≠b.id)
 spots:N.Pairwise (fun a b=>(a.q.sp,a.q.sl)≠(b.q.sp,b.q.sl))
 next0:0<=next
 rng:∀e∈N,1<=e.id/\e.id<=next
 sm:∀e∈N,0<=e.q.sp/\e.q.sp<4294967296/\0<=e.q.sl/\e.q.sl<256
 par:∀e∈N,0<=e.q.par/\(e.q.par≠0->∃p,find N e.q.par=some p/\e.id∈p.q.ks)
 kids:∀p∈N,∀k∈p.q.ks,∃e,find N k=some e/\e.q.par=p.id
 nd:∀p∈N,p.q.ks.Nodup
 rise:∀e∈N,e.q.par<e.id
theorem Q0q{N:List (En Nd)}(Ai:N.Pairwise (fun a b=>a.id≠b.id)){e:En Nd}(h:e∈N):find N e.id=some e:=by
 induction N with
 | nil=>cases h
 | cons x r ih =>
  obtain⟨h1,h2⟩:=J3H.1 Ai;rcases J3m.1 h with rfl|h
  ·simp[find]
  ·have Ac:¬e.id=x.id:=fun e'=>h1 e h e'.symm
   simp only[find,Ac,if_false];exact ih h2 h
theorem Q4K{N:List (En Nd)}{next:Int}(ok:NOk N next){a b:En Nd}(ha:a∈N)(hb:b∈N)(h1:a.q.sp=b.q.sp)(h2:a.q.sl=b.q.sl):a=b:=by
 obtain⟨i,hi⟩:=J5Q.1 ha;obtain⟨j,hj⟩:=J5Q.1 hb;obtain⟨i1,i2⟩:=J3y.1 hi;obtain⟨j1,j2⟩:=J3y.1 hj;rcases J6c i j with h|h|h
 ·have:=J6d.1 ok.spots i j i1 j1 h;rw[i2,j2] at this;exact absurd (Prod.ext h1 h2) this
 ·subst h;rw[<- i2,<- j2]
 ·have:=J6d.1 ok.spots j i j1 i1 h;rw[i2,j2] at this;exact absurd (Prod.ext h1.symm h2.symm) this
def kdF(N:List (En Nd))(id:Int):List Int:=match find N id with
 | some e=>e.q.ks
 | none=>[]
def rkF(next:Int)(id:Int):Nat:=(next+1-id).toNat
theorem NOk.tree{N:List (En Nd)}{next:Int}(ok:NOk N next):Fst3 (kdF N) (rkF next):=by
 have get:∀{h x},x∈kdF N h->∃p e,find N h=some p/\x∈p.q.ks/\find N x=some e/\e.q.par=p.id/\p.id=h:=by
  intro h x hx;unfold kdF at hx;cases hf:find N h with
  | none=>rw[hf] at hx;cases hx
  | some p =>
   rw[hf] at hx;obtain⟨e,h1,h2⟩:=ok.kids p (Q0d hf).1 x hx;exact⟨p,e,rfl,hx,h1,h2,(Q0d hf).2⟩
 refine⟨fun h x hx=>?_,fun a b x ha hb=>?_,fun h=>?_⟩
 ·obtain⟨p,e,h1,h2,h3,h4,h5⟩:=get hx;obtain⟨e1,e2⟩:=Q0d h3;have:=ok.rise e e1;have:=ok.rng e e1;unfold rkF;omega
 ·obtain⟨p,e,h1,h2,h3,h4,h5⟩:=get ha;obtain⟨p',e',Ip,XQ,Th,Xs,VC⟩:=get hb;rw[h3] at Th;cases Th;omega
 ·unfold kdF;cases hf:find N h with
  | none=>simp
  | some p=>exact ok.nd p (Q0d hf).1
theorem NOk.zero{N:List (En Nd)}{next:Int}(ok:NOk N next):find N 0=none:=by
 cases hf:find N 0 with
 | none=>rfl
 | some e =>
  obtain⟨h1,h2⟩:=Q0d hf;have:=ok.rng e h1;omega
def addN(N:List (En Nd))(par:Int)(k:Int)(b:Nat)(sp sl:Int):List (En Nd):=mapE (fun c=>if c.id=par then {c.q with ks:=c.q.ks++[k]} else c.q) N++[⟨k,b,⟨sp,sl,par,[]⟩⟩]
theorem Q8c(N:List (En Nd))(x:En Nd)(id:Int):find (N++[x]) id=(find N id).or (if id=x.id then some x else none):=by
 rw[Q1O];cases find N id <;> rfl
theorem NOk.add{N:List (En Nd)}{next:Int}(ok:NOk N next){par sp sl:Int}(b:Nat)(hp:par=0∨∃p,find N par=some p)(Aw:∀e∈N,(e.q.sp,e.q.sl)≠(sp,sl))(h1:0<=sp)(h2:sp<4294967296)(h3:0<=sl)(h4:sl<256):NOk (addN N par (next+1) b sp sl) (next+1):=by
 have Em:=ok.next0;have DU:find N (next+1)=none:=by
  cases hf:find N (next+1) with
  | none=>rfl
  | some e =>
   obtain⟨e1,e2⟩:=Q0d hf;have:=ok.rng e e1;omega
 have Vr:0<=par/\par<=next:=by
  rcases hp with rfl|⟨p,hp⟩
  ·omega
  ·obtain⟨e1,e2⟩:=Q0d hp;have:=ok.rng p e1;omega
 have Cg:∀id,find (addN N par (next+1) b sp sl) id=if id=next+1 then some ⟨next+1,b,⟨sp,sl,par,[]⟩⟩ else(find N id).map fun c=>{c with q:=if c.id=par then {c.q with ks:=c.q.ks++[next+1]} else c.q}:=fun id=>by
  unfold addN;rw[Q8c,Q1n];by_cases h:id=next+1
  ·subst h;rw[DU];simp
  ·cases hf:find N id with
   | none=>simp[h]
   | some e=>simp[h]
 have A2:∀{x},x∈addN N par (next+1) b sp sl->(∃e∈N,x={e with q:=if e.id=par then {e.q with ks:=e.q.ks++[next+1]} else e.q})∨x=⟨next+1,b,⟨sp,sl,par,[]⟩⟩:=fun {x} hx=>by
  rcases J3Q.1 hx with hx|hx
  ·exact .inl (Q1x hx)
  ·exact .inr (J5i.1 hx)
 refine⟨?_,?_,by omega,fun x hx=>?_,fun x hx=>?_,fun x hx=>?_,fun x hx k hk=>?_,fun x hx=>?_,fun x hx=>?_⟩
 ·unfold addN;rw[J3P];refine⟨Q1S (fun a b h=>h) ok.ids,by simp,fun x hx y hy=>?_⟩;obtain⟨e,he,rfl⟩:=Q1x hx;rw[J5i] at hy;subst hy;have:=ok.rng e he;show e.id≠next+1;omega
 ·unfold addN;rw[J3P];refine⟨Q1S (fun a b h=>?_) ok.spots,by simp,fun x hx y hy=>?_⟩
  ·have e1:∀c:En Nd,(if c.id=par then({c.q with ks:=c.q.ks++[next+1]}:Nd) else c.q).sp=c.q.sp/\(if c.id=par then({c.q with ks:=c.q.ks++[next+1]}:Nd) else c.q).sl=c.q.sl:=fun c=>by split <;> exact⟨rfl,rfl⟩
   show((if a.id=par then({a.q with ks:=a.q.ks++[next+1]}:Nd) else a.q).sp,_)≠_;rw[(e1 a).1,(e1 a).2,(e1 b).1,(e1 b).2];exact h
  ·obtain⟨e,he,rfl⟩:=Q1x hx;rw[J5i] at hy;subst hy;have:=Aw e he;show((if e.id=par then({e.q with ks:=e.q.ks++[next+1]}:Nd) else e.q).sp,(if e.id=par then({e.q with ks:=e.q.ks++[next+1]}:Nd) else e.q).sl)≠_;split <;> exact this
 ·rcases A2 hx with ⟨e,he,rfl⟩|rfl
  ·have:=ok.rng e he;exact⟨this.1,by show e.id<=_;omega⟩
  ·exact⟨by show 1<=next+1;omega,J7c _⟩
 ·rcases A2 hx with ⟨e,he,rfl⟩|rfl
  ·have:=ok.sm e he;simp only;split <;> exact this
  ·exact⟨h1,h2,h3,h4⟩
 ·have key:∀e∈N,∀pr:Int,pr=e.q.par->0<=pr/\(pr≠0->∃p,find (addN N par (next+1) b sp sl) pr=some p/\e.id∈p.q.ks):=fun e he pr hpr'=>by
   subst hpr';obtain⟨q1,q2⟩:=ok.par e he;refine⟨q1,fun h0=>?_⟩;obtain⟨p,hp,hk⟩:=q2 h0;obtain⟨p1,p2⟩:=Q0d hp;have:=ok.rng p p1;refine⟨_,by rw[Cg,if_neg (by omega),hp];rfl,?_⟩;simp only;split
   ·exact J3W _ hk
   ·exact hk
  rcases A2 hx with ⟨e,he,rfl⟩|rfl
  ·exact key e he _ (by simp only;split <;> rfl)
  ·refine⟨Vr.1,fun h0=>?_⟩;have D1:par≠0:=h0;obtain⟨p,hp⟩:=hp.resolve_left D1;obtain⟨p1,p2⟩:=Q0d hp;refine⟨_,by rw[Cg,if_neg (by show par≠_;omega)];show(find N par).map _=_;rw[hp];rfl,?_⟩;simp only[p2,if_true];exact J3V _ (by simp)
 ·have old:∀e∈N,∀k∈e.q.ks,∃c,find (addN N par (next+1) b sp sl) k=some c/\c.q.par=e.id:=fun e he k hk=>by
   obtain⟨c,hc,D0⟩:=ok.kids e he k hk;obtain⟨c1,c2⟩:=Q0d hc;have:=ok.rng c c1;refine⟨_,by rw[Cg,if_neg (by omega),hc];rfl,?_⟩;simp only;split <;> exact D0
  rcases A2 hx with ⟨e,he,rfl⟩|rfl
  ·by_cases Rb:e.id=par
   ·have BC:k∈e.q.ks++[next+1]:=by
     have:=hk;simp only[Rb,if_true] at this;exact this
    rcases J3Q.1 BC with BC|BC
    ·exact old e he k BC
    ·rw[J5i] at BC;subst BC;exact⟨_,by rw[Cg,if_pos rfl],Rb.symm⟩
   ·have BC:k∈e.q.ks:=by
     have:=hk;simp only[Rb,if_false] at this;exact this
    exact old e he k BC
  ·cases hk
 ·rcases A2 hx with ⟨e,he,rfl⟩|rfl
  ·have AP:=ok.nd e he;simp only;split
   ·show(e.q.ks++[next+1]).Nodup;rw[J3U];refine⟨AP,by simp,fun a ha b' Al=>?_⟩;rw[J5i] at Al;subst Al;obtain⟨c,hc,_⟩:=ok.kids e he a ha;obtain⟨c1,c2⟩:=Q0d hc;have:=ok.rng c c1;omega
   ·exact AP
  ·exact List.nodup_nil
 ·rcases A2 hx with ⟨e,he,rfl⟩|rfl
  ·have:=ok.rise e he;simp only;split <;> exact this
  ·show par<next+1;omega
def Q0r(e:En Nd)(j:Nat)(c:En Nd):Nd:=
 {c.q with par:=if c.id∈e.q.ks.take j then e.q.par else c.q.par,ks:=if c.id=e.q.par then c.q.ks.filter (fun k=>decide (k≠e.id))++e.q.ks.take j else c.q.ks}
def Q0F(N:List (En Nd))(e:En Nd)(j:Nat):List (En Nd):=mapE (Q0r e j) (rem N e.id)
theorem NOk.rem_find{N:List (En Nd)}{next:Int}(ok:NOk N next)(e:En Nd)(id:Int):find (rem N e.id) id=if id=e.id then none else find N id:=Z1m ok.ids e.id id
theorem NOk.lift{N:List (En Nd)}{next:Int}(ok:NOk N next){e:En Nd}(he:find N e.id=some e):NOk (Q0F N e e.q.ks.length) next:=by
 obtain⟨BT,_⟩:=Q0d he;have JR:=ok.rng e BT;have Ri:=ok.rise e BT;have B8:=ok.par e BT;have AU:e.q.ks.take e.q.ks.length=e.q.ks:=J7g;have hL:∀c,Q0r e e.q.ks.length c={c.q with par:=if c.id∈e.q.ks then e.q.par else c.q.par,ks:=if c.id=e.q.par then c.q.ks.filter (fun k=>decide (k≠e.id))++e.q.ks else c.q.ks}:=fun c=>by unfold Q0r;rw[AU]
 have Cg:∀id,find (Q0F N e e.q.ks.length) id=if id=e.id then none else(find N id).map fun c=>{c with q:=Q0r e e.q.ks.length c}:=fun id=>by
  unfold Q0F;rw[Q1n,ok.rem_find];split <;> rfl
 have A2:∀{x},x∈Q0F N e e.q.ks.length->∃c∈N,c.id≠e.id/\x={c with q:=Q0r e e.q.ks.length c}:=fun {x} hx=>by
  obtain⟨c,hc,rfl⟩:=Q1x hx;obtain⟨h1,h2⟩:=(Q4J ok.ids e.id c).1 hc;exact⟨c,h1,h2,rfl⟩
 -- whose child is whose
 have JX:∀c∈N,(c.id∈e.q.ks↔c.q.par=e.id):=fun c hc=>by
  constructor
  ·intro h;obtain⟨d,hd,EO⟩:=ok.kids e BT c.id h;rw[Q0q ok.ids hc] at hd;cases hd;exact EO
  ·intro h;obtain⟨p,hp,hk⟩:=(ok.par c hc).2 (by omega);rw[h,he] at hp;cases hp;exact hk
 have BU:(rem N e.id).Sublist N:=Q3L N e.id;refine⟨Q1S (fun a b h=>h) (ok.ids.sublist BU),Q1S (fun a b h=>h) (ok.spots.sublist BU),ok.next0,fun x hx=>?_,fun x hx=>?_,fun x hx=>?_,fun x hx k hk=>?_,fun x hx=>?_,fun x hx=>?_⟩
 ·obtain⟨c,hc,_,rfl⟩:=A2 hx;exact ok.rng c hc
 ·obtain⟨c,hc,_,rfl⟩:=A2 hx;exact ok.sm c hc
 ·obtain⟨c,hc,Ac,rfl⟩:=A2 hx;show 0<=(Q0r e e.q.ks.length c).par/\((Q0r e e.q.ks.length c).par≠0->_);rw[hL];simp only;by_cases Gp:c.id∈e.q.ks
  ·rw[if_pos Gp];refine⟨B8.1,fun h0=>?_⟩;obtain⟨p,hp,hk⟩:=B8.2 h0;obtain⟨p1,p2⟩:=Q0d hp;refine⟨_,by rw[Cg,if_neg (by omega),hp];rfl,?_⟩;show c.id∈(Q0r e e.q.ks.length p).ks;rw[hL];simp only[p2,if_true];exact J3V _ Gp
  ·rw[if_neg Gp];obtain⟨q1,q2⟩:=ok.par c hc;refine⟨q1,fun h0=>?_⟩;obtain⟨p,hp,hk⟩:=q2 h0;have GH:c.q.par≠e.id:=fun h=>Gp ((JX c hc).2 h)
   refine⟨_,by rw[Cg,if_neg GH,hp];rfl,?_⟩;show c.id∈(Q0r e e.q.ks.length p).ks;rw[hL];simp only;split
   ·exact J3W _ (J3B.2 ⟨hk,by simpa using Ac⟩)
   ·exact hk
 ·obtain⟨c,hc,Ac,rfl⟩:=A2 hx;have BC:k∈(Q0r e e.q.ks.length c).ks:=hk;rw[hL] at BC;simp only at BC;have fromC:k∈c.q.ks->k≠e.id->∃d,find (Q0F N e e.q.ks.length) k=some d/\d.q.par=c.id:=fun h1 h2=>by
   obtain⟨d,hd,EO⟩:=ok.kids c hc k h1;obtain⟨d1,d2⟩:=Q0d hd;refine⟨_,by rw[Cg,if_neg h2,hd];rfl,?_⟩;show(Q0r e e.q.ks.length d).par=c.id;rw[hL];simp only;rw[if_neg (fun h=>Ac (by rw[<- EO];exact(JX d d1).1 h))];exact EO
  split at BC
  ·rename_i D0;rcases J3Q.1 BC with BC|BC
   ·obtain⟨h1,h2⟩:=J3B.1 BC;exact fromC h1 (by simpa using h2)
   ·obtain⟨d,hd,EO⟩:=ok.kids e BT k BC;obtain⟨d1,d2⟩:=Q0d hd;have:=ok.rise d d1;refine⟨_,by rw[Cg,if_neg (by omega),hd];rfl,?_⟩;show(Q0r e e.q.ks.length d).par=c.id;rw[hL];simp only;rw[if_pos (by rw[d2];exact BC),D0]
  ·refine fromC BC fun h=>?_
   rename_i D0;obtain⟨d,hd,EO⟩:=ok.kids c hc k BC;rw[h,he] at hd;cases hd;exact D0 EO.symm
 ·obtain⟨c,hc,Ac,rfl⟩:=A2 hx;show(Q0r e e.q.ks.length c).ks.Nodup;rw[hL];simp only;split
  ·rw[J3U];refine⟨(ok.nd c hc).filter _,ok.nd e BT,fun a ha b hb Dx=>?_⟩;subst Dx;obtain⟨d,hd,EO⟩:=ok.kids c hc a (J3B.1 ha).1;obtain⟨d',Pi,Vy⟩:=ok.kids e BT a hb;rw[hd] at Pi;cases Pi;omega
  ·exact ok.nd c hc
 ·obtain⟨c,hc,Ac,rfl⟩:=A2 hx;show(Q0r e e.q.ks.length c).par<c.id;rw[hL];simp only;split
  ·rename_i h;have:=(JX c hc).1 h;have:=ok.rise c hc;omega
  ·exact ok.rise c hc
def Q0f(l:List Pl)(tb:Nat->TB)(h s:Nat):Option Ent:=match pget l 1 h with
 | some p=>if p.kind=2/\s<256 then(tb (h%256)).en s else none
 | none=>none
theorem Z3e{l:List Pl}{tb:Nat->TB}{h s:Nat}{e:Ent}(x:Q0f l tb h s=some e):∃p,pget l 1 h=some p/\p.kind=2/\s<256/\(tb (h%256)).en s=some e:=by
 unfold Q0f at x;cases hp:pget l 1 h with
 | none=>rw[hp] at x;cases x
 | some p =>
  rw[hp] at x;simp only at x;split at x
  ·rename_i hc;exact⟨p,rfl,hc.1,hc.2,x⟩
  ·cases x
theorem Q0h{l:List Pl}{tb:Nat->TB}{h s:Nat}{p:Pl}(hp:pget l 1 h=some p)(hk:p.kind=2)(hs:s<256):Q0f l tb h s=(tb (h%256)).en s:=by
 unfold Q0f;rw[hp];simp only;rw[if_pos ⟨hk,hs⟩]
structure Q6D(l:List Pl)(s:Nat)(e:Ent):Prop where
 live:∃q,pget l 1 e.h=some q/\(q.kind=8↔128<=s)
 r:1<=e.r/\e.r<=15
def Q0G(l:List Pl)(tb:Nat->TB)(n:En Nd):Option Ent:=Q0f l tb n.q.sp.toNat n.q.sl.toNat
structure FPI(l:List Pl)(tb:Nat->TB)(N:List (En Nd)):Prop where
 cap:∀h s e,Q0f l tb h s=some e->Q6D l s e
 has:∀h s e,Q0f l tb h s=some e->∃n∈N,n.q.sp=(h:Int)/\n.q.sl=(s:Int)
 is:∀n∈N,∃e,Q0G l tb n=some e
 up:∀n∈N,∀m,find N n.q.par=some m->∀e e',Q0G l tb n=some e->Q0G l tb m=some e'->e.h=e'.h/\e.r&&&e'.r=e.r
theorem Q3o{l:List Pl}{tb:Nat->TB}{h s:Nat}{p:Pl}(hp:pget l 1 h=some p)(hk:p.kind=2)(hs:s<256){t':TB}{o:Option Ent}(ht:∀x,t'.en x=if x=s then o else(tb (h%256)).en x)(h' s':Nat) :
  Q0f l (updT tb (h%256) t') h' s'=if h'=h/\s'=s then o else Q0f l tb h' s':=by
 unfold Q0f;cases AG:pget l 1 h' with
 | none =>
  simp only;rw[if_neg];rintro⟨rfl,_⟩;rw[hp] at AG;cases AG
 | some q =>
  simp only;by_cases e:h'%256=h%256
  ·obtain⟨e1,e2,_⟩:=Q5s AG hp e;subst e1;subst e2;rw[updT_same];by_cases hc:q.kind=2/\s'<256
   ·rw[if_pos hc,if_pos hc,ht];by_cases es:s'=s
    ·rw[if_pos es,if_pos ⟨rfl,es⟩]
    ·rw[if_neg es,if_neg (fun h=>es h.2)]
   ·rw[if_neg hc,if_neg hc,if_neg];rintro⟨_,rfl⟩;exact hc ⟨hk,hs⟩
  ·have hn:¬(h'=h/\s'=s):=fun x=>e (by rw[x.1])
   rw[Q0x e,if_neg hn]
theorem Q7k{l l':List Pl}{s:Nat}{e:Ent}(c:Q6D l s e)(h:∀q,pget l 1 e.h=some q->∃q',pget l' 1 e.h=some q'/\q'.kind=q.kind):Q6D l' s e:=by
 obtain⟨q,h1,h2⟩:=c.live;obtain⟨q',h3,h4⟩:=h q h1;exact⟨⟨q',h3,by rw[h4];exact h2⟩,c.r⟩
theorem FPI.same{l l':List Pl}{tb:Nat->TB}{N:List (En Nd)}(f:FPI l tb N)(he:∀h s,Q0f l' tb h s=Q0f l tb h s)(hl:∀h s e,Q0f l tb h s=some e->∀q,pget l 1 e.h=some q->∃q',pget l' 1 e.h=some q'/\q'.kind=q.kind):FPI l' tb N:=by
 have ho:∀n,Q0G l' tb n=Q0G l tb n:=fun n=>he _ _
 refine⟨fun h s e x=>?_,fun h s e x=>?_,fun n hn=>?_,fun n hn m hm e e' x y=>?_⟩
 ·rw[he] at x;exact Q7k (f.cap h s e x) (hl h s e x)
 ·rw[he] at x;exact f.has h s e x
 ·rw[ho];exact f.is n hn
 ·rw[ho] at x y;exact f.up n hn m hm e e' x y
theorem FPI.made{l:List Pl}{tb:Nat->TB}{N:List (En Nd)}(f:FPI l tb N){i:Nat}{p q:Pl}(hi:l[i]?=some p)(hp:p.st=0)(hn:(tb i).Nil):FPI (l.set i q) tb N:=by
 have DE:∀x r,pget l 1 x=some r->pget (l.set i q) 1 x=some r:=fun x r hr=>by
  obtain⟨a,b,c⟩:=pget_some.1 hr;rw[Q2B q hi,if_neg]
  ·exact hr
  ·intro e;rw[e,hi] at a;cases a;omega
 refine f.same (fun h s=>?_) (fun h s e x r hr=>⟨r,DE _ _ hr,rfl⟩);by_cases e:h%256=i
 ·have z:∀l',Q0f l' tb h s=none:=fun l'=>by
   unfold Q0f;split
   ·split
    ·rename_i hc;rw[e];exact hn.2 s hc.2
    ·rfl
   ·rfl
  rw[z,z]
 ·unfold Q0f;rw[Q2B q hi,if_neg e]
section
variable {l:List Pl} {tb:Nat->TB} {N:List (En Nd)} {next:Int} {h s:Nat} {p:Pl}
theorem Q4l{par sp sl:Int}{b:Nat}(ok:NOk N next)(id:Int):find (addN N par (next+1) b sp sl) id=if id=next+1 then some ⟨next+1,b,⟨sp,sl,par,[]⟩⟩ else(find N id).map fun c=>{c with q:=if c.id=par then {c.q with ks:=c.q.ks++[next+1]} else c.q}:=by
 have DU:find N (next+1)=none:=by
  cases hf:find N (next+1) with
  | none=>rfl
  | some e =>
   obtain⟨e1,e2⟩:=Q0d hf;have:=ok.rng e e1;omega
 unfold addN;rw[Q8c,Q1n];by_cases h:id=next+1
 ·subst h;rw[DU];simp
 ·cases hf:find N id with
  | none=>simp[h]
  | some e=>simp[h]
theorem Z3f{l:List Pl}{tb:Nat->TB}(n m:En Nd)(h1:n.q.sp=m.q.sp)(h2:n.q.sl=m.q.sl):Q0G l tb n=Q0G l tb m:=by unfold Q0G;rw[h1,h2]
theorem Z6a(e:En Nd)(par k:Int):(if e.id=par then({e.q with ks:=e.q.ks++[k]}:Nd) else e.q).sp=e.q.sp/\(if e.id=par then({e.q with ks:=e.q.ks++[k]}:Nd) else e.q).sl=e.q.sl/\(if e.id=par then({e.q with ks:=e.q.ks++[k]}:Nd) else e.q).par=e.q.par:=by
 split <;> exact⟨rfl,rfl,rfl⟩
theorem FPI.add(f:FPI l tb N)(ok:NOk N next)(hp:pget l 1 h=some p)(hk:p.kind=2)(hs:s<256)(h0:Q0f l tb h s=none){t':TB}{e:Ent}(ht:∀x,t'.en x=if x=s then some e else(tb (h%256)).en x)(hc:Q6D l s e){par:Int}(b:Nat)
  (B8:par=0∨∃m em,find N par=some m/\Q0G l tb m=some em/\e.h=em.h/\e.r&&&em.r=e.r):FPI l (updT tb (h%256) t') (addN N par (next+1) b (h:Int) (s:Int)):=by
 have ha:=Q3o hp hk hs ht;have Ac:∀n∈N,¬(n.q.sp.toNat=h/\n.q.sl.toNat=s):=fun n hn ⟨h1,h2⟩=>by
  obtain⟨e1,Eh⟩:=f.is n hn;unfold Q0G at Eh;rw[h1,h2,h0] at Eh;cases Eh
 have Ch:∀n∈N,Q0G l (updT tb (h%256) t') n=Q0G l tb n:=fun n hn=>by
  unfold Q0G;rw[ha,if_neg (Ac n hn)]
 have A2:∀{x},x∈addN N par (next+1) b (h:Int) (s:Int)->(∃n∈N,x={n with q:=if n.id=par then {n.q with ks:=n.q.ks++[next+1]} else n.q})∨x=⟨next+1,b,⟨(h:Int),(s:Int),par,[]⟩⟩:=fun {x} hx=>by
  rcases J3Q.1 hx with hx|hx
  ·exact .inl (Q1x hx)
  ·exact .inr (J5i.1 hx)
 have O1:∀n∈N,Q0G l (updT tb (h%256) t') {n with q:=if n.id=par then {n.q with ks:=n.q.ks++[next+1]} else n.q}=Q0G l tb n:=fun n hn=>by
  rw[<- Ch n hn];obtain⟨q1,q2,_⟩:=Z6a n par (next+1);exact Z3f _ _ q1 q2
 have DU:Q0G l (updT tb (h%256) t') ⟨next+1,b,⟨(h:Int),(s:Int),par,[]⟩⟩=some e:=by
  unfold Q0G;rw[ha,if_pos ⟨by simp,by simp⟩]
 refine⟨fun h' s' x hx=>?_,fun h' s' x hx=>?_,fun n hn=>?_,fun n hn m hm x y hx hy=>?_⟩
 ·rw[ha] at hx;split at hx
  ·rename_i Bo;cases hx;rw[Bo.2];exact hc
  ·exact f.cap h' s' x hx
 ·rw[ha] at hx;split at hx
  ·rename_i Bo;exact⟨_,J3V _ (J5i.2 rfl),by rw[Bo.1],by rw[Bo.2]⟩
  ·obtain⟨n,hn,h1,h2⟩:=f.has h' s' x hx;obtain⟨q1,q2,_⟩:=Z6a n par (next+1);exact⟨_,J3W _ (J3n.2 ⟨n,hn,rfl⟩),q1.trans h1,q2.trans h2⟩
 ·rcases A2 hn with ⟨c,Bo,rfl⟩|rfl
  ·rw[O1 c Bo];exact f.is c Bo
  ·exact⟨e,DU⟩
 ·-- the parent,in the old row
  have old:∀c,find N c.id=some c->∀m,find (addN N par (next+1) b (h:Int) (s:Int)) c.q.par=some m->find N c.q.par=none->False:=fun c Gs m hm G0=>by
   rw[Q4l ok] at hm;split at hm
   ·rename_i e1;obtain⟨c1,_⟩:=Q0d Gs;have:=ok.rise c c1;have:=ok.rng c c1;omega
   ·rw[G0] at hm;cases hm
  rcases A2 hn with ⟨c,Bo,rfl⟩|rfl
  ·obtain⟨_,_,q3⟩:=Z6a c par (next+1);have By:find (addN N par (next+1) b (h:Int) (s:Int)) c.q.par=some m:=by rw[<- q3];exact hm
   rw[O1 c Bo] at hx;have L6:=ok.rng c Bo;have AO:=ok.rise c Bo;rw[Q4l ok,if_neg (by omega)] at By;obtain⟨m0,Fr,rfl⟩:=J6V.1 By;rw[O1 m0 (Q0d Fr).1] at hy;exact f.up c Bo m0 Fr x y hx hy
  ·rw[DU] at hx;cases hx;have By:find (addN N par (next+1) b (h:Int) (s:Int)) par=some m:=hm;rcases B8 with rfl|⟨m1,em,g1,g2,g3,g4⟩
   ·rw[Q4l ok,if_neg (by have:=ok.next0;omega),ok.zero] at By;cases By
   ·have:=ok.rng m1 (Q0d g1).1;have e2:=(Q0d g1).2;rw[Q4l ok,if_neg (by omega),g1] at By;cases By;rw[O1 m1 (Q0d g1).1,g2] at hy;cases hy;exact⟨g3,g4⟩
theorem FPI.weak(f:FPI l tb N)(ok:NOk N next)(hp:pget l 1 h=some p)(hk:p.kind=2)(hs:s<256){e e2:Ent}(h0:Q0f l tb h s=some e){t':TB}(ht:∀x,t'.en x=if x=s then some e2 else(tb (h%256)).en x)(hh:e2.h=e.h)(hr:1<=e2.r/\e2.r<=15)(BU:e2.r&&&e.r=e2.r)
  (BY:∀n∈N,∀m,find N n.q.par=some m->m.q.sp=(h:Int)->m.q.sl=(s:Int)->∀x,Q0G l tb n=some x->x.r&&&e2.r=x.r):FPI l (updT tb (h%256) t') N:=by
 have ha:=Q3o hp hk hs ht;have spot:∀n∈N,n.q.sp.toNat=h->n.q.sl.toNat=s->n.q.sp=(h:Int)/\n.q.sl=(s:Int):=fun n hn h1 h2=>by
  have:=ok.sm n hn;omega
 refine⟨fun h' s' x hx=>?_,fun h' s' x hx=>?_,fun n hn=>?_,fun n hn m hm x y hx hy=>?_⟩
 ·rw[ha] at hx;split at hx
  ·rename_i Bo;cases hx;have:=f.cap h s e h0;rw[Bo.2];exact⟨by rw[hh];exact this.live,hr⟩
  ·exact f.cap h' s' x hx
 ·rw[ha] at hx;split at hx
  ·rename_i Bo;rw[Bo.1,Bo.2];exact f.has h s e h0
  ·exact f.has h' s' x hx
 ·unfold Q0G;rw[ha];split
  ·exact⟨e2,rfl⟩
  ·exact f.is n hn
 ·unfold Q0G at hx hy;rw[ha] at hx hy;split at hx
  ·rename_i c1;cases hx;split at hy
   ·rename_i c2
    -- a node of its own parent: the same spot
    exfalso;obtain⟨n1,n2⟩:=spot n hn c1.1 c1.2;obtain⟨m1,m2⟩:=spot m (Q0d hm).1 c2.1 c2.2;have i1:=Q4K ok hn (Q0d hm).1 (n1.trans m1.symm) (n2.trans m2.symm);have:=ok.rise n hn;have:=(Q0d hm).2;subst i1;omega
   ·obtain⟨q1,q2⟩:=f.up n hn m hm e y (by unfold Q0G;rw[c1.1,c1.2];exact h0) (by unfold Q0G;exact hy);refine⟨hh.trans q1,?_⟩;rw[<- BU,Nat.and_assoc,q2]
  ·split at hy
   ·rename_i c2;cases hy;obtain⟨q1,q2⟩:=f.up n hn m hm x e (by unfold Q0G;exact hx) (by unfold Q0G;rw[c2.1,c2.2];exact h0);obtain⟨m1,m2⟩:=spot m (Q0d hm).1 c2.1 c2.2;exact⟨q1.trans hh.symm,BY n hn m hm m1 m2 x (by unfold Q0G;exact hx)⟩
   ·exact f.up n hn m hm x y (by unfold Q0G;exact hx) (by unfold Q0G;exact hy)
theorem FPI.lift(f:FPI l tb N)(ok:NOk N next)(hp:pget l 1 h=some p)(hk:p.kind=2)(hs:s<256){t':TB}(ht:∀x,t'.en x=if x=s then none else(tb (h%256)).en x){e:En Nd}(he:find N e.id=some e)(h1:e.q.sp=(h:Int))(h2:e.q.sl=(s:Int)):FPI l (updT tb (h%256) t') (Q0F N e e.q.ks.length):=by
 have ha:=Q3o hp hk hs ht;have BT:=(Q0d he).1;have AU:e.q.ks.take e.q.ks.length=e.q.ks:=J7g;have Lz:∀c,(Q0r e e.q.ks.length c).sp=c.q.sp/\(Q0r e e.q.ks.length c).sl=c.q.sl:=fun c=>⟨rfl,rfl⟩
 have A2:∀{x},x∈Q0F N e e.q.ks.length->∃c∈N,c.id≠e.id/\x={c with q:=Q0r e e.q.ks.length c}:=fun {x} hx=>by
  obtain⟨c,hc,rfl⟩:=Q1x hx;obtain⟨g1,g2⟩:=(Q4J ok.ids e.id c).1 hc;exact⟨c,g1,g2,rfl⟩
 have Ac:∀c∈N,c.id≠e.id->¬(c.q.sp.toNat=h/\c.q.sl.toNat=s):=fun c hc hid ⟨g1,g2⟩=>by
  have:=ok.sm c hc;have:=Q4K ok hc BT (by omega) (by omega);subst this;exact hid rfl
 have Ch:∀c∈N,c.id≠e.id->Q0G l (updT tb (h%256) t') {c with q:=Q0r e e.q.ks.length c}=Q0G l tb c:=fun c hc hid=>by
  unfold Q0G;show Q0f l _ c.q.sp.toNat c.q.sl.toNat=_;rw[ha,if_neg (Ac c hc hid)]
 refine⟨fun h' s' x hx=>?_,fun h' s' x hx=>?_,fun n hn=>?_,fun n hn m hm x y hx hy=>?_⟩
 ·rw[ha] at hx;split at hx
  ·cases hx
  ·exact f.cap h' s' x hx
 ·rw[ha] at hx;split at hx
  ·cases hx
  ·rename_i Bo;obtain⟨n,hn,g1,g2⟩:=f.has h' s' x hx;have hid:n.id≠e.id:=fun e1=>by
    rw[e1.symm,Q0q ok.ids hn] at he;cases he;exact Bo ⟨by omega,by omega⟩
   exact⟨_,J3n.2 ⟨n,(Q4J ok.ids e.id n).2 ⟨hn,hid⟩,rfl⟩,g1,g2⟩
 ·obtain⟨c,hc,hid,rfl⟩:=A2 hn;rw[Ch c hc hid];exact f.is c hc
 ·obtain⟨c,hc,hid,rfl⟩:=A2 hn;rw[Ch c hc hid] at hx;have By:find (Q0F N e e.q.ks.length) (Q0r e e.q.ks.length c).par=some m:=hm;unfold Q0F at By;rw[Q1n,ok.rem_find] at By;split at By
  ·cases By
  ·rename_i GH;obtain⟨m0,Fr,rfl⟩:=J6V.1 By;have RG:=(Q0d Fr).1;have P8:m0.id≠e.id:=by rw[(Q0d Fr).2];exact GH
   rw[Ch m0 RG P8] at hy;have B8:(Q0r e e.q.ks.length c).par=if c.id∈e.q.ks then e.q.par else c.q.par:=by unfold Q0r;rw[AU]
   rw[B8] at Fr;by_cases Gp:c.id∈e.q.ks
   ·rw[if_pos Gp] at Fr;obtain⟨d,hd,EO⟩:=ok.kids e BT c.id Gp;rw[Q0q ok.ids hc] at hd;cases hd;obtain⟨z,hz⟩:=f.is e BT;obtain⟨a1,a2⟩:=f.up c hc e (by rw[EO];exact he) x z hx hz;obtain⟨b1,b2⟩:=f.up e BT m0 Fr z y hz hy;refine⟨a1.trans b1,?_⟩;rw[<- a2,Nat.and_assoc,b2]
   ·rw[if_neg Gp] at Fr;exact f.up c hc m0 Fr x y hx hy
end
def Ent.c(e:Ent):Nat×Nat:=(e.h,e.r)
structure AV where
 en:Nat->Nat->Option (Nat×Nat)
 N:List (En Nd)
def avOf(l:List Pl)(tb:Nat->TB)(N:List (En Nd)):AV:=⟨fun h s=>(Q0f l tb h s).map Ent.c,N⟩
def setA(en:Nat->Nat->Option (Nat×Nat))(h s:Nat)(o:Option (Nat×Nat)):Nat->Nat->Option (Nat×Nat):=fun h' s'=>if h'=h/\s'=s then o else en h' s'
theorem Q9h(en:Nat->Nat->Option (Nat×Nat))(h s:Nat)(o:Option (Nat×Nat)):setA en h s o h s=o:=by unfold setA;rw[if_pos ⟨rfl,rfl⟩]
theorem Q5U{en:Nat->Nat->Option (Nat×Nat)}{h s h' s':Nat}{o:Option (Nat×Nat)}(Ac:¬(h'=h/\s'=s)):setA en h s o h' s'=en h' s':=by unfold setA;rw[if_neg Ac]
def less(r m:Nat):Nat:=r-(r&&&m)
theorem Q5o:∀r,r<16->∀m,m<16->less r m&&&m=0/\less r m&&&r=less r m/\less r m<=r:=by decide
theorem Q8d:∀r,r<16->less r 15=0:=by decide
theorem Z8Q:∀x,x<16->∀r,r<16->∀m,m<16->x&&&r=x->x&&&m=0->x&&&less r m=x:=by decide
def Q1H(m:Nat)(a:AV)(id:Int):AV×Bool:=match find a.N id with
 | none=>(a,false)
 | some n=>match a.en n.q.sp.toNat n.q.sl.toNat with
  | none=>(a,false)
  | some c=>if less c.2 m=0 then(⟨setA a.en n.q.sp.toNat n.q.sl.toNat none,Q0F a.N n n.q.ks.length⟩,true) else(⟨setA a.en n.q.sp.toNat n.q.sl.toNat (some (c.1,less c.2 m)),a.N⟩,false)
def Q1I(m:Nat):AV->List Int->AV×Nat
 | a,[]=>(a,0)
 | a,id::r=>((Q1I m (Q1H m a id).1 r).1,(if (Q1H m a id).2=true then 1 else 0)+(Q1I m (Q1H m a id).1 r).2)
theorem weakA_snoc(m:Nat):∀(l:List Int) (a:AV) (id:Int),Q1I m a (l++[id])=((Q1H m (Q1I m a l).1 id).1,(Q1I m a l).2+if (Q1H m (Q1I m a l).1 id).2=true then 1 else 0)
 | [],a,id=>by
  show((Q1H m a id).1,(if (Q1H m a id).2=true then 1 else 0)+0)=((Q1H m a id).1,0+if (Q1H m a id).2=true then 1 else 0);rw[J5F,J3q]
 | x::r,a,id=>by
  rw[J5m];unfold Q1I;rw[weakA_snoc m r (Q1H m a x).1 id];simp only[J4B]
theorem Z1O(m:Nat):∀(l:List Int) (a:AV),(Q1I m a l).2<=l.length
 | [],a=>J3h _
 | x::r,a=>by
  have:=Z1O m r (Q1H m a x).1;show(if (Q1H m a x).2=true then 1 else 0)+(Q1I m (Q1H m a x).1 r).2<=r.length+1;split <;> omega
def Q3p(m:Nat)(a:AV)(A:List Int)(id:Int):Prop:=∀e,find a.N id=some e->∀c∈e.q.ks,c∈A∨∀n,find a.N c=some n->∀x,a.en n.q.sp.toNat n.q.sl.toNat=some x->x.2&&&m=0
def WeakOk(m:Nat)(a:AV)(l:List Int):Prop:=m=15∨∀A id B,l=A++id::B->Q3p m a A id
theorem Q7l{N:List (En Nd)}{next:Int}(ok:NOk N next)(e:En Nd)(id:Int):find (Q0F N e e.q.ks.length) id=if id=e.id then none else(find N id).map fun c=>{c with q:=Q0r e e.q.ks.length c}:=by
 unfold Q0F;rw[Q1n,ok.rem_find];split <;> rfl
theorem Q8e(e c:En Nd):Q0r e e.q.ks.length c={c.q with par:=if c.id∈e.q.ks then e.q.par else c.q.par,ks:=if c.id=e.q.par then c.q.ks.filter (fun k=>decide (k≠e.id))++e.q.ks else c.q.ks}:=by
 unfold Q0r;rw[J7g]
theorem Z6b{N:List (En Nd)}{next:Int}(ok:NOk N next){a b:En Nd}(ha:a∈N)(hb:b∈N)(Ac:a.id≠b.id):¬(a.q.sp.toNat=b.q.sp.toNat/\a.q.sl.toNat=b.q.sl.toNat):=fun h=>by
 have h1:=ok.sm a ha;have h2:=ok.sm b hb;exact Ac (by rw[Q4K ok ha hb (by omega) (by omega)])
theorem WeakOk.step{m:Nat}{a:AV}{next:Int}(ok:NOk a.N next)(hr:∀h s x,a.en h s=some x->x.2<16)(hm:m<16){id:Int}{l:List Int}(h:WeakOk m a (id::l)):WeakOk m (Q1H m a id).1 l:=by
 rcases h with h|h
 ·exact .inl h
 refine .inr fun A x B hl=>?_
 have h0:=h [] id l rfl;have h1:=h (id::A) x B (by rw[hl];rfl);unfold Q1H;cases hf:find a.N id with
 | none =>
  simp only;intro e he c hc;rcases h1 e he c hc with hx|hx
  ·rcases J3m.1 hx with rfl|hx
   ·exact .inr fun n hn=>by rw[hf] at hn;cases hn
   ·exact .inl hx
  ·exact .inr hx
 | some d =>
  simp only;obtain⟨hd,IC⟩:=Q0d hf;cases Cu:a.en d.q.sp.toNat d.q.sl.toNat with
  | none =>
   simp only;intro e he c hc;rcases h1 e he c hc with hx|hx
   ·rcases J3m.1 hx with rfl|hx
    ·exact .inr fun n hn=>by rw[hf] at hn;cases hn;intro y hy;rw[Cu] at hy;cases hy
    ·exact .inl hx
   ·exact .inr hx
  | some y =>
   simp only;have hy:=hr _ _ _ Cu;split
   ·-- lifted
    have Wg:find a.N d.id=some d:=by rw[IC];exact hf
    have old:∀c n',find (Q0F a.N d d.q.ks.length) c=some n'->∃n,find a.N c=some n/\n∈a.N/\n.id≠d.id/\n'.q.sp=n.q.sp/\n'.q.sl=n.q.sl:=fun c n' Gj=>by
     rw[Q7l ok] at Gj;split at Gj
     ·cases Gj
     ·rename_i Fv;cases hn:find a.N c with
      | none=>rw[hn] at Gj;cases Gj
      | some n =>
       rw[hn] at Gj;simp only[J4P,J3v] at Gj;subst Gj;obtain⟨n1,n2⟩:=Q0d hn;exact⟨n,rfl,n1,by rw[n2];exact Fv,by rw[Q8e],by rw[Q8e]⟩
    have good:∀c,(∀n,find a.N c=some n->∀z,a.en n.q.sp.toNat n.q.sl.toNat=some z->z.2&&&m=0)->∀n',find (Q0F a.N d d.q.ks.length) c=some n'->∀z,setA a.en d.q.sp.toNat d.q.sl.toNat none n'.q.sp.toNat n'.q.sl.toNat=some z->z.2&&&m=0:=fun c hc n' Gj z hz=>by
     obtain⟨n,n1,n2,n3,n4,n5⟩:=old c n' Gj;rw[n4,n5,Q5U (Z6b ok n2 hd n3)] at hz;exact hc n n1 z hz
    intro e' AD c hc;have DZ:find (Q0F a.N d d.q.ks.length) x=some e':=AD;rw[Q7l ok] at DZ;split at DZ
    ·cases DZ
    ·rename_i X6;cases JY:find a.N x with
     | none=>rw[JY] at DZ;cases DZ
     | some e =>
      rw[JY] at DZ;simp only[J4P,J3v] at DZ;subst DZ;have Bo:c∈(Q0r d d.q.ks.length e).ks:=hc;rw[Q8e] at Bo;simp only at Bo;obtain⟨e1,e2⟩:=Q0d JY;have fromOld:c∈e.q.ks->c≠d.id->c∈A∨∀n',find (Q0F a.N d d.q.ks.length) c=some n'->∀z,setA a.en d.q.sp.toNat d.q.sl.toNat none n'.q.sp.toNat n'.q.sl.toNat=some z->z.2&&&m=0:=fun k1 k2=>by
       rcases h1 e JY c k1 with hx|hx
       ·rcases J3m.1 hx with h|hx
        ·exact absurd (h.trans IC.symm) k2
        ·exact .inl hx
       ·exact .inr (good c hx)
      split at Bo
      ·rcases J3Q.1 Bo with Bo|Bo
       ·obtain⟨k1,k2⟩:=J3B.1 Bo;exact fromOld k1 (by simpa using k2)
       ·rcases h0 d hf c Bo with hx|hx
        ·cases hx
        ·exact .inr (good c hx)
      ·rename_i B8;refine fromOld Bo fun k=>?_
       obtain⟨k1,k2,k3⟩:=ok.kids e e1 c Bo;rw[k,Wg] at k2;cases k2;exact B8 k3.symm
   ·-- weakened
    intro e he c hc;have DZ:find a.N x=some e:=he;have BF:∀n,n∈a.N->n.id≠d.id->setA a.en d.q.sp.toNat d.q.sl.toNat (some (y.1,less y.2 m)) n.q.sp.toNat n.q.sl.toNat=a.en n.q.sp.toNat n.q.sl.toNat:=fun n n1 n2=>Q5U (Z6b ok n1 hd n2)
    by_cases Fv:c=id
    ·refine .inr fun n hn z hz=>?_
     have G7:find a.N c=some n:=hn;rw[Fv,hf] at G7;cases G7;have Bk:setA a.en d.q.sp.toNat d.q.sl.toNat (some (y.1,less y.2 m)) d.q.sp.toNat d.q.sl.toNat=some z:=hz;rw[Q9h] at Bk;cases Bk;exact(Q5o y.2 hy m hm).1
    ·rcases h1 e DZ c hc with hx|hx
     ·rcases J3m.1 hx with h|hx
      ·exact absurd h Fv
      ·exact .inl hx
     ·refine .inr fun n hn z hz=>?_
      have G7:find a.N c=some n:=hn;obtain⟨n1,n2⟩:=Q0d G7;have Bk:setA a.en d.q.sp.toNat d.q.sl.toNat (some (y.1,less y.2 m)) n.q.sp.toNat n.q.sl.toNat=some z:=hz;rw[BF n n1 (by rw[n2,IC];exact Fv)] at Bk;exact hx n G7 z Bk
theorem Q9i{m:Nat}{a:AV}{next:Int}(ok:NOk a.N next)(id:Int)(self:Bool):WeakOk m a (Q0R (kdF a.N) (rkF next) id++if self=true then [id] else []):=by
 refine .inr fun A x B hl e he c hc=>.inl ?_
 have t:=ok.tree;have hk:c∈kdF a.N x:=by unfold kdF;rw[he];exact hc
 have ES:c≠x:=fun h=>by
  have:=t.dn x c hk;rw[h] at this;omega
 have Bj:Dn (kdF a.N) id x->c∈Q0R (kdF a.N) (rkF next) id:=fun hd=>by
  refine(Q7j t).2 ⟨hd.trans (.down x c c hk (.here c)),fun h=>?_⟩;have h1:=(Dn.rank t hd).1;have h2:=t.dn x c hk;rw[h] at h2;omega
 have hp:=Z3c t id;rcases List.append_eq_append_iff.1 hl with ⟨C,e1,e2⟩|⟨C,e1,e2⟩
 ·-- x is the last
  cases C with
  | nil =>
   rw[J5l] at e2;rw[J5h] at e1;cases self with
   | false=>rw[if_neg (by decide)] at e2;cases e2
   | true =>
    rw[if_pos rfl] at e2
    injection e2 with e2 e3
    subst e2;rw[e1];exact Bj (.here _)
  | cons y C =>
   cases self with
   | false=>rw[if_neg (by decide)] at e2;simp at e2
   | true=>rw[if_pos rfl] at e2;simp at e2
 ·-- x is below
  cases C with
  | nil =>
   rw[J5h] at e1;rw[J5l] at e2;cases self with
   | false=>rw[if_neg (by decide)] at e2;cases e2
   | true =>
    rw[if_pos rfl] at e2
    injection e2 with e2 e3
    subst e2;rw[<- e1];exact Bj (.here _)
  | cons y C =>
   rw[J5m] at e2
   injection e2 with e2 e3
   subst e2;have hx:x∈Q0R (kdF a.N) (rkF next) id:=by rw[e1];simp
   have Ne:=Bj ((Q7j t).1 hx).1;rw[e1] at Ne;rcases J3Q.1 Ne with h|h
   ·exact h
   ·rcases J3m.1 h with h|h
    ·exact absurd h ES
    ·rw[e1] at hp;have:=((J3P.1 hp).2.1)
     have:=(J3H.1 this).1 c h;exact absurd (.down x c c hk (.here c)) this.2
theorem Q2D{S:CO}{fr:List Nat}{N K:Nat}(ok:S.Ok fr N K){i j:Nat}{p r:Pl}(hi:S.l[i]?=some p)(hj:S.l[j]?=some r)(D2:i≠j)(hp:p.st=1)(hr:r.st=1):p.at_+costK p.kind<=r.at_∨r.at_+costK r.kind<=p.at_:=by
 have m:=ok.inv.mem;have FH:p.is=true:=Pl.is_iff.2 (.inl hp);have L5:r.is=true:=Pl.is_iff.2 (.inl hr);have F7:=J5p hi;have Pg:=J5p hj;by_cases Ft:p.kind=8
 ·obtain⟨g,hg,eg⟩:=m.frame F7 FH Ft;by_cases Gm:r.kind=8
  ·obtain⟨g',FE,eg'⟩:=m.frame Pg L5 Gm;have AP:(Q1Y S.l 8).Nodup:=by
    refine m.frs.nodup_iff.2 ?_;unfold List.Nodup;rw[J3L];exact(Q2V m.pool).1.imp fun h e=>h (by omega)
   have:g≠g':=fun e=>D2 (Z5i (atsF 8) AP hi hj (b:=p.at_) (by rw[<- Ft];exact Q1B FH) (by rw[<- Gm,Q1B L5,eg',<- e,eg]))
   rw[Ft,Gm,costK_8];omega
  ·have:=Q1L m.pool hg (m.used Pg L5 Gm);rw[Ft,costK_8,Q1d Gm];omega
 ·have hu:=m.used F7 FH Ft;by_cases Gm:r.kind=8
  ·obtain⟨g',FE,eg'⟩:=m.frame Pg L5 Gm;have:=Q1L m.pool FE hu;rw[Gm,costK_8,Q1d Ft];omega
  ·have hv:=m.used Pg L5 Gm;rw[Q1d Ft,Q1d Gm];refine Q3l m.pool hu hv fun e=>?_
   obtain⟨k1,k5⟩:=(m.kind p F7 FH).resolve_left Ft;exact D2 (Z5i (atsF p.kind) (m.at_nd p.kind k1 k5) hi hj (b:=p.at_) (Q1B FH) (by rw[e.1,Q1B L5,e.2]))
theorem bytes8_len(x:Nat):(Q0c x).length=8:=rfl
theorem Q1e(x y:Nat):(Q0c x++Q0c y).length=16:=rfl
theorem Q2Y(x:Nat):∀y∈Q0c x,y<256:=by
 intro y hy;unfold Q0c at hy;simp only[J3m,J3D,or_false] at hy;omega
theorem Q9j{m bs:List Nat}{a:Nat}(h:∀b∈m,b<256)(hb:∀b∈bs,b<256):∀b∈put_ m a bs,b<256:=by
 intro y hy;unfold put_ at hy;simp only[J3Q] at hy;rcases hy with (hy|hy)|hy
 ·exact h y (J6y hy)
 ·exact hb y hy
 ·exact h y (J5E hy)
def Q2Z(m m':List Nat)(a n:Nat):Prop:=∀b k,b+k<=a∨a+n<=b->Kept m m' b k
theorem Q2E{m bs:List Nat}{a:Nat}(hl:a+bs.length<=m.length):Q2Z m (put_ m a bs) a bs.length:=fun _ _ h=>Q1w hl h
theorem Z3g{m:List Nat}{a x:Nat}(hl:a+8<=m.length)(hx:x<18446744073709551616):Q0m (put_ m a (Q0c x)) a=x:=by
 unfold Q0m;have:((put_ m a (Q0c x)).drop a).take 8=Q0c x:=by
  apply J4J
  intro i;rw[J5e];split
  ·rw[J5D];exact Q7e (by rw[bytes8_len];exact hl) (by rw[bytes8_len];assumption)
  ·rw[J4Q (by rw[bytes8_len];omega)]
 rw[this];exact Q2n x hx
theorem Z3h{m:List Nat}{a x y:Nat}(hl:a+16<=m.length)(hx:x<18446744073709551616)(hy:y<18446744073709551616):Q0m (put_ m a (Q0c x++Q0c y)) a=x/\Q0m (put_ m a (Q0c x++Q0c y)) (a+8)=y:=by
 have h1:((put_ m a (Q0c x++Q0c y)).drop a).take 8=Q0c x:=by
  apply J4J
  intro i;rw[J5e];split
  ·rename_i hi;rw[J5D,Q7e (by rw[Q1e];exact hl) (by rw[Q1e];omega),J6p (by rw[bytes8_len];exact hi)]
  ·rw[J4Q (by rw[bytes8_len];omega)]
 have h2:((put_ m a (Q0c x++Q0c y)).drop (a+8)).take 8=Q0c y:=by
  apply J4J
  intro i;rw[J5e];split
  ·rename_i hi;rw[J5D,J4B,Q7e (by rw[Q1e];exact hl) (by rw[Q1e];omega),J6q (by rw[bytes8_len];omega),bytes8_len,show 8+i-8=i by omega]
  ·rw[J4Q (by rw[bytes8_len];omega)]
 unfold Q0m;rw[h1,h2];exact⟨Q2n x hx,Q2n y hy⟩
section
variable {S:CO} {fr:List Nat} {N K:Nat} {tb:Nat->TB} {own:Int} {xl xn:List Nat}
theorem Q3a(ok:S.Ok fr N K){j a b n:Nat}{m:List Nat}(ha:a∈S.P.usedOf j)(h1:a<=b)(h2:b+n<=a+Q0e j)(hk:Q2Z S.P.a.mem m b n){j' a':Nat}(Gu:a'∈S.P.usedOf j')(Ac:¬(j=j'/\a=a')):Kept S.P.a.mem m a' (Q0e j'):=by
 have:=Q3l ok.inv.mem.pool ha Gu Ac;exact hk _ _ (by omega)
theorem TPX.leaf_ne(ok:S.Ok fr N K)(t:TPX S tb own xl xn){i j k k':Nat}(hi:i<256)(hj:j<256)(hk:k<16)(BC:k'<16)(h:(tb i).lf k≠0)(h':(tb j).lf k'≠0)(Ac:¬(i=j/\k=k')):(tb i).lf k≠(tb j).lf k':=by
 have AP:(xl++Q1Z tb).Nodup:=t.lvs.nodup_iff.2 ((Q1P ok.inv.mem.pool 7).imp fun h=>Nat.ne_of_lt h);have AP:=(J3U.1 AP).2.1;unfold Q1Z List.Nodup at AP;rw[J3I] at AP;obtain⟨n1,n2⟩:=AP;by_cases e:i=j
 ·subst e;have Ej:k≠k':=fun e=>Ac ⟨rfl,e⟩
  have:=n1 i (J3x.2 hi);unfold TB.lvs at this;rw[J3z] at this;rcases J5K k k' with Aa|Mj
  ·have:=J6d.1 this k k' (by simpa using hk) (by simpa using BC) Aa;simp only[J7h] at this;exact this _ (by rw[if_neg h]) _ (by rw[if_neg h'])
  ·have:=J6d.1 this k' k (by simpa using BC) (by simpa using hk) (by omega);simp only[J7h] at this;exact(this _ (by rw[if_neg h']) _ (by rw[if_neg h])).symm
 ·rcases J5K i j with Aa|Mj
  ·have:=J6d.1 n2 i j (by simpa using hi) (by simpa using hj) Aa;simp only[J7h] at this;exact this _ (mem_lvs.2 ⟨k,hk,rfl,h⟩) _ (mem_lvs.2 ⟨k',BC,rfl,h'⟩)
  ·have:=J6d.1 n2 j i (by simpa using hj) (by simpa using hi) (by omega);simp only[J7h] at this;exact(this _ (mem_lvs.2 ⟨k',BC,rfl,h'⟩) _ (mem_lvs.2 ⟨k,hk,rfl,h⟩)).symm
theorem TPX.entry(ok:S.Ok fr N K)(t:TPX S tb own xl xn){i s:Nat}{p:Pl}(hi:S.l[i]?=some p)(h1:p.st=1)(h2:p.kind=2)(An:(p.fac:Int)=own)(hs:s<256)(hl:(tb i).lf (s/16)≠0){o:Option Ent}{xn':List Nat}{m:List Nat}(Ab:m.length=S.P.a.mem.length)(hb:∀b∈m,b<256)
  (hk:Q2Z S.P.a.mem m ((tb i).lf (s/16)+16*(s%16)) 16) (ha:Q0m m ((tb i).lf (s/16)+16*(s%16))=Q0t o) (Ae:Q0m m ((tb i).lf (s/16)+16*(s%16)+8)=Q0T o) (hn:(xn'++((tb i).setE s o).nds).Perm (xn++(tb i).nds)) :
  (S.setP (S.P.setA m)).Ok fr N K/\TPX (S.setP (S.P.setA m)) (updT tb i ((tb i).setE s o)) own xl xn':=by
 have Ar:=Q1C ok.inv.len hi;have hL:=t.leaf Ar (by omega:s/16<16) hl;have CX:(tb i).lf (s/16)<=(tb i).lf (s/16)+16*(s%16)/\(tb i).lf (s/16)+16*(s%16)+16<=(tb i).lf (s/16)+Q0e 7:=by rw[Q2C];omega
 have Bl:∀{j' a':Nat},a'∈S.P.usedOf j'->¬(7=j'/\(tb i).lf (s/16)=a')->Kept S.P.a.mem m a' (Q0e j'):=fun Gu Ac=>Q3a ok hL CX.1 CX.2 hk Gu Ac
 have AH:((tb i).setE s o).lvs=(tb i).lvs:=rfl;obtain⟨A,B,e1,e2⟩:=Q4j TB.lvs tb Ar ((tb i).setE s o);obtain⟨A',B',e3,e4⟩:=Q4j TB.nds tb Ar ((tb i).setE s o);refine⟨ok.stored Ab hb (fun b Al=>?_),fun j q hj q1 q2=>?_,fun j q hj hq=>?_,?_,?_,fun id=>?_⟩
 ·have:=Bl Al (by omega);exact(this.sub (b:=b) (k:=8) (J3h _) (by show b+8<=b+64;omega)).word
 ·show(updT tb i _ j).In m q.at_;have Bn:S.l[j]?=some q:=hj;have DG:=Q1C ok.inv.len Bn;by_cases e:j=i
  ·subst e;rw[updT_same];have Ob:q=p:=by rw[hi] at Bn;exact(J3Y Bn).symm
   subst Ob;refine(t.tin j q hi h1 h2).set hs hl hk ha Ae ?_ (fun k CP hkne BE=>?_)
   ·have:=Q3l ok.inv.mem.pool (Q1m ok hi h1 h2) hL (by omega);exact this
   ·have Ac:=t.leaf_ne ok Ar Ar CP (by omega:s/16<16) BE hl (fun e=>hkne e.2);exact Q3l ok.inv.mem.pool (t.leaf Ar CP BE) hL (fun e=>Ac e.2)
  ·rw[Q0x e];refine(t.tin j q Bn q1 q2).kept (Bl (Q1m ok Bn q1 q2) (by omega)) fun k CP BE=>?_
   exact Bl (t.leaf DG CP BE) (fun e'=>t.leaf_ne ok Ar DG (by omega:s/16<16) CP hl BE (fun e''=>e e''.1.symm) e'.2)
 ·have Bn:S.l[j]?=some q:=hj;have e:j≠i:=fun e=>by
   subst e;rw[hi] at Bn;cases Bn;exact hq ⟨h1,h2⟩
  rw[Q0x e];exact t.nil j q Bn hq
 ·show(xl++Q1Z _).Perm (S.P.usedOf 7);have:Q1Z (updT tb i ((tb i).setE s o))=Q1Z tb:=by
   unfold Q1Z;rw[e1,e2,AH]
  rw[this];exact t.lvs
 ·show(xn'++Q2r _).Perm (S.P.usedOf 6);refine List.Perm.trans ?_ t.nds;unfold Q2r;rw[e3,e4];have r:∀(X Y:List Nat),(X++(A'++Y++B')).Perm (X++Y++(A'++B')):=fun X Y=>by
   rw[J4b A' Y B',J4b X Y];refine J5S X ?_;rw[<- J4b,<- J4b];exact J5P.append_right B'
  exact(r _ _).trans ((hn.append_right _).trans (r _ _).symm)
 ·show S.xc id=xcOf S.l _ id+_;rw[Q9e Ar hi,t.xc];have hc:((tb i).setE s o).cost=(tb i).cost+48*(((tb i).setE s o).nds.length:Int)-48*((tb i).nds.length:Int):=by
   unfold TB.cost;rw[AH];omega
  have Hl:=hn.length_eq;rw[J3N,J3N] at Hl;rw[hc];by_cases hid:id=own
  ·subst hid;rw[if_pos rfl,if_pos rfl,if_pos An];omega
  ·rw[if_neg hid,if_neg hid,if_neg (by omega)];omega
theorem TPX.rootw(ok:S.Ok fr N K)(t:TPX S tb own xl xn){i k:Nat}{p:Pl}(hi:S.l[i]?=some p)(h1:p.st=1)(h2:p.kind=2)(An:(p.fac:Int)=own)(CP:k<16){L:Nat}{xl':List Nat}{m:List Nat}(Ab:m.length=S.P.a.mem.length)(hb:∀b∈m,b<256)
  (hk:Q2Z S.P.a.mem m (p.at_+8*k) 8) (Bj:((tb i).setL k L).In m p.at_) (hn:(xl'++((tb i).setL k L).lvs).Perm (xl++(tb i).lvs)) :
  (S.setP (S.P.setA m)).Ok fr N K/\TPX (S.setP (S.P.setA m)) (updT tb i ((tb i).setL k L)) own xl' xn:=by
 have Ar:=Q1C ok.inv.len hi;have hT:=Q1m ok hi h1 h2;have CX:p.at_<=p.at_+8*k/\p.at_+8*k+8<=p.at_+Q0e 2:=by
  have:Q0e 2=128:=rfl;omega
 have Bl:∀{j' a':Nat},a'∈S.P.usedOf j'->¬(2=j'/\p.at_=a')->Kept S.P.a.mem m a' (Q0e j'):=fun Gu Ac=>Q3a ok hT CX.1 CX.2 hk Gu Ac
 have AH:((tb i).setL k L).nds=(tb i).nds:=rfl;obtain⟨A,B,e1,e2⟩:=Q4j TB.lvs tb Ar ((tb i).setL k L);obtain⟨A',B',e3,e4⟩:=Q4j TB.nds tb Ar ((tb i).setL k L);refine⟨ok.stored Ab hb (fun b Al=>?_),fun j q hj q1 q2=>?_,fun j q hj hq=>?_,?_,?_,fun id=>?_⟩
 ·have:=Bl Al (by omega);exact(this.sub (b:=b) (k:=8) (J3h _) (by show b+8<=b+64;omega)).word
 ·show(updT tb i _ j).In m q.at_;have Bn:S.l[j]?=some q:=hj;have DG:=Q1C ok.inv.len Bn;by_cases e:j=i
  ·subst e;rw[updT_same];have Ob:q=p:=by rw[hi] at Bn;exact(J3Y Bn).symm
   subst Ob;exact Bj
  ·rw[Q0x e];refine(t.tin j q Bn q1 q2).kept (Bl (Q1m ok Bn q1 q2) (fun e'=>?_)) fun k' hk16' BE=>Bl (t.leaf DG hk16' BE) (by omega)
   have:=Q2D ok hi Bn (fun e''=>e e''.symm) h1 q1;rw[h2,q2,Z5U] at this;omega
 ·have Bn:S.l[j]?=some q:=hj;have e:j≠i:=fun e=>by
   subst e;rw[hi] at Bn;cases Bn;exact hq ⟨h1,h2⟩
  rw[Q0x e];exact t.nil j q Bn hq
 ·show(xl'++Q1Z _).Perm (S.P.usedOf 7);refine List.Perm.trans ?_ t.lvs;unfold Q1Z;rw[e1,e2];have r:∀(X Y:List Nat),(X++(A++Y++B)).Perm (X++Y++(A++B)):=fun X Y=>by
   rw[J4b A Y B,J4b X Y];refine J5S X ?_;rw[<- J4b,<- J4b];exact J5P.append_right B
  exact(r _ _).trans ((hn.append_right _).trans (r _ _).symm)
 ·show(xn++Q2r _).Perm (S.P.usedOf 6);have:Q2r (updT tb i ((tb i).setL k L))=Q2r tb:=by
   unfold Q2r;rw[e3,e4,AH]
  rw[this];exact t.nds
 ·show S.xc id=xcOf S.l _ id+_;rw[Q9e Ar hi,t.xc];have hc:((tb i).setL k L).cost=(tb i).cost+256*(((tb i).setL k L).lvs.length:Int)-256*((tb i).lvs.length:Int):=by
   unfold TB.cost;rw[AH];omega
  have Hl:=hn.length_eq;rw[J3N,J3N] at Hl;rw[hc];by_cases hid:id=own
  ·subst hid;rw[if_pos rfl,if_pos rfl,if_pos An];omega
  ·rw[if_neg hid,if_neg hid,if_neg (by omega)];omega
end
structure Alt(S S':CO)(own:Int):Prop where
 c:S'.c=S.c
 t:S'.t=S.t
 l:S'.l=S.l
 g:S'.g=S.g
 per:S'.period=S.period
 now:S'.now=S.now
 rv:S'.rv=S.rv
 ts:S'.ts=S.ts
 same:SameP S.P S'.P
 next:S'.P.q.next=S.P.q.next
 acc:∀id e,find S.P.q.E id=some e->∃e',find S'.P.q.E id=some e'/\e'.q={e.q with charged:=e'.q.charged}/\(id≠own->e'=e)
 ids:S'.P.q.E.map En.id=S.P.q.E.map En.id
 kept:∀r∈S.l,r.is=true->r.kind≠2->Kept S.P.a.mem S'.P.a.mem r.at_ (costK r.kind)
theorem Alt.refl(S:CO)(own:Int):Alt S S own:=⟨rfl,rfl,rfl,rfl,rfl,rfl,rfl,rfl,SameP.refl _,rfl,fun _ e h=>⟨e,h,rfl,fun _=>rfl⟩,rfl,fun _ _ _ _=>Kept.refl _ _ _⟩
theorem Alt.trans{S S1 S2:CO}{own:Int}(h:Alt S S1 own)(k:Alt S1 S2 own):Alt S S2 own:=by
 refine⟨k.c.trans h.c,k.t.trans h.t,k.l.trans h.l,k.g.trans h.g,k.per.trans h.per,k.now.trans h.now,k.rv.trans h.rv,k.ts.trans h.ts,h.same.trans k.same,k.next.trans h.next,fun id e he=>?_,k.ids.trans h.ids,fun r hr hi hk=>?_⟩
 ·obtain⟨e1,a1,a2,a3⟩:=h.acc id e he;obtain⟨e2,b1,b2,b3⟩:=k.acc id e1 a1;refine⟨e2,b1,?_,fun Ac=>(b3 Ac).trans (a3 Ac)⟩;rw[b2,a2]
 ·exact(h.kept r hr hi hk).trans (k.kept r (by rw[h.l];exact hr) hi hk)
theorem Alt.got{S:CO}{fr:List Nat}{N K:Nat}(ok:S.Ok fr N K){own:Int}{n a:Nat}{P':PL}(g:GetOk S.P fr own n a P'):Alt S (S.paid P' own ((Q0e n:Nat):Int)) own:=by
 have gm:=g.gotM ok.inv.mem.pool;obtain⟨e,q1,q2,q3⟩:=g.q;refine⟨rfl,rfl,rfl,rfl,rfl,rfl,rfl,rfl,gm.same,by show P'.q.next=_;rw[q3],fun id x hx=>?_,?_,fun r hr hi hk=>?_⟩
 ·show ∃e',find P'.q.E id=some e'/\_;rw[q3];by_cases hid:id=own
  ·subst hid;rw[q1] at hx;cases hx;exact⟨_,Q0n q1 _,rfl,fun h=>absurd rfl h⟩
  ·exact⟨x,by rw[Q0M hid];exact hx,rfl,fun _=>rfl⟩
 ·show P'.q.E.map En.id=_;rw[q3];exact Q2p _ _ _
 ·exact gm.keptL ok.inv.mem r hr hi
theorem Alt.put{S:CO}{fr:List Nat}{N K:Nat}(ok:S.Ok fr N K){own:Int}{n a:Nat}{P':PL}(g:PutOk S.P fr own n a P'):Alt S (S.paid P' own (-((Q0e n:Nat):Int))) own:=by
 have bm:=g.backM ok.inv.mem.pool;obtain⟨e,q1,q2,q3⟩:=g.q;refine⟨rfl,rfl,rfl,rfl,rfl,rfl,rfl,rfl,bm.same,by show P'.q.next=_;rw[q3],fun id x hx=>?_,?_,fun r hr hi hk=>?_⟩
 ·show ∃e',find P'.q.E id=some e'/\_;rw[q3];by_cases hid:id=own
  ·subst hid;rw[q1] at hx;cases hx;exact⟨_,Q0n q1 _,rfl,fun h=>absurd rfl h⟩
  ·exact⟨x,by rw[Q0M hid];exact hx,rfl,fun _=>rfl⟩
 ·show P'.q.E.map En.id=_;rw[q3];exact Q2p _ _ _
 ·show Kept S.P.a.mem P'.a.mem _ _;rw[bm.mem];exact Kept.refl _ _ _
theorem Alt.mem{S:CO}{fr:List Nat}{N K:Nat}(ok:S.Ok fr N K)(own:Int){j a b n:Nat}{m:List Nat}(hj:j=2∨j=7)(ha:a∈S.P.usedOf j)(h1:a<=b)(h2:b+n<=a+Q0e j)(Ab:m.length=S.P.a.mem.length)(hk:Q2Z S.P.a.mem m b n):Alt S (S.setP (S.P.setA m)) own:=by
 refine⟨rfl,rfl,rfl,rfl,rfl,rfl,rfl,rfl,⟨rfl,rfl,rfl,rfl,rfl,rfl,Ab⟩,rfl,fun _ e h=>⟨e,h,rfl,fun _=>rfl⟩,rfl,fun r hr hi Ax=>?_⟩;show Kept S.P.a.mem m _ _;by_cases h8:r.kind=8
 ·obtain⟨g,hg,e⟩:=ok.inv.mem.frame hr hi h8;have:=Q1L ok.inv.mem.pool hg ha;rw[h8,costK_8,e];exact hk _ _ (by omega)
 ·have hu:=ok.inv.mem.used hr hi h8;have Bd:=(ok.inv.mem.kind r hr hi).resolve_left h8;rw[Q1d h8];exact Q3a ok ha h1 h2 hk hu (fun e=>by omega)
theorem costs_67:Q1a 6=48/\Q1a 7=256:=⟨rfl,rfl⟩
theorem CO.stepPaid{w w':World}{S:CO}(h:Sep w S.hl)(P':PL)(own d:Int)(e:P'.p=S.P.p)(s:Step S.P.hl P'.hl w w'):Step S.hl (S.paid P' own d).hl w w':=CO.stepP h P' e s
theorem CO.stepMem{w w':World}{S:CO}(h:Sep w S.hl)(m:List Nat)(s:Step S.P.a.hl ({S.P.a with mem:=m}:AN).hl w w'):Step S.hl (S.setP (S.P.setA m)).hl w w':=
 CO.stepP h (S.P.setA m) rfl (PL.stepA (CO.sP h) m s)
end Go.Proofs.YtfidemmgofcnmaaGreatDoor
