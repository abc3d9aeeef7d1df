/- SpaceItems returns true at every input. No condition. Part of its proof. -/
import Derived.Test.YtlakjlmaboioiaaGreatDoorSi01
import Derived.Test.YtlakjlmaboioiaaGreatDoorSi13
import Derived.Test.YtlakjlmaboioiaaGreatDoorSi02
import Derived.Test.YtlakjlmaboioiaaGreatDoorSi05
import Derived.Deep.LoopGhost
import Derived.Maps.AppendAt
import Derived.RangeFuncBox
import Derived.IntWalk
set_option linter.unusedVariables false
namespace Go.Proofs.YtlakjlmaboioiaaGreatDoor
open Go.RowKit Go.Proofs.Tryz
structure Nd where
 sp:Int
 sl:Int
 par:Int
 ks:List Int
def mapE (f:En Nd->Nd) (N:List (En Nd)):List (En Nd):=N.map fun e=>{e with q:=f e}
theorem Q1j (f:En Nd->Nd) (N:List (En Nd)) (id:Int):find (mapE f N) id=(find N id).map fun e=>{e with q:=f e}:=by
 induction N with
 | nil=>rfl
 | cons x r ih =>
  by_cases h:id=x.id
  ·simp [mapE,find,h]
  ·have ih':find (r.map fun e=>{e with q:=f e}) id=_:=ih;simp [mapE,find,h,ih']
theorem Q1c {f:En Nd->Nd} {N:List (En Nd)} {x:En Nd} (h:x∈mapE f N):∃e∈N,x={e with q:=f e}:=by
 obtain⟨e,he,rfl⟩:=J0z.1 h;exact⟨e,he,rfl⟩
theorem Q9t {f:En Nd->Nd} {N:List (En Nd)} (h:∀e∈N,f e=e.q):mapE f N=N:=by
 unfold mapE
 conv=>rhs;rw [<- List.map_id N]
 exact J2B fun e he=>by rw [h e he];rfl
theorem Q5G (f g:En Nd->Nd) (N:List (En Nd)):mapE g (mapE f N)=mapE (fun e=>g {e with q:=f e}) N:=by
 unfold mapE;rw [J2A];rfl
theorem Q4G {f g:En Nd->Nd} {N:List (En Nd)} (h:∀e∈N,f e=g e):mapE f N=mapE g N:=by
 unfold mapE;exact J2B fun e he=>by rw [h e he]
theorem Q1J {f:En Nd->Nd} {N:List (En Nd)} {R:En Nd->En Nd->Prop} (h:∀a b,R a b->R {a with q:=f a} {b with q:=f b}) (hp:N.Pairwise R):(mapE f N).Pairwise R:=by
 unfold mapE;rw [J0Y];exact hp.imp fun {a b} hab=>h a b hab
theorem Q2f {N:List (En Nd)} (hids:N.Pairwise (fun a b=>a.id≠b.id)) (id:Int):∀x,x∈rem N id↔x∈N/\x.id≠id:=by
 induction N with
 | nil=>simp [rem]
 | cons y r ih =>
  obtain⟨h1,h2⟩:=J0U.1 hids;intro x;by_cases hk:id=y.id
  ·subst hk;simp only [rem,if_true,J0y]
   constructor
   ·intro hx;exact⟨.inr hx,fun e=>h1 x hx e.symm⟩
   ·rintro⟨rfl|hx,hne⟩
    ·exact absurd rfl hne
    ·exact hx
  ·simp only [rem,hk,if_false,J0y];rw [ih h2 x]
   constructor
   ·rintro (rfl|⟨hx,hne⟩)
    ·exact⟨.inl rfl,fun e=>hk e.symm⟩
    ·exact⟨.inr hx,hne⟩
   ·rintro⟨rfl|hx,hne⟩
    ·exact .inl rfl
    ·exact .inr ⟨hx,hne⟩
structure NOk (N:List (En Nd)) (next:Int):Prop where
 ids:N.Pairwise (fun a b=>a.id≠b.id)
 spots:N.Pairwise (fun a b=>(a.q.sp,a.q.sl)≠(b.q.sp,b.q.sl))
 next0:0<=next
 rng:∀e∈N,1<=e.id/\e.id<=next
 sm:∀e∈N,0<=e.q.sp/\e.q.sp<4294967296/\0<=e.q.sl/\e.q.sl<256
 par:∀e∈N,0<=e.q.par/\(e.q.par≠0->∃p,find N e.q.par=some p/\e.id∈p.q.ks)
 kids:∀p∈N,∀k∈p.q.ks,∃e,find N k=some e/\e.q.par=p.id
 nd:∀p∈N,p.q.ks.Nodup
 rise:∀e∈N,e.q.par<e.id
theorem Q0g {N:List (En Nd)} (hids:N.Pairwise (fun a b=>a.id≠b.id)) {e:En Nd} (h:e∈N):find N e.id=some e:=by
 induction N with
 | nil=>cases h
 | cons x r ih =>
  obtain⟨h1,h2⟩:=J0U.1 hids;rcases J0y.1 h with rfl|h
  ·simp [find]
  ·have hne:¬e.id=x.id:=fun e'=>h1 e h e'.symm
   simp only [find,hne,if_false];exact ih h2 h
theorem Q3G {N:List (En Nd)} {next:Int} (ok:NOk N next) {a b:En Nd} (ha:a∈N) (hb:b∈N) (h1:a.q.sp=b.q.sp) (h2:a.q.sl=b.q.sl):a=b:=by
 obtain⟨i,hi⟩:=J3g.1 ha;obtain⟨j,hj⟩:=J3g.1 hb;obtain⟨i1,i2⟩:=J0K.1 hi;obtain⟨j1,j2⟩:=J0K.1 hj;rcases J3s i j with h|h|h
 ·have:=J3t.1 ok.spots i j i1 j1 h;rw [i2,j2] at this;exact absurd (Prod.ext h1 h2) this
 ·subst h;rw [<- i2,<- j2]
 ·have:=J3t.1 ok.spots j i j1 i1 h;rw [i2,j2] at this;exact absurd (Prod.ext h1.symm h2.symm) this
def kdF (N:List (En Nd)) (id:Int):List Int:=match find N id with
 | some e=>e.q.ks
 | none=>[]
def rkF (next:Int) (id:Int):Nat:=(next+1-id).toNat
theorem NOk.tree {N:List (En Nd)} {next:Int} (ok:NOk N next):Fst3 (kdF N) (rkF next):=by
 have get:∀{h x},x∈kdF N h->∃p e,find N h=some p/\x∈p.q.ks/\find N x=some e/\e.q.par=p.id/\p.id=h:=by
  intro h x hx;unfold kdF at hx;cases hf:find N h with
  | none=>rw [hf] at hx;cases hx
  | some p =>
   rw [hf] at hx;obtain⟨e,h1,h2⟩:=ok.kids p (Q0b hf).1 x hx;exact⟨p,e,rfl,hx,h1,h2,(Q0b hf).2⟩
 refine⟨fun h x hx=>?_,fun a b x ha hb=>?_,fun h=>?_⟩
 ·obtain⟨p,e,h1,h2,h3,h4,h5⟩:=get hx;obtain⟨e1,e2⟩:=Q0b h3;have:=ok.rise e e1;have:=ok.rng e e1;unfold rkF;omega
 ·obtain⟨p,e,h1,h2,h3,h4,h5⟩:=get ha;obtain⟨p',e',h1',h2',h3',h4',h5'⟩:=get hb;rw [h3] at h3';cases h3';omega
 ·unfold kdF;cases hf:find N h with
  | none=>simp
  | some p=>exact ok.nd p (Q0b hf).1
theorem NOk.zero {N:List (En Nd)} {next:Int} (ok:NOk N next):find N 0=none:=by
 cases hf:find N 0 with
 | none=>rfl
 | some e =>
  obtain⟨h1,h2⟩:=Q0b hf;have:=ok.rng e h1;omega
def addN (N:List (En Nd)) (par:Int) (k:Int) (b:Nat) (sp sl:Int):List (En Nd):=mapE (fun c=>if c.id=par then {c.q with ks:=c.q.ks++[k]} else c.q) N++[⟨k,b,⟨sp,sl,par,[]⟩⟩]
theorem Q7s (N:List (En Nd)) (x:En Nd) (id:Int):find (N++[x]) id=(find N id).or (if id=x.id then some x else none):=by
 rw [Q1G];cases find N id <;> rfl
theorem NOk.add {N:List (En Nd)} {next:Int} (ok:NOk N next) {par sp sl:Int} (b:Nat) (hp:par=0∨∃p,find N par=some p) (hno:∀e∈N,(e.q.sp,e.q.sl)≠(sp,sl)) (h1:0<=sp) (h2:sp<4294967296) (h3:0<=sl) (h4:sl<256):NOk (addN N par (next+1) b sp sl) (next+1):=by
 have hn0:=ok.next0;have hnew:find N (next+1)=none:=by
  cases hf:find N (next+1) with
  | none=>rfl
  | some e =>
   obtain⟨e1,e2⟩:=Q0b hf;have:=ok.rng e e1;omega
 have hpr:0<=par/\par<=next:=by
  rcases hp with rfl|⟨p,hp⟩
  ·omega
  ·obtain⟨e1,e2⟩:=Q0b hp;have:=ok.rng p e1;omega
 have hfind:∀id,find (addN N par (next+1) b sp sl) id=if id=next+1 then some ⟨next+1,b,⟨sp,sl,par,[]⟩⟩ else (find N id).map fun c=>{c with q:=if c.id=par then {c.q with ks:=c.q.ks++[next+1]} else c.q}:=fun id=>by
  unfold addN;rw [Q7s,Q1j];by_cases h:id=next+1
  ·subst h;rw [hnew];simp
  ·cases hf:find N id with
   | none=>simp [h]
   | some e=>simp [h]
 have hmem:∀{x},x∈addN N par (next+1) b sp sl->(∃e∈N,x={e with q:=if e.id=par then {e.q with ks:=e.q.ks++[next+1]} else e.q})∨x=⟨next+1,b,⟨sp,sl,par,[]⟩⟩:=fun {x} hx=>by
  rcases J1h.1 hx with hx|hx
  ·exact .inl (Q1c hx)
  ·exact .inr (J2z.1 hx)
 refine⟨?_,?_,by omega,fun x hx=>?_,fun x hx=>?_,fun x hx=>?_,fun x hx k hk=>?_,fun x hx=>?_,fun x hx=>?_⟩
 ·unfold addN;rw [J1g];refine⟨Q1J (fun a b h=>h) ok.ids,by simp,fun x hx y hy=>?_⟩;obtain⟨e,he,rfl⟩:=Q1c hx;rw [J2z] at hy;subst hy;have:=ok.rng e he;show e.id≠next+1;omega
 ·unfold addN;rw [J1g];refine⟨Q1J (fun a b h=>?_) ok.spots,by simp,fun x hx y hy=>?_⟩
  ·have e1:∀c:En Nd,(if c.id=par then ({c.q with ks:=c.q.ks++[next+1]}:Nd) else c.q).sp=c.q.sp/\(if c.id=par then ({c.q with ks:=c.q.ks++[next+1]}:Nd) else c.q).sl=c.q.sl:=fun c=>by split <;> exact⟨rfl,rfl⟩
   show ((if a.id=par then ({a.q with ks:=a.q.ks++[next+1]}:Nd) else a.q).sp,_)≠_;rw [(e1 a).1,(e1 a).2,(e1 b).1,(e1 b).2];exact h
  ·obtain⟨e,he,rfl⟩:=Q1c hx;rw [J2z] at hy;subst hy;have:=hno e he;show ((if e.id=par then ({e.q with ks:=e.q.ks++[next+1]}:Nd) else e.q).sp,(if e.id=par then ({e.q with ks:=e.q.ks++[next+1]}:Nd) else e.q).sl)≠_;split <;> exact this
 ·rcases hmem hx with ⟨e,he,rfl⟩|rfl
  ·have:=ok.rng e he;exact⟨this.1,by show e.id<=_;omega⟩
  ·exact⟨by show 1<=next+1;omega,J4r _⟩
 ·rcases hmem hx with ⟨e,he,rfl⟩|rfl
  ·have:=ok.sm e he;simp only;split <;> exact this
  ·exact⟨h1,h2,h3,h4⟩
 ·have key:∀e∈N,∀pr:Int,pr=e.q.par->0<=pr/\(pr≠0->∃p,find (addN N par (next+1) b sp sl) pr=some p/\e.id∈p.q.ks):=fun e he pr hpr'=>by
   subst hpr';obtain⟨q1,q2⟩:=ok.par e he;refine⟨q1,fun h0=>?_⟩;obtain⟨p,hp,hk⟩:=q2 h0;obtain⟨p1,p2⟩:=Q0b hp;have:=ok.rng p p1;refine⟨_,by rw [hfind,if_neg (by omega),hp];rfl,?_⟩;simp only;split
   ·exact J1n _ hk
   ·exact hk
  rcases hmem hx with ⟨e,he,rfl⟩|rfl
  ·exact key e he _ (by simp only;split <;> rfl)
  ·refine⟨hpr.1,fun h0=>?_⟩;have h0':par≠0:=h0;obtain⟨p,hp⟩:=hp.resolve_left h0';obtain⟨p1,p2⟩:=Q0b hp;refine⟨_,by rw [hfind,if_neg (by show par≠_;omega)];show (find N par).map _=_;rw [hp];rfl,?_⟩;simp only [p2,if_true];exact J1m _ (by simp)
 ·have old:∀e∈N,∀k∈e.q.ks,∃c,find (addN N par (next+1) b sp sl) k=some c/\c.q.par=e.id:=fun e he k hk=>by
   obtain⟨c,hc,hcp⟩:=ok.kids e he k hk;obtain⟨c1,c2⟩:=Q0b hc;have:=ok.rng c c1;refine⟨_,by rw [hfind,if_neg (by omega),hc];rfl,?_⟩;simp only;split <;> exact hcp
  rcases hmem hx with ⟨e,he,rfl⟩|rfl
  ·by_cases hep:e.id=par
   ·have hk':k∈e.q.ks++[next+1]:=by
     have:=hk;simp only [hep,if_true] at this;exact this
    rcases J1h.1 hk' with hk'|hk'
    ·exact old e he k hk'
    ·rw [J2z] at hk';subst hk';exact⟨_,by rw [hfind,if_pos rfl],hep.symm⟩
   ·have hk':k∈e.q.ks:=by
     have:=hk;simp only [hep,if_false] at this;exact this
    exact old e he k hk'
  ·cases hk
 ·rcases hmem hx with ⟨e,he,rfl⟩|rfl
  ·have hnd:=ok.nd e he;simp only;split
   ·show (e.q.ks++[next+1]).Nodup;rw [J1l];refine⟨hnd,by simp,fun a ha b' hb'=>?_⟩;rw [J2z] at hb';subst hb';obtain⟨c,hc,_⟩:=ok.kids e he a ha;obtain⟨c1,c2⟩:=Q0b hc;have:=ok.rng c c1;omega
   ·exact hnd
  ·exact J4q
 ·rcases hmem hx with ⟨e,he,rfl⟩|rfl
  ·have:=ok.rise e he;simp only;split <;> exact this
  ·show par<next+1;omega
def Q0r (e:En Nd) (j:Nat) (c:En Nd):Nd:=
 {c.q with par:=if c.id∈e.q.ks.take j then e.q.par else c.q.par,ks:=if c.id=e.q.par then c.q.ks.filter (fun k=>decide (k≠e.id))++e.q.ks.take j else c.q.ks}
def Q0v (N:List (En Nd)) (e:En Nd) (j:Nat):List (En Nd):=mapE (Q0r e j) (rem N e.id)
theorem NOk.rem_find {N:List (En Nd)} {next:Int} (ok:NOk N next) (e:En Nd) (id:Int):find (rem N e.id) id=if id=e.id then none else find N id:=Z0e ok.ids e.id id
theorem NOk.lift {N:List (En Nd)} {next:Int} (ok:NOk N next) {e:En Nd} (he:find N e.id=some e):NOk (Q0v N e e.q.ks.length) next:=by
 obtain⟨hem,_⟩:=Q0b he;have herng:=ok.rng e hem;have herise:=ok.rise e hem;have hpar:=ok.par e hem;have htk:e.q.ks.take e.q.ks.length=e.q.ks:=J4v;have hL:∀c,Q0r e e.q.ks.length c={c.q with par:=if c.id∈e.q.ks then e.q.par else c.q.par,ks:=if c.id=e.q.par then c.q.ks.filter (fun k=>decide (k≠e.id))++e.q.ks else c.q.ks}:=fun c=>by unfold Q0r;rw [htk]
 have hfind:∀id,find (Q0v N e e.q.ks.length) id=if id=e.id then none else (find N id).map fun c=>{c with q:=Q0r e e.q.ks.length c}:=fun id=>by
  unfold Q0v;rw [Q1j,ok.rem_find];split <;> rfl
 have hmem:∀{x},x∈Q0v N e e.q.ks.length->∃c∈N,c.id≠e.id/\x={c with q:=Q0r e e.q.ks.length c}:=fun {x} hx=>by
  obtain⟨c,hc,rfl⟩:=Q1c hx;obtain⟨h1,h2⟩:=(Q2f ok.ids e.id c).1 hc;exact⟨c,h1,h2,rfl⟩
 -- whose child is whose
 have hkid:∀c∈N,(c.id∈e.q.ks↔c.q.par=e.id):=fun c hc=>by
  constructor
  ·intro h;obtain⟨d,hd,hdp⟩:=ok.kids e hem c.id h;rw [Q0g ok.ids hc] at hd;cases hd;exact hdp
  ·intro h;obtain⟨p,hp,hk⟩:=(ok.par c hc).2 (by omega);rw [h,he] at hp;cases hp;exact hk
 have hsub:(rem N e.id).Sublist N:=Q3B N e.id;refine⟨Q1J (fun a b h=>h) (ok.ids.sublist hsub),Q1J (fun a b h=>h) (ok.spots.sublist hsub),ok.next0,fun x hx=>?_,fun x hx=>?_,fun x hx=>?_,fun x hx k hk=>?_,fun x hx=>?_,fun x hx=>?_⟩
 ·obtain⟨c,hc,_,rfl⟩:=hmem hx;exact ok.rng c hc
 ·obtain⟨c,hc,_,rfl⟩:=hmem hx;exact ok.sm c hc
 ·obtain⟨c,hc,hne,rfl⟩:=hmem hx;show 0<=(Q0r e e.q.ks.length c).par/\((Q0r e e.q.ks.length c).par≠0->_);rw [hL];simp only;by_cases hce:c.id∈e.q.ks
  ·rw [if_pos hce];refine⟨hpar.1,fun h0=>?_⟩;obtain⟨p,hp,hk⟩:=hpar.2 h0;obtain⟨p1,p2⟩:=Q0b hp;refine⟨_,by rw [hfind,if_neg (by omega),hp];rfl,?_⟩;show c.id∈(Q0r e e.q.ks.length p).ks;rw [hL];simp only [p2,if_true];exact J1m _ hce
  ·rw [if_neg hce];obtain⟨q1,q2⟩:=ok.par c hc;refine⟨q1,fun h0=>?_⟩;obtain⟨p,hp,hk⟩:=q2 h0;have hpe:c.q.par≠e.id:=fun h=>hce ((hkid c hc).2 h)
   refine⟨_,by rw [hfind,if_neg hpe,hp];rfl,?_⟩;show c.id∈(Q0r e e.q.ks.length p).ks;rw [hL];simp only;split
   ·exact J1n _ (J0N.2 ⟨hk,by simpa using hne⟩)
   ·exact hk
 ·obtain⟨c,hc,hne,rfl⟩:=hmem hx;have hk':k∈(Q0r e e.q.ks.length c).ks:=hk;rw [hL] at hk';simp only at hk';have fromC:k∈c.q.ks->k≠e.id->∃d,find (Q0v N e e.q.ks.length) k=some d/\d.q.par=c.id:=fun h1 h2=>by
   obtain⟨d,hd,hdp⟩:=ok.kids c hc k h1;obtain⟨d1,d2⟩:=Q0b hd;refine⟨_,by rw [hfind,if_neg h2,hd];rfl,?_⟩;show (Q0r e e.q.ks.length d).par=c.id;rw [hL];simp only;rw [if_neg (fun h=>hne (by rw [<- hdp];exact (hkid d d1).1 h))];exact hdp
  split at hk'
  ·rename_i hcp;rcases J1h.1 hk' with hk'|hk'
   ·obtain⟨h1,h2⟩:=J0N.1 hk';exact fromC h1 (by simpa using h2)
   ·obtain⟨d,hd,hdp⟩:=ok.kids e hem k hk';obtain⟨d1,d2⟩:=Q0b hd;have:=ok.rise d d1;refine⟨_,by rw [hfind,if_neg (by omega),hd];rfl,?_⟩;show (Q0r e e.q.ks.length d).par=c.id;rw [hL];simp only;rw [if_pos (by rw [d2];exact hk'),hcp]
  ·refine fromC hk' fun h=>?_
   rename_i hcp;obtain⟨d,hd,hdp⟩:=ok.kids c hc k hk';rw [h,he] at hd;cases hd;exact hcp hdp.symm
 ·obtain⟨c,hc,hne,rfl⟩:=hmem hx;show (Q0r e e.q.ks.length c).ks.Nodup;rw [hL];simp only;split
  ·rw [J1l];refine⟨(ok.nd c hc).filter _,ok.nd e hem,fun a ha b hb hab=>?_⟩;subst hab;obtain⟨d,hd,hdp⟩:=ok.kids c hc a (J0N.1 ha).1;obtain⟨d',hd',hdp'⟩:=ok.kids e hem a hb;rw [hd] at hd';cases hd';omega
  ·exact ok.nd c hc
 ·obtain⟨c,hc,hne,rfl⟩:=hmem hx;show (Q0r e e.q.ks.length c).par<c.id;rw [hL];simp only;split
  ·rename_i h;have:=(hkid c hc).1 h;have:=ok.rise c hc;omega
  ·exact ok.rise c hc
def Q0f (l:List Pl) (tb:Nat->TB) (h s:Nat):Option Ent:=match pget l 1 h with
 | some p=>if p.kind=2/\s<256 then (tb (h%256)).en s else none
 | none=>none
theorem Q3h {l:List Pl} {tb:Nat->TB} {h s:Nat} {e:Ent} (x:Q0f l tb h s=some e):∃p,pget l 1 h=some p/\p.kind=2/\s<256/\(tb (h%256)).en s=some e:=by
 unfold Q0f at x;cases hp:pget l 1 h with
 | none=>rw [hp] at x;cases x
 | some p =>
  rw [hp] at x;simp only at x;split at x
  ·rename_i hc;exact⟨p,rfl,hc.1,hc.2,x⟩
  ·cases x
theorem Q0i {l:List Pl} {tb:Nat->TB} {h s:Nat} {p:Pl} (hp:pget l 1 h=some p) (hk:p.kind=2) (hs:s<256):Q0f l tb h s=(tb (h%256)).en s:=by
 unfold Q0f;rw [hp];simp only;rw [if_pos ⟨hk,hs⟩]
structure Q8g (l:List Pl) (s:Nat) (e:Ent):Prop where
 live:∃q,pget l 1 e.h=some q/\(q.kind=8↔128<=s)
 r:1<=e.r/\e.r<=15
def Q0E (l:List Pl) (tb:Nat->TB) (n:En Nd):Option Ent:=Q0f l tb n.q.sp.toNat n.q.sl.toNat
structure FPI (l:List Pl) (tb:Nat->TB) (N:List (En Nd)):Prop where
 cap:∀h s e,Q0f l tb h s=some e->Q8g l s e
 has:∀h s e,Q0f l tb h s=some e->∃n∈N,n.q.sp=(h:Int)/\n.q.sl=(s:Int)
 is:∀n∈N,∃e,Q0E l tb n=some e
 up:∀n∈N,∀m,find N n.q.par=some m->∀e e',Q0E l tb n=some e->Q0E l tb m=some e'->e.h=e'.h/\e.r&&&e'.r=e.r
theorem Q3i {l:List Pl} {tb:Nat->TB} {h s:Nat} {p:Pl} (hp:pget l 1 h=some p) (hk:p.kind=2) (hs:s<256) {t':TB} {o:Option Ent} (ht:∀x,t'.en x=if x=s then o else (tb (h%256)).en x) (h' s':Nat) :
  Q0f l (updT tb (h%256) t') h' s'=if h'=h/\s'=s then o else Q0f l tb h' s':=by
 unfold Q0f;cases hp':pget l 1 h' with
 | none =>
  simp only;rw [if_neg];rintro⟨rfl,_⟩;rw [hp] at hp';cases hp'
 | some q =>
  simp only;by_cases e:h'%256=h%256
  ·obtain⟨e1,e2,_⟩:=Q1a hp' hp e;subst e1;subst e2;rw [updT_same];by_cases hc:q.kind=2/\s'<256
   ·rw [if_pos hc,if_pos hc,ht];by_cases es:s'=s
    ·rw [if_pos es,if_pos ⟨rfl,es⟩]
    ·rw [if_neg es,if_neg (fun h=>es h.2)]
   ·rw [if_neg hc,if_neg hc,if_neg];rintro⟨_,rfl⟩;exact hc ⟨hk,hs⟩
  ·have hn:¬(h'=h/\s'=s):=fun x=>e (by rw [x.1])
   rw [Q0Q e,if_neg hn]
theorem Q6K {l l':List Pl} {s:Nat} {e:Ent} (c:Q8g l s e) (h:∀q,pget l 1 e.h=some q->∃q',pget l' 1 e.h=some q'/\q'.kind=q.kind):Q8g l' s e:=by
 obtain⟨q,h1,h2⟩:=c.live;obtain⟨q',h3,h4⟩:=h q h1;exact⟨⟨q',h3,by rw [h4];exact h2⟩,c.r⟩
theorem FPI.same {l l':List Pl} {tb:Nat->TB} {N:List (En Nd)} (f:FPI l tb N) (he:∀h s,Q0f l' tb h s=Q0f l tb h s) (hl:∀h s e,Q0f l tb h s=some e->∀q,pget l 1 e.h=some q->∃q',pget l' 1 e.h=some q'/\q'.kind=q.kind):FPI l' tb N:=by
 have ho:∀n,Q0E l' tb n=Q0E l tb n:=fun n=>he _ _
 refine⟨fun h s e x=>?_,fun h s e x=>?_,fun n hn=>?_,fun n hn m hm e e' x y=>?_⟩
 ·rw [he] at x;exact Q6K (f.cap h s e x) (hl h s e x)
 ·rw [he] at x;exact f.has h s e x
 ·rw [ho];exact f.is n hn
 ·rw [ho] at x y;exact f.up n hn m hm e e' x y
theorem FPI.doomed {l:List Pl} {tb:Nat->TB} {N:List (En Nd)} (f:FPI l tb N) {h:Nat} {p:Pl} (hp:pget l 1 h=some p) (hn:(tb (h%256)).Nil) (hno:∀h' s e,Q0f l tb h' s=some e->e.h≠h):FPI (l.set (h%256) {p with st:=2}) tb N:=by
 obtain⟨hi,hnm,_⟩:=pget_some.1 hp;refine f.same (fun h' s=>?_) (fun h' s e x r hr=>⟨r,?_,rfl⟩)
 ·by_cases e:h'%256=h%256
  ·have z:∀l',Q0f l' tb h' s=none:=fun l'=>by
    unfold Q0f;split
    ·split
     ·rename_i hc;rw [e];exact hn.2 s hc.2
     ·rfl
    ·rfl
   rw [z,z]
  ·unfold Q0f;rw [Q1S _ hi,if_neg e]
 ·have hne:=hno h' s e x;rw [Q1S _ hi,if_neg]
  ·exact hr
  ·intro e1;exact hne (Q1a hr hp e1).1
section
variable {l:List Pl} {tb:Nat->TB} {N:List (En Nd)} {next:Int} {h s:Nat} {p:Pl}
theorem Q2O {par sp sl:Int} {b:Nat} (ok:NOk N next) (id:Int):find (addN N par (next+1) b sp sl) id=if id=next+1 then some ⟨next+1,b,⟨sp,sl,par,[]⟩⟩ else (find N id).map fun c=>{c with q:=if c.id=par then {c.q with ks:=c.q.ks++[next+1]} else c.q}:=by
 have hnew:find N (next+1)=none:=by
  cases hf:find N (next+1) with
  | none=>rfl
  | some e =>
   obtain⟨e1,e2⟩:=Q0b hf;have:=ok.rng e e1;omega
 unfold addN;rw [Q7s,Q1j];by_cases h:id=next+1
 ·subst h;rw [hnew];simp
 ·cases hf:find N id with
  | none=>simp [h]
  | some e=>simp [h]
theorem Z1V {l:List Pl} {tb:Nat->TB} (n m:En Nd) (h1:n.q.sp=m.q.sp) (h2:n.q.sl=m.q.sl):Q0E l tb n=Q0E l tb m:=by unfold Q0E;rw [h1,h2]
theorem Z4J (e:En Nd) (par k:Int):(if e.id=par then ({e.q with ks:=e.q.ks++[k]}:Nd) else e.q).sp=e.q.sp/\(if e.id=par then ({e.q with ks:=e.q.ks++[k]}:Nd) else e.q).sl=e.q.sl/\(if e.id=par then ({e.q with ks:=e.q.ks++[k]}:Nd) else e.q).par=e.q.par:=by
 split <;> exact⟨rfl,rfl,rfl⟩
theorem FPI.add (f:FPI l tb N) (ok:NOk N next) (hp:pget l 1 h=some p) (hk:p.kind=2) (hs:s<256) (h0:Q0f l tb h s=none) {t':TB} {e:Ent} (ht:∀x,t'.en x=if x=s then some e else (tb (h%256)).en x) (hc:Q8g l s e) {par:Int} (b:Nat)
  (hpar:par=0∨∃m em,find N par=some m/\Q0E l tb m=some em/\e.h=em.h/\e.r&&&em.r=e.r):FPI l (updT tb (h%256) t') (addN N par (next+1) b (h:Int) (s:Int)):=by
 have ha:=Q3i hp hk hs ht;have hne:∀n∈N,¬(n.q.sp.toNat=h/\n.q.sl.toNat=s):=fun n hn ⟨h1,h2⟩=>by
  obtain⟨e1,he1⟩:=f.is n hn;unfold Q0E at he1;rw [h1,h2,h0] at he1;cases he1
 have hold:∀n∈N,Q0E l (updT tb (h%256) t') n=Q0E l tb n:=fun n hn=>by
  unfold Q0E;rw [ha,if_neg (hne n hn)]
 have hmem:∀{x},x∈addN N par (next+1) b (h:Int) (s:Int)->(∃n∈N,x={n with q:=if n.id=par then {n.q with ks:=n.q.ks++[next+1]} else n.q})∨x=⟨next+1,b,⟨(h:Int),(s:Int),par,[]⟩⟩:=fun {x} hx=>by
  rcases J1h.1 hx with hx|hx
  ·exact .inl (Q1c hx)
  ·exact .inr (J2z.1 hx)
 have hoq:∀n∈N,Q0E l (updT tb (h%256) t') {n with q:=if n.id=par then {n.q with ks:=n.q.ks++[next+1]} else n.q}=Q0E l tb n:=fun n hn=>by
  rw [<- hold n hn];obtain⟨q1,q2,_⟩:=Z4J n par (next+1);exact Z1V _ _ q1 q2
 have hnew:Q0E l (updT tb (h%256) t') ⟨next+1,b,⟨(h:Int),(s:Int),par,[]⟩⟩=some e:=by
  unfold Q0E;rw [ha,if_pos ⟨by simp,by simp⟩]
 refine⟨fun h' s' x hx=>?_,fun h' s' x hx=>?_,fun n hn=>?_,fun n hn m hm x y hx hy=>?_⟩
 ·rw [ha] at hx;split at hx
  ·rename_i hc';cases hx;rw [hc'.2];exact hc
  ·exact f.cap h' s' x hx
 ·rw [ha] at hx;split at hx
  ·rename_i hc';exact⟨_,J1m _ (J2z.2 rfl),by rw [hc'.1],by rw [hc'.2]⟩
  ·obtain⟨n,hn,h1,h2⟩:=f.has h' s' x hx;obtain⟨q1,q2,_⟩:=Z4J n par (next+1);exact⟨_,J1n _ (J0z.2 ⟨n,hn,rfl⟩),q1.trans h1,q2.trans h2⟩
 ·rcases hmem hn with ⟨c,hc',rfl⟩|rfl
  ·rw [hoq c hc'];exact f.is c hc'
  ·exact⟨e,hnew⟩
 ·-- the parent,in the old row
  have old:∀c,find N c.id=some c->∀m,find (addN N par (next+1) b (h:Int) (s:Int)) c.q.par=some m->find N c.q.par=none->False:=fun c hcf m hm hnn=>by
   rw [Q2O ok] at hm;split at hm
   ·rename_i e1;obtain⟨c1,_⟩:=Q0b hcf;have:=ok.rise c c1;have:=ok.rng c c1;omega
   ·rw [hnn] at hm;cases hm
  rcases hmem hn with ⟨c,hc',rfl⟩|rfl
  ·obtain⟨_,_,q3⟩:=Z4J c par (next+1);have hm':find (addN N par (next+1) b (h:Int) (s:Int)) c.q.par=some m:=by rw [<- q3];exact hm
   rw [hoq c hc'] at hx;have hcr:=ok.rng c hc';have hcs:=ok.rise c hc';rw [Q2O ok,if_neg (by omega)] at hm';obtain⟨m0,hm0,rfl⟩:=J4k.1 hm';rw [hoq m0 (Q0b hm0).1] at hy;exact f.up c hc' m0 hm0 x y hx hy
  ·rw [hnew] at hx;cases hx;have hm':find (addN N par (next+1) b (h:Int) (s:Int)) par=some m:=hm;rcases hpar with rfl|⟨m1,em,g1,g2,g3,g4⟩
   ·rw [Q2O ok,if_neg (by have:=ok.next0;omega),ok.zero] at hm';cases hm'
   ·have:=ok.rng m1 (Q0b g1).1;have e2:=(Q0b g1).2;rw [Q2O ok,if_neg (by omega),g1] at hm';cases hm';rw [hoq m1 (Q0b g1).1,g2] at hy;cases hy;exact⟨g3,g4⟩
theorem FPI.weak (f:FPI l tb N) (ok:NOk N next) (hp:pget l 1 h=some p) (hk:p.kind=2) (hs:s<256) {e e2:Ent} (h0:Q0f l tb h s=some e) {t':TB} (ht:∀x,t'.en x=if x=s then some e2 else (tb (h%256)).en x) (hh:e2.h=e.h) (hr:1<=e2.r/\e2.r<=15) (hsub:e2.r&&&e.r=e2.r)
  (hch:∀n∈N,∀m,find N n.q.par=some m->m.q.sp=(h:Int)->m.q.sl=(s:Int)->∀x,Q0E l tb n=some x->x.r&&&e2.r=x.r):FPI l (updT tb (h%256) t') N:=by
 have ha:=Q3i hp hk hs ht;have spot:∀n∈N,n.q.sp.toNat=h->n.q.sl.toNat=s->n.q.sp=(h:Int)/\n.q.sl=(s:Int):=fun n hn h1 h2=>by
  have:=ok.sm n hn;omega
 refine⟨fun h' s' x hx=>?_,fun h' s' x hx=>?_,fun n hn=>?_,fun n hn m hm x y hx hy=>?_⟩
 ·rw [ha] at hx;split at hx
  ·rename_i hc';cases hx;have:=f.cap h s e h0;rw [hc'.2];exact⟨by rw [hh];exact this.live,hr⟩
  ·exact f.cap h' s' x hx
 ·rw [ha] at hx;split at hx
  ·rename_i hc';rw [hc'.1,hc'.2];exact f.has h s e h0
  ·exact f.has h' s' x hx
 ·unfold Q0E;rw [ha];split
  ·exact⟨e2,rfl⟩
  ·exact f.is n hn
 ·unfold Q0E at hx hy;rw [ha] at hx hy;split at hx
  ·rename_i c1;cases hx;split at hy
   ·rename_i c2
    -- a node of its own parent: the same spot
    exfalso;obtain⟨n1,n2⟩:=spot n hn c1.1 c1.2;obtain⟨m1,m2⟩:=spot m (Q0b hm).1 c2.1 c2.2;have i1:=Q3G ok hn (Q0b hm).1 (n1.trans m1.symm) (n2.trans m2.symm);have:=ok.rise n hn;have:=(Q0b hm).2;subst i1;omega
   ·obtain⟨q1,q2⟩:=f.up n hn m hm e y (by unfold Q0E;rw [c1.1,c1.2];exact h0) (by unfold Q0E;exact hy);refine⟨hh.trans q1,?_⟩;rw [<- hsub,Nat.and_assoc,q2]
  ·split at hy
   ·rename_i c2;cases hy;obtain⟨q1,q2⟩:=f.up n hn m hm x e (by unfold Q0E;exact hx) (by unfold Q0E;rw [c2.1,c2.2];exact h0);obtain⟨m1,m2⟩:=spot m (Q0b hm).1 c2.1 c2.2;exact⟨q1.trans hh.symm,hch n hn m hm m1 m2 x (by unfold Q0E;exact hx)⟩
   ·exact f.up n hn m hm x y (by unfold Q0E;exact hx) (by unfold Q0E;exact hy)
theorem FPI.lift (f:FPI l tb N) (ok:NOk N next) (hp:pget l 1 h=some p) (hk:p.kind=2) (hs:s<256) {t':TB} (ht:∀x,t'.en x=if x=s then none else (tb (h%256)).en x) {e:En Nd} (he:find N e.id=some e) (h1:e.q.sp=(h:Int)) (h2:e.q.sl=(s:Int)):FPI l (updT tb (h%256) t') (Q0v N e e.q.ks.length):=by
 have ha:=Q3i hp hk hs ht;have hem:=(Q0b he).1;have htk:e.q.ks.take e.q.ks.length=e.q.ks:=J4v;have hsp:∀c,(Q0r e e.q.ks.length c).sp=c.q.sp/\(Q0r e e.q.ks.length c).sl=c.q.sl:=fun c=>⟨rfl,rfl⟩
 have hmem:∀{x},x∈Q0v N e e.q.ks.length->∃c∈N,c.id≠e.id/\x={c with q:=Q0r e e.q.ks.length c}:=fun {x} hx=>by
  obtain⟨c,hc,rfl⟩:=Q1c hx;obtain⟨g1,g2⟩:=(Q2f ok.ids e.id c).1 hc;exact⟨c,g1,g2,rfl⟩
 have hne:∀c∈N,c.id≠e.id->¬(c.q.sp.toNat=h/\c.q.sl.toNat=s):=fun c hc hid ⟨g1,g2⟩=>by
  have:=ok.sm c hc;have:=Q3G ok hc hem (by omega) (by omega);subst this;exact hid rfl
 have hold:∀c∈N,c.id≠e.id->Q0E l (updT tb (h%256) t') {c with q:=Q0r e e.q.ks.length c}=Q0E l tb c:=fun c hc hid=>by
  unfold Q0E;show Q0f l _ c.q.sp.toNat c.q.sl.toNat=_;rw [ha,if_neg (hne c hc hid)]
 refine⟨fun h' s' x hx=>?_,fun h' s' x hx=>?_,fun n hn=>?_,fun n hn m hm x y hx hy=>?_⟩
 ·rw [ha] at hx;split at hx
  ·cases hx
  ·exact f.cap h' s' x hx
 ·rw [ha] at hx;split at hx
  ·cases hx
  ·rename_i hc';obtain⟨n,hn,g1,g2⟩:=f.has h' s' x hx;have hid:n.id≠e.id:=fun e1=>by
    rw [e1.symm,Q0g ok.ids hn] at he;cases he;exact hc' ⟨by omega,by omega⟩
   exact⟨_,J0z.2 ⟨n,(Q2f ok.ids e.id n).2 ⟨hn,hid⟩,rfl⟩,g1,g2⟩
 ·obtain⟨c,hc,hid,rfl⟩:=hmem hn;rw [hold c hc hid];exact f.is c hc
 ·obtain⟨c,hc,hid,rfl⟩:=hmem hn;rw [hold c hc hid] at hx;have hm':find (Q0v N e e.q.ks.length) (Q0r e e.q.ks.length c).par=some m:=hm;unfold Q0v at hm';rw [Q1j,ok.rem_find] at hm';split at hm'
  ·cases hm'
  ·rename_i hpe;obtain⟨m0,hm0,rfl⟩:=J4k.1 hm';have hm0m:=(Q0b hm0).1;have hmid:m0.id≠e.id:=by rw [(Q0b hm0).2];exact hpe
   rw [hold m0 hm0m hmid] at hy;have hpar:(Q0r e e.q.ks.length c).par=if c.id∈e.q.ks then e.q.par else c.q.par:=by unfold Q0r;rw [htk]
   rw [hpar] at hm0;by_cases hce:c.id∈e.q.ks
   ·rw [if_pos hce] at hm0;obtain⟨d,hd,hdp⟩:=ok.kids e hem c.id hce;rw [Q0g ok.ids hc] at hd;cases hd;obtain⟨z,hz⟩:=f.is e hem;obtain⟨a1,a2⟩:=f.up c hc e (by rw [hdp];exact he) x z hx hz;obtain⟨b1,b2⟩:=f.up e hem m0 hm0 z y hz hy;refine⟨a1.trans b1,?_⟩;rw [<- a2,Nat.and_assoc,b2]
   ·rw [if_neg hce] at hm0;exact f.up c hc m0 hm0 x y hx hy
end
def Ent.c (e:Ent):Nat×Nat:=(e.h,e.r)
structure AV where
 en:Nat->Nat->Option (Nat×Nat)
 N:List (En Nd)
def avOf (l:List Pl) (tb:Nat->TB) (N:List (En Nd)):AV:=⟨fun h s=>(Q0f l tb h s).map Ent.c,N⟩
def setA (en:Nat->Nat->Option (Nat×Nat)) (h s:Nat) (o:Option (Nat×Nat)):Nat->Nat->Option (Nat×Nat):=fun h' s'=>if h'=h/\s'=s then o else en h' s'
theorem Q8h (en:Nat->Nat->Option (Nat×Nat)) (h s:Nat) (o:Option (Nat×Nat)):setA en h s o h s=o:=by unfold setA;rw [if_pos ⟨rfl,rfl⟩]
theorem Q4H {en:Nat->Nat->Option (Nat×Nat)} {h s h' s':Nat} {o:Option (Nat×Nat)} (hne:¬(h'=h/\s'=s)):setA en h s o h' s'=en h' s':=by unfold setA;rw [if_neg hne]
def less (r m:Nat):Nat:=r-(r&&&m)
theorem Q5f:∀r,r<16->∀m,m<16->less r m&&&m=0/\less r m&&&r=less r m/\less r m<=r:=by decide
theorem Q4j:∀r,r<16->less r 15=0:=by decide
theorem Z6R:∀x,x<16->∀r,r<16->∀m,m<16->x&&&r=x->x&&&m=0->x&&&less r m=x:=by decide
def weak1 (m:Nat) (a:AV) (id:Int):AV×Bool:=match find a.N id with
 | none=>(a,false)
 | some n=>match a.en n.q.sp.toNat n.q.sl.toNat with
  | none=>(a,false)
  | some c=>if less c.2 m=0 then (⟨setA a.en n.q.sp.toNat n.q.sl.toNat none,Q0v a.N n n.q.ks.length⟩,true) else (⟨setA a.en n.q.sp.toNat n.q.sl.toNat (some (c.1,less c.2 m)),a.N⟩,false)
def Q0F (m:Nat):AV->List Int->AV×Nat
 | a,[]=>(a,0)
 | a,id::r=>((Q0F m (weak1 m a id).1 r).1,(if (weak1 m a id).2=true then 1 else 0)+(Q0F m (weak1 m a id).1 r).2)
theorem weakA_snoc (m:Nat):∀(l:List Int) (a:AV) (id:Int),Q0F m a (l++[id])=((weak1 m (Q0F m a l).1 id).1,(Q0F m a l).2+if (weak1 m (Q0F m a l).1 id).2=true then 1 else 0)
 | [],a,id=>by
  show ((weak1 m a id).1,(if (weak1 m a id).2=true then 1 else 0)+0)=((weak1 m a id).1,0+if (weak1 m a id).2=true then 1 else 0);rw [J2W,J0C]
 | x::r,a,id=>by
  rw [J2D];unfold Q0F;rw [weakA_snoc m r (weak1 m a x).1 id];simp only [J1S]
theorem Q5g (m:Nat):∀(l:List Int) (a:AV),(Q0F m a l).2<=l.length
 | [],a=>J0t _
 | x::r,a=>by
  have:=Q5g m r (weak1 m a x).1;show (if (weak1 m a x).2=true then 1 else 0)+(Q0F m (weak1 m a x).1 r).2<=r.length+1;split <;> omega
def Q3j (m:Nat) (a:AV) (A:List Int) (id:Int):Prop:=∀e,find a.N id=some e->∀c∈e.q.ks,c∈A∨∀n,find a.N c=some n->∀x,a.en n.q.sp.toNat n.q.sl.toNat=some x->x.2&&&m=0
def WeakOk (m:Nat) (a:AV) (l:List Int):Prop:=m=15∨∀A id B,l=A++id::B->Q3j m a A id
theorem Q6L (a:AV) (l:List Int):WeakOk 15 a l:=.inl rfl
theorem Q3k {N:List (En Nd)} {next:Int} (ok:NOk N next) (e:En Nd) (id:Int):find (Q0v N e e.q.ks.length) id=if id=e.id then none else (find N id).map fun c=>{c with q:=Q0r e e.q.ks.length c}:=by
 unfold Q0v;rw [Q1j,ok.rem_find];split <;> rfl
theorem Q1q (e c:En Nd):Q0r e e.q.ks.length c={c.q with par:=if c.id∈e.q.ks then e.q.par else c.q.par,ks:=if c.id=e.q.par then c.q.ks.filter (fun k=>decide (k≠e.id))++e.q.ks else c.q.ks}:=by
 unfold Q0r;rw [J4v]
theorem Q9u {N:List (En Nd)} {next:Int} (ok:NOk N next) {a b:En Nd} (ha:a∈N) (hb:b∈N) (hne:a.id≠b.id):¬(a.q.sp.toNat=b.q.sp.toNat/\a.q.sl.toNat=b.q.sl.toNat):=fun h=>by
 have h1:=ok.sm a ha;have h2:=ok.sm b hb;exact hne (by rw [Q3G ok ha hb (by omega) (by omega)])
theorem WeakOk.step {m:Nat} {a:AV} {next:Int} (ok:NOk a.N next) (hr:∀h s x,a.en h s=some x->x.2<16) (hm:m<16) {id:Int} {l:List Int} (h:WeakOk m a (id::l)):WeakOk m (weak1 m a id).1 l:=by
 rcases h with h|h
 ·exact .inl h
 refine .inr fun A x B hl=>?_
 have h0:=h [] id l rfl;have h1:=h (id::A) x B (by rw [hl];rfl);unfold weak1;cases hf:find a.N id with
 | none =>
  simp only;intro e he c hc;rcases h1 e he c hc with hx|hx
  ·rcases J0y.1 hx with rfl|hx
   ·exact .inr fun n hn=>by rw [hf] at hn;cases hn
   ·exact .inl hx
  ·exact .inr hx
 | some d =>
  simp only;obtain⟨hd,hdid⟩:=Q0b hf;cases he0:a.en d.q.sp.toNat d.q.sl.toNat with
  | none =>
   simp only;intro e he c hc;rcases h1 e he c hc with hx|hx
   ·rcases J0y.1 hx with rfl|hx
    ·exact .inr fun n hn=>by rw [hf] at hn;cases hn;intro y hy;rw [he0] at hy;cases hy
    ·exact .inl hx
   ·exact .inr hx
  | some y =>
   simp only;have hy:=hr _ _ _ he0;split
   ·-- lifted
    have hdN:find a.N d.id=some d:=by rw [hdid];exact hf
    have old:∀c n',find (Q0v a.N d d.q.ks.length) c=some n'->∃n,find a.N c=some n/\n∈a.N/\n.id≠d.id/\n'.q.sp=n.q.sp/\n'.q.sl=n.q.sl:=fun c n' hn'=>by
     rw [Q3k ok] at hn';split at hn'
     ·cases hn'
     ·rename_i hcd;cases hn:find a.N c with
      | none=>rw [hn] at hn';cases hn'
      | some n =>
       rw [hn] at hn';simp only [J2g,J0H] at hn';subst hn';obtain⟨n1,n2⟩:=Q0b hn;exact⟨n,rfl,n1,by rw [n2];exact hcd,by rw [Q1q],by rw [Q1q]⟩
    have good:∀c,(∀n,find a.N c=some n->∀z,a.en n.q.sp.toNat n.q.sl.toNat=some z->z.2&&&m=0)->∀n',find (Q0v a.N d d.q.ks.length) c=some n'->∀z,setA a.en d.q.sp.toNat d.q.sl.toNat none n'.q.sp.toNat n'.q.sl.toNat=some z->z.2&&&m=0:=fun c hc n' hn' z hz=>by
     obtain⟨n,n1,n2,n3,n4,n5⟩:=old c n' hn';rw [n4,n5,Q4H (Q9u ok n2 hd n3)] at hz;exact hc n n1 z hz
    intro e' he' c hc;have he2:find (Q0v a.N d d.q.ks.length) x=some e':=he';rw [Q3k ok] at he2;split at he2
    ·cases he2
    ·rename_i hxd;cases he3:find a.N x with
     | none=>rw [he3] at he2;cases he2
     | some e =>
      rw [he3] at he2;simp only [J2g,J0H] at he2;subst he2;have hc':c∈(Q0r d d.q.ks.length e).ks:=hc;rw [Q1q] at hc';simp only at hc';obtain⟨e1,e2⟩:=Q0b he3;have fromOld:c∈e.q.ks->c≠d.id->c∈A∨∀n',find (Q0v a.N d d.q.ks.length) c=some n'->∀z,setA a.en d.q.sp.toNat d.q.sl.toNat none n'.q.sp.toNat n'.q.sl.toNat=some z->z.2&&&m=0:=fun k1 k2=>by
       rcases h1 e he3 c k1 with hx|hx
       ·rcases J0y.1 hx with h|hx
        ·exact absurd (h.trans hdid.symm) k2
        ·exact .inl hx
       ·exact .inr (good c hx)
      split at hc'
      ·rcases J1h.1 hc' with hc'|hc'
       ·obtain⟨k1,k2⟩:=J0N.1 hc';exact fromOld k1 (by simpa using k2)
       ·rcases h0 d hf c hc' with hx|hx
        ·cases hx
        ·exact .inr (good c hx)
      ·rename_i hpar;refine fromOld hc' fun k=>?_
       obtain⟨k1,k2,k3⟩:=ok.kids e e1 c hc';rw [k,hdN] at k2;cases k2;exact hpar k3.symm
   ·-- weakened
    intro e he c hc;have he2:find a.N x=some e:=he;have hen:∀n,n∈a.N->n.id≠d.id->setA a.en d.q.sp.toNat d.q.sl.toNat (some (y.1,less y.2 m)) n.q.sp.toNat n.q.sl.toNat=a.en n.q.sp.toNat n.q.sl.toNat:=fun n n1 n2=>Q4H (Q9u ok n1 hd n2)
    by_cases hcd:c=id
    ·refine .inr fun n hn z hz=>?_
     have hn2:find a.N c=some n:=hn;rw [hcd,hf] at hn2;cases hn2;have hz2:setA a.en d.q.sp.toNat d.q.sl.toNat (some (y.1,less y.2 m)) d.q.sp.toNat d.q.sl.toNat=some z:=hz;rw [Q8h] at hz2;cases hz2;exact (Q5f y.2 hy m hm).1
    ·rcases h1 e he2 c hc with hx|hx
     ·rcases J0y.1 hx with h|hx
      ·exact absurd h hcd
      ·exact .inl hx
     ·refine .inr fun n hn z hz=>?_
      have hn2:find a.N c=some n:=hn;obtain⟨n1,n2⟩:=Q0b hn2;have hz2:setA a.en d.q.sp.toNat d.q.sl.toNat (some (y.1,less y.2 m)) n.q.sp.toNat n.q.sl.toNat=some z:=hz;rw [hen n n1 (by rw [n2,hdid];exact hcd)] at hz2;exact hx n hn2 z hz2
theorem Q8i {m:Nat} {a:AV} {next:Int} (ok:NOk a.N next) (id:Int) (self:Bool):WeakOk m a (Q0B (kdF a.N) (rkF next) id++if self=true then [id] else []):=by
 refine .inr fun A x B hl e he c hc=>.inl ?_
 have t:=ok.tree;have hk:c∈kdF a.N x:=by unfold kdF;rw [he];exact hc
 have hcx:c≠x:=fun h=>by
  have:=t.dn x c hk;rw [h] at this;omega
 have hin:Dn (kdF a.N) id x->c∈Q0B (kdF a.N) (rkF next) id:=fun hd=>by
  refine (Q6J t).2 ⟨hd.trans (.down x c c hk (.here c)),fun h=>?_⟩;have h1:=(Dn.rank t hd).1;have h2:=t.dn x c hk;rw [h] at h2;omega
 have hp:=Z1T t id;rcases List.append_eq_append_iff.1 hl with ⟨C,e1,e2⟩|⟨C,e1,e2⟩
 ·-- x is the last
  cases C with
  | nil =>
   rw [J2C] at e2;rw [J2y] at e1;cases self with
   | false=>rw [if_neg (by decide)] at e2;cases e2
   | true =>
    rw [if_pos rfl] at e2
    injection e2 with e2 e3
    subst e2;rw [e1];exact hin (.here _)
  | cons y C =>
   cases self with
   | false=>rw [if_neg (by decide)] at e2;simp at e2
   | true=>rw [if_pos rfl] at e2;simp at e2
 ·-- x is below
  cases C with
  | nil =>
   rw [J2y] at e1;rw [J2C] at e2;cases self with
   | false=>rw [if_neg (by decide)] at e2;cases e2
   | true =>
    rw [if_pos rfl] at e2
    injection e2 with e2 e3
    subst e2;rw [<- e1];exact hin (.here _)
  | cons y C =>
   rw [J2D] at e2
   injection e2 with e2 e3
   subst e2;have hx:x∈Q0B (kdF a.N) (rkF next) id:=by rw [e1];simp
   have hcb:=hin ((Q6J t).1 hx).1;rw [e1] at hcb;rcases J1h.1 hcb with h|h
   ·exact h
   ·rcases J0y.1 h with h|h
    ·exact absurd h hcx
    ·rw [e1] at hp;have:=((J1g.1 hp).2.1)
     have:=(J0U.1 this).1 c h;exact absurd (.down x c c hk (.here c)) this.2
theorem Q9v {S:CO} {fr:List Nat} {N K:Nat} (ok:S.Ok fr N K) {i j:Nat} {p r:Pl} (hi:S.l[i]?=some p) (hj:S.l[j]?=some r) (hij:i≠j) (hp:p.st=1) (hr:r.st=1):p.at_+costK p.kind<=r.at_∨r.at_+costK r.kind<=p.at_:=by
 have m:=ok.inv.mem;have hpi:p.is=true:=Pl.is_iff.2 (.inl hp);have hri:r.is=true:=Pl.is_iff.2 (.inl hr);have hpm:=J2G hi;have hrm:=J2G hj;by_cases hp8:p.kind=8
 ·obtain⟨g,hg,eg⟩:=m.frame hpm hpi hp8;by_cases hr8:r.kind=8
  ·obtain⟨g',hg',eg'⟩:=m.frame hrm hri hr8;have hnd:(Q1N S.l 8).Nodup:=by
    refine m.frs.nodup_iff.2 ?_;unfold List.Nodup;rw [J0Y];exact (Q3Y m.pool).1.imp fun h e=>h (by omega)
   have:g≠g':=fun e=>hij (Q9g (atsF 8) hnd hi hj (b:=p.at_) (by rw [<- hp8];exact Q1v hpi) (by rw [<- hr8,Q1v hri,eg',<- e,eg]))
   rw [hp8,hr8,costK_8];omega
  ·have:=Q2c m.pool hg (m.used hrm hri hr8);rw [hp8,costK_8,Q1B hr8];omega
 ·have hu:=m.used hpm hpi hp8;by_cases hr8:r.kind=8
  ·obtain⟨g',hg',eg'⟩:=m.frame hrm hri hr8;have:=Q2c m.pool hg' hu;rw [hr8,costK_8,Q1B hp8];omega
  ·have hv:=m.used hrm hri hr8;rw [Q1B hp8,Q1B hr8];refine Q3e m.pool hu hv fun e=>?_
   obtain⟨k1,k5⟩:=(m.kind p hpm hpi).resolve_left hp8;exact hij (Q9g (atsF p.kind) (m.at_nd p.kind k1 k5) hi hj (b:=p.at_) (Q1v hpi) (by rw [e.1,Q1v hri,e.2]))
theorem bytes8_len (x:Nat):(Q0d x).length=8:=rfl
theorem Q1d (x y:Nat):(Q0d x++Q0d y).length=16:=rfl
theorem Q2P (x:Nat):∀y∈Q0d x,y<256:=by
 intro y hy;unfold Q0d at hy;simp only [J0y,J0P,or_false] at hy;omega
theorem Q8j {m bs:List Nat} {a:Nat} (h:∀b∈m,b<256) (hb:∀b∈bs,b<256):∀b∈put_ m a bs,b<256:=by
 intro y hy;unfold put_ at hy;simp only [J1h] at hy;rcases hy with (hy|hy)|hy
 ·exact h y (J3M hy)
 ·exact hb y hy
 ·exact h y (J2V hy)
def Q3H (m m':List Nat) (a n:Nat):Prop:=∀b k,b+k<=a∨a+n<=b->Kept m m' b k
theorem Q5H {m bs:List Nat} {a:Nat} (hl:a+bs.length<=m.length):Q3H m (put_ m a bs) a bs.length:=fun _ _ h=>Q1p hl h
theorem Z1W {m:List Nat} {a x:Nat} (hl:a+8<=m.length) (hx:x<18446744073709551616):Q0s (put_ m a (Q0d x)) a=x:=by
 unfold Q0s;have:((put_ m a (Q0d x)).drop a).take 8=Q0d x:=by
  apply J2a
  intro i;rw [J2v];split
  ·rw [J2U];exact Q6E (by rw [bytes8_len];exact hl) (by rw [bytes8_len];assumption)
  ·rw [J2h (by rw [bytes8_len];omega)]
 rw [this];exact Q3b x hx
theorem Z1X {m:List Nat} {a x y:Nat} (hl:a+16<=m.length) (hx:x<18446744073709551616) (hy:y<18446744073709551616):Q0s (put_ m a (Q0d x++Q0d y)) a=x/\Q0s (put_ m a (Q0d x++Q0d y)) (a+8)=y:=by
 have h1:((put_ m a (Q0d x++Q0d y)).drop a).take 8=Q0d x:=by
  apply J2a
  intro i;rw [J2v];split
  ·rename_i hi;rw [J2U,Q6E (by rw [Q1d];exact hl) (by rw [Q1d];omega),J3E (by rw [bytes8_len];exact hi)]
  ·rw [J2h (by rw [bytes8_len];omega)]
 have h2:((put_ m a (Q0d x++Q0d y)).drop (a+8)).take 8=Q0d y:=by
  apply J2a
  intro i;rw [J2v];split
  ·rename_i hi;rw [J2U,J1S,Q6E (by rw [Q1d];exact hl) (by rw [Q1d];omega),J3F (by rw [bytes8_len];omega),bytes8_len,show 8+i-8=i by omega]
  ·rw [J2h (by rw [bytes8_len];omega)]
 unfold Q0s;rw [h1,h2];exact⟨Q3b x hx,Q3b y hy⟩
section
variable {S:CO} {fr:List Nat} {N K:Nat} {tb:Nat->TB} {own:Int} {xl xn:List Nat}
theorem Q4k (ok:S.Ok fr N K) {j a b n:Nat} {m:List Nat} (ha:a∈S.P.usedOf j) (h1:a<=b) (h2:b+n<=a+Q0c j) (hk:Q3H S.P.a.mem m b n) {j' a':Nat} (ha':a'∈S.P.usedOf j') (hne:¬(j=j'/\a=a')):Kept S.P.a.mem m a' (Q0c j'):=by
 have:=Q3e ok.inv.mem.pool ha ha' hne;exact hk _ _ (by omega)
theorem TPX.leaf_ne (ok:S.Ok fr N K) (t:TPX S tb own xl xn) {i j k k':Nat} (hi:i<256) (hj:j<256) (hk:k<16) (hk':k'<16) (h:(tb i).lf k≠0) (h':(tb j).lf k'≠0) (hne:¬(i=j/\k=k')):(tb i).lf k≠(tb j).lf k':=by
 have hnd:(xl++Q2L tb).Nodup:=t.lvs.nodup_iff.2 ((Q1H ok.inv.mem.pool 7).imp fun h=>Nat.ne_of_lt h);have hnd:=(J1l.1 hnd).2.1;unfold Q2L List.Nodup at hnd;rw [J0V] at hnd;obtain⟨n1,n2⟩:=hnd;by_cases e:i=j
 ·subst e;have hkk:k≠k':=fun e=>hne ⟨rfl,e⟩
  have:=n1 i (J0J.2 hi);unfold TB.lvs at this;rw [J0L] at this;rcases J3a k k' with hlt|hge
  ·have:=J3t.1 this k k' (by simpa using hk) (by simpa using hk') hlt;simp only [J4w] at this;exact this _ (by rw [if_neg h]) _ (by rw [if_neg h'])
  ·have:=J3t.1 this k' k (by simpa using hk') (by simpa using hk) (by omega);simp only [J4w] at this;exact (this _ (by rw [if_neg h']) _ (by rw [if_neg h])).symm
 ·rcases J3a i j with hlt|hge
  ·have:=J3t.1 n2 i j (by simpa using hi) (by simpa using hj) hlt;simp only [J4w] at this;exact this _ (mem_lvs.2 ⟨k,hk,rfl,h⟩) _ (mem_lvs.2 ⟨k',hk',rfl,h'⟩)
  ·have:=J3t.1 n2 j i (by simpa using hj) (by simpa using hi) (by omega);simp only [J4w] at this;exact (this _ (mem_lvs.2 ⟨k',hk',rfl,h'⟩) _ (mem_lvs.2 ⟨k,hk,rfl,h⟩)).symm
theorem TPX.entry (ok:S.Ok fr N K) (t:TPX S tb own xl xn) {i s:Nat} {p:Pl} (hi:S.l[i]?=some p) (h1:p.st=1) (h2:p.kind=2) (hown:(p.fac:Int)=own) (hs:s<256) (hl:(tb i).lf (s/16)≠0) {o:Option Ent} {xn':List Nat} {m:List Nat} (hlen:m.length=S.P.a.mem.length) (hb:∀b∈m,b<256)
  (hk:Q3H S.P.a.mem m ((tb i).lf (s/16)+16*(s%16)) 16) (ha:Q0s m ((tb i).lf (s/16)+16*(s%16))=Q0q o) (hb2:Q0s m ((tb i).lf (s/16)+16*(s%16)+8)=Q0P o) (hn:(xn'++((tb i).setE s o).nds).Perm (xn++(tb i).nds)) :
  (S.setP (S.P.setA m)).Ok fr N K/\TPX (S.setP (S.P.setA m)) (updT tb i ((tb i).setE s o)) own xl xn':=by
 have hi256:=Q1A ok.inv.len hi;have hL:=t.leaf hi256 (by omega:s/16<16) hl;have hrange:(tb i).lf (s/16)<=(tb i).lf (s/16)+16*(s%16)/\(tb i).lf (s/16)+16*(s%16)+16<=(tb i).lf (s/16)+Q0c 7:=by rw [Q2r];omega
 have hother:∀{j' a':Nat},a'∈S.P.usedOf j'->¬(7=j'/\(tb i).lf (s/16)=a')->Kept S.P.a.mem m a' (Q0c j'):=fun ha' hne=>Q4k ok hL hrange.1 hrange.2 hk ha' hne
 have hcost:((tb i).setE s o).lvs=(tb i).lvs:=rfl;obtain⟨A,B,e1,e2⟩:=Q4h TB.lvs tb hi256 ((tb i).setE s o);obtain⟨A',B',e3,e4⟩:=Q4h TB.nds tb hi256 ((tb i).setE s o);refine⟨ok.stored hlen hb (fun b hb'=>?_),fun j q hj q1 q2=>?_,fun j q hj hq=>?_,?_,?_,fun id=>?_⟩
 ·have:=hother hb' (by omega);exact (this.sub (b:=b) (k:=8) (J0t _) (by show b+8<=b+64;omega)).word
 ·show (updT tb i _ j).In m q.at_;have hj':S.l[j]?=some q:=hj;have hj256:=Q1A ok.inv.len hj';by_cases e:j=i
  ·subst e;rw [updT_same];have hqp:q=p:=by rw [hi] at hj';exact (J1p hj').symm
   subst hqp;refine (t.tin j q hi h1 h2).set hs hl hk ha hb2 ?_ (fun k hk16 hkne hk0=>?_)
   ·have:=Q3e ok.inv.mem.pool (Q1w ok hi h1 h2) hL (by omega);exact this
   ·have hne:=t.leaf_ne ok hi256 hi256 hk16 (by omega:s/16<16) hk0 hl (fun e=>hkne e.2);exact Q3e ok.inv.mem.pool (t.leaf hi256 hk16 hk0) hL (fun e=>hne e.2)
  ·rw [Q0Q e];refine (t.tin j q hj' q1 q2).kept (hother (Q1w ok hj' q1 q2) (by omega)) fun k hk16 hk0=>?_
   exact hother (t.leaf hj256 hk16 hk0) (fun e'=>t.leaf_ne ok hi256 hj256 (by omega:s/16<16) hk16 hl hk0 (fun e''=>e e''.1.symm) e'.2)
 ·have hj':S.l[j]?=some q:=hj;have e:j≠i:=fun e=>by
   subst e;rw [hi] at hj';cases hj';exact hq ⟨h1,h2⟩
  rw [Q0Q e];exact t.nil j q hj' hq
 ·show (xl++Q2L _).Perm (S.P.usedOf 7);have:Q2L (updT tb i ((tb i).setE s o))=Q2L tb:=by
   unfold Q2L;rw [e1,e2,hcost]
  rw [this];exact t.lvs
 ·show (xn'++Q3F _).Perm (S.P.usedOf 6);refine List.Perm.trans ?_ t.nds;unfold Q3F;rw [e3,e4];have r:∀(X Y:List Nat),(X++(A'++Y++B')).Perm (X++Y++(A'++B')):=fun X Y=>by
   rw [J1s A' Y B',J1s X Y];refine J3h X ?_;rw [<- J1s,<- J1s];exact J3f.append_right B'
  exact (r _ _).trans ((hn.append_right _).trans (r _ _).symm)
 ·show S.xc id=xcOf S.l _ id+_;rw [Q8d hi256 hi,t.xc];have hc:((tb i).setE s o).cost=(tb i).cost+48*(((tb i).setE s o).nds.length:Int)-48*((tb i).nds.length:Int):=by
   unfold TB.cost;rw [hcost];omega
  have hlenp:=hn.length_eq;rw [J1d,J1d] at hlenp;rw [hc];by_cases hid:id=own
  ·subst hid;rw [if_pos rfl,if_pos rfl,if_pos hown];omega
  ·rw [if_neg hid,if_neg hid,if_neg (by omega)];omega
theorem TPX.rootw (ok:S.Ok fr N K) (t:TPX S tb own xl xn) {i k:Nat} {p:Pl} (hi:S.l[i]?=some p) (h1:p.st=1) (h2:p.kind=2) (hown:(p.fac:Int)=own) (hk16:k<16) {L:Nat} {xl':List Nat} {m:List Nat} (hlen:m.length=S.P.a.mem.length) (hb:∀b∈m,b<256)
  (hk:Q3H S.P.a.mem m (p.at_+8*k) 8) (hin:((tb i).setL k L).In m p.at_) (hn:(xl'++((tb i).setL k L).lvs).Perm (xl++(tb i).lvs)) :
  (S.setP (S.P.setA m)).Ok fr N K/\TPX (S.setP (S.P.setA m)) (updT tb i ((tb i).setL k L)) own xl' xn:=by
 have hi256:=Q1A ok.inv.len hi;have hT:=Q1w ok hi h1 h2;have hrange:p.at_<=p.at_+8*k/\p.at_+8*k+8<=p.at_+Q0c 2:=by
  have:Q0c 2=128:=rfl;omega
 have hother:∀{j' a':Nat},a'∈S.P.usedOf j'->¬(2=j'/\p.at_=a')->Kept S.P.a.mem m a' (Q0c j'):=fun ha' hne=>Q4k ok hT hrange.1 hrange.2 hk ha' hne
 have hcost:((tb i).setL k L).nds=(tb i).nds:=rfl;obtain⟨A,B,e1,e2⟩:=Q4h TB.lvs tb hi256 ((tb i).setL k L);obtain⟨A',B',e3,e4⟩:=Q4h TB.nds tb hi256 ((tb i).setL k L);refine⟨ok.stored hlen hb (fun b hb'=>?_),fun j q hj q1 q2=>?_,fun j q hj hq=>?_,?_,?_,fun id=>?_⟩
 ·have:=hother hb' (by omega);exact (this.sub (b:=b) (k:=8) (J0t _) (by show b+8<=b+64;omega)).word
 ·show (updT tb i _ j).In m q.at_;have hj':S.l[j]?=some q:=hj;have hj256:=Q1A ok.inv.len hj';by_cases e:j=i
  ·subst e;rw [updT_same];have hqp:q=p:=by rw [hi] at hj';exact (J1p hj').symm
   subst hqp;exact hin
  ·rw [Q0Q e];refine (t.tin j q hj' q1 q2).kept (hother (Q1w ok hj' q1 q2) (fun e'=>?_)) fun k' hk16' hk0=>hother (t.leaf hj256 hk16' hk0) (by omega)
   have:=Q9v ok hi hj' (fun e''=>e e''.symm) h1 q1;rw [h2,q2,Z4E] at this;omega
 ·have hj':S.l[j]?=some q:=hj;have e:j≠i:=fun e=>by
   subst e;rw [hi] at hj';cases hj';exact hq ⟨h1,h2⟩
  rw [Q0Q e];exact t.nil j q hj' hq
 ·show (xl'++Q2L _).Perm (S.P.usedOf 7);refine List.Perm.trans ?_ t.lvs;unfold Q2L;rw [e1,e2];have r:∀(X Y:List Nat),(X++(A++Y++B)).Perm (X++Y++(A++B)):=fun X Y=>by
   rw [J1s A Y B,J1s X Y];refine J3h X ?_;rw [<- J1s,<- J1s];exact J3f.append_right B
  exact (r _ _).trans ((hn.append_right _).trans (r _ _).symm)
 ·show (xn++Q3F _).Perm (S.P.usedOf 6);have:Q3F (updT tb i ((tb i).setL k L))=Q3F tb:=by
   unfold Q3F;rw [e3,e4,hcost]
  rw [this];exact t.nds
 ·show S.xc id=xcOf S.l _ id+_;rw [Q8d hi256 hi,t.xc];have hc:((tb i).setL k L).cost=(tb i).cost+256*(((tb i).setL k L).lvs.length:Int)-256*((tb i).lvs.length:Int):=by
   unfold TB.cost;rw [hcost];omega
  have hlenp:=hn.length_eq;rw [J1d,J1d] at hlenp;rw [hc];by_cases hid:id=own
  ·subst hid;rw [if_pos rfl,if_pos rfl,if_pos hown];omega
  ·rw [if_neg hid,if_neg hid,if_neg (by omega)];omega
end
structure Alt (S S':CO) (own:Int):Prop where
 c:S'.c=S.c
 t:S'.t=S.t
 l:S'.l=S.l
 g:S'.g=S.g
 per:S'.period=S.period
 now:S'.now=S.now
 rv:S'.rv=S.rv
 ts:S'.ts=S.ts
 same:SameP S.P S'.P
 next:S'.P.q.next=S.P.q.next
 acc:∀id e,find S.P.q.E id=some e->∃e',find S'.P.q.E id=some e'/\e'.q={e.q with charged:=e'.q.charged}/\(id≠own->e'=e)
 ids:S'.P.q.E.map En.id=S.P.q.E.map En.id
 kept:∀r∈S.l,r.is=true->r.kind≠2->Kept S.P.a.mem S'.P.a.mem r.at_ (costK r.kind)
theorem Alt.refl (S:CO) (own:Int):Alt S S own:=⟨rfl,rfl,rfl,rfl,rfl,rfl,rfl,rfl,SameP.refl _,rfl,fun _ e h=>⟨e,h,rfl,fun _=>rfl⟩,rfl,fun _ _ _ _=>Kept.refl _ _ _⟩
theorem Alt.trans {S S1 S2:CO} {own:Int} (h:Alt S S1 own) (k:Alt S1 S2 own):Alt S S2 own:=by
 refine⟨k.c.trans h.c,k.t.trans h.t,k.l.trans h.l,k.g.trans h.g,k.per.trans h.per,k.now.trans h.now,k.rv.trans h.rv,k.ts.trans h.ts,h.same.trans k.same,k.next.trans h.next,fun id e he=>?_,k.ids.trans h.ids,fun r hr hi hk=>?_⟩
 ·obtain⟨e1,a1,a2,a3⟩:=h.acc id e he;obtain⟨e2,b1,b2,b3⟩:=k.acc id e1 a1;refine⟨e2,b1,?_,fun hne=>(b3 hne).trans (a3 hne)⟩;rw [b2,a2]
 ·exact (h.kept r hr hi hk).trans (k.kept r (by rw [h.l];exact hr) hi hk)
theorem Alt.got {S:CO} {fr:List Nat} {N K:Nat} (ok:S.Ok fr N K) {own:Int} {n a:Nat} {P':PL} (g:GetOk S.P fr own n a P'):Alt S (S.paid P' own ((Q0c n:Nat):Int)) own:=by
 have gm:=g.gotM ok.inv.mem.pool;obtain⟨e,q1,q2,q3⟩:=g.q;refine⟨rfl,rfl,rfl,rfl,rfl,rfl,rfl,rfl,gm.same,by show P'.q.next=_;rw [q3],fun id x hx=>?_,?_,fun r hr hi hk=>?_⟩
 ·show ∃e',find P'.q.E id=some e'/\_;rw [q3];by_cases hid:id=own
  ·subst hid;rw [q1] at hx;cases hx;exact⟨_,Q0m q1 _,rfl,fun h=>absurd rfl h⟩
  ·exact⟨x,by rw [Q0L hid];exact hx,rfl,fun _=>rfl⟩
 ·show P'.q.E.map En.id=_;rw [q3];exact Q2b _ _ _
 ·exact gm.keptL ok.inv.mem r hr hi
theorem Alt.put {S:CO} {fr:List Nat} {N K:Nat} (ok:S.Ok fr N K) {own:Int} {n a:Nat} {P':PL} (g:PutOk S.P fr own n a P'):Alt S (S.paid P' own (-((Q0c n:Nat):Int))) own:=by
 have bm:=g.backM ok.inv.mem.pool;obtain⟨e,q1,q2,q3⟩:=g.q;refine⟨rfl,rfl,rfl,rfl,rfl,rfl,rfl,rfl,bm.same,by show P'.q.next=_;rw [q3],fun id x hx=>?_,?_,fun r hr hi hk=>?_⟩
 ·show ∃e',find P'.q.E id=some e'/\_;rw [q3];by_cases hid:id=own
  ·subst hid;rw [q1] at hx;cases hx;exact⟨_,Q0m q1 _,rfl,fun h=>absurd rfl h⟩
  ·exact⟨x,by rw [Q0L hid];exact hx,rfl,fun _=>rfl⟩
 ·show P'.q.E.map En.id=_;rw [q3];exact Q2b _ _ _
 ·show Kept S.P.a.mem P'.a.mem _ _;rw [bm.mem];exact Kept.refl _ _ _
theorem Alt.mem {S:CO} {fr:List Nat} {N K:Nat} (ok:S.Ok fr N K) (own:Int) {j a b n:Nat} {m:List Nat} (hj:j=2∨j=7) (ha:a∈S.P.usedOf j) (h1:a<=b) (h2:b+n<=a+Q0c j) (hlen:m.length=S.P.a.mem.length) (hk:Q3H S.P.a.mem m b n):Alt S (S.setP (S.P.setA m)) own:=by
 refine⟨rfl,rfl,rfl,rfl,rfl,rfl,rfl,rfl,⟨rfl,rfl,rfl,rfl,rfl,rfl,hlen⟩,rfl,fun _ e h=>⟨e,h,rfl,fun _=>rfl⟩,rfl,fun r hr hi hk2=>?_⟩;show Kept S.P.a.mem m _ _;by_cases h8:r.kind=8
 ·obtain⟨g,hg,e⟩:=ok.inv.mem.frame hr hi h8;have:=Q2c ok.inv.mem.pool hg ha;rw [h8,costK_8,e];exact hk _ _ (by omega)
 ·have hu:=ok.inv.mem.used hr hi h8;have hkd:=(ok.inv.mem.kind r hr hi).resolve_left h8;rw [Q1B h8];exact Q4k ok ha h1 h2 hk hu (fun e=>by omega)
theorem costs_67:Q0Y 6=48/\Q0Y 7=256:=⟨rfl,rfl⟩
theorem CO.stepPaid {w w':World} {S:CO} (h:Sep w S.hl) (P':PL) (own d:Int) (e:P'.p=S.P.p) (s:Step S.P.hl P'.hl w w'):Step S.hl (S.paid P' own d).hl w w':=CO.stepP h P' e s
theorem CO.stepMem {w w':World} {S:CO} (h:Sep w S.hl) (m:List Nat) (s:Step S.P.a.hl ({S.P.a with mem:=m}:AN).hl w w'):Step S.hl (S.setP (S.P.setA m)).hl w w':=
 CO.stepP h (S.P.setA m) rfl (PL.stepA (CO.sP h) m s)
def blk (k i:Nat):Nat×Nat:=(1024*i*2 ^ k,k)
end Go.Proofs.YtlakjlmaboioiaaGreatDoor
