/- What the laws of spaces share is proved. No condition. Part of a proof. -/
import Derived.DeepKeys3
import Derived.Test.YtlakjlmaboioiaaGreatDoorVa15
set_option linter.unusedVariables false
namespace Go.Proofs.YtlakjlmaboioiaaGreatDoor
open Go.RowKit Go.Proofs.Tryz
abbrev SKV:=List ((Int×Int)×Value)
def Q2u (p:Int×Int):Value:=.agg #[.int .i64 p.1,.int .i64 p.2]
def Q3V (kv:SKV) (p:Int×Int):Option Value:=(kv.find? fun q=>decide (q.1=p)).map Prod.snd
def delS (kv:SKV) (p:Int×Int):SKV:=kv.filter fun q=>decide (q.1≠p)
def Q3m (w:World) (m:Nat) (kv:SKV):Prop:=MapIs w m (kv.map fun q=>(Q2u q.1,q.2))
def Q1N (P:Program) (K:TypeId) (p:Int×Int):Prop:=∃l,keyOf P K (Q2u p)=some l
theorem Z6p {p q:Int×Int} (h:Q2u p=Q2u q):p=q:=by
 unfold Q2u at h;simp at h;exact Prod.ext h.1 h.2
theorem Z6q:∀{kv:SKV} {p:Int×Int} {v:Value} {j:Nat},kv.Pairwise (fun a b=>a.1≠b.1)->kv[j]?=some (p,v)->Q3V kv p=some v/\kv.eraseIdx j=delS kv p
 | [],_,_,_,_,h=>by simp at h
 | q::r,p,v,0,hn,h=>by
  simp at h;subst h;obtain⟨h1,_⟩:=J2I.1 hn;refine⟨by simp [Q3V],?_⟩;unfold delS;rw [J4u (by simp)]
  symm
  rw [List.eraseIdx_zero,List.tail_cons,J6o];intro a ha;have:=h1 a ha;simp;exact fun e=>this e.symm
 | q::r,p,v,j+1,hn,h=>by
  rw [J5t] at h;obtain⟨h1,h2⟩:=J2I.1 hn;obtain⟨i1,i2⟩:=Z6q h2 h;have Aa:q.1≠p:=h1 _ (J4v h);refine⟨?_,?_⟩
  ·unfold Q3V at i1 ⊢;rw [List.find?_cons_of_neg (by simpa using Aa)];exact i1
  ·unfold delS at i2 ⊢;rw [J4t (by simpa using Aa),J6p,i2]
theorem map_erase {α β:Type} (f:α->β):∀(l:List α) (j:Nat),(l.eraseIdx j).map f=(l.map f).eraseIdx j
 | [],_=>by simp
 | _::_,0=>rfl
 | x::r,j+1=>by rw [J6p,J2k,J2k,J6p,map_erase f r j]
theorem Q9q {kv:SKV} {p:Int×Int} (h:∀q∈kv,q.1≠p):Q3V kv p=none/\delS kv p=kv:=by
 refine⟨?_,?_⟩
 ·unfold Q3V;rw [J4a.2 (fun q hq=>by simpa using h q hq)];rfl
 ·unfold delS;rw [J6o];intro q hq
  simpa using h q hq
section
variable {P:Program} {K V:TypeId} {T:TypeId}
theorem Q6s (law:WideMaps.KeyLaw P K) (w:World) {es:List MapEntry} {kv:SKV} (hr:es.map (fun e=>(e.key,e.val))=kv.map fun q=>(Q2u q.1,q.2)) (hn:kv.Pairwise (fun a b=>a.1≠b.1)) (hk:∀q∈kv,Q1N P K q.1) {p:Int×Int} (hp:Q1N P K p) :
  ((Instr.findKey K (Q2u p) es).run P w=.ok none w/\Q3V kv p=none/\delS kv p=kv/\∀e∈es,e.key≠Q2u p) ∨
  ∃j v,(Instr.findKey K (Q2u p) es).run P w=.ok (some (j,v)) w/\Q3V kv p=some v/\j<es.length/\(es.eraseIdx j).map (fun e=>(e.key,e.val))=(delS kv p).map fun q=>(Q2u q.1,q.2):=by
 obtain⟨l,hl⟩:=hp;have AU:∀e∈es,∃l,keyOf P K e.key=some l:=fun e he=>by
  have hm:(e.key,e.val)∈kv.map fun q=>(Q2u q.1,q.2):=by rw [<- hr];exact J2n.2 ⟨e,he,rfl⟩
  obtain⟨q,hq,e1⟩:=J2n.1 hm;have:Q2u q.1=e.key:=((Prod.mk.injEq _ _ _ _).mp e1).1;rw [<- this];exact hk q hq
 rcases law.find w hl es AU with ⟨h1,h2⟩|⟨j,e,h1,h2,h3⟩
 ·left;have Ar:∀q∈kv,q.1≠p:=fun q hq e=>by
   have hm:(Q2u q.1,q.2)∈es.map fun e=>(e.key,e.val):=by rw [hr];exact J2n.2 ⟨q,hq,rfl⟩
   obtain⟨x,hx,e1⟩:=J2n.1 hm;exact h2 x hx (by rw [((Prod.mk.injEq _ _ _ _).mp e1).1,e])
  exact⟨h1,(Q9q Ar).1,(Q9q Ar).2,h2⟩
 ·right;have hj:j<es.length:=(J2y.1 h2).1;have O9:(kv.map fun q=>(Q2u q.1,q.2))[j]?=some (e.key,e.val):=by rw [<- hr,J3S,h2];rfl
  rw [J3S] at O9;obtain⟨q,hq,e1⟩:=J6e.1 O9;obtain⟨e2,e3⟩:=(Prod.mk.injEq _ _ _ _).mp e1;have M1:q.1=p:=Z6p (e2.trans h3);have KL:kv[j]?=some (p,e.val):=by rw [hq,<- M1,<- e3]
  obtain⟨f1,f2⟩:=Z6q hn KL;refine⟨j,e.val,h1,f1,hj,?_⟩;rw [<- f2,map_erase,map_erase,hr]
theorem Q6t {w:World} {m:Nat} {kv:SKV} (h:Q3m w m kv) (law:WideMaps.KeyLaw P K) (hn:kv.Pairwise (fun a b=>a.1≠b.1)) (hk:∀q∈kv,Q1N P K q.1) {p:Int×Int} (hp:Q1N P K p) (ok:Bool) (z:Value) (hT:P.underlying T=some (.map K V)) (hz:(zeroValue V).run P w=.ok z w) :
  (Instr.lookup T (.map (some m)) (Q2u p) ok).run P w=.ok (if ok then .tuple #[(Q3V kv p).getD z,.bool (Q3V kv p).isSome] else (Q3V kv p).getD z) w:=by
 obtain⟨es,Ai,hb,hs,hr⟩:=h;have hc:=fun em=>law.check w em hp.choose_spec
 unfold Instr.lookup;rcases Q6s law w hr hn hk hp with ⟨hf,hl,_,_⟩|⟨j,v,hf,hl,_,_⟩
 ·cases ok <;> simp [run_underlying hT,Result.andThen,Go.MapKept.run_getObj_map hb,hc,hf,hl,hz]
 ·cases ok <;> simp [run_underlying hT,Result.andThen,Go.MapKept.run_getObj_map hb,hc,hf,hl]
theorem Q4L {w:World} {m:Nat} {kv:SKV} (h:Q3m w m kv) (law:WideMaps.KeyLaw P K) (hn:kv.Pairwise (fun a b=>a.1≠b.1)) (hk:∀q∈kv,Q1N P K q.1) {p:Int×Int} (hp:Q1N P K p) (u:Value) (Ar:Q3V kv p=none) (hT:P.underlying T=some (.map K V)) :
  ∃w',(Instr.mapUpdate T (.map (some m)) (Q2u p) u).run P w=.ok () w'/\Q3m w' m (kv++[(p,u)])/\w.grownBy w' (some m):=by
 obtain⟨es,Ai,hb,hs,hr⟩:=h;have hc:=fun em=>law.check w em hp.choose_spec
 have Dk:∀o,w.grownBy {w with heap:=w.heap.setIfInBounds m o} (some m):=fun o=>⟨rfl,rfl,rfl,by simp,fun k _ Aa=>by
  have:m≠k:=fun e=>Aa (by rw [e])
  simp [this]⟩
 have Ab:=lt_of_block hb;unfold Instr.mapUpdate;rcases Q6s law w hr hn hk hp with ⟨hf,hl,_,Aa⟩|⟨j,v,hf,hl,_,_⟩
 ·refine⟨{w with heap:=w.heap.setIfInBounds m (.map (es.push {key:=Q2u p,val:=u,born:=Ai}) (Ai+1))},?_,?_,Dk _⟩
  ·simp [run_underlying hT,Result.andThen,Go.MapKept.run_getObj_map hb,hc,hf,Go.MapKept.run_setObj_map _ hb]
  ·refine⟨es.push {key:=Q2u p,val:=u,born:=Ai},Ai+1,by simp [Ab],Go.MapKept.stamped_push hs (fun x hx=>Aa x (by simpa using hx)),?_⟩;simp [hr]
 ·rw [Ar] at hl;cases hl
theorem Q6u {w:World} {m:Nat} {kv:SKV} (h:Q3m w m kv) (law:WideMaps.KeyLaw P K) (hn:kv.Pairwise (fun a b=>a.1≠b.1)) (hk:∀q∈kv,Q1N P K q.1) {p:Int×Int} (hp:Q1N P K p) (t1 t2:TypeId) (hT:P.underlying T=some (.map K V)) :
  ∃w',(Builtin.delete_ #[T,t1] t2 #[.map (some m),Q2u p]).run P w=.ok (.tuple #[]) w'/\Q3m w' m (delS kv p)/\w.grownBy w' (some m):=by
 obtain⟨es,Ai,hb,hs,hr⟩:=h;have hc:=fun em=>law.check w em hp.choose_spec
 have Dk:∀o,w.grownBy {w with heap:=w.heap.setIfInBounds m o} (some m):=fun o=>⟨rfl,rfl,rfl,by simp,fun k _ Aa=>by
  have:m≠k:=fun e=>Aa (by rw [e])
  simp [this]⟩
 have Ab:=lt_of_block hb;unfold Builtin.delete_;rcases Q6s law w hr hn hk hp with ⟨hf,hl,hd,Aa⟩|⟨j,v,hf,hl,hj,hd⟩
 ·refine⟨{w with heap:=w.heap.setIfInBounds m (.map es Ai)},?_,?_,Dk _⟩
  ·simp [run_underlying hT,Result.andThen,Go.MapKept.run_getObj_map hb,hc,hf,Go.MapKept.run_setObj_map _ hb]
  ·refine⟨_,_,by simp [Ab],hs,?_⟩;rw [hd];exact hr
 ·refine⟨{w with heap:=w.heap.setIfInBounds m (.map (es.eraseIdxIfInBounds j) Ai)},?_,?_,Dk _⟩
  ·simp [run_underlying hT,Result.andThen,Go.MapKept.run_getObj_map hb,hc,hf,Go.MapKept.run_setObj_map _ hb]
  ·refine⟨es.eraseIdxIfInBounds j,Ai,by simp [Ab],Go.MapKept.stamped_erase hs _,?_⟩;rw [<- hd];have:j<es.size:=by simpa using hj
   simp [Array.eraseIdxIfInBounds,this]
end
structure Nd where
 sp:Int
 sl:Int
 par:Int
 ks:List Int
def mapE (f:En Nd->Nd) (N:List (En Nd)):List (En Nd):=N.map fun e=>{e with q:=f e}
theorem Q1u (f:En Nd->Nd) (N:List (En Nd)) (id:Int):find (mapE f N) id=(find N id).map fun e=>{e with q:=f e}:=by
 induction N with
 | nil=>rfl
 | cons x r ih =>
  by_cases h:id=x.id
  ·simp [mapE,find,h]
  ·have ih':find (r.map fun e=>{e with q:=f e}) id=_:=ih;simp [mapE,find,h,ih']
theorem Q1m {f:En Nd->Nd} {N:List (En Nd)} {x:En Nd} (h:x∈mapE f N):∃e∈N,x={e with q:=f e}:=by
 obtain⟨e,he,rfl⟩:=J2n.1 h;exact⟨e,he,rfl⟩
theorem Z0O {f:En Nd->Nd} {N:List (En Nd)} (h:∀e∈N,f e=e.q):mapE f N=N:=by
 unfold mapE
 conv=>rhs;rw [<- List.map_id N]
 exact J4q fun e he=>by rw [h e he];rfl
theorem Q6v (f g:En Nd->Nd) (N:List (En Nd)):mapE g (mapE f N)=mapE (fun e=>g {e with q:=f e}) N:=by
 unfold mapE;rw [J4p];rfl
theorem Q5k {f g:En Nd->Nd} {N:List (En Nd)} (h:∀e∈N,f e=g e):mapE f N=mapE g N:=by
 unfold mapE;exact J4q fun e he=>by rw [h e he]
theorem Q2f {f:En Nd->Nd} {N:List (En Nd)} {R:En Nd->En Nd->Prop} (h:∀a b,R a b->R {a with q:=f a} {b with q:=f b}) (hp:N.Pairwise R):(mapE f N).Pairwise R:=by
 unfold mapE;rw [J2M];exact hp.imp fun {a b} Dh=>h a b Dh
theorem Q2G {N:List (En Nd)} (Ae:N.Pairwise (fun a b=>a.id≠b.id)) (id:Int):∀x,x∈rem N id↔x∈N/\x.id≠id:=by
 induction N with
 | nil=>simp [rem]
 | cons y r ih =>
  obtain⟨h1,h2⟩:=J2I.1 Ae;intro x;by_cases hk:id=y.id
  ·subst hk;simp only [rem,if_true,J2m]
   constructor
   ·intro hx;exact⟨.inr hx,fun e=>h1 x hx e.symm⟩
   ·rintro⟨rfl|hx,Aa⟩
    ·exact absurd rfl Aa
    ·exact hx
  ·simp only [rem,hk,if_false,J2m];rw [ih h2 x]
   constructor
   ·rintro (rfl|⟨hx,Aa⟩)
    ·exact⟨.inl rfl,fun e=>hk e.symm⟩
    ·exact⟨.inr hx,Aa⟩
   ·rintro⟨rfl|hx,Aa⟩
    ·exact .inl rfl
    ·exact .inr ⟨hx,Aa⟩
structure NOk (N:List (En Nd)) (next:Int):Prop where
 ids:N.Pairwise (fun a b=>a.id≠b.id)
 spots:N.Pairwise (fun a b=>(a.q.sp,a.q.sl)≠(b.q.sp,b.q.sl))
 next0:0<=next
 rng:∀e∈N,1<=e.id/\e.id<=next
 sm:∀e∈N,0<=e.q.sp/\e.q.sp<4294967296/\0<=e.q.sl/\e.q.sl<256
 par:∀e∈N,0<=e.q.par/\(e.q.par≠0->∃p,find N e.q.par=some p/\e.id∈p.q.ks)
 kids:∀p∈N,∀k∈p.q.ks,∃e,find N k=some e/\e.q.par=p.id
 nd:∀p∈N,p.q.ks.Nodup
 rise:∀e∈N,e.q.par<e.id
theorem Q0g {N:List (En Nd)} (Ae:N.Pairwise (fun a b=>a.id≠b.id)) {e:En Nd} (h:e∈N):find N e.id=some e:=by
 induction N with
 | nil=>cases h
 | cons x r ih =>
  obtain⟨h1,h2⟩:=J2I.1 Ae;rcases J2m.1 h with rfl|h
  ·simp [find]
  ·have Aa:¬e.id=x.id:=fun e'=>h1 e h e'.symm
   simp only [find,Aa,if_false];exact ih h2 h
theorem Q4j {N:List (En Nd)} {next:Int} (ok:NOk N next) {a b:En Nd} (ha:a∈N) (hb:b∈N) (h1:a.q.sp=b.q.sp) (h2:a.q.sl=b.q.sl):a=b:=by
 obtain⟨i,hi⟩:=J4V.1 ha;obtain⟨j,hj⟩:=J4V.1 hb;obtain⟨i1,i2⟩:=J2y.1 hi;obtain⟨j1,j2⟩:=J2y.1 hj;rcases J5i i j with h|h|h
 ·have:=J5j.1 ok.spots i j i1 j1 h;rw [i2,j2] at this;exact absurd (Prod.ext h1 h2) this
 ·subst h;rw [<- i2,<- j2]
 ·have:=J5j.1 ok.spots j i j1 i1 h;rw [i2,j2] at this;exact absurd (Prod.ext h1.symm h2.symm) this
def kdF (N:List (En Nd)) (id:Int):List Int:=match find N id with
 | some e=>e.q.ks
 | none=>[]
def rkF (next:Int) (id:Int):Nat:=(next+1-id).toNat
theorem NOk.tree {N:List (En Nd)} {next:Int} (ok:NOk N next):Fst3 (kdF N) (rkF next):=by
 have get:∀{h x},x∈kdF N h->∃p e,find N h=some p/\x∈p.q.ks/\find N x=some e/\e.q.par=p.id/\p.id=h:=by
  intro h x hx;unfold kdF at hx;cases hf:find N h with
  | none=>rw [hf] at hx;cases hx
  | some p =>
   rw [hf] at hx;obtain⟨e,h1,h2⟩:=ok.kids p (Q0b hf).1 x hx;exact⟨p,e,rfl,hx,h1,h2,(Q0b hf).2⟩
 refine⟨fun h x hx=>?_,fun a b x ha hb=>?_,fun h=>?_⟩
 ·obtain⟨p,e,h1,h2,h3,h4,h5⟩:=get hx;obtain⟨e1,e2⟩:=Q0b h3;have:=ok.rise e e1;have:=ok.rng e e1;unfold rkF;omega
 ·obtain⟨p,e,h1,h2,h3,h4,h5⟩:=get ha;obtain⟨p',e',Pj,WX,Tf,Xh,Wg⟩:=get hb;rw [h3] at Tf;cases Tf;omega
 ·unfold kdF;cases hf:find N h with
  | none=>simp
  | some p=>exact ok.nd p (Q0b hf).1
theorem NOk.zero {N:List (En Nd)} {next:Int} (ok:NOk N next):find N 0=none:=by
 cases hf:find N 0 with
 | none=>rfl
 | some e =>
  obtain⟨h1,h2⟩:=Q0b hf;have:=ok.rng e h1;omega
def addN (N:List (En Nd)) (par:Int) (k:Int) (b:Nat) (sp sl:Int):List (En Nd):=mapE (fun c=>if c.id=par then {c.q with ks:=c.q.ks++[k]} else c.q) N++[⟨k,b,⟨sp,sl,par,[]⟩⟩]
theorem Q8v (N:List (En Nd)) (x:En Nd) (id:Int):find (N++[x]) id=(find N id).or (if id=x.id then some x else none):=by
 rw [Q2a];cases find N id <;> rfl
theorem NOk.add {N:List (En Nd)} {next:Int} (ok:NOk N next) {par sp sl:Int} (b:Nat) (hp:par=0∨∃p,find N par=some p) (Ar:∀e∈N,(e.q.sp,e.q.sl)≠(sp,sl)) (h1:0<=sp) (h2:sp<4294967296) (h3:0<=sl) (h4:sl<256):NOk (addN N par (next+1) b sp sl) (next+1):=by
 have Dw:=ok.next0;have Cn:find N (next+1)=none:=by
  cases hf:find N (next+1) with
  | none=>rfl
  | some e =>
   obtain⟨e1,e2⟩:=Q0b hf;have:=ok.rng e e1;omega
 have Vr:0<=par/\par<=next:=by
  rcases hp with rfl|⟨p,hp⟩
  ·omega
  ·obtain⟨e1,e2⟩:=Q0b hp;have:=ok.rng p e1;omega
 have Cx:∀id,find (addN N par (next+1) b sp sl) id=if id=next+1 then some ⟨next+1,b,⟨sp,sl,par,[]⟩⟩ else (find N id).map fun c=>{c with q:=if c.id=par then {c.q with ks:=c.q.ks++[next+1]} else c.q}:=fun id=>by
  unfold addN;rw [Q8v,Q1u];by_cases h:id=next+1
  ·subst h;rw [Cn];simp
  ·cases hf:find N id with
   | none=>simp [h]
   | some e=>simp [h]
 have Aw:∀{x},x∈addN N par (next+1) b sp sl->(∃e∈N,x={e with q:=if e.id=par then {e.q with ks:=e.q.ks++[next+1]} else e.q})∨x=⟨next+1,b,⟨sp,sl,par,[]⟩⟩:=fun {x} hx=>by
  rcases J2V.1 hx with hx|hx
  ·exact .inl (Q1m hx)
  ·exact .inr (J4o.1 hx)
 refine⟨?_,?_,by omega,fun x hx=>?_,fun x hx=>?_,fun x hx=>?_,fun x hx k hk=>?_,fun x hx=>?_,fun x hx=>?_⟩
 ·unfold addN;rw [J2U];refine⟨Q2f (fun a b h=>h) ok.ids,by simp,fun x hx y hy=>?_⟩;obtain⟨e,he,rfl⟩:=Q1m hx;rw [J4o] at hy;subst hy;have:=ok.rng e he;show e.id≠next+1;omega
 ·unfold addN;rw [J2U];refine⟨Q2f (fun a b h=>?_) ok.spots,by simp,fun x hx y hy=>?_⟩
  ·have e1:∀c:En Nd,(if c.id=par then ({c.q with ks:=c.q.ks++[next+1]}:Nd) else c.q).sp=c.q.sp/\(if c.id=par then ({c.q with ks:=c.q.ks++[next+1]}:Nd) else c.q).sl=c.q.sl:=fun c=>by split <;> exact⟨rfl,rfl⟩
   show ((if a.id=par then ({a.q with ks:=a.q.ks++[next+1]}:Nd) else a.q).sp,_)≠_;rw [(e1 a).1,(e1 a).2,(e1 b).1,(e1 b).2];exact h
  ·obtain⟨e,he,rfl⟩:=Q1m hx;rw [J4o] at hy;subst hy;have:=Ar e he;show ((if e.id=par then ({e.q with ks:=e.q.ks++[next+1]}:Nd) else e.q).sp,(if e.id=par then ({e.q with ks:=e.q.ks++[next+1]}:Nd) else e.q).sl)≠_;split <;> exact this
 ·rcases Aw hx with ⟨e,he,rfl⟩|rfl
  ·have:=ok.rng e he;exact⟨this.1,by show e.id<=_;omega⟩
  ·exact⟨by show 1<=next+1;omega,J6l _⟩
 ·rcases Aw hx with ⟨e,he,rfl⟩|rfl
  ·have:=ok.sm e he;simp only;split <;> exact this
  ·exact⟨h1,h2,h3,h4⟩
 ·have key:∀e∈N,∀pr:Int,pr=e.q.par->0<=pr/\(pr≠0->∃p,find (addN N par (next+1) b sp sl) pr=some p/\e.id∈p.q.ks):=fun e he pr hpr'=>by
   subst hpr';obtain⟨q1,q2⟩:=ok.par e he;refine⟨q1,fun h0=>?_⟩;obtain⟨p,hp,hk⟩:=q2 h0;obtain⟨p1,p2⟩:=Q0b hp;have:=ok.rng p p1;refine⟨_,by rw [Cx,if_neg (by omega),hp];rfl,?_⟩;simp only;split
   ·exact J3c _ hk
   ·exact hk
  rcases Aw hx with ⟨e,he,rfl⟩|rfl
  ·exact key e he _ (by simp only;split <;> rfl)
  ·refine⟨Vr.1,fun h0=>?_⟩;have Dy:par≠0:=h0;obtain⟨p,hp⟩:=hp.resolve_left Dy;obtain⟨p1,p2⟩:=Q0b hp;refine⟨_,by rw [Cx,if_neg (by show par≠_;omega)];show (find N par).map _=_;rw [hp];rfl,?_⟩;simp only [p2,if_true];exact J3b _ (by simp)
 ·have old:∀e∈N,∀k∈e.q.ks,∃c,find (addN N par (next+1) b sp sl) k=some c/\c.q.par=e.id:=fun e he k hk=>by
   obtain⟨c,hc,GX⟩:=ok.kids e he k hk;obtain⟨c1,c2⟩:=Q0b hc;have:=ok.rng c c1;refine⟨_,by rw [Cx,if_neg (by omega),hc];rfl,?_⟩;simp only;split <;> exact GX
  rcases Aw hx with ⟨e,he,rfl⟩|rfl
  ·by_cases Ps:e.id=par
   ·have BC:k∈e.q.ks++[next+1]:=by
     have:=hk;simp only [Ps,if_true] at this;exact this
    rcases J2V.1 BC with BC|BC
    ·exact old e he k BC
    ·rw [J4o] at BC;subst BC;exact⟨_,by rw [Cx,if_pos rfl],Ps.symm⟩
   ·have BC:k∈e.q.ks:=by
     have:=hk;simp only [Ps,if_false] at this;exact this
    exact old e he k BC
  ·cases hk
 ·rcases Aw hx with ⟨e,he,rfl⟩|rfl
  ·have AD:=ok.nd e he;simp only;split
   ·show (e.q.ks++[next+1]).Nodup;rw [J3a];refine⟨AD,by simp,fun a ha b' Al=>?_⟩;rw [J4o] at Al;subst Al;obtain⟨c,hc,_⟩:=ok.kids e he a ha;obtain⟨c1,c2⟩:=Q0b hc;have:=ok.rng c c1;omega
   ·exact AD
  ·exact J6k
 ·rcases Aw hx with ⟨e,he,rfl⟩|rfl
  ·have:=ok.rise e he;simp only;split <;> exact this
  ·show par<next+1;omega
def Q0t (e:En Nd) (j:Nat) (c:En Nd):Nd:=
 {c.q with par:=if c.id∈e.q.ks.take j then e.q.par else c.q.par,ks:=if c.id=e.q.par then c.q.ks.filter (fun k=>decide (k≠e.id))++e.q.ks.take j else c.q.ks}
def Q0C (N:List (En Nd)) (e:En Nd) (j:Nat):List (En Nd):=mapE (Q0t e j) (rem N e.id)
theorem NOk.rem_find {N:List (En Nd)} {next:Int} (ok:NOk N next) (e:En Nd) (id:Int):find (rem N e.id) id=if id=e.id then none else find N id:=Q2m ok.ids e.id id
theorem NOk.lift {N:List (En Nd)} {next:Int} (ok:NOk N next) {e:En Nd} (he:find N e.id=some e):NOk (Q0C N e e.q.ks.length) next:=by
 obtain⟨BS,_⟩:=Q0b he;have JD:=ok.rng e BS;have P8:=ok.rise e BS;have Be:=ok.par e BS;have AW:e.q.ks.take e.q.ks.length=e.q.ks:=J6q;have hL:∀c,Q0t e e.q.ks.length c={c.q with par:=if c.id∈e.q.ks then e.q.par else c.q.par,ks:=if c.id=e.q.par then c.q.ks.filter (fun k=>decide (k≠e.id))++e.q.ks else c.q.ks}:=fun c=>by unfold Q0t;rw [AW]
 have Cx:∀id,find (Q0C N e e.q.ks.length) id=if id=e.id then none else (find N id).map fun c=>{c with q:=Q0t e e.q.ks.length c}:=fun id=>by
  unfold Q0C;rw [Q1u,ok.rem_find];split <;> rfl
 have Aw:∀{x},x∈Q0C N e e.q.ks.length->∃c∈N,c.id≠e.id/\x={c with q:=Q0t e e.q.ks.length c}:=fun {x} hx=>by
  obtain⟨c,hc,rfl⟩:=Q1m hx;obtain⟨h1,h2⟩:=(Q2G ok.ids e.id c).1 hc;exact⟨c,h1,h2,rfl⟩
 -- whose child is whose
 have KO:∀c∈N,(c.id∈e.q.ks↔c.q.par=e.id):=fun c hc=>by
  constructor
  ·intro h;obtain⟨d,hd,EO⟩:=ok.kids e BS c.id h;rw [Q0g ok.ids hc] at hd;cases hd;exact EO
  ·intro h;obtain⟨p,hp,hk⟩:=(ok.par c hc).2 (by omega);rw [h,he] at hp;cases hp;exact hk
 have BO:(rem N e.id).Sublist N:=Q1B N e.id;refine⟨Q2f (fun a b h=>h) (ok.ids.sublist BO),Q2f (fun a b h=>h) (ok.spots.sublist BO),ok.next0,fun x hx=>?_,fun x hx=>?_,fun x hx=>?_,fun x hx k hk=>?_,fun x hx=>?_,fun x hx=>?_⟩
 ·obtain⟨c,hc,_,rfl⟩:=Aw hx;exact ok.rng c hc
 ·obtain⟨c,hc,_,rfl⟩:=Aw hx;exact ok.sm c hc
 ·obtain⟨c,hc,Aa,rfl⟩:=Aw hx;show 0<=(Q0t e e.q.ks.length c).par/\((Q0t e e.q.ks.length c).par≠0->_);rw [hL];simp only;by_cases Gj:c.id∈e.q.ks
  ·rw [if_pos Gj];refine⟨Be.1,fun h0=>?_⟩;obtain⟨p,hp,hk⟩:=Be.2 h0;obtain⟨p1,p2⟩:=Q0b hp;refine⟨_,by rw [Cx,if_neg (by omega),hp];rfl,?_⟩;show c.id∈(Q0t e e.q.ks.length p).ks;rw [hL];simp only [p2,if_true];exact J3b _ Gj
  ·rw [if_neg Gj];obtain⟨q1,q2⟩:=ok.par c hc;refine⟨q1,fun h0=>?_⟩;obtain⟨p,hp,hk⟩:=q2 h0;have IZ:c.q.par≠e.id:=fun h=>Gj ((KO c hc).2 h)
   refine⟨_,by rw [Cx,if_neg IZ,hp];rfl,?_⟩;show c.id∈(Q0t e e.q.ks.length p).ks;rw [hL];simp only;split
   ·exact J3c _ (J2B.2 ⟨hk,by simpa using Aa⟩)
   ·exact hk
 ·obtain⟨c,hc,Aa,rfl⟩:=Aw hx;have BC:k∈(Q0t e e.q.ks.length c).ks:=hk;rw [hL] at BC;simp only at BC;have fromC:k∈c.q.ks->k≠e.id->∃d,find (Q0C N e e.q.ks.length) k=some d/\d.q.par=c.id:=fun h1 h2=>by
   obtain⟨d,hd,EO⟩:=ok.kids c hc k h1;obtain⟨d1,d2⟩:=Q0b hd;refine⟨_,by rw [Cx,if_neg h2,hd];rfl,?_⟩;show (Q0t e e.q.ks.length d).par=c.id;rw [hL];simp only;rw [if_neg (fun h=>Aa (by rw [<- EO];exact (KO d d1).1 h))];exact EO
  split at BC
  ·rename_i GX;rcases J2V.1 BC with BC|BC
   ·obtain⟨h1,h2⟩:=J2B.1 BC;exact fromC h1 (by simpa using h2)
   ·obtain⟨d,hd,EO⟩:=ok.kids e BS k BC;obtain⟨d1,d2⟩:=Q0b hd;have:=ok.rise d d1;refine⟨_,by rw [Cx,if_neg (by omega),hd];rfl,?_⟩;show (Q0t e e.q.ks.length d).par=c.id;rw [hL];simp only;rw [if_pos (by rw [d2];exact BC),GX]
  ·refine fromC BC fun h=>?_
   rename_i GX;obtain⟨d,hd,EO⟩:=ok.kids c hc k BC;rw [h,he] at hd;cases hd;exact GX EO.symm
 ·obtain⟨c,hc,Aa,rfl⟩:=Aw hx;show (Q0t e e.q.ks.length c).ks.Nodup;rw [hL];simp only;split
  ·rw [J3a];refine⟨(ok.nd c hc).filter _,ok.nd e BS,fun a ha b hb Dh=>?_⟩;subst Dh;obtain⟨d,hd,EO⟩:=ok.kids c hc a (J2B.1 ha).1;obtain⟨d',DV,Vf⟩:=ok.kids e BS a hb;rw [hd] at DV;cases DV;omega
  ·exact ok.nd c hc
 ·obtain⟨c,hc,Aa,rfl⟩:=Aw hx;show (Q0t e e.q.ks.length c).par<c.id;rw [hL];simp only;split
  ·rename_i h;have:=(KO c hc).1 h;have:=ok.rise c hc;omega
  ·exact ok.rise c hc
def Q0f (l:List Pl) (tb:Nat->TB) (h s:Nat):Option Ent:=match pget l 1 h with
 | some p=>if p.kind=2/\s<256 then (tb (h%256)).en s else none
 | none=>none
theorem Q1C {l:List Pl} {tb:Nat->TB} {h s:Nat} {e:Ent} (x:Q0f l tb h s=some e):∃p,pget l 1 h=some p/\p.kind=2/\s<256/\(tb (h%256)).en s=some e:=by
 unfold Q0f at x;cases hp:pget l 1 h with
 | none=>rw [hp] at x;cases x
 | some p =>
  rw [hp] at x;simp only at x;split at x
  ·rename_i hc;exact⟨p,rfl,hc.1,hc.2,x⟩
  ·cases x
theorem Q0h {l:List Pl} {tb:Nat->TB} {h s:Nat} {p:Pl} (hp:pget l 1 h=some p) (hk:p.kind=2) (hs:s<256):Q0f l tb h s=(tb (h%256)).en s:=by
 unfold Q0f;rw [hp];simp only;rw [if_pos ⟨hk,hs⟩]
structure Q7b (l:List Pl) (s:Nat) (e:Ent):Prop where
 live:∃q,pget l 1 e.h=some q/\(q.kind=8↔128<=s)
 r:1<=e.r/\e.r<=15
def Q0I (l:List Pl) (tb:Nat->TB) (n:En Nd):Option Ent:=Q0f l tb n.q.sp.toNat n.q.sl.toNat
structure FPI (l:List Pl) (tb:Nat->TB) (N:List (En Nd)):Prop where
 cap:∀h s e,Q0f l tb h s=some e->Q7b l s e
 has:∀h s e,Q0f l tb h s=some e->∃n∈N,n.q.sp=(h:Int)/\n.q.sl=(s:Int)
 is:∀n∈N,∃e,Q0I l tb n=some e
 up:∀n∈N,∀m,find N n.q.par=some m->∀e e',Q0I l tb n=some e->Q0I l tb m=some e'->e.h=e'.h/\e.r&&&e'.r=e.r
theorem Q3I {l:List Pl} {tb:Nat->TB} {h s:Nat} {p:Pl} (hp:pget l 1 h=some p) (hk:p.kind=2) (hs:s<256) {t':TB} {o:Option Ent} (ht:∀x,t'.en x=if x=s then o else (tb (h%256)).en x) (h' s':Nat) :
  Q0f l (updT tb (h%256) t') h' s'=if h'=h/\s'=s then o else Q0f l tb h' s':=by
 unfold Q0f;cases BI:pget l 1 h' with
 | none =>
  simp only;rw [if_neg];rintro⟨rfl,_⟩;rw [hp] at BI;cases BI
 | some q =>
  simp only;by_cases e:h'%256=h%256
  ·obtain⟨e1,e2,_⟩:=Q0Q BI hp e;subst e1;subst e2;rw [updT_same];by_cases hc:q.kind=2/\s'<256
   ·rw [if_pos hc,if_pos hc,ht];by_cases es:s'=s
    ·rw [if_pos es,if_pos ⟨rfl,es⟩]
    ·rw [if_neg es,if_neg (fun h=>es h.2)]
   ·rw [if_neg hc,if_neg hc,if_neg];rintro⟨_,rfl⟩;exact hc ⟨hk,hs⟩
  ·have hn:¬(h'=h/\s'=s):=fun x=>e (by rw [x.1])
   rw [Q0W e,if_neg hn]
theorem Q7C {l l':List Pl} {s:Nat} {e:Ent} (c:Q7b l s e) (h:∀q,pget l 1 e.h=some q->∃q',pget l' 1 e.h=some q'/\q'.kind=q.kind):Q7b l' s e:=by
 obtain⟨q,h1,h2⟩:=c.live;obtain⟨q',h3,h4⟩:=h q h1;exact⟨⟨q',h3,by rw [h4];exact h2⟩,c.r⟩
theorem FPI.same {l l':List Pl} {tb:Nat->TB} {N:List (En Nd)} (f:FPI l tb N) (he:∀h s,Q0f l' tb h s=Q0f l tb h s) (hl:∀h s e,Q0f l tb h s=some e->∀q,pget l 1 e.h=some q->∃q',pget l' 1 e.h=some q'/\q'.kind=q.kind):FPI l' tb N:=by
 have ho:∀n,Q0I l' tb n=Q0I l tb n:=fun n=>he _ _
 refine⟨fun h s e x=>?_,fun h s e x=>?_,fun n hn=>?_,fun n hn m hm e e' x y=>?_⟩
 ·rw [he] at x;exact Q7C (f.cap h s e x) (hl h s e x)
 ·rw [he] at x;exact f.has h s e x
 ·rw [ho];exact f.is n hn
 ·rw [ho] at x y;exact f.up n hn m hm e e' x y
theorem FPI.made {l:List Pl} {tb:Nat->TB} {N:List (En Nd)} (f:FPI l tb N) {i:Nat} {p q:Pl} (hi:l[i]?=some p) (hp:p.st=0) (hn:(tb i).Nil):FPI (l.set i q) tb N:=by
 have DY:∀x r,pget l 1 x=some r->pget (l.set i q) 1 x=some r:=fun x r hr=>by
  obtain⟨a,b,c⟩:=pget_some.1 hr;rw [Q0A q hi,if_neg]
  ·exact hr
  ·intro e;rw [e,hi] at a;cases a;omega
 refine f.same (fun h s=>?_) (fun h s e x r hr=>⟨r,DY _ _ hr,rfl⟩);by_cases e:h%256=i
 ·have z:∀l',Q0f l' tb h s=none:=fun l'=>by
   unfold Q0f;split
   ·split
    ·rename_i hc;rw [e];exact hn.2 s hc.2
    ·rfl
   ·rfl
  rw [z,z]
 ·unfold Q0f;rw [Q0A q hi,if_neg e]
theorem FPI.doomed {l:List Pl} {tb:Nat->TB} {N:List (En Nd)} (f:FPI l tb N) {h:Nat} {p:Pl} (hp:pget l 1 h=some p) (hn:(tb (h%256)).Nil) (Ar:∀h' s e,Q0f l tb h' s=some e->e.h≠h):FPI (l.set (h%256) {p with st:=2}) tb N:=by
 obtain⟨hi,K8,_⟩:=pget_some.1 hp;refine f.same (fun h' s=>?_) (fun h' s e x r hr=>⟨r,?_,rfl⟩)
 ·by_cases e:h'%256=h%256
  ·have z:∀l',Q0f l' tb h' s=none:=fun l'=>by
    unfold Q0f;split
    ·split
     ·rename_i hc;rw [e];exact hn.2 s hc.2
     ·rfl
    ·rfl
   rw [z,z]
  ·unfold Q0f;rw [Q0A _ hi,if_neg e]
 ·have Aa:=Ar h' s e x;rw [Q0A _ hi,if_neg]
  ·exact hr
  ·intro e1;exact Aa (Q0Q hr hp e1).1
theorem FPI.live {l l':List Pl} {tb:Nat->TB} {N:List (En Nd)} (f:FPI l tb N) (h:∀x,pget l' 1 x=pget l 1 x):FPI l' tb N:=
 f.same (fun h' s=>by unfold Q0f;rw [h]) (fun _ _ e _ q hq=>⟨q,by rw [h];exact hq,rfl⟩)
section
variable {l:List Pl} {tb:Nat->TB} {N:List (En Nd)} {next:Int} {h s:Nat} {p:Pl}
theorem Q3n {par sp sl:Int} {b:Nat} (ok:NOk N next) (id:Int):find (addN N par (next+1) b sp sl) id=if id=next+1 then some ⟨next+1,b,⟨sp,sl,par,[]⟩⟩ else (find N id).map fun c=>{c with q:=if c.id=par then {c.q with ks:=c.q.ks++[next+1]} else c.q}:=by
 have Cn:find N (next+1)=none:=by
  cases hf:find N (next+1) with
  | none=>rfl
  | some e =>
   obtain⟨e1,e2⟩:=Q0b hf;have:=ok.rng e e1;omega
 unfold addN;rw [Q8v,Q1u];by_cases h:id=next+1
 ·subst h;rw [Cn];simp
 ·cases hf:find N id with
  | none=>simp [h]
  | some e=>simp [h]
theorem Z3m {l:List Pl} {tb:Nat->TB} (n m:En Nd) (h1:n.q.sp=m.q.sp) (h2:n.q.sl=m.q.sl):Q0I l tb n=Q0I l tb m:=by unfold Q0I;rw [h1,h2]
theorem Z6r (e:En Nd) (par k:Int):(if e.id=par then ({e.q with ks:=e.q.ks++[k]}:Nd) else e.q).sp=e.q.sp/\(if e.id=par then ({e.q with ks:=e.q.ks++[k]}:Nd) else e.q).sl=e.q.sl/\(if e.id=par then ({e.q with ks:=e.q.ks++[k]}:Nd) else e.q).par=e.q.par:=by
 split <;> exact⟨rfl,rfl,rfl⟩
theorem FPI.add (f:FPI l tb N) (ok:NOk N next) (hp:pget l 1 h=some p) (hk:p.kind=2) (hs:s<256) (h0:Q0f l tb h s=none) {t':TB} {e:Ent} (ht:∀x,t'.en x=if x=s then some e else (tb (h%256)).en x) (hc:Q7b l s e) {par:Int} (b:Nat)
  (Be:par=0∨∃m em,find N par=some m/\Q0I l tb m=some em/\e.h=em.h/\e.r&&&em.r=e.r):FPI l (updT tb (h%256) t') (addN N par (next+1) b (h:Int) (s:Int)):=by
 have ha:=Q3I hp hk hs ht;have Aa:∀n∈N,¬(n.q.sp.toNat=h/\n.q.sl.toNat=s):=fun n hn ⟨h1,h2⟩=>by
  obtain⟨e1,FM⟩:=f.is n hn;unfold Q0I at FM;rw [h1,h2,h0] at FM;cases FM
 have Ca:∀n∈N,Q0I l (updT tb (h%256) t') n=Q0I l tb n:=fun n hn=>by
  unfold Q0I;rw [ha,if_neg (Aa n hn)]
 have Aw:∀{x},x∈addN N par (next+1) b (h:Int) (s:Int)->(∃n∈N,x={n with q:=if n.id=par then {n.q with ks:=n.q.ks++[next+1]} else n.q})∨x=⟨next+1,b,⟨(h:Int),(s:Int),par,[]⟩⟩:=fun {x} hx=>by
  rcases J2V.1 hx with hx|hx
  ·exact .inl (Q1m hx)
  ·exact .inr (J4o.1 hx)
 have Or:∀n∈N,Q0I l (updT tb (h%256) t') {n with q:=if n.id=par then {n.q with ks:=n.q.ks++[next+1]} else n.q}=Q0I l tb n:=fun n hn=>by
  rw [<- Ca n hn];obtain⟨q1,q2,_⟩:=Z6r n par (next+1);exact Z3m _ _ q1 q2
 have Cn:Q0I l (updT tb (h%256) t') ⟨next+1,b,⟨(h:Int),(s:Int),par,[]⟩⟩=some e:=by
  unfold Q0I;rw [ha,if_pos ⟨by simp,by simp⟩]
 refine⟨fun h' s' x hx=>?_,fun h' s' x hx=>?_,fun n hn=>?_,fun n hn m hm x y hx hy=>?_⟩
 ·rw [ha] at hx;split at hx
  ·rename_i AT;cases hx;rw [AT.2];exact hc
  ·exact f.cap h' s' x hx
 ·rw [ha] at hx;split at hx
  ·rename_i AT;exact⟨_,J3b _ (J4o.2 rfl),by rw [AT.1],by rw [AT.2]⟩
  ·obtain⟨n,hn,h1,h2⟩:=f.has h' s' x hx;obtain⟨q1,q2,_⟩:=Z6r n par (next+1);exact⟨_,J3c _ (J2n.2 ⟨n,hn,rfl⟩),q1.trans h1,q2.trans h2⟩
 ·rcases Aw hn with ⟨c,AT,rfl⟩|rfl
  ·rw [Or c AT];exact f.is c AT
  ·exact⟨e,Cn⟩
 ·-- the parent,in the old row
  have old:∀c,find N c.id=some c->∀m,find (addN N par (next+1) b (h:Int) (s:Int)) c.q.par=some m->find N c.q.par=none->False:=fun c MT m hm El=>by
   rw [Q3n ok] at hm;split at hm
   ·rename_i e1;obtain⟨c1,_⟩:=Q0b MT;have:=ok.rise c c1;have:=ok.rng c c1;omega
   ·rw [El] at hm;cases hm
  rcases Aw hn with ⟨c,AT,rfl⟩|rfl
  ·obtain⟨_,_,q3⟩:=Z6r c par (next+1);have Cd:find (addN N par (next+1) b (h:Int) (s:Int)) c.q.par=some m:=by rw [<- q3];exact hm
   rw [Or c AT] at hx;have Re:=ok.rng c AT;have BB:=ok.rise c AT;rw [Q3n ok,if_neg (by omega)] at Cd;obtain⟨m0,F1,rfl⟩:=J6e.1 Cd;rw [Or m0 (Q0b F1).1] at hy;exact f.up c AT m0 F1 x y hx hy
  ·rw [Cn] at hx;cases hx;have Cd:find (addN N par (next+1) b (h:Int) (s:Int)) par=some m:=hm;rcases Be with rfl|⟨m1,em,g1,g2,g3,g4⟩
   ·rw [Q3n ok,if_neg (by have:=ok.next0;omega),ok.zero] at Cd;cases Cd
   ·have:=ok.rng m1 (Q0b g1).1;have e2:=(Q0b g1).2;rw [Q3n ok,if_neg (by omega),g1] at Cd;cases Cd;rw [Or m1 (Q0b g1).1,g2] at hy;cases hy;exact⟨g3,g4⟩
theorem FPI.weak (f:FPI l tb N) (ok:NOk N next) (hp:pget l 1 h=some p) (hk:p.kind=2) (hs:s<256) {e e2:Ent} (h0:Q0f l tb h s=some e) {t':TB} (ht:∀x,t'.en x=if x=s then some e2 else (tb (h%256)).en x) (hh:e2.h=e.h) (hr:1<=e2.r/\e2.r<=15) (BO:e2.r&&&e.r=e2.r)
  (EN:∀n∈N,∀m,find N n.q.par=some m->m.q.sp=(h:Int)->m.q.sl=(s:Int)->∀x,Q0I l tb n=some x->x.r&&&e2.r=x.r):FPI l (updT tb (h%256) t') N:=by
 have ha:=Q3I hp hk hs ht;have spot:∀n∈N,n.q.sp.toNat=h->n.q.sl.toNat=s->n.q.sp=(h:Int)/\n.q.sl=(s:Int):=fun n hn h1 h2=>by
  have:=ok.sm n hn;omega
 refine⟨fun h' s' x hx=>?_,fun h' s' x hx=>?_,fun n hn=>?_,fun n hn m hm x y hx hy=>?_⟩
 ·rw [ha] at hx;split at hx
  ·rename_i AT;cases hx;have:=f.cap h s e h0;rw [AT.2];exact⟨by rw [hh];exact this.live,hr⟩
  ·exact f.cap h' s' x hx
 ·rw [ha] at hx;split at hx
  ·rename_i AT;rw [AT.1,AT.2];exact f.has h s e h0
  ·exact f.has h' s' x hx
 ·unfold Q0I;rw [ha];split
  ·exact⟨e2,rfl⟩
  ·exact f.is n hn
 ·unfold Q0I at hx hy;rw [ha] at hx hy;split at hx
  ·rename_i c1;cases hx;split at hy
   ·rename_i c2
    -- a node of its own parent: the same spot
    exfalso;obtain⟨n1,n2⟩:=spot n hn c1.1 c1.2;obtain⟨m1,m2⟩:=spot m (Q0b hm).1 c2.1 c2.2;have i1:=Q4j ok hn (Q0b hm).1 (n1.trans m1.symm) (n2.trans m2.symm);have:=ok.rise n hn;have:=(Q0b hm).2;subst i1;omega
   ·obtain⟨q1,q2⟩:=f.up n hn m hm e y (by unfold Q0I;rw [c1.1,c1.2];exact h0) (by unfold Q0I;exact hy);refine⟨hh.trans q1,?_⟩;rw [<- BO,Nat.and_assoc,q2]
  ·split at hy
   ·rename_i c2;cases hy;obtain⟨q1,q2⟩:=f.up n hn m hm x e (by unfold Q0I;exact hx) (by unfold Q0I;rw [c2.1,c2.2];exact h0);obtain⟨m1,m2⟩:=spot m (Q0b hm).1 c2.1 c2.2;exact⟨q1.trans hh.symm,EN n hn m hm m1 m2 x (by unfold Q0I;exact hx)⟩
   ·exact f.up n hn m hm x y (by unfold Q0I;exact hx) (by unfold Q0I;exact hy)
theorem FPI.lift (f:FPI l tb N) (ok:NOk N next) (hp:pget l 1 h=some p) (hk:p.kind=2) (hs:s<256) {t':TB} (ht:∀x,t'.en x=if x=s then none else (tb (h%256)).en x) {e:En Nd} (he:find N e.id=some e) (h1:e.q.sp=(h:Int)) (h2:e.q.sl=(s:Int)):FPI l (updT tb (h%256) t') (Q0C N e e.q.ks.length):=by
 have ha:=Q3I hp hk hs ht;have BS:=(Q0b he).1;have AW:e.q.ks.take e.q.ks.length=e.q.ks:=J6q;have Lh:∀c,(Q0t e e.q.ks.length c).sp=c.q.sp/\(Q0t e e.q.ks.length c).sl=c.q.sl:=fun c=>⟨rfl,rfl⟩
 have Aw:∀{x},x∈Q0C N e e.q.ks.length->∃c∈N,c.id≠e.id/\x={c with q:=Q0t e e.q.ks.length c}:=fun {x} hx=>by
  obtain⟨c,hc,rfl⟩:=Q1m hx;obtain⟨g1,g2⟩:=(Q2G ok.ids e.id c).1 hc;exact⟨c,g1,g2,rfl⟩
 have Aa:∀c∈N,c.id≠e.id->¬(c.q.sp.toNat=h/\c.q.sl.toNat=s):=fun c hc hid ⟨g1,g2⟩=>by
  have:=ok.sm c hc;have:=Q4j ok hc BS (by omega) (by omega);subst this;exact hid rfl
 have Ca:∀c∈N,c.id≠e.id->Q0I l (updT tb (h%256) t') {c with q:=Q0t e e.q.ks.length c}=Q0I l tb c:=fun c hc hid=>by
  unfold Q0I;show Q0f l _ c.q.sp.toNat c.q.sl.toNat=_;rw [ha,if_neg (Aa c hc hid)]
 refine⟨fun h' s' x hx=>?_,fun h' s' x hx=>?_,fun n hn=>?_,fun n hn m hm x y hx hy=>?_⟩
 ·rw [ha] at hx;split at hx
  ·cases hx
  ·exact f.cap h' s' x hx
 ·rw [ha] at hx;split at hx
  ·cases hx
  ·rename_i AT;obtain⟨n,hn,g1,g2⟩:=f.has h' s' x hx;have hid:n.id≠e.id:=fun e1=>by
    rw [e1.symm,Q0g ok.ids hn] at he;cases he;exact AT ⟨by omega,by omega⟩
   exact⟨_,J2n.2 ⟨n,(Q2G ok.ids e.id n).2 ⟨hn,hid⟩,rfl⟩,g1,g2⟩
 ·obtain⟨c,hc,hid,rfl⟩:=Aw hn;rw [Ca c hc hid];exact f.is c hc
 ·obtain⟨c,hc,hid,rfl⟩:=Aw hn;rw [Ca c hc hid] at hx;have Cd:find (Q0C N e e.q.ks.length) (Q0t e e.q.ks.length c).par=some m:=hm;unfold Q0C at Cd;rw [Q1u,ok.rem_find] at Cd;split at Cd
  ·cases Cd
  ·rename_i IZ;obtain⟨m0,F1,rfl⟩:=J6e.1 Cd;have P7:=(Q0b F1).1;have Fh:m0.id≠e.id:=by rw [(Q0b F1).2];exact IZ
   rw [Ca m0 P7 Fh] at hy;have Be:(Q0t e e.q.ks.length c).par=if c.id∈e.q.ks then e.q.par else c.q.par:=by unfold Q0t;rw [AW]
   rw [Be] at F1;by_cases Gj:c.id∈e.q.ks
   ·rw [if_pos Gj] at F1;obtain⟨d,hd,EO⟩:=ok.kids e BS c.id Gj;rw [Q0g ok.ids hc] at hd;cases hd;obtain⟨z,hz⟩:=f.is e BS;obtain⟨a1,a2⟩:=f.up c hc e (by rw [EO];exact he) x z hx hz;obtain⟨b1,b2⟩:=f.up e BS m0 F1 z y hz hy;refine⟨a1.trans b1,?_⟩;rw [<- a2,Nat.and_assoc,b2]
   ·rw [if_neg Gj] at F1;exact f.up c hc m0 F1 x y hx hy
end
def Ent.c (e:Ent):Nat×Nat:=(e.h,e.r)
structure AV where
 en:Nat->Nat->Option (Nat×Nat)
 N:List (En Nd)
def avOf (l:List Pl) (tb:Nat->TB) (N:List (En Nd)):AV:=⟨fun h s=>(Q0f l tb h s).map Ent.c,N⟩
def setA (en:Nat->Nat->Option (Nat×Nat)) (h s:Nat) (o:Option (Nat×Nat)):Nat->Nat->Option (Nat×Nat):=fun h' s'=>if h'=h/\s'=s then o else en h' s'
theorem Q9r (en:Nat->Nat->Option (Nat×Nat)) (h s:Nat) (o:Option (Nat×Nat)):setA en h s o h s=o:=by unfold setA;rw [if_pos ⟨rfl,rfl⟩]
theorem Q5l {en:Nat->Nat->Option (Nat×Nat)} {h s h' s':Nat} {o:Option (Nat×Nat)} (Aa:¬(h'=h/\s'=s)):setA en h s o h' s'=en h' s':=by unfold setA;rw [if_neg Aa]
def less (r m:Nat):Nat:=r-(r&&&m)
theorem Q5P:∀r,r<16->∀m,m<16->less r m&&&m=0/\less r m&&&r=less r m/\less r m<=r:=by decide
theorem Q4M:∀r,r<16->less r 15=0:=by decide
theorem Z8L:∀x,x<16->∀r,r<16->∀m,m<16->x&&&r=x->x&&&m=0->x&&&less r m=x:=by decide
def weak1 (m:Nat) (a:AV) (id:Int):AV×Bool:=match find a.N id with
 | none=>(a,false)
 | some n=>match a.en n.q.sp.toNat n.q.sl.toNat with
  | none=>(a,false)
  | some c=>if less c.2 m=0 then (⟨setA a.en n.q.sp.toNat n.q.sl.toNat none,Q0C a.N n n.q.ks.length⟩,true) else (⟨setA a.en n.q.sp.toNat n.q.sl.toNat (some (c.1,less c.2 m)),a.N⟩,false)
def Q0M (m:Nat):AV->List Int->AV×Nat
 | a,[]=>(a,0)
 | a,id::r=>((Q0M m (weak1 m a id).1 r).1,(if (weak1 m a id).2=true then 1 else 0)+(Q0M m (weak1 m a id).1 r).2)
theorem weakA_snoc (m:Nat):∀(l:List Int) (a:AV) (id:Int),Q0M m a (l++[id])=((weak1 m (Q0M m a l).1 id).1,(Q0M m a l).2+if (weak1 m (Q0M m a l).1 id).2=true then 1 else 0)
 | [],a,id=>by
  show ((weak1 m a id).1,(if (weak1 m a id).2=true then 1 else 0)+0)=((weak1 m a id).1,0+if (weak1 m a id).2=true then 1 else 0);rw [J4L,J2q]
 | x::r,a,id=>by
  rw [J4s];unfold Q0M;rw [weakA_snoc m r (weak1 m a x).1 id];simp only [J3H]
theorem Q5Q (m:Nat):∀(l:List Int) (a:AV),(Q0M m a l).2<=l.length
 | [],a=>J2h _
 | x::r,a=>by
  have:=Q5Q m r (weak1 m a x).1;show (if (weak1 m a x).2=true then 1 else 0)+(Q0M m (weak1 m a x).1 r).2<=r.length+1;split <;> omega
def Q3J (m:Nat) (a:AV) (A:List Int) (id:Int):Prop:=∀e,find a.N id=some e->∀c∈e.q.ks,c∈A∨∀n,find a.N c=some n->∀x,a.en n.q.sp.toNat n.q.sl.toNat=some x->x.2&&&m=0
def WeakOk (m:Nat) (a:AV) (l:List Int):Prop:=m=15∨∀A id B,l=A++id::B->Q3J m a A id
theorem Q7D (a:AV) (l:List Int):WeakOk 15 a l:=.inl rfl
theorem Q3K {N:List (En Nd)} {next:Int} (ok:NOk N next) (e:En Nd) (id:Int):find (Q0C N e e.q.ks.length) id=if id=e.id then none else (find N id).map fun c=>{c with q:=Q0t e e.q.ks.length c}:=by
 unfold Q0C;rw [Q1u,ok.rem_find];split <;> rfl
theorem Q1G (e c:En Nd):Q0t e e.q.ks.length c={c.q with par:=if c.id∈e.q.ks then e.q.par else c.q.par,ks:=if c.id=e.q.par then c.q.ks.filter (fun k=>decide (k≠e.id))++e.q.ks else c.q.ks}:=by
 unfold Q0t;rw [J6q]
theorem Z0P {N:List (En Nd)} {next:Int} (ok:NOk N next) {a b:En Nd} (ha:a∈N) (hb:b∈N) (Aa:a.id≠b.id):¬(a.q.sp.toNat=b.q.sp.toNat/\a.q.sl.toNat=b.q.sl.toNat):=fun h=>by
 have h1:=ok.sm a ha;have h2:=ok.sm b hb;exact Aa (by rw [Q4j ok ha hb (by omega) (by omega)])
theorem WeakOk.step {m:Nat} {a:AV} {next:Int} (ok:NOk a.N next) (hr:∀h s x,a.en h s=some x->x.2<16) (hm:m<16) {id:Int} {l:List Int} (h:WeakOk m a (id::l)):WeakOk m (weak1 m a id).1 l:=by
 rcases h with h|h
 ·exact .inl h
 refine .inr fun A x B hl=>?_
 have h0:=h [] id l rfl;have h1:=h (id::A) x B (by rw [hl];rfl);unfold weak1;cases hf:find a.N id with
 | none =>
  simp only;intro e he c hc;rcases h1 e he c hc with hx|hx
  ·rcases J2m.1 hx with rfl|hx
   ·exact .inr fun n hn=>by rw [hf] at hn;cases hn
   ·exact .inl hx
  ·exact .inr hx
 | some d =>
  simp only;obtain⟨hd,I8⟩:=Q0b hf;cases Ea:a.en d.q.sp.toNat d.q.sl.toNat with
  | none =>
   simp only;intro e he c hc;rcases h1 e he c hc with hx|hx
   ·rcases J2m.1 hx with rfl|hx
    ·exact .inr fun n hn=>by rw [hf] at hn;cases hn;intro y hy;rw [Ea] at hy;cases hy
    ·exact .inl hx
   ·exact .inr hx
  | some y =>
   simp only;have hy:=hr _ _ _ Ea;split
   ·-- lifted
    have TV:find a.N d.id=some d:=by rw [I8];exact hf
    have old:∀c n',find (Q0C a.N d d.q.ks.length) c=some n'->∃n,find a.N c=some n/\n∈a.N/\n.id≠d.id/\n'.q.sp=n.q.sp/\n'.q.sl=n.q.sl:=fun c n' Ef=>by
     rw [Q3K ok] at Ef;split at Ef
     ·cases Ef
     ·rename_i EE;cases hn:find a.N c with
      | none=>rw [hn] at Ef;cases Ef
      | some n =>
       rw [hn] at Ef;simp only [J3V,J2v] at Ef;subst Ef;obtain⟨n1,n2⟩:=Q0b hn;exact⟨n,rfl,n1,by rw [n2];exact EE,by rw [Q1G],by rw [Q1G]⟩
    have good:∀c,(∀n,find a.N c=some n->∀z,a.en n.q.sp.toNat n.q.sl.toNat=some z->z.2&&&m=0)->∀n',find (Q0C a.N d d.q.ks.length) c=some n'->∀z,setA a.en d.q.sp.toNat d.q.sl.toNat none n'.q.sp.toNat n'.q.sl.toNat=some z->z.2&&&m=0:=fun c hc n' Ef z hz=>by
     obtain⟨n,n1,n2,n3,n4,n5⟩:=old c n' Ef;rw [n4,n5,Q5l (Z0P ok n2 hd n3)] at hz;exact hc n n1 z hz
    intro e' AL c hc;have Ed:find (Q0C a.N d d.q.ks.length) x=some e':=AL;rw [Q3K ok] at Ed;split at Ed
    ·cases Ed
    ·rename_i WP;cases KU:find a.N x with
     | none=>rw [KU] at Ed;cases Ed
     | some e =>
      rw [KU] at Ed;simp only [J3V,J2v] at Ed;subst Ed;have AT:c∈(Q0t d d.q.ks.length e).ks:=hc;rw [Q1G] at AT;simp only at AT;obtain⟨e1,e2⟩:=Q0b KU;have fromOld:c∈e.q.ks->c≠d.id->c∈A∨∀n',find (Q0C a.N d d.q.ks.length) c=some n'->∀z,setA a.en d.q.sp.toNat d.q.sl.toNat none n'.q.sp.toNat n'.q.sl.toNat=some z->z.2&&&m=0:=fun k1 k2=>by
       rcases h1 e KU c k1 with hx|hx
       ·rcases J2m.1 hx with h|hx
        ·exact absurd (h.trans I8.symm) k2
        ·exact .inl hx
       ·exact .inr (good c hx)
      split at AT
      ·rcases J2V.1 AT with AT|AT
       ·obtain⟨k1,k2⟩:=J2B.1 AT;exact fromOld k1 (by simpa using k2)
       ·rcases h0 d hf c AT with hx|hx
        ·cases hx
        ·exact .inr (good c hx)
      ·rename_i Be;refine fromOld AT fun k=>?_
       obtain⟨k1,k2,k3⟩:=ok.kids e e1 c AT;rw [k,TV] at k2;cases k2;exact Be k3.symm
   ·-- weakened
    intro e he c hc;have Ed:find a.N x=some e:=he;have AP:∀n,n∈a.N->n.id≠d.id->setA a.en d.q.sp.toNat d.q.sl.toNat (some (y.1,less y.2 m)) n.q.sp.toNat n.q.sl.toNat=a.en n.q.sp.toNat n.q.sl.toNat:=fun n n1 n2=>Q5l (Z0P ok n1 hd n2)
    by_cases EE:c=id
    ·refine .inr fun n hn z hz=>?_
     have Iu:find a.N c=some n:=hn;rw [EE,hf] at Iu;cases Iu;have Bp:setA a.en d.q.sp.toNat d.q.sl.toNat (some (y.1,less y.2 m)) d.q.sp.toNat d.q.sl.toNat=some z:=hz;rw [Q9r] at Bp;cases Bp;exact (Q5P y.2 hy m hm).1
    ·rcases h1 e Ed c hc with hx|hx
     ·rcases J2m.1 hx with h|hx
      ·exact absurd h EE
      ·exact .inl hx
     ·refine .inr fun n hn z hz=>?_
      have Iu:find a.N c=some n:=hn;obtain⟨n1,n2⟩:=Q0b Iu;have Bp:setA a.en d.q.sp.toNat d.q.sl.toNat (some (y.1,less y.2 m)) n.q.sp.toNat n.q.sl.toNat=some z:=hz;rw [AP n n1 (by rw [n2,I8];exact EE)] at Bp;exact hx n Iu z Bp
theorem Q9s {m:Nat} {a:AV} {next:Int} (ok:NOk a.N next) (id:Int) (self:Bool):WeakOk m a (Q0H (kdF a.N) (rkF next) id++if self=true then [id] else []):=by
 refine .inr fun A x B hl e he c hc=>.inl ?_
 have t:=ok.tree;have hk:c∈kdF a.N x:=by unfold kdF;rw [he];exact hc
 have GZ:c≠x:=fun h=>by
  have:=t.dn x c hk;rw [h] at this;omega
 have Ce:Dn (kdF a.N) id x->c∈Q0H (kdF a.N) (rkF next) id:=fun hd=>by
  refine (Q7B t).2 ⟨hd.trans (.down x c c hk (.here c)),fun h=>?_⟩;have h1:=(Dn.rank t hd).1;have h2:=t.dn x c hk;rw [h] at h2;omega
 have hp:=Z3k t id;rcases List.append_eq_append_iff.1 hl with ⟨C,e1,e2⟩|⟨C,e1,e2⟩
 ·-- x is the last
  cases C with
  | nil =>
   rw [J4r] at e2;rw [J4n] at e1;cases self with
   | false=>rw [if_neg (by decide)] at e2;cases e2
   | true =>
    rw [if_pos rfl] at e2
    injection e2 with e2 e3
    subst e2;rw [e1];exact Ce (.here _)
  | cons y C =>
   cases self with
   | false=>rw [if_neg (by decide)] at e2;simp at e2
   | true=>rw [if_pos rfl] at e2;simp at e2
 ·-- x is below
  cases C with
  | nil =>
   rw [J4n] at e1;rw [J4r] at e2;cases self with
   | false=>rw [if_neg (by decide)] at e2;cases e2
   | true =>
    rw [if_pos rfl] at e2
    injection e2 with e2 e3
    subst e2;rw [<- e1];exact Ce (.here _)
  | cons y C =>
   rw [J4s] at e2
   injection e2 with e2 e3
   subst e2;have hx:x∈Q0H (kdF a.N) (rkF next) id:=by rw [e1];simp
   have DT:=Ce ((Q7B t).1 hx).1;rw [e1] at DT;rcases J2V.1 DT with h|h
   ·exact h
   ·rcases J2m.1 h with h|h
    ·exact absurd h GZ
    ·rw [e1] at hp;have:=((J2U.1 hp).2.1)
     have:=(J2I.1 this).1 c h;exact absurd (.down x c c hk (.here c)) this.2
theorem Z0Q {S:CO} {fr:List Nat} {N K:Nat} (ok:S.Ok fr N K) {i j:Nat} {p r:Pl} (hi:S.l[i]?=some p) (hj:S.l[j]?=some r) (G1:i≠j) (hp:p.st=1) (hr:r.st=1):p.at_+costK p.kind<=r.at_∨r.at_+costK r.kind<=p.at_:=by
 have m:=ok.inv.mem;have Cr:p.is=true:=Pl.is_iff.2 (.inl hp);have LM:r.is=true:=Pl.is_iff.2 (.inl hr);have BQ:=J4v hi;have Od:=J4v hj;by_cases J6:p.kind=8
 ·obtain⟨g,hg,eg⟩:=m.frame BQ Cr J6;by_cases Iw:r.kind=8
  ·obtain⟨g',Gx,eg'⟩:=m.frame Od LM Iw;have AD:(Q2c S.l 8).Nodup:=by
    refine m.frs.nodup_iff.2 ?_;unfold List.Nodup;rw [J2M];exact (Q4D m.pool).1.imp fun h e=>h (by omega)
   have:g≠g':=fun e=>G1 (Z0z (atsF 8) AD hi hj (b:=p.at_) (by rw [<- J6];exact Q1b Cr) (by rw [<- Iw,Q1b LM,eg',<- e,eg]))
   rw [J6,Iw,costK_8];omega
  ·have:=Q2B m.pool hg (m.used Od LM Iw);rw [J6,costK_8,Q1T Iw];omega
 ·have hu:=m.used BQ Cr J6;by_cases Iw:r.kind=8
  ·obtain⟨g',Gx,eg'⟩:=m.frame Od LM Iw;have:=Q2B m.pool Gx hu;rw [Iw,costK_8,Q1T J6];omega
  ·have hv:=m.used Od LM Iw;rw [Q1T J6,Q1T Iw];refine Q3D m.pool hu hv fun e=>?_
   obtain⟨k1,k5⟩:=(m.kind p BQ Cr).resolve_left J6;exact G1 (Z0z (atsF p.kind) (m.at_nd p.kind k1 k5) hi hj (b:=p.at_) (Q1b Cr) (by rw [e.1,Q1b LM,e.2]))
end Go.Proofs.YtlakjlmaboioiaaGreatDoor
