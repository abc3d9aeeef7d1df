/- CarryPages returns true at every input. No condition. Part of its proof. -/
import Derived.Test.YtfidemmgofcnmaaGreatDoorCg15
set_option maxHeartbeats 4000000
set_option maxRecDepth 100000
set_option linter.unusedVariables false
namespace Go.Proofs.YtfidemmgofcnmaaGreatDoor
open Go.RowKit Go.Proofs.Tryz
theorem Q9x(f:En Nd->Nd):∀(N:List (En Nd)) (id:Int),rem (mapE f N) id=mapE f (rem N id)
 | [],_=>rfl
 | c::r,id=>by
  show rem ({c with q:=f c}::mapE f r) id=mapE f (rem (c::r) id);unfold rem;show(if id=c.id then mapE f r else {c with q:=f c}::rem (mapE f r) id)=_;rw[Q9x f r id];split <;> rfl
theorem Q7B{N:List (En Nd)}(Ag:N.Pairwise (fun a b=>a.id≠b.id)){c p:En Nd}{id:Int}(hc:c∈N)(hi:c.id=id)(hp:find N id=some p):c=p:=by
 have:=Q0s Ag hc;rw[hi,hp] at this;exact(J0g this).symm
def cutK(p:Nd)(id:Int):Nd:={p with ks:=p.ks.filter fun k=>decide (k≠id)}
theorem Z5G{N:List (En Nd)}(Ag:N.Pairwise (fun a b=>a.id≠b.id)){e p:En Nd}(hp:find N e.q.par=some p) :
  rem (mapE (fun c=>if c.id=e.q.par then cutK p.q e.id else c.q) N) e.id=Q0N N e 0:=by
 rw[Q9x];unfold Q0N;refine Q3Z fun c hc=>?_
 have Re:=Q6m hc;unfold Q0t;rw[J2H];by_cases h:c.id=e.q.par
 ·have:=Q7B Ag Re h hp;subst this;simp[h,cutK]
 ·simp[h]
theorem Z3g{N:List (En Nd)}{e:En Nd}(h:∀c∈N,c.id≠e.q.par):rem N e.id=Q0N N e 0:=by
 unfold Q0N;rw[Q8r];intro c hc;have:=h c (Q6m hc);unfold Q0t;simp[this]
theorem Q5e{N:List (En Nd)}(Ag:N.Pairwise (fun a b=>a.id≠b.id))(e:En Nd)(j:Nat):(Q0N N e j).Pairwise (fun a b=>a.id≠b.id):=Q1C (fun _ _ h=>h) (Ag.sublist (Q3l N e.id))
theorem Q5f{N:List (En Nd)}(Ag:N.Pairwise (fun a b=>a.id≠b.id))(e:En Nd)(j:Nat)(id:Int):find (Q0N N e j) id=if id=e.id then none else(find N id).map fun c=>{c with q:=Q0t e j c}:=by
 unfold Q0N;rw[Q1p,Q8U Ag];split <;> rfl
theorem Z3h{N:List (En Nd)}(Ag:N.Pairwise (fun a b=>a.id≠b.id)){e:En Nd}{j:Nat}{k:Int}(hk:e.q.ks[j]?=some k)(AE:e.q.ks.Nodup){c p:En Nd}(hc:find (Q0N N e j) k=some c)(IN:k≠e.q.par)
  (hp:find (mapE (fun d=>if d.id=k then {c.q with par:=e.q.par} else d.q) (Q0N N e j)) e.q.par=some p) :
  mapE (fun d=>if d.id=e.q.par then {p.q with ks:=p.q.ks++[k]} else d.q) (mapE (fun d=>if d.id=k then {c.q with par:=e.q.par} else d.q) (Q0N N e j))=Q0N N e (j+1):=by
 have BR:=Q5e Ag e j;obtain⟨CH,JS⟩:=Q0e hc;rw[Q4Z];unfold Q0N at BR hc hp CH ⊢;rw[Q4Z];refine Q3Z fun d hd=>?_
 have AY:e.q.ks.take (j+1)=e.q.ks.take j++[k]:=by
  rw[J1f,hk];rfl
 have Ga:({d with q:=Q0t e j d}:En Nd)∈mapE (Q0t e j) (rem N e.id):=Z9y.2 ⟨d,hd,rfl⟩;by_cases h1:d.id=e.q.par
 ·have h2:d.id≠k:=fun h=>IN (by rw[<- h,h1])
  have Fe:p={d with q:=Q0t e j d}:=by
   have hx:find (mapE (fun d=>if d.id=k then {c.q with par:=e.q.par} else d.q) (mapE (Q0t e j) (rem N e.id))) d.id=some ({d with q:=Q0t e j d}:En Nd):=by
    rw[Q1p];have:=Q0s BR Ga;simp only at this;rw[this];simp only[J0X,if_neg h2]
   exact(J0g (hx.symm.trans ((congrArg (find _) h1).trans hp))).symm
  simp only[h1,if_true];rw[Fe];have h3:¬e.q.par=k:=fun h=>IN h.symm
  unfold Q0t;simp only[h1,if_true,AY,Z9Y,J1q,h3,or_false,J0j]
 ·simp only[h1,if_false];by_cases h2:d.id=k
  ·simp only[h2,if_true];have Gh:c={d with q:=Q0t e j d}:=Q7B BR Ga h2 hc |>.symm;rw[Gh];have h3:¬k=e.q.par:=IN;unfold Q0t;simp only[h2,h3,if_false,AY,Z9Y,J1q,or_true,if_true]
  ·simp only[h2,if_false];unfold Q0t;simp only[h1,if_false,AY,Z9Y,J1q,h2,or_false]
theorem Z0H{N:List (En Nd)}(Ag:N.Pairwise (fun a b=>a.id≠b.id)){e:En Nd}{j:Nat}{k:Int}(hk:e.q.ks[j]?=some k){c:En Nd}(hc:find (Q0N N e j) k=some c)(Aq:∀d∈N,d.id≠e.q.par) :
  mapE (fun d=>if d.id=k then {c.q with par:=e.q.par} else d.q) (Q0N N e j)=Q0N N e (j+1):=by
 have BR:=Q5e Ag e j;unfold Q0N at BR hc ⊢;rw[Q4Z];refine Q3Z fun d hd=>?_
 have AY:e.q.ks.take (j+1)=e.q.ks.take j++[k]:=by
  rw[J1f,hk];rfl
 have Ga:({d with q:=Q0t e j d}:En Nd)∈mapE (Q0t e j) (rem N e.id):=Z9y.2 ⟨d,hd,rfl⟩;have h1:=Aq d (Q6m hd);by_cases h2:d.id=k
 ·simp only[h2,if_true];have Gh:c={d with q:=Q0t e j d}:=Q7B BR Ga h2 hc |>.symm;rw[Gh];have h3:¬k=e.q.par:=h2 ▸ h1;unfold Q0t;simp only[h3,if_false,AY,Z9Y,J1q,h2,or_true,if_true]
 ·simp only[h2,if_false];unfold Q0t;simp only[h1,if_false,AY,Z9Y,J1q,h2,or_false]
structure Z0I(q:FO)(e:En Nd)(j:Nat)(F:FO):Prop where
 f:F.f=q.f
 m:F.m=q.m
 o:F.o=q.o
 N:F.N=Q0N q.N e j
 next:F.next=q.next
 rv:∀c∈F.N,rvOk (F.kr c.id) c.q.ks.length
theorem Z5H{N:List (En Nd)}{next:Int}(ok:NOk N next){a b:En Nd}(ha:a∈N)(hb:b∈N)(Ab:a.id≠b.id):a.q.ks.length+b.q.ks.length<=N.length:=by
 have AE:(a.q.ks++b.q.ks).Nodup:=by
  rw[J0c];refine⟨ok.nd a ha,ok.nd b hb,fun x hx y hy FH=>?_⟩;subst FH;obtain⟨c,hc,h1⟩:=ok.kids a ha x hx;obtain⟨d,hd,h2⟩:=ok.kids b hb x hy;rw[hc] at hd;cases hd;exact Ab (h1.symm.trans h2)
 have:=J3p AE (l₂:=N.map En.id) (fun k hk=>by
  rcases Z9Y.1 hk with hk|hk
  ·obtain⟨c,hc,_⟩:=ok.kids a ha k hk;obtain⟨c1,c2⟩:=Q0e hc;exact Z9y.2 ⟨c,c1,c2⟩
  ·obtain⟨c,hc,_⟩:=ok.kids b hb k hk;obtain⟨c1,c2⟩:=Q0e hc;exact Z9y.2 ⟨c,c1,c2⟩)
 rwa [Z9V,J0S] at this
theorem Z3i{F:FO}{id:Int}{c:En Nd}(Ag:F.N.Pairwise (fun a b=>a.id≠b.id))(hf:find F.N id=some c)(h:∀c∈F.N,rvOk (F.kr c.id) c.q.ks.length){n:Nd}{rv:RV}(hn:rvOk rv n.ks.length):∀d∈(F.setN id n rv).N,rvOk ((F.setN id n rv).kr d.id) d.q.ks.length:=fun d hd=>by
 obtain⟨d0,MC,rfl⟩:=Q1k (show d∈mapE _ F.N from hd);show rvOk (if d0.id=id then rv else F.kr d0.id) (if d0.id=id then n else d0.q).ks.length;split
 ·exact hn
 ·exact h d0 MC
theorem Q5V{wr:World}{q F:FO}{e:En Nd}{j:Nat}{k:Int}(ok:q.Ok)(he:find q.N e.id=some e)(L:Z0I q e j F)(hs:Sep wr (F.hl++ndH q.kr e))(hj:e.q.ks[j]?=some k) :
  ∃c,find F.N k=some c/\(wr.cell? ⟨F.f,0,none⟩=some (.map (some F.m))/\wr.cell? ⟨e.b,2,none⟩=some (.int .i64 e.q.par)/\wr.frozen? ⟨c.b,2,none⟩=false/\∃v,wr.cell? ⟨c.b,2,none⟩=some v) /\
   (Instr.lookup 280 (.map (some F.m)) (.int .i64 k) false).run prog wr=.ok (.pointer (some ⟨c.b,0,none⟩)) wr /\
   ((wr.setCell ⟨c.b,2,none⟩ (.int .i64 e.q.par)).cell? ⟨e.b,2,none⟩=some (.int .i64 e.q.par)) /\
   ∀W1,Below (wr.setCell ⟨c.b,2,none⟩ (.int .i64 e.q.par)).heap.size (wr.setCell ⟨c.b,2,none⟩ (.int .i64 e.q.par)) W1 ->
    (find q.N e.q.par=none->Calls prog 180 #[.pointer (some ⟨F.f,0,none⟩),.int .i64 e.q.par] W1 (fun r w'=>r=.returned (.pointer none)/\W1=w') /\
     ∃F',Z0I q e (j+1) F'/\Step (F.hl++ndH q.kr e) (F'.hl++ndH q.kr e) wr W1) /\
    (find q.N e.q.par≠none->∃(pb:Nat) (V:Value),Calls prog 180 #[.pointer (some ⟨F.f,0,none⟩),.int .i64 e.q.par] W1 (fun r w'=>r=.returned (.pointer (some ⟨pb,0,none⟩))/\W1=w')/\W1.cell? ⟨pb,3,none⟩=some V/\(∃a n c,V=.slice a n c) /\
     ∃(V':Value) (w':World),(Builtin.append_ #[38,38] 38 #[V,.slice (some ⟨W1.heap.size,0,none⟩) 1 1]).run prog (W1.alloc (.cells #[.int .i64 k] 3))=.ok V' w'/\(∃a n c,V'=.slice a n c)/\w'.cell? ⟨pb,3,none⟩=some V/\(∀i,w'.frozen? ⟨pb,i,none⟩=false) /\
      ∃F',Z0I q e (j+1) F'/\Step (F.hl++ndH q.kr e) (F'.hl++ndH q.kr e) wr (w'.setCell ⟨pb,3,none⟩ V')):=by
 obtain⟨B5,_⟩:=Q0e he;have Q8:k∈e.q.ks:=J1x hj;obtain⟨d,hd,D0⟩:=ok.n.kids e B5 k Q8;obtain⟨Ga,QG⟩:=Q0e hd;have F3:=ok.n.rise d Ga;have CS:=ok.n.rise e B5;have Qw:k≠e.id:=by omega
 have IN:k≠e.q.par:=by omega
 have Fc:F.N.Pairwise (fun a b=>a.id≠b.id):=by rw[L.N];exact Q5e ok.n.ids e j
 have E6:find F.N k=some {d with q:=Q0t e j d}:=by rw[L.N,Q5f ok.n.ids,if_neg Qw,hd];rfl
 generalize hc:({d with q:=Q0t e j d}:En Nd)=c at E6;obtain⟨CH,JS⟩:=Q0e E6;have K3:=hs.left;have Ez:=hs.right;have AF:Cells wr e.b 285 (e.q.cells (q.kr e.id)):=Ez.cells (by simp[ndH]);obtain⟨R,p1,p2⟩:=FO.split Fc E6;have Cd:=(K3.perm p1).cells (b:=c.b) (T:=285) (cs:=c.q.cells (F.kr k)) (by simp);have AD:=Sep.set (A:=[]) (B:=rowH (F.kr k) 3 1 (c.q.ks.map encI)++R) (K3.perm p1) 2 (.int .i64 e.q.par);have AS:(c.q.cells (F.kr k)).set 2 (.int .i64 e.q.par)=Nd.cells {c.q with par:=e.q.par} (F.kr k):=rfl;rw[AS] at AD;have stF:Step F.hl (F.setN k {c.q with par:=e.q.par} (F.kr k)).hl wr (wr.setCell ⟨c.b,2,none⟩ (.int .i64 e.q.par)):=AD.perm p1.symm (p2 {c.q with par:=e.q.par} (F.kr k) rfl rfl).symm
 have st1:Step (F.hl++ndH q.kr e) ((F.setN k {c.q with par:=e.q.par} (F.kr k)).hl++ndH q.kr e) wr (wr.setCell ⟨c.b,2,none⟩ (.int .i64 e.q.par)):=by
  have:=Step.frame [] (ndH q.kr e) (by simpa using hs) stF
  simpa using this
 have FQ:Cells (wr.setCell ⟨c.b,2,none⟩ (.int .i64 e.q.par)) e.b 285 (e.q.cells (q.kr e.id)):=st1.sep.right.cells (by simp[ndH]);refine⟨c,E6,⟨FO.c0 K3,AF.cell 2 _ rfl,Cd.free 2,_,Cd.cell 2 _ rfl⟩,FO.look_some K3 E6,FQ.cell 2 _ rfl,fun W1 hW=>?_⟩;have st1':=st1.trans (st1.sep.grown hW);have FP:Sep W1 (F.setN k {c.q with par:=e.q.par} (F.kr k)).hl:=st1'.sep.left;have BP:(F.setN k {c.q with par:=e.q.par} (F.kr k)).N.Pairwise (fun a b=>a.id≠b.id):=Q1C (fun _ _ h=>h) Fc;have Js:=L.rv c CH;rw[JS] at Js;have Hd:=Z3i Fc E6 L.rv (n:={c.q with par:=e.q.par}) (rv:=F.kr k) Js
 have Qg:∀i,(F.setN k {c.q with par:=e.q.par} (F.kr k)).kr i=F.kr i:=fun i=>by
  show(if i=k then F.kr k else F.kr i)=F.kr i;split
  ·rename_i h;rw[h]
  ·rfl
 have find1:∀id,find (F.setN k {c.q with par:=e.q.par} (F.kr k)).N id=(find F.N id).map fun d=>{d with q:=if d.id=k then {c.q with par:=e.q.par} else d.q}:=fun id=>Q1p _ _ _
 refine⟨fun Aq=>?_,fun Gf=>?_⟩
 ·have Pj:find (F.setN k {c.q with par:=e.q.par} (F.kr k)).N e.q.par=none:=by
   rw[find1,L.N,Q5f ok.n.ids,Aq];split <;> rfl
  refine⟨Q6F FP Pj,F.setN k {c.q with par:=e.q.par} (F.kr k),⟨L.f,L.m,L.o,?_,L.next,Hd⟩,st1'⟩;show mapE _ F.N=_;rw[L.N];exact Z0H ok.n.ids hj (by rw[<- L.N];exact E6) fun d hd h=>by
   have:=Q0s ok.n.ids hd;rw[h,Aq] at this;cases this
 ·obtain⟨p0,EB⟩:=J3q.1 Gf;obtain⟨MM,JG⟩:=Q0e EB;have Fe:e.q.par≠e.id:=by omega
  have EY:find (F.setN k {c.q with par:=e.q.par} (F.kr k)).N e.q.par=some {p0 with q:=Q0t e j p0}:=by
   rw[find1,L.N,Q5f ok.n.ids,if_neg Fe,EB];simp only[J0X,Z9G];rw[JG,if_neg (fun h=>IN h.symm)]
  generalize hp:({p0 with q:=Q0t e j p0}:En Nd)=p at EY;obtain⟨Fl,Es⟩:=Q0e EY;have Jj:=Hd p Fl;rw[Es] at Jj;have PQ:=Z5H ok.n MM B5 (by omega);have Cz:=ok.few;have Ac:p.q.ks.length<=65536:=by
   rw[<- hp];show(Q0t e j p0).ks.length<=_;unfold Q0t;simp only;split
   ·rw[Z9V,J1C];have:=J1y (fun k=>decide (k≠e.id)) p0.q.ks;omega
   ·omega
  obtain⟨rv',w',r5,BO,k3,kf,st5⟩:=FO.pushK FP BP EY Jj Ac k 38;have c3:=(FO.nd FP EY).cell 3 (lvOf ((F.setN k {c.q with par:=e.q.par} (F.kr k)).kr p.id) p.q.ks.length) rfl;rw[Es] at c3;have lvs:∀(rv:RV) (n:Nat),∃a n' c,lvOf rv n=.slice a n' c:=fun rv n=>by
   cases rv with
   | none=>exact⟨_,_,_,rfl⟩
   | some p=>exact⟨_,_,_,rfl⟩
  refine⟨p.b,_,Q4A FP EY,c3,lvs _ _,_,w',r5,?_,k3,kf,(F.setN k {c.q with par:=e.q.par} (F.kr k)).setN e.q.par {p.q with ks:=p.q.ks++[k]} rv',⟨L.f,L.m,L.o,?_,L.next,?_⟩,?_⟩
  ·cases rv' with
   | none=>exact⟨_,_,_,rfl⟩
   | some p=>exact⟨_,_,_,rfl⟩
  ·show mapE _ (mapE _ F.N)=_;have hx:=Z3h ok.n.ids (e:=e) (j:=j) (k:=k) hj (ok.n.nd e B5) (c:=c) (p:=p) (by rw[<- L.N];exact E6) IN (by rw[<- L.N];exact EY);rw[L.N];exact hx
  ·exact Z3i BP EY Hd (n:={p.q with ks:=p.q.ks++[k]}) (by rw[Z9V,J3d];exact BO)
  ·have:=Step.frame [] (ndH q.kr e) (by simpa using st1'.sep) st5;exact st1'.trans (by simpa using this)
theorem Q3M(x id:Int)(b:Nat)(w:World)(h:w.cell? ⟨b,0,none⟩=some (.int .i64 id)) :
  Calls prog 241 #[.int .i64 x,.pointer (some ⟨b,0,none⟩)] w fun e w'=>e=.returned (.bool (x==id))/\w=w':=by
 go_enter func241,ntmps241
 go_wp2
 go_ret;exact⟨rfl,rfl⟩
def Z8M(xs:List Int)(id:Int)(e:Ending):Prop:=
 (∃k:Nat,k<xs.length/\e=.returned (.int .i64 k)/\xs[k]?.getD 0=id/\∀j,j<k->xs[j]?.getD 0≠id)∨(e=.returned (.int .i64 (-1))/\∀j,j<xs.length->xs[j]?.getD 0≠id)
def Z3j(b:Nat):Value:=.func (.func 241) #[] #[.pointer (some ⟨b,0,none⟩)]
theorem Q8x(xs:List Int)(id:Int)(b g cap:Nat)(w:World)(h:w.cell? ⟨b,0,none⟩=some (.int .i64 id))(hm:xs.length<=4611686018427387904)
  (hc:∀k,k<xs.length->w.cell? ⟨g,k,none⟩=some (.int .i64 (xs[k]?.getD 0))) :
  Calls prog 252 #[.slice (some ⟨g,0,none⟩) xs.length cap,Z3j b] w fun e w'=>Z8M xs id e/\w=w':=by
 unfold Z3j;go_enter func252,ntmps252;go_wp2_with fail
 go_loop [5,8] (fun _ i=>∃k:Nat,k<=xs.length/\i=.int .i64 k/\∀j,j<k->xs[j]?.getD 0≠id) (fun _ i=>xs.length-(intOf i).toNat)
 case atStart=>exact⟨0,J1l _,rfl,by intro j hj;omega⟩
 case round =>
  obtain⟨k,hk,rfl,Ar⟩:=hrel;have Hp:Hid (∀j,j<k->xs[j]?.getD 0≠id):=Ar;clear Ar;by_cases Aa:k<xs.length
  ·have CR:=hc k Aa;have hh:=h;clear hc h;generalize hx:xs[k]?.getD 0=x at CR;have Hx:Hid (xs[k]?.getD 0=x):=hx;clear hx;by_cases hx:x=id
   ·have hb:(x==id)=true:=by simpa using hx
    have Lv:Hid (x=id):=hx;clear hx;go_wp2_with (go_at_call 241;refine(Q3M _ id b _ hh).mono ?_;rintro e w'⟨rfl,rfl⟩);go_ret;exact⟨.inl ⟨k,Aa,rfl,Hx.out.trans Lv.out,Hp.out⟩,rfl⟩
   ·have hb:(x==id)=false:=by simpa using hx
    have Lv:Hid (x≠id):=hx;clear hx;go_wp2_with (go_at_call 241;refine(Q3M _ id b _ hh).mono ?_;rintro e w'⟨rfl,rfl⟩)
    go_round
    case rel =>
     refine⟨k+1,by omega,by go_num,fun j hj=>?_⟩;by_cases e:j=k
     ·subst e;rw[Hx.out];exact Lv.out
     ·exact Hp.out j (by omega)
    case measure=>simp[intOf];omega
  ·clear hc;go_wp2_with fail;go_ret;exact⟨.inr ⟨rfl,fun j hj=>Hp.out j (by omega)⟩,rfl⟩
def fltK(xs:List Int)(id:Int):List Int:=xs.filter fun x=>x != id
theorem Q7C{xs:List Int}{id:Int}(h:∀j,j<xs.length->xs[j]?.getD 0≠id):fltK xs id=xs:=by
 unfold fltK;rw[J3i];intro x hx;obtain⟨j,hj,rfl⟩:=List.getElem_of_mem hx;have:=h j hj
 simpa[hj] using this
theorem Q3j(xs:List Int)(id:Int)(j:Nat)(hj:j<xs.length) :
  fltK (xs.take (j+1)) id=if xs[j]?.getD 0=id then fltK (xs.take j) id else fltK (xs.take j) id++[xs[j]?.getD 0]:=by
 rw[J3r hj];unfold fltK;rw[J1g];by_cases h:xs[j]=id <;> simp[h,hj]
def Z5I(w:World)(g cap:Nat)(ys:List Int)(e:Ending)(w':World):Prop:=
 e=.returned (.slice (some ⟨g,0,none⟩) ys.length cap)/\(∃cs,Cells w' g 3 cs/\cs.length=cap/\cs.take ys.length=ys.map (Value.int .i64))/\w.grownBy w' (some g)
def Z3k(xs:List Int)(id:Int)(g cap:Nat)(w:World)(k0:Nat)(iv jv:Value)(wr:World):Prop:=
 ∃j cs,jv=.int .i64 (j:Nat)/\iv=.int .i64 ((fltK (xs.take j) id).length:Nat)/\k0<j/\j<=xs.length/\(fltK (xs.take j) id).length<j/\Cells wr g 3 cs/\cs.length=cap /\
  cs.take (fltK (xs.take j) id).length=(fltK (xs.take j) id).map (Value.int .i64)/\(∀m,j<=m->m<xs.length->cs[m]?=some (.int .i64 (xs[m]?.getD 0)))/\w.grownBy wr (some g)
theorem Z8N(w:World):(zeroValue 3).run prog w=.ok (.int .i64 0) w:=by kernel_rfl
theorem Q7D(xs:List Int)(id:Int)(b g cap:Nat)(w:World)(cs0:List Value)(h:w.cell? ⟨b,0,none⟩=some (.int .i64 id))(Ab:b≠g)(hc:Cells w g 3 cs0)(Bd:xs.length<=cap)(AS:cs0.length=cap)
  (htake:cs0.take xs.length=xs.map (Value.int .i64)) (hm:xs.length<=1048576) :
  Calls prog 240 #[.slice (some ⟨g,0,none⟩) xs.length cap,Z3j b] w (Z5I w g cap (fltK xs id)):=by
 have Ak:∀k,k<xs.length->cs0[k]?=some (.int .i64 (xs[k]?.getD 0)):=by
  intro k hk;have h1:(cs0.take xs.length)[k]?=(xs.map (Value.int .i64))[k]?:=by rw[htake]
  rw[J1m,if_pos hk] at h1;rw[h1];simp[hk]
 have IV:=Q8x xs id b g cap w h (by omega) (fun k hk=>hc.cell k _ (Ak k hk));unfold Z3j at IV ⊢;go_enter func240,ntmps240;go_wp2_with fail;refine IV.mono ?_;rintro e w'⟨⟨k,hk,rfl,K6,Ar⟩|⟨rfl,A8⟩,rfl⟩
 case inr =>
  have Fo:=Q7C A8
  go_wp2
  go_ret;rw[Fo];exact⟨rfl,⟨cs0,hc,AS,htake⟩,⟨rfl,rfl,rfl,Z9s _,fun _ _ _=>rfl⟩⟩
 case inl =>
  have Oy:fltK (xs.take k) id=xs.take k:=Q7C (by
   intro j hj;have I3:j<k:=by simp at hj;omega
   have:=Ar j I3
   simpa[J1m,I3] using this)
  have Gb:fltK (xs.take (k+1)) id=xs.take k:=by rw[Q3j xs id k hk,if_pos K6,Oy]
  have G9:Hid (Z3k xs id g cap w k (.int .i64 k) (.int .i64 ((k:Int)+1)) w):=by
   refine⟨k+1,cs0,by go_num,?_,by omega,by omega,?_,hc,AS,?_,fun m _ hm=>Ak m hm,⟨rfl,rfl,rfl,Z9s _,fun _ _ _=>rfl⟩⟩
   ·rw[Gb];simp;omega
   ·rw[Gb];simp;omega
   ·rw[Gb];have h1:=congrArg (List.take k) htake;rw[J1E,<- List.map_take] at h1;have e1:(List.take k xs).length=k:=by simp;omega
    rw[e1,<- h1];congr 1;omega
  have Fs:((k:Int) == -1)=false:=by simp
  clear Ak IV Oy Gb K6 Ar hc htake AS;go_wp2_with fail
  go_loopw [5,6] (fun iv jv wr=>Z3k xs id g cap w k iv jv wr) (fun _ jv _=>xs.length-(intOf jv).toNat)
  case atStart=>exact G9.out
  case round =>
   clear G9;obtain⟨j,cs,rfl,rfl,Kv,hj,DQ,hc,AS,Ar,GK,hg⟩:=hrel;generalize hi:(fltK (List.take j xs) id).length=i at DQ Ar;have Hi:Hid ((fltK (List.take j xs) id).length=i):=hi;clear hi;have BU:wr.cell? ⟨b,0,none⟩=some (.int .i64 id):=hg.cell h (by simpa using Ab);have Hu:Hid (List.take i cs=List.map (Value.int IntKind.i64) (fltK (List.take j xs) id)):=Ar;have Fh:Hid (∀(m:Nat),j<=m->m<xs.length->cs[m]?=some (Value.int IntKind.i64 (xs[m]?.getD 0))):=GK;have IJ:Hid (cs.length=cap):=AS;clear Ar GK h AS;by_cases Aa:j<xs.length
   ·have P0:=hc.cell j _ (Fh.out j (Z9s _) Aa);have I4:=hc.cell i (cs[i]?.getD undef) (by have:=IJ.out;rw[J1A (by omega)];rfl);generalize hu:cs[i]?.getD undef=u at I4;clear hu;have Ey:=hc.free i;generalize hx:xs[j]?.getD 0=x at P0;have Hx:Hid (xs[j]?.getD 0=x):=hx;clear hx;have Bu:Hid (Cells wr g 3 cs):=hc;clear hc;have Ho:=Q3j xs id j Aa;by_cases hx:x=id
    ·have Hf:Hid (fltK (List.take (j+1) xs) id=fltK (List.take j xs) id):=by rw[Ho,if_pos (Hx.out.trans hx)];exact rfl
     have DT:(x==id)=true:=by simpa using hx
     clear hx Ho;go_wp2_with (go_at_call 241;refine(Q3M _ id b _ BU).mono ?_;rintro e w'⟨rfl,rfl⟩);go_roundw
     case rel =>
      refine⟨j+1,cs,by go_num,?_,by omega,by omega,?_,Bu.out,IJ.out,?_,fun m HH BF=>Fh.out m (by omega) BF,hg⟩
      ·rw[Hf.out,Hi.out]
      ·rw[Hf.out,Hi.out];omega
      ·rw[Hf.out,Hi.out];exact Hu.out
     case measure=>simp[intOf];omega
    ·have Hf:Hid (fltK (List.take (j+1) xs) id=fltK (List.take j xs) id++[x]):=by rw[Ho,if_neg (by rw[Hx.out];exact hx),Hx.out];exact rfl
     have DT:(x==id)=false:=by simpa using hx
     clear hx Ho;go_wp2_with (go_at_call 241;refine(Q3M _ id b _ BU).mono ?_;rintro e w'⟨rfl,rfl⟩);go_roundw
     case rel =>
      refine⟨j+1,cs.set i (.int .i64 x),by go_num,?_,by omega,by omega,?_,Bu.out.set _ _,by simpa using IJ.out,?_,fun m HH BF=>?_,?_⟩
      ·rw[Hf.out];simp[Hi.out]
      ·rw[Hf.out];simp[Hi.out];omega
      ·rw[Hf.out];have e1:(fltK (List.take j xs) id++[x]).length=i+1:=by simp[Hi.out]
       have Co:i<cs.length:=by have:=IJ.out;omega
       rw[e1,J3r (by simpa using Co),J0k (Z9s _),Hu.out];simp
      ·rw[J2M (by omega)];exact Fh.out m (by omega) BF
      ·exact⟨hg.os,hg.tape,hg.output,by simpa using hg.size,fun q hq Ii=>(Below.heap_setCell _ _ _ _ (fun e=>Ii (by simp[e]))).trans (hg.block q hq Ii)⟩
     case measure=>simp[intOf];omega
   ·obtain rfl:j=xs.length:=by omega
    have N8:i<cap:=by omega
    have I4:((cap:Int)==i)=false:=by simp;omega
    have G7:¬(cap=i):=by omega
    have Bu:Hid (Cells wr g 3 cs):=hc;clear hc;go_wp2_with (refine Q3s _ rfl (.tmp 38) 38 3 rfl underlying38 (.int .i64 0) Z8N rfl rfl g i (xs.length-i) (cap-i) rfl (by omega) 3 cs Bu.out (by have:=IJ.out;omega) ?_;intro w2 Br BA);go_ret;have F4:List.take xs.length xs=xs:=J1h (Z9s _);have Lt:=Hi.out;have GF:=Hu.out;have Qx:=IJ.out;rw[F4] at Lt GF;refine⟨by rw[Lt];rfl,⟨_,Br,?_,?_⟩,?_⟩
    ·simp;omega
    ·rw[Lt,J0j,J1D (by simp;omega),J1E,Nat.min_self,GF]
    ·exact⟨BA.os.trans hg.os,BA.tape.trans hg.tape,BA.output.trans hg.output,Z9t hg.size BA.size,fun q hq Ii=>(BA.block q (Z9u hq hg.size) Ii).trans (hg.block q hq Ii)⟩
theorem Step.aside{H H':HL}{w w1 w2:World}(st:Step H H' w w1){F:Nat->Prop}(hc:Chg F w1 w2)(hF:∀b,F b->w.heap.size<=b/\b∉keys H')(DO:GB<=w.heap.size):Step H H' w w2:=
 ⟨st.sep.chg hc (fun b hb hf=>(hF b hf).2 hb) (fun b hf=>Z9t DO (hF b hf).1),st.chg.trans hc (fun i hi=>.inr (hF i hi).1),st.new⟩
theorem Step.set_aside{H H':HL}{w w1:World}(st:Step H H' w w1){b:Nat}(hb:w.heap.size<=b)(hk:b∉keys H')(DO:GB<=w.heap.size)(i:Nat)(v:Value):Step H H' w (w1.setCell ⟨b,i,none⟩ v):=
 st.aside (F:=fun k=>k=b) ((Chg.refl _ _).set _ _ (.inl rfl)) (fun k Bj=>by subst Bj;exact⟨hb,hk⟩) DO
def FO.dropped(q:FO)(e:En Nd):FO:={q with N:=Q0N q.N e 0}
theorem FO.cutRow{w:World}{q:FO}(h:Sep w q.hl)(ok:q.Ok){e p:En Nd}(he:find q.N e.id=some e)(hp:find q.N e.q.par=some p){b:Nat}(hb:w.cell? ⟨b,0,none⟩=some (.int .i64 e.id))(AL:b∉keys q.hl)(F8:b<w.heap.size) :
  ∃g cap:Nat,q.kr e.q.par=some (g,cap)/\Calls prog 240 #[.slice (some ⟨g,0,none⟩) p.q.ks.length cap,Z3j b] w fun r w'=>r=.returned (.slice (some ⟨g,0,none⟩) (cutK p.q e.id).ks.length cap) /\
   (w'.cell? ⟨b,0,none⟩=some (.int .i64 e.id))/\w'.frozen? ⟨p.b,3,none⟩=false/\(∃v,w'.cell? ⟨p.b,3,none⟩=some v) /\
   Step q.hl (q.setN e.q.par (cutK p.q e.id) (some (g,cap))).hl w (w'.setCell ⟨p.b,3,none⟩ (.slice (some ⟨g,0,none⟩) (cutK p.q e.id).ks.length cap)):=by
 obtain⟨B5,_⟩:=Q0e he;obtain⟨Fl,Es⟩:=Q0e hp;have Bg:e.id∈p.q.ks:=by
  obtain⟨p',AC,hk⟩:=(ok.n.par e B5).2 (by have:=ok.n.rng p Fl;omega);rw[hp] at AC;cases AC;exact hk
 have AA:=ok.rv p Fl;rw[Es] at AA;obtain⟨R,p1,p2⟩:=FO.split ok.n.ids hp;cases Cq:q.kr e.q.par with
 | none =>
  rw[Cq] at AA;have:p.q.ks.length=0:=AA;rw[J1i] at this;rw[this] at Bg;cases Bg
 | some gc =>
  obtain⟨g,cap⟩:=gc;rw[Cq] at AA p1;obtain⟨Bd,Qh⟩:p.q.ks.length<=cap/\cap<=maxLen:=AA;refine⟨g,cap,rfl,?_⟩;have pm:∀(Z:HL) (a:Nat×(Obj->Prop)),((a::Z)++R).Perm (Z++(a::R)):=fun Z a=>J2K.symm
  have h':Sep w (rowH (some (g,cap)) 3 1 (p.q.ks.map encI)++((p.b,isC 285 (p.q.cells (some (g,cap))))::R)):=h.perm (p1.trans (pm _ _));obtain⟨ds,IR,Dh,Pe⟩:=h'.left.row (b:=g) (T:=3) (n:=cap*1) (cs:=p.q.ks.map encI) (by simp[rowH]);rw[J0p] at Dh;rw[J0S] at Pe;have E3:g∈keys q.hl:=by
   have:g∈keys (rowH (some (g,cap)) 3 1 (p.q.ks.map encI)++((p.b,isC 285 (p.q.cells (some (g,cap))))::R)):=by simp[rowH,keys]
   exact((p1.trans (pm _ _)).map Prod.fst).mem_iff.2 this
  have D9:b≠g:=fun x=>AL (x ▸ E3)
  have Cz:=ok.n.kids_few Fl;have GI:=ok.few;have Mk:fltK p.q.ks e.id=(cutK p.q e.id).ks:=by
   unfold fltK cutK;exact J2b fun x _=>by by_cases hx:x=e.id <;> simp[hx]
  refine(Q7D p.q.ks e.id b g cap w ds hb D9 IR Bd Dh (by rw[Pe]) (by omega)).mono ?_;rintro r w'⟨hr,⟨cs,Bu,AS,KV⟩,hg⟩;rw[Mk] at hr KV;have s1:=Sep.turn (A:=[]) (B:=(p.b,isC 285 (p.q.cells (some (g,cap))))::R) (q':=isR 3 (cap*1) ((cutK p.q e.id).ks.map encI)) h' hg ⟨_,Bu,cs.toArray,rfl,by simpa using AS,by
   rw[J0S]
   simpa using KV⟩
  have hc:=s1.sep.cells (b:=p.b) (T:=285) (cs:=p.q.cells (some (g,cap))) (by simp);have s2:=Sep.set (A:=[(g,isR 3 (cap*1) ((cutK p.q e.id).ks.map encI))]) (B:=R) s1.sep 3 (.slice (some ⟨g,0,none⟩) (cutK p.q e.id).ks.length cap);have LT:(p.q.cells (some (g,cap))).set 3 (.slice (some ⟨g,0,none⟩) (cutK p.q e.id).ks.length cap)=(cutK p.q e.id).cells (some (g,cap)):=rfl;rw[LT] at s2;refine⟨hr,hg.cell hb (by simpa using D9),hc.free 3,⟨_,hc.cell 3 _ rfl⟩,(s1.trans s2).perm ((p1.trans (pm _ _)).symm) ?_⟩;exact((p2 (cutK p.q e.id) (some (g,cap)) rfl rfl).trans (pm _ _)).symm
def Z5J(q:FO)(e:En Nd)(w w':World):Prop:=Step q.hl ((q.dropped e).hl++ndH q.kr e) w w'
theorem Z5K{q:FO}(ok:q.Ok){e p:En Nd}(hp:find q.N e.q.par=some p){rv:RV}(Cq:q.kr e.q.par=rv):(q.setN e.q.par (cutK p.q e.id) rv).cut e.id=q.dropped e/\(q.setN e.q.par (cutK p.q e.id) rv).kr=q.kr:=by
 have hk:(fun j=>if j=e.q.par then rv else q.kr j)=q.kr:=by
  funext j;split
  ·rename_i h;rw[h];exact Cq.symm
  ·rfl
 refine⟨?_,hk⟩;unfold FO.cut FO.setN FO.dropped;simp only[hk];rw[Z5G ok.n.ids hp]
theorem Z3l{q:FO}{e:En Nd}(he:find q.N e.id=some e)(Ab:e.id≠e.q.par)(n:Nd)(rv:RV):find (q.setN e.q.par n rv).N e.id=some e:=by
 show find (mapE _ q.N) e.id=_;rw[Q1p,he];simp only[J0X,if_neg Ab]
def Q0v(w:World)(id:Int):World:=(w.alloc (.cells #[.int .i64 id] 3)).alloc (.cells #[.int .i64 0,.int .i64 0] 173)
theorem Q2i(w:World)(id:Int):Below w.heap.size w (Q0v w id):=((Below.refl _ _).alloc (Z9s _) _).alloc (by simp) _
structure Z7Q(q q1:FO)(e:En Nd)(w w3:World):Prop where
 c0:w3.cell? ⟨q.f,0,none⟩=some (.map (some q.m))
 c1:w3.cell? ⟨q.f,1,none⟩=some (.map (some q.o))
 b0:w3.cell? ⟨w.heap.size,0,none⟩=some (.int .i64 e.id)
 del:∃w5,(Builtin.delete_ #[280,3] 0 #[.map (some q.m),.int .i64 e.id]).run prog w3.drew=.ok (.tuple #[]) w5/\(w5.cell? ⟨q.f,1,none⟩=some (.map (some q.o))/\w5.cell? ⟨e.b,0,none⟩=some (.int .i64 e.q.sp)/\w5.cell? ⟨e.b,1,none⟩=some (.int .i64 e.q.sl)) /\
  ∃w7,(Builtin.delete_ #[281,173] 0 #[.map (some q.o),.agg #[.int .i64 e.q.sp,.int .i64 e.q.sl]]).run prog w5.drew=.ok (.tuple #[]) w7/\(w7.cell? ⟨e.b,0,none⟩=some (.int .i64 e.q.sp)/\w7.cell? ⟨e.b,1,none⟩=some (.int .i64 e.q.sl))/\Cells w7 (w.heap.size+1) 173 [.int .i64 0,.int .i64 0] /\
   ∀u v,Z5J q e w ((w7.setCell ⟨w.heap.size+1,0,none⟩ u).setCell ⟨w.heap.size+1,1,none⟩ v)
theorem Q7E{w w2 w3:World}{q q1:FO}{e:En Nd}(h:Sep w q.hl)(ok:q.Ok)(Ae:Below (Q0v w e.id).heap.size (Q0v w e.id) w2)(st:Step q.hl q1.hl w w3)(DP:find q1.N e.id=some e)(Ag:q1.N.Pairwise (fun a b=>a.id≠b.id))(hs:q1.N.Pairwise (fun a b=>(a.q.sp,a.q.sl)≠(b.q.sp,b.q.sl)))(hn:∀e∈q1.N,0<=e.q.sp/\e.q.sp<4294967296/\0<=e.q.sl/\e.q.sl<256)
  (e1:q1.cut e.id=q.dropped e) (e2:q1.kr=q.kr) (f1:q1.f=q.f) (f2:q1.m=q.m) (f3:q1.o=q.o) (BU:w3.cell? ⟨w.heap.size,0,none⟩=some (.int .i64 e.id)) (Ai:Cells w3 (w.heap.size+1) 173 [.int .i64 0,.int .i64 0]) (Dk:∀b∈keys q1.hl,b∈keys q.hl):Z7Q q q1 e w w3:=by
 have DO:GB<=w.heap.size:=h.env.gb;have A7:=st.sep;obtain⟨w5,r5,s5,DU⟩:=FO.delSteps A7.drew Ag hs hn DP 3 0 173 0;obtain⟨w7,r7,s7⟩:=DU w5.drew (Below.refl _ _).drew;rw[f2] at r5;rw[f3] at r7;have nd5:Cells w5 e.b 285 (e.q.cells (q1.kr e.id)):=by
  obtain⟨A,B,hN,_,_⟩:=Q3Q Ag DP;exact s5.sep.cells (by rw[hN];simp[ndH])
 have nd7:Cells w7 e.b 285 (e.q.cells (q1.kr e.id)):=s7.sep.right.cells (by simp[ndH]);have st7:Step q.hl ((q1.cut e.id).hl++ndH q1.kr e) w w7:=st.trans s7.from_drew;rw[e1,e2] at st7;have c1:=FO.c1 A7;have Nr:w5.cell? ⟨q1.f,1,none⟩=some (.map (some q1.o)):=(s5.sep.cells (b:=q1.f) (T:=283) (cs:=[.map (some q1.m),.map (some q1.o),.int .i64 q1.next]) (by simp[FO.head])).cell 1 _ rfl;rw[f1,f3] at Nr;have KB:=FO.c0 A7;rw[f1,f2] at KB;rw[f1,f3] at c1;refine⟨KB,c1,BU,w5,r5,⟨Nr,nd5.cell 0 _ rfl,nd5.cell 1 _ rfl⟩,w7,r7,⟨nd7.cell 0 _ rfl,nd7.cell 1 _ rfl⟩,Ai.same (s7.from_drew.chg.block _ Ai.lt fun hk=>by have:=h.lt (Dk _ hk);omega),fun u v=>?_⟩
 have CY:w.heap.size+1∉keys ((q.dropped e).hl++ndH q.kr e):=fun hk=>by
  rw[<- e1,<- e2] at hk;have h1:=((FO.cut_perm Ag DP).map Prod.fst).mem_iff.2 hk;have h2:w.heap.size+1∈keys q1.hl:=by
   simpa[FO.hl,keys] using h1
  have:=h.lt (Dk _ h2);omega
 exact(st7.set_aside (J3s _) CY DO 0 u).set_aside (J3s _) CY DO 1 v
theorem Z3m{q:FO}(Ag:q.N.Pairwise (fun a b=>a.id≠b.id)){id:Int}{c:En Nd}(hf:find q.N id=some c){n:Nd}{g cap:Nat}(Cq:q.kr id=some (g,cap))(h1:n.sp=c.q.sp)(h2:n.sl=c.q.sl):∀b∈keys (q.setN id n (some (g,cap))).hl,b∈keys q.hl:=fun b hb=>by
 obtain⟨R,p1,p2⟩:=FO.split Ag hf;rw[Cq] at p1;have k1:=((p2 n (some (g,cap)) h1 h2).map Prod.fst).mem_iff.1 hb;exact(p1.map Prod.fst).mem_iff.2 (by simpa[rowH] using k1)
theorem Z0J{w:World}{q:FO}(h:Sep w q.hl)(ok:q.Ok){e p:En Nd}(he:find q.N e.id=some e)(hp:find q.N e.q.par=some p) :
  ∃g cap:Nat,∀w2,Below (Q0v w e.id).heap.size (Q0v w e.id) w2->w2.cell? ⟨e.b,2,none⟩=some (.int .i64 e.q.par) /\
   Calls prog 180 #[.pointer (some ⟨q.f,0,none⟩),.int .i64 e.q.par] w2 (fun r w'=>r=.returned (.pointer (some ⟨p.b,0,none⟩))/\w2=w')/\w2.cell? ⟨p.b,3,none⟩=some (.slice (some ⟨g,0,none⟩) p.q.ks.length cap) /\
   Calls prog 240 #[.slice (some ⟨g,0,none⟩) p.q.ks.length cap,.func (.func 241) #[] #[.pointer (some ⟨w.heap.size,0,none⟩)]] w2 fun r w3=>r=.returned (.slice (some ⟨g,0,none⟩) (cutK p.q e.id).ks.length cap)/\w3.frozen? ⟨p.b,3,none⟩=false/\(∃v,w3.cell? ⟨p.b,3,none⟩=some v) /\
    ∃q1,Z7Q q q1 e w (w3.setCell ⟨p.b,3,none⟩ (.slice (some ⟨g,0,none⟩) (cutK p.q e.id).ks.length cap)):=by
 obtain⟨B5,_⟩:=Q0e he;obtain⟨Fl,Es⟩:=Q0e hp;have Ab:e.id≠e.q.par:=by have:=ok.n.rise e B5;omega
 have hB:=Q2i w e.id;have Gy:Cells (Q0v w e.id) w.heap.size 3 [.int .i64 e.id]:=(Cells.new w 3 [.int .i64 e.id]).alloc (.cells #[.int .i64 0,.int .i64 0] 173);have BB:(Q0v w e.id).heap.size=w.heap.size+2:=by simp[Q0v]
 have facts:∀w2,Below (Q0v w e.id).heap.size (Q0v w e.id) w2->Below w.heap.size w w2/\w2.cell? ⟨w.heap.size,0,none⟩=some (.int .i64 e.id)/\w.heap.size+2<=w2.heap.size:=fun w2 hb=>⟨hB.trans (hb.mono (by omega)),(Gy.same (hb.block _ (by omega))).cell 0 _ rfl,by have:=hb.size;omega⟩
 have CY:w.heap.size∉keys q.hl:=fun hk=>by have:=h.lt hk;omega
 obtain⟨g,cap,Cq,_⟩:=FO.cutRow (w:=Q0v w e.id) (h.grown hB).sep ok he hp (b:=w.heap.size) (Gy.cell 0 _ rfl) CY (by omega);refine⟨g,cap,fun w2 hb=>?_⟩;obtain⟨Al,BU,GT⟩:=facts w2 hb;have s2:=(h.grown Al).sep;have c3:=(FO.nd0 s2 hp).2.2.2;rw[Es,Cq] at c3;refine⟨(FO.nd0 s2 he).2.2.1,Q4A s2 hp,c3,?_⟩;obtain⟨g',Gp,Ju,AH⟩:=FO.cutRow s2 ok he hp BU CY (by omega);rw[Cq] at Ju;cases Ju;refine AH.mono ?_;rintro r w3⟨rfl,Ax,Cl,B4,st⟩;obtain⟨e1,e2⟩:=Z5K ok (e:=e) hp Cq;refine⟨rfl,Cl,B4,q.setN e.q.par (cutK p.q e.id) (some (g,cap)),?_⟩;refine Q7E h ok hb ((h.grown Al).trans st) (Z3l he Ab _ _) (Q1C (fun _ _ h=>h) ok.n.ids) ?_ ?_ e1 e2 rfl rfl rfl ?_ ?_ (Z3m ok.n.ids hp Cq rfl rfl)
 ·show(mapE _ q.N).Pairwise _;unfold mapE;refine Z9T.2 (J2O ?_ ok.n.spots);intro a b ha hb DI;have sp:∀c∈q.N,(if c.id=e.q.par then cutK p.q e.id else c.q).sp=c.q.sp/\(if c.id=e.q.par then cutK p.q e.id else c.q).sl=c.q.sl:=fun c hc=>by
   split
   ·rename_i DJ;rw[Q7B ok.n.ids hc DJ hp];exact⟨rfl,rfl⟩
   ·exact⟨rfl,rfl⟩
  simp only[(sp a ha).1,(sp a ha).2,(sp b hb).1,(sp b hb).2];exact DI
 ·intro d hd;obtain⟨c,hc,rfl⟩:=Q1k (show d∈mapE _ q.N from hd);have:=ok.n.sm c hc;simp only;split
  ·rename_i DJ;rw[Q7B ok.n.ids hc DJ hp] at this;exact this
  ·exact this
 ·have Ab:w.heap.size≠p.b:=fun hx=>CY (by
   have:p.b∈keys q.hl:=by
    obtain⟨A,B,hN,_,_⟩:=Q3Q ok.n.ids hp;simp only[FO.hl,keys,Z9v,List.map_flatMap];refine J3t _ (J3t _ (J3t _ (Z9P.2 ⟨p,Fl,?_⟩)));simp[ndH]
   rw[hx];exact this)
  exact(World.cell?_of_block (Below.heap_setCell _ _ _ _ (by simpa using Ab))).trans Ax
 ·have Bb:Cells (Q0v w e.id) (w.heap.size+1) 173 [.int .i64 0,.int .i64 0]:=by
   have:=Cells.new (w.alloc (.cells #[.int .i64 e.id] 3)) 173 [.int .i64 0,.int .i64 0];rw[show(w.alloc (.cells #[.int .i64 e.id] 3)).heap.size=w.heap.size+1 by simp] at this;exact this
  have Km:=Bb.same (hb.block _ (by omega));exact Km.same (st.chg.block _ Km.lt fun hk=>by have:=h.lt hk;omega)
theorem Z3n{w:World}{q:FO}(h:Sep w q.hl)(ok:q.Ok){e p:En Nd}(he:find q.N e.id=some e)(hp:find q.N e.q.par=some p) :
  Calls prog 216 #[.pointer (some ⟨q.f,0,none⟩),.int .i64 e.id] w fun r w'=>(∃v,r=.returned v)/\Z5J q e w w':=by
 have hb:=Q2i w e.id;have Gy:=(Cells.new w 3 [.int .i64 e.id]).alloc (.cells #[.int .i64 0,.int .i64 0] 173);have b0:=Gy.cell 0 _ rfl;have Ee:=(h.grown hb).sep;have c0:=FO.c0 Ee;have hl:=FO.look_some Ee he;have OX:(Q0v w e.id).drew.cell? ⟨q.f,0,none⟩=some (.map (some q.m)):=c0;have b0d:(Q0v w e.id).drew.cell? ⟨w.heap.size,0,none⟩=some (.int .i64 e.id):=b0;have LV:=FO.look_some Ee.drew he;obtain⟨g,cap,Cp⟩:=Z0J h ok he hp;obtain⟨k2,Er,k3,Ke⟩:=Cp _ (Below.refl _ _).drew;have EQ:=Q0a Ke;unfold Q0v at *
 clear h ok he hp hb Ee Gy Cp Ke;go_enter func216,ntmps216;go_wp2_with fail;go_region;go_wp2_with fail;refine Er.mono ?_;rintro r w'⟨rfl,rfl⟩;go_wp2_with fail;refine EQ.out.mono ?_;rintro r w3⟨rfl,Cl,⟨v,B4⟩,q1,hE⟩;obtain⟨LR,Px,b0e,w5,r5,⟨LC,e05,e15⟩,w7,r7,⟨e07,e17⟩,Ai,hz⟩:=hE;have HZ:=Q0a hz;generalize (cutK p.q e.id).ks.length=kl at *
 have M1:(w3.setCell ⟨p.b,3,none⟩ (.slice (some ⟨g,0,none⟩) kl cap)).drew.cell? ⟨q.f,0,none⟩=some (.map (some q.m)):=LR;have b0e':(w3.setCell ⟨p.b,3,none⟩ (.slice (some ⟨g,0,none⟩) kl cap)).drew.cell? ⟨w.heap.size,0,none⟩=some (.int .i64 e.id):=b0e;have L4:w5.drew.cell? ⟨q.f,1,none⟩=some (.map (some q.o)):=LC;have e05':w5.drew.cell? ⟨e.b,0,none⟩=some (.int .i64 e.q.sp):=e05;have e15':w5.drew.cell? ⟨e.b,1,none⟩=some (.int .i64 e.q.sl):=e15;clear hz EQ Er hl LV c0 OX b0 b0d k2 k3;go_wp2_with fail;go_region;go_wp2_with fail;go_region;have g0:=Ai.cell 0 _ rfl;have g1:=Ai.cell 1 _ rfl
 have gf0:=Ai.free 0;have gf1:=Ai.free 1;have glt:=Ai.lt;clear Ai;go_wp2_with fail;refine bodyPost_ret (v:=.agg #[.int .i64 e.q.sp,.int .i64 e.q.sl]) (by simp[results,results216,go_sem,g0,g1]) rfl ⟨⟨_,rfl⟩,HZ.out _ _⟩
theorem Z0K{w:World}{q:FO}(h:Sep w q.hl)(ok:q.Ok){e:En Nd}(he:find q.N e.id=some e)(hp:find q.N e.q.par=none) :
  Calls prog 216 #[.pointer (some ⟨q.f,0,none⟩),.int .i64 e.id] w fun r w'=>(∃v,r=.returned v)/\Z5J q e w w':=by
 have hb:=Q2i w e.id;have Gy:=(Cells.new w 3 [.int .i64 e.id]).alloc (.cells #[.int .i64 0,.int .i64 0] 173);have b0:=Gy.cell 0 _ rfl;have Ee:=(h.grown hb).sep;have c0:=FO.c0 Ee;have hl:=FO.look_some Ee he;have OX:(Q0v w e.id).drew.cell? ⟨q.f,0,none⟩=some (.map (some q.m)):=c0;have b0d:(Q0v w e.id).drew.cell? ⟨w.heap.size,0,none⟩=some (.int .i64 e.id):=b0;have LV:=FO.look_some Ee.drew he;have Er:=Q6F Ee.drew hp;have k2:=(FO.nd0 Ee.drew he).2.2.1;have Bb:Cells (Q0v w e.id) (w.heap.size+1) 173 [.int .i64 0,.int .i64 0]:=by
  have:=Cells.new (w.alloc (.cells #[.int .i64 e.id] 3)) 173 [.int .i64 0,.int .i64 0];rw[show(w.alloc (.cells #[.int .i64 e.id] 3)).heap.size=w.heap.size+1 by simp] at this;exact this
 have Aq:∀c∈q.N,c.id≠e.q.par:=fun c hc hx=>by
  have:=Q0s ok.n.ids hc;rw[hx,hp] at this;cases this
 have e1:q.cut e.id=q.dropped e:=by
  unfold FO.cut FO.dropped;rw[Z3g Aq]
 have hE:Z7Q q q e w (Q0v w e.id).drew:=Q7E h ok ((Below.refl _ _).drew) ((h.grown hb).drew) he ok.n.ids ok.n.spots (fun c hc=>ok.n.sm c hc) e1 rfl rfl rfl rfl b0d Bb (fun _ h=>h);obtain⟨LR,Px,b0e,w5,r5,⟨LC,e05,e15⟩,w7,r7,⟨e07,e17⟩,Ai,hz⟩:=hE;have HZ:=Q0a hz;have M1:(Q0v w e.id).drew.drew.cell? ⟨q.f,0,none⟩=some (.map (some q.m)):=LR;have b0e':(Q0v w e.id).drew.drew.cell? ⟨w.heap.size,0,none⟩=some (.int .i64 e.id):=b0e;have L4:w5.drew.cell? ⟨q.f,1,none⟩=some (.map (some q.o)):=LC;have e05':w5.drew.cell? ⟨e.b,0,none⟩=some (.int .i64 e.q.sp):=e05;have e15':w5.drew.cell? ⟨e.b,1,none⟩=some (.int .i64 e.q.sl):=e15
 have g0:=Ai.cell 0 _ rfl;have g1:=Ai.cell 1 _ rfl;have gf0:=Ai.free 0;have gf1:=Ai.free 1;have glt:=Ai.lt;clear h ok he hp hb Ee Gy Bb Aq e1 hz Ai;unfold Q0v at *
 go_enter func216,ntmps216;go_wp2_with fail;go_region;go_wp2_with fail;refine Er.mono ?_;rintro r w'⟨rfl,rfl⟩;clear Er hl LV c0 b0 k2;go_wp2_with fail;go_region;go_wp2_with fail;go_region;go_wp2_with fail;refine bodyPost_ret (v:=.agg #[.int .i64 e.q.sp,.int .i64 e.q.sl]) (by simp[results,results216,go_sem,g0,g1]) rfl ⟨⟨_,rfl⟩,HZ.out _ _⟩
theorem Z3o{w:World}{q:FO}(h:Sep w q.hl)(ok:q.Ok){e:En Nd}(he:find q.N e.id=some e) :
  Calls prog 216 #[.pointer (some ⟨q.f,0,none⟩),.int .i64 e.id] w fun r w'=>(∃v,r=.returned v)/\Z5J q e w w':=by
 cases hp:find q.N e.q.par with
 | none=>exact Z0K h ok he hp
 | some p=>exact Z3n h ok he hp
def Z8O(q:FO)(e:En Nd)(w w':World):Prop:=∃F':FO,F'.f=q.f/\F'.N=Q0N q.N e e.q.ks.length/\F'.next=q.next/\F'.Ok/\Step q.hl F'.hl w w'
theorem Z3p{w w':World}{q F:FO}{e:En Nd}(ok:q.Ok)(he:find q.N e.id=some e)(L:Z0I q e e.q.ks.length F)(st:Step q.hl (F.hl++ndH q.kr e) w w'):Z8O q e w w':=by
 refine⟨F,L.f,L.N,L.next,⟨by rw[L.N,L.next];exact ok.n.lift he,by rw[L.next];exact ok.lim,L.rv,?_⟩,st.drop (Z9Z _ _)⟩;rw[L.N];unfold Q0N mapE;rw[J0S];exact Z9t (Q3l q.N e.id).length_le ok.few
theorem Z0L{q:FO}(ok:q.Ok)(e:En Nd):Z0I q e 0 (q.dropped e):=⟨rfl,rfl,rfl,rfl,rfl,fun c hc=>by
 obtain⟨d,hd,rfl⟩:=Q1k (show c∈mapE _ (rem q.N e.id) from hc);have h0:=ok.rv d (Q6m hd);show rvOk (q.kr d.id) (Q0t e 0 d).ks.length;have G8:(Q0t e 0 d).ks.length<=d.q.ks.length:=by
  unfold Q0t;simp only[J2H,J1p];split
  ·exact J1y _ _
  ·exact Z9s _
 cases hk:q.kr d.id with
 | none =>
  rw[hk] at h0;have Dd:d.q.ks.length=0:=h0;show(Q0t e 0 d).ks.length=0;omega
 | some gc =>
  rw[hk] at h0;obtain⟨g,cap⟩:=gc;have Dd:d.q.ks.length<=cap/\cap<=maxLen:=h0;exact⟨by omega,Dd.2⟩⟩
theorem Z3q{w:World}{q:FO}(h:Sep w q.hl)(ok:q.Ok){e:En Nd}(he:find q.N e.id=some e) :
  Calls prog 174 #[.pointer (some ⟨q.f,0,none⟩),.int .i64 e.id] w fun r w'=>(∃v,r=.returned v)/\Z8O q e w w':=by
 have ka:=Q4A h he;obtain⟨B5,_⟩:=Q0e he;have kd:=Z3o h ok he;have MX:=ok.n.kids_few B5;have Cz:=ok.few;have HD:=Q0a kd;have Fm:=Q0a ok;have HE:=Q0a he;have Ac:e.q.ks.length<=65536:=by omega
 clear kd h ok he B5;go_enter func174,ntmps174;go_wp2_with fail;refine ka.mono ?_;rintro r w1⟨rfl,rfl⟩;go_wp2_with fail;refine HD.out.mono ?_;rintro r w1⟨⟨v,rfl⟩,st⟩;have AF:Cells w1 e.b 285 (e.q.cells (q.kr e.id)):=st.sep.right.cells (by simp[ndH]);have c3:=AF.cell 3 _ rfl;have Cs:=Q0a st;have Nx:=Q0a (rfl:e.q.ks.length=e.q.ks.length);have Ir:∃(a:Option Addr) (cap:Nat),lvOf (q.kr e.id) e.q.ks.length=.slice a e.q.ks.length cap/\(∀g c,q.kr e.id=some (g,c)->a=some ⟨g,0,none⟩)/\(q.kr e.id=none->e.q.ks.length=0):=by
  have AA:=Fm.out.rv e (Q0e HE.out).1;cases Cq:q.kr e.id with
  | none =>
   rw[Cq] at AA;have BO:e.q.ks.length=0:=AA;exact⟨none,0,by rw[BO];rfl,fun _ _ h=>by(cases h),fun _=>BO⟩
  | some gc=>exact⟨some ⟨gc.1,0,none⟩,gc.2,rfl,fun g c h=>by cases h;rfl,fun h=>by cases h⟩
 obtain⟨a0,cap,KE,G4,AU⟩:=Ir;rw[KE] at c3;have JK:=Q0a G4;have EZ:=Q0a AU;have FX:=Q0a Ac;clear st ka HD AF KE G4 AU MX Cz;go_wp2_with fail
 go_loopg [26] e.q.ks.length (fun gk iv wr=>∃(j:Nat) (F:FO),iv=.int .i64 j/\j+gk=e.q.ks.length/\Z0I q e j F/\Step q.hl (F.hl++ndH q.kr e) w wr)
 case atStart=>exact⟨0,q.dropped e,rfl,by omega,Z0L Fm.out e,Cs.out⟩
 case round =>
  obtain⟨j,F,rfl,Cb,hL,st⟩:=hrel;have HL:=Q0a hL;have GP:=Q0a Cb;have HS:=Q0a st;by_cases hj:j<e.q.ks.length
  ·obtain⟨k,hk⟩:∃k,e.q.ks[j]?=some k:=⟨e.q.ks[j],J1A hj⟩
   have Bc:∃g,a0=some ⟨g,0,none⟩/\wr.cell? ⟨g,j,none⟩=some (.int .i64 k):=by
    cases Cq:q.kr e.id with
    | none=>have:=EZ.out Cq;omega
    | some gc =>
     have hr:=st.sep.right.tail;rw[Cq] at hr;exact⟨gc.1,JK.out gc.1 gc.2 Cq,Q0A hr j _ (by rw[J0U,hk];rfl)⟩
   obtain⟨g,rfl,CR⟩:=Bc;obtain⟨c,E6,⟨f0,e2,Cl,v,B4⟩,Lg,ee2,EP⟩:=Q5V Fm.out HE.out hL st.sep hk;obtain⟨c',FL,⟨f0',e2',M3,v',LL⟩,Ls,ee2',-⟩:=Q5V Fm.out HE.out hL st.sep.drew hk;rw[E6] at FL;obtain rfl:c=c':=J0g FL;have Jy:F.f=q.f:=hL.f;rw[Jy] at f0 f0';have hW:=EP _ (Below.refl _ _).drew;rw[Jy] at hW;have ee2d:(wr.setCell ⟨c.b,2,none⟩ (.int .i64 e.q.par)).drew.cell? ⟨e.b,2,none⟩=some (.int .i64 e.q.par):=ee2;by_cases Bm:find q.N e.q.par=none
   ·obtain⟨Er,F',L',st'⟩:=hW.1 Bm;have M6:=Q0a L';have Lz:=Q0a (st.trans st');have Ia:(j:Int)<(e.q.ks.length:Int):=by omega
    have Eb:(0:Int)<=(j:Int):=by omega
    have Of:(j:Int)<65536:=by have:=FX.out;omega
    generalize e.q.ks.length=n at *
    clear EP hW E6 FL L' st' hL st hk Cb Ac EZ;go_wp2_with fail;go_region;go_wp2_with fail;refine Er.mono ?_;rintro r w'⟨rfl,rfl⟩;go_wp2_with fail;go_roundg (n-(j+1))
    case measure=>have:=GP.out;omega
    case rel=>exact⟨j+1,F',by go_num,by have:=GP.out;omega,M6.out,Lz.out⟩
   ·obtain⟨pb,V,Er,Oz,⟨ua,un,uc,rfl⟩,V',w',rap,⟨va,vn,vc,rfl⟩,Ro,pfr,F',L',st'⟩:=hW.2 Bm;have M6:=Q0a L';have Lz:=Q0a (st.trans st');have Ia:(j:Int)<(e.q.ks.length:Int):=by omega
    have Eb:(0:Int)<=(j:Int):=by omega
    have Of:(j:Int)<65536:=by have:=FX.out;omega
    have R4:((wr.setCell ⟨c.b,2,none⟩ (.int .i64 e.q.par)).drew.alloc (.cells #[.int .i64 k] 3)).cell? ⟨pb,3,none⟩=some (.slice ua un uc):=(World.cell?_of_block (Below.heap_alloc _ _ _ (World.block_lt_of_cell? _ ⟨pb,3,none⟩ Oz))).trans Oz;have pf3:=pfr 3;generalize e.q.ks.length=n at *
    clear EP hW E6 FL L' st' hL st hk Cb Ac EZ pfr;go_wp2_with fail;go_region;go_wp2_with fail;refine Er.mono ?_;rintro r w'⟨rfl,rfl⟩;generalize hW0:(wr.setCell ⟨c.b,2,none⟩ (.int .i64 e.q.par)).drew=W0 at *
    clear f0 e2 Cl B4 Lg ee2 f0' e2' M3 LL Ls ee2' ee2d CR Er hW0;go_wp2_with (at_builtin;refine Lib.wpList_append_run _ rfl _ _ _ _ rfl _ _ rfl rfl _ _ rap ?_);go_roundg (n-(j+1))
    case measure=>have:=GP.out;omega
    case rel=>exact⟨j+1,F',by go_num,by have:=GP.out;omega,M6.out,Lz.out⟩
  ·obtain rfl:j=e.q.ks.length:=by omega
   have HR:=Q0a (Z3p Fm.out HE.out hL st);generalize e.q.ks.length=n at *
   clear hL st Ac;go_wp2_with fail
   (try go_ret);exact⟨⟨_,rfl⟩,HR.out⟩
theorem Q1Z(a b:Nat)(ha:a<16)(hb:b<16):bits .and .i64 (a:Int) (b:Int)=((a&&&b:Nat):Int):=by
 have:∀a b:Fin 16,bits .and .i64 ((a.val:Nat):Int) ((b.val:Nat):Int)=((a.val&&&b.val:Nat):Int):=by decide +kernel
 exact this ⟨a,ha⟩ ⟨b,hb⟩
theorem FPI.low{l:List Pl}{tb:Nat->TB}{N:List (En Nd)}(f:FPI l tb N)(lok:LOk l){h s:Nat}{e:Ent}(he:Q0k l tb h s=some e):e.Low:=by
 obtain⟨⟨q,hq,_⟩,hr⟩:=f.cap h s e he;have h1:=pget_some.1 hq;have h2:=lok.2 q (Q1i hq);refine⟨?_,by omega⟩;have:nm (e.h%256) q=e.h:=h1.2.1;unfold nm at this;omega
theorem Step.keep{H H':HL}{w w1 w':World}{B:Nat}(st:Step H H' w1 w')(hs:Sep w H)(hB:w.heap.size<=B):∀b,B<=b->b<w1.heap.size->w'.heap[b]?=w1.heap[b]?:=fun b h1 h2=>st.chg.block b h2 fun hk=>by
 have:=hs.lt hk;omega
end Go.Proofs.YtfidemmgofcnmaaGreatDoor
