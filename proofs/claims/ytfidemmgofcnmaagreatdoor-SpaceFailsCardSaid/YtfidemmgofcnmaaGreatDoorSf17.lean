/- SpaceFails returns true at every input. No condition. Part of its proof. -/
import Derived.Test.YtfidemmgofcnmaaGreatDoorSf16
set_option maxHeartbeats 4000000
set_option maxRecDepth 100000
set_option linter.unusedVariables false
namespace Go.Proofs.YtfidemmgofcnmaaGreatDoor
open Go.RowKit Go.Proofs.Tryz
theorem Z2n(f:En Nd->Nd):∀(N:List (En Nd)) (id:Int),rem (mapE f N) id=mapE f (rem N id)
 | [],_=>rfl
 | c::r,id=>by
  show rem ({c with q:=f c}::mapE f r) id=mapE f (rem (c::r) id);unfold rem;show(if id=c.id then mapE f r else {c with q:=f c}::rem (mapE f r) id)=_;rw[Z2n f r id];split <;> rfl
theorem Q9A{N:List (En Nd)}(Ae:N.Pairwise (fun a b=>a.id≠b.id)){c p:En Nd}{id:Int}(hc:c∈N)(hi:c.id=id)(hp:find N id=some p):c=p:=by
 have:=Q0k Ae hc;rw[hi,hp] at this;exact(J3Z this).symm
def cutK(p:Nd)(id:Int):Nd:={p with ks:=p.ks.filter fun k=>decide (k≠id)}
theorem Z9f{N:List (En Nd)}(Ae:N.Pairwise (fun a b=>a.id≠b.id)){e p:En Nd}(hp:find N e.q.par=some p) :
  rem (mapE (fun c=>if c.id=e.q.par then cutK p.q e.id else c.q) N) e.id=Q0B N e 0:=by
 rw[Z2n];unfold Q0B;refine Q5i fun c hc=>?_
 have Ui:=Q8a hc;unfold Q0t;rw[J6C];by_cases h:c.id=e.q.par
 ·have:=Q9A Ae Ui h hp;subst this;simp[h,cutK]
 ·simp[h]
theorem Z6G{N:List (En Nd)}{e:En Nd}(h:∀c∈N,c.id≠e.q.par):rem N e.id=Q0B N e 0:=by
 unfold Q0B;rw[Z0H];intro c hc;have:=h c (Q8a hc);unfold Q0t;simp[this]
theorem Q6C{N:List (En Nd)}(Ae:N.Pairwise (fun a b=>a.id≠b.id))(e:En Nd)(j:Nat):(Q0B N e j).Pairwise (fun a b=>a.id≠b.id):=Q2k (fun _ _ h=>h) (Ae.sublist (Q1G N e.id))
theorem Q6D{N:List (En Nd)}(Ae:N.Pairwise (fun a b=>a.id≠b.id))(e:En Nd)(j:Nat)(id:Int):find (Q0B N e j) id=if id=e.id then none else(find N id).map fun c=>{c with q:=Q0t e j c}:=by
 unfold Q0B;rw[Q1v,Q2r Ae];split <;> rfl
theorem Z6H{N:List (En Nd)}(Ae:N.Pairwise (fun a b=>a.id≠b.id)){e:En Nd}{j:Nat}{k:Int}(hk:e.q.ks[j]?=some k)(AO:e.q.ks.Nodup){c p:En Nd}(hc:find (Q0B N e j) k=some c)(Hs:k≠e.q.par)
  (hp:find (mapE (fun d=>if d.id=k then {c.q with par:=e.q.par} else d.q) (Q0B N e j)) e.q.par=some p) :
  mapE (fun d=>if d.id=e.q.par then {p.q with ks:=p.q.ks++[k]} else d.q) (mapE (fun d=>if d.id=k then {c.q with par:=e.q.par} else d.q) (Q0B N e j))=Q0B N e (j+1):=by
 have Cj:=Q6C Ae e j;obtain⟨CR,Ig⟩:=Q0b hc;rw[Q6n];unfold Q0B at Cj hc hp CR ⊢;rw[Q6n];refine Q5i fun d hd=>?_
 have AW:e.q.ks.take (j+1)=e.q.ks.take j++[k]:=by
  rw[J4Y,hk];rfl
 have EL:({d with q:=Q0t e j d}:En Nd)∈mapE (Q0t e j) (rem N e.id):=J3h.2 ⟨d,hd,rfl⟩;by_cases h1:d.id=e.q.par
 ·have h2:d.id≠k:=fun h=>Hs (by rw[<- h,h1])
  have Ij:p={d with q:=Q0t e j d}:=by
   have hx:find (mapE (fun d=>if d.id=k then {c.q with par:=e.q.par} else d.q) (mapE (Q0t e j) (rem N e.id))) d.id=some ({d with q:=Q0t e j d}:En Nd):=by
    rw[Q1v];have:=Q0k Cj EL;simp only at this;rw[this];simp only[J4Q,if_neg h2]
   exact(J3Z (hx.symm.trans ((congrArg (find _) h1).trans hp))).symm
  simp only[h1,if_true];rw[Ij];have h3:¬e.q.par=k:=fun h=>Hs h.symm
  unfold Q0t;simp only[h1,if_true,AW,J3Q,J5j,h3,or_false,J4c]
 ·simp only[h1,if_false];by_cases h2:d.id=k
  ·simp only[h2,if_true];have Ep:c={d with q:=Q0t e j d}:=Q9A Cj EL h2 hc |>.symm;rw[Ep];have h3:¬k=e.q.par:=Hs;unfold Q0t;simp only[h2,h3,if_false,AW,J3Q,J5j,or_true,if_true]
  ·simp only[h2,if_false];unfold Q0t;simp only[h1,if_false,AW,J3Q,J5j,h2,or_false]
theorem Z3u{N:List (En Nd)}(Ae:N.Pairwise (fun a b=>a.id≠b.id)){e:En Nd}{j:Nat}{k:Int}(hk:e.q.ks[j]?=some k){c:En Nd}(hc:find (Q0B N e j) k=some c)(Aq:∀d∈N,d.id≠e.q.par) :
  mapE (fun d=>if d.id=k then {c.q with par:=e.q.par} else d.q) (Q0B N e j)=Q0B N e (j+1):=by
 have Cj:=Q6C Ae e j;unfold Q0B at Cj hc ⊢;rw[Q6n];refine Q5i fun d hd=>?_
 have AW:e.q.ks.take (j+1)=e.q.ks.take j++[k]:=by
  rw[J4Y,hk];rfl
 have EL:({d with q:=Q0t e j d}:En Nd)∈mapE (Q0t e j) (rem N e.id):=J3h.2 ⟨d,hd,rfl⟩;have h1:=Aq d (Q8a hd);by_cases h2:d.id=k
 ·simp only[h2,if_true];have Ep:c={d with q:=Q0t e j d}:=Q9A Cj EL h2 hc |>.symm;rw[Ep];have h3:¬k=e.q.par:=h2 ▸ h1;unfold Q0t;simp only[h3,if_false,AW,J3Q,J5j,h2,or_true,if_true]
 ·simp only[h2,if_false];unfold Q0t;simp only[h1,if_false,AW,J3Q,J5j,h2,or_false]
structure Z3v(q:FO)(e:En Nd)(j:Nat)(F:FO):Prop where
 f:F.f=q.f
 m:F.m=q.m
 o:F.o=q.o
 N:F.N=Q0B q.N e j
 next:F.next=q.next
 rv:∀c∈F.N,rvOk (F.kr c.id) c.q.ks.length
theorem Z9g{N:List (En Nd)}{next:Int}(ok:NOk N next){a b:En Nd}(ha:a∈N)(hb:b∈N)(Aa:a.id≠b.id):a.q.ks.length+b.q.ks.length<=N.length:=by
 have AO:(a.q.ks++b.q.ks).Nodup:=by
  rw[J3V];refine⟨ok.nd a ha,ok.nd b hb,fun x hx y hy JG=>?_⟩;subst JG;obtain⟨c,hc,h1⟩:=ok.kids a ha x hx;obtain⟨d,hd,h2⟩:=ok.kids b hb x hy;rw[hc] at hd;cases hd;exact Aa (h1.symm.trans h2)
 have:=J7s AO (l₂:=N.map En.id) (fun k hk=>by
  rcases J3Q.1 hk with hk|hk
  ·obtain⟨c,hc,_⟩:=ok.kids a ha k hk;obtain⟨c1,c2⟩:=Q0b hc;exact J3h.2 ⟨c,c1,c2⟩
  ·obtain⟨c,hc,_⟩:=ok.kids b hb k hk;obtain⟨c1,c2⟩:=Q0b hc;exact J3h.2 ⟨c,c1,c2⟩)
 rwa [J3M,J4L] at this
theorem Z6I{F:FO}{id:Int}{c:En Nd}(Ae:F.N.Pairwise (fun a b=>a.id≠b.id))(hf:find F.N id=some c)(h:∀c∈F.N,rvOk (F.kr c.id) c.q.ks.length){n:Nd}{rv:RV}(hn:rvOk rv n.ks.length):∀d∈(F.setN id n rv).N,rvOk ((F.setN id n rv).kr d.id) d.q.ks.length:=fun d hd=>by
 obtain⟨d0,Nv,rfl⟩:=Q1w (show d∈mapE _ F.N from hd);show rvOk (if d0.id=id then rv else F.kr d0.id) (if d0.id=id then n else d0.q).ks.length;split
 ·exact hn
 ·exact h d0 Nv
theorem Q7I{wr:World}{q F:FO}{e:En Nd}{j:Nat}{k:Int}(ok:q.Ok)(he:find q.N e.id=some e)(L:Z3v q e j F)(hs:Sep wr (F.hl++ndH q.kr e))(hj:e.q.ks[j]?=some k) :
  ∃c,find F.N k=some c/\(wr.cell? ⟨F.f,0,none⟩=some (.map (some F.m))/\wr.cell? ⟨e.b,2,none⟩=some (.int .i64 e.q.par)/\wr.frozen? ⟨c.b,2,none⟩=false/\∃v,wr.cell? ⟨c.b,2,none⟩=some v) /\
   (Instr.lookup 280 (.map (some F.m)) (.int .i64 k) false).run prog wr=.ok (.pointer (some ⟨c.b,0,none⟩)) wr /\
   ((wr.setCell ⟨c.b,2,none⟩ (.int .i64 e.q.par)).cell? ⟨e.b,2,none⟩=some (.int .i64 e.q.par)) /\
   ∀W1,Below (wr.setCell ⟨c.b,2,none⟩ (.int .i64 e.q.par)).heap.size (wr.setCell ⟨c.b,2,none⟩ (.int .i64 e.q.par)) W1 ->
    (find q.N e.q.par=none->Calls prog 180 #[.pointer (some ⟨F.f,0,none⟩),.int .i64 e.q.par] W1 (fun r w'=>r=.returned (.pointer none)/\W1=w') /\
     ∃F',Z3v q e (j+1) F'/\Step (F.hl++ndH q.kr e) (F'.hl++ndH q.kr e) wr W1) /\
    (find q.N e.q.par≠none->∃(pb:Nat) (V:Value),Calls prog 180 #[.pointer (some ⟨F.f,0,none⟩),.int .i64 e.q.par] W1 (fun r w'=>r=.returned (.pointer (some ⟨pb,0,none⟩))/\W1=w')/\W1.cell? ⟨pb,3,none⟩=some V/\(∃a n c,V=.slice a n c) /\
     ∃(V':Value) (w':World),(Builtin.append_ #[38,38] 38 #[V,.slice (some ⟨W1.heap.size,0,none⟩) 1 1]).run prog (W1.alloc (.cells #[.int .i64 k] 3))=.ok V' w'/\(∃a n c,V'=.slice a n c)/\w'.cell? ⟨pb,3,none⟩=some V/\(∀i,w'.frozen? ⟨pb,i,none⟩=false) /\
      ∃F',Z3v q e (j+1) F'/\Step (F.hl++ndH q.kr e) (F'.hl++ndH q.kr e) wr (w'.setCell ⟨pb,3,none⟩ V')):=by
 obtain⟨Ca,_⟩:=Q0b he;have Vr:k∈e.q.ks:=J5q hj;obtain⟨d,hd,EE⟩:=ok.n.kids e Ca k Vr;obtain⟨EL,Iu⟩:=Q0b hd;have Kb:=ok.n.rise d EL;have GY:=ok.n.rise e Ca;have Tg:k≠e.id:=by omega
 have Hs:k≠e.q.par:=by omega
 have Gf:F.N.Pairwise (fun a b=>a.id≠b.id):=by rw[L.N];exact Q6C ok.n.ids e j
 have FM:find F.N k=some {d with q:=Q0t e j d}:=by rw[L.N,Q6D ok.n.ids,if_neg Tg,hd];rfl
 generalize hc:({d with q:=Q0t e j d}:En Nd)=c at FM;obtain⟨CR,Ig⟩:=Q0b FM;have NI:=hs.left;have FU:=hs.right;have Bc:Cells wr e.b 285 (e.q.cells (q.kr e.id)):=FU.cells (by simp[ndH]);obtain⟨R,p1,p2⟩:=FO.split Gf FM;have A7:=(NI.perm p1).cells (b:=c.b) (T:=285) (cs:=c.q.cells (F.kr k)) (by simp);have Ba:=Sep.set (A:=[]) (B:=rowH (F.kr k) 3 1 (c.q.ks.map encI)++R) (NI.perm p1) 2 (.int .i64 e.q.par);have AM:(c.q.cells (F.kr k)).set 2 (.int .i64 e.q.par)=Nd.cells {c.q with par:=e.q.par} (F.kr k):=rfl;rw[AM] at Ba;have stF:Step F.hl (F.setN k {c.q with par:=e.q.par} (F.kr k)).hl wr (wr.setCell ⟨c.b,2,none⟩ (.int .i64 e.q.par)):=Ba.perm p1.symm (p2 {c.q with par:=e.q.par} (F.kr k) rfl rfl).symm
 have st1:Step (F.hl++ndH q.kr e) ((F.setN k {c.q with par:=e.q.par} (F.kr k)).hl++ndH q.kr e) wr (wr.setCell ⟨c.b,2,none⟩ (.int .i64 e.q.par)):=by
  have:=Step.frame [] (ndH q.kr e) (by simpa using hs) stF
  simpa using this
 have IK:Cells (wr.setCell ⟨c.b,2,none⟩ (.int .i64 e.q.par)) e.b 285 (e.q.cells (q.kr e.id)):=st1.sep.right.cells (by simp[ndH]);refine⟨c,FM,⟨FO.c0 NI,Bc.cell 2 _ rfl,A7.free 2,_,A7.cell 2 _ rfl⟩,FO.look_some NI FM,IK.cell 2 _ rfl,fun W1 hW=>?_⟩;have st1':=st1.trans (st1.sep.grown hW);have IH:Sep W1 (F.setN k {c.q with par:=e.q.par} (F.kr k)).hl:=st1'.sep.left;have CG:(F.setN k {c.q with par:=e.q.par} (F.kr k)).N.Pairwise (fun a b=>a.id≠b.id):=Q2k (fun _ _ h=>h) Gf;have Md:=L.rv c CR;rw[Ig] at Md;have K2:=Z6I Gf FM L.rv (n:={c.q with par:=e.q.par}) (rv:=F.kr k) Md
 have Vz:∀i,(F.setN k {c.q with par:=e.q.par} (F.kr k)).kr i=F.kr i:=fun i=>by
  show(if i=k then F.kr k else F.kr i)=F.kr i;split
  ·rename_i h;rw[h]
  ·rfl
 have find1:∀id,find (F.setN k {c.q with par:=e.q.par} (F.kr k)).N id=(find F.N id).map fun d=>{d with q:=if d.id=k then {c.q with par:=e.q.par} else d.q}:=fun id=>Q1v _ _ _
 refine⟨fun Aq=>?_,fun IO=>?_⟩
 ·have Tp:find (F.setN k {c.q with par:=e.q.par} (F.kr k)).N e.q.par=none:=by
   rw[find1,L.N,Q6D ok.n.ids,Aq];split <;> rfl
  refine⟨Q4N IH Tp,F.setN k {c.q with par:=e.q.par} (F.kr k),⟨L.f,L.m,L.o,?_,L.next,K2⟩,st1'⟩;show mapE _ F.N=_;rw[L.N];exact Z3u ok.n.ids hj (by rw[<- L.N];exact FM) fun d hd h=>by
   have:=Q0k ok.n.ids hd;rw[h,Aq] at this;cases this
 ·obtain⟨p0,EF⟩:=J7t.1 IO;obtain⟨Qh,MB⟩:=Q0b EF;have Ij:e.q.par≠e.id:=by omega
  have Gt:find (F.setN k {c.q with par:=e.q.par} (F.kr k)).N e.q.par=some {p0 with q:=Q0t e j p0}:=by
   rw[find1,L.N,Q6D ok.n.ids,if_neg Ij,EF];simp only[J4Q,J3q];rw[MB,if_neg (fun h=>Hs h.symm)]
  generalize hp:({p0 with q:=Q0t e j p0}:En Nd)=p at Gt;obtain⟨BP,FA⟩:=Q0b Gt;have Ly:=K2 p BP;rw[FA] at Ly;have C9:=Z9g ok.n Qh Ca (by omega);have C7:=ok.few;have Ac:p.q.ks.length<=65536:=by
   rw[<- hp];show(Q0t e j p0).ks.length<=_;unfold Q0t;simp only;split
   ·rw[J3M,J5v];have:=J5r (fun k=>decide (k≠e.id)) p0.q.ks;omega
   ·omega
  obtain⟨rv',w',r5,CB,k3,kf,st5⟩:=FO.pushK IH CG Gt Ly Ac k 38;have c3:=(FO.nd IH Gt).cell 3 (lvOf ((F.setN k {c.q with par:=e.q.par} (F.kr k)).kr p.id) p.q.ks.length) rfl;rw[FA] at c3;have lvs:∀(rv:RV) (n:Nat),∃a n' c,lvOf rv n=.slice a n' c:=fun rv n=>by
   cases rv with
   | none=>exact⟨_,_,_,rfl⟩
   | some p=>exact⟨_,_,_,rfl⟩
  refine⟨p.b,_,Q2Y IH Gt,c3,lvs _ _,_,w',r5,?_,k3,kf,(F.setN k {c.q with par:=e.q.par} (F.kr k)).setN e.q.par {p.q with ks:=p.q.ks++[k]} rv',⟨L.f,L.m,L.o,?_,L.next,?_⟩,?_⟩
  ·cases rv' with
   | none=>exact⟨_,_,_,rfl⟩
   | some p=>exact⟨_,_,_,rfl⟩
  ·show mapE _ (mapE _ F.N)=_;have hx:=Z6H ok.n.ids (e:=e) (j:=j) (k:=k) hj (ok.n.nd e Ca) (c:=c) (p:=p) (by rw[<- L.N];exact FM) Hs (by rw[<- L.N];exact Gt);rw[L.N];exact hx
  ·exact Z6I CG Gt K2 (n:={p.q with ks:=p.q.ks++[k]}) (by rw[J3M,J7e];exact CB)
  ·have:=Step.frame [] (ndH q.kr e) (by simpa using st1'.sep) st5;exact st1'.trans (by simpa using this)
theorem Q4Q(x id:Int)(b:Nat)(w:World)(h:w.cell? ⟨b,0,none⟩=some (.int .i64 id)) :
  Calls prog 241 #[.int .i64 x,.pointer (some ⟨b,0,none⟩)] w fun e w'=>e=.returned (.bool (x==id))/\w=w':=by
 go_enter func241,ntmps241
 go_wp2
 go_ret;exact⟨rfl,rfl⟩
def J2i(xs:List Int)(id:Int)(e:Ending):Prop:=
 (∃k:Nat,k<xs.length/\e=.returned (.int .i64 k)/\xs[k]?.getD 0=id/\∀j,j<k->xs[j]?.getD 0≠id)∨(e=.returned (.int .i64 (-1))/\∀j,j<xs.length->xs[j]?.getD 0≠id)
def Z6J(b:Nat):Value:=.func (.func 241) #[] #[.pointer (some ⟨b,0,none⟩)]
theorem Z0R(xs:List Int)(id:Int)(b g cap:Nat)(w:World)(h:w.cell? ⟨b,0,none⟩=some (.int .i64 id))(hm:xs.length<=4611686018427387904)
  (hc:∀k,k<xs.length->w.cell? ⟨g,k,none⟩=some (.int .i64 (xs[k]?.getD 0))) :
  Calls prog 252 #[.slice (some ⟨g,0,none⟩) xs.length cap,Z6J b] w fun e w'=>J2i xs id e/\w=w':=by
 unfold Z6J;go_enter func252,ntmps252;go_wp2_with fail
 go_loop [5,8] (fun _ i=>∃k:Nat,k<=xs.length/\i=.int .i64 k/\∀j,j<k->xs[j]?.getD 0≠id) (fun _ i=>xs.length-(intOf i).toNat)
 case atStart=>exact⟨0,J5e _,rfl,by intro j hj;omega⟩
 case round =>
  obtain⟨k,hk,rfl,A3⟩:=hrel;have Hp:Hid (∀j,j<k->xs[j]?.getD 0≠id):=A3;clear A3;by_cases Ab:k<xs.length
  ·have DU:=hc k Ab;have hh:=h;clear hc h;generalize hx:xs[k]?.getD 0=x at DU;have Hx:Hid (xs[k]?.getD 0=x):=hx;clear hx;by_cases hx:x=id
   ·have hb:(x==id)=true:=by simpa using hx
    have Qw:Hid (x=id):=hx;clear hx;go_wp2_with (go_at_call 241;refine(Q4Q _ id b _ hh).mono ?_;rintro e w'⟨rfl,rfl⟩);go_ret;exact⟨.inl ⟨k,Ab,rfl,Hx.out.trans Qw.out,Hp.out⟩,rfl⟩
   ·have hb:(x==id)=false:=by simpa using hx
    have Qw:Hid (x≠id):=hx;clear hx;go_wp2_with (go_at_call 241;refine(Q4Q _ id b _ hh).mono ?_;rintro e w'⟨rfl,rfl⟩)
    go_round
    case rel =>
     refine⟨k+1,by omega,by go_num,fun j hj=>?_⟩;by_cases e:j=k
     ·subst e;rw[Hx.out];exact Qw.out
     ·exact Hp.out j (by omega)
    case measure=>simp[intOf];omega
  ·clear hc;go_wp2_with fail;go_ret;exact⟨.inr ⟨rfl,fun j hj=>Hp.out j (by omega)⟩,rfl⟩
def fltK(xs:List Int)(id:Int):List Int:=xs.filter fun x=>x != id
theorem Q9B{xs:List Int}{id:Int}(h:∀j,j<xs.length->xs[j]?.getD 0≠id):fltK xs id=xs:=by
 unfold fltK;rw[J7k];intro x hx;obtain⟨j,hj,rfl⟩:=List.getElem_of_mem hx;have:=h j hj
 simpa[hj] using this
theorem Q4d(xs:List Int)(id:Int)(j:Nat)(hj:j<xs.length) :
  fltK (xs.take (j+1)) id=if xs[j]?.getD 0=id then fltK (xs.take j) id else fltK (xs.take j) id++[xs[j]?.getD 0]:=by
 rw[J7u hj];unfold fltK;rw[J4Z];by_cases h:xs[j]=id <;> simp[h,hj]
def Z9h(w:World)(g cap:Nat)(ys:List Int)(e:Ending)(w':World):Prop:=
 e=.returned (.slice (some ⟨g,0,none⟩) ys.length cap)/\(∃cs,Cells w' g 3 cs/\cs.length=cap/\cs.take ys.length=ys.map (Value.int .i64))/\w.grownBy w' (some g)
def Z6K(xs:List Int)(id:Int)(g cap:Nat)(w:World)(k0:Nat)(iv jv:Value)(wr:World):Prop:=
 ∃j cs,jv=.int .i64 (j:Nat)/\iv=.int .i64 ((fltK (xs.take j) id).length:Nat)/\k0<j/\j<=xs.length/\(fltK (xs.take j) id).length<j/\Cells wr g 3 cs/\cs.length=cap /\
  cs.take (fltK (xs.take j) id).length=(fltK (xs.take j) id).map (Value.int .i64)/\(∀m,j<=m->m<xs.length->cs[m]?=some (.int .i64 (xs[m]?.getD 0)))/\w.grownBy wr (some g)
theorem J2j(w:World):(zeroValue 3).run prog w=.ok (.int .i64 0) w:=by kernel_rfl
theorem Q9C(xs:List Int)(id:Int)(b g cap:Nat)(w:World)(cs0:List Value)(h:w.cell? ⟨b,0,none⟩=some (.int .i64 id))(Aa:b≠g)(hc:Cells w g 3 cs0)(A4:xs.length<=cap)(AM:cs0.length=cap)
  (Db:cs0.take xs.length=xs.map (Value.int .i64)) (hm:xs.length<=1048576) :
  Calls prog 240 #[.slice (some ⟨g,0,none⟩) xs.length cap,Z6J b] w (Z9h w g cap (fltK xs id)):=by
 have Ak:∀k,k<xs.length->cs0[k]?=some (.int .i64 (xs[k]?.getD 0)):=by
  intro k hk;have h1:(cs0.take xs.length)[k]?=(xs.map (Value.int .i64))[k]?:=by rw[Db]
  rw[J5f,if_pos hk] at h1;rw[h1];simp[hk]
 have M2:=Z0R xs id b g cap w h (by omega) (fun k hk=>hc.cell k _ (Ak k hk));unfold Z6J at M2 ⊢;go_enter func240,ntmps240;go_wp2_with fail;refine M2.mono ?_;rintro e w'⟨⟨k,hk,rfl,IM,A3⟩|⟨rfl,AZ⟩,rfl⟩
 case inr =>
  have Bm:=Q9B AZ
  go_wp2
  go_ret;rw[Bm];exact⟨rfl,⟨cs0,hc,AM,Db⟩,⟨rfl,rfl,rfl,J3b _,fun _ _ _=>rfl⟩⟩
 case inl =>
  have EG:fltK (xs.take k) id=xs.take k:=Q9B (by
   intro j hj;have KW:j<k:=by simp at hj;omega
   have:=A3 j KW
   simpa[J5f,KW] using this)
  have Ir:fltK (xs.take (k+1)) id=xs.take k:=by rw[Q4d xs id k hk,if_pos IM,EG]
  have Er:Hid (Z6K xs id g cap w k (.int .i64 k) (.int .i64 ((k:Int)+1)) w):=by
   refine⟨k+1,cs0,by go_num,?_,by omega,by omega,?_,hc,AM,?_,fun m _ hm=>Ak m hm,⟨rfl,rfl,rfl,J3b _,fun _ _ _=>rfl⟩⟩
   ·rw[Ir];simp;omega
   ·rw[Ir];simp;omega
   ·rw[Ir];have h1:=congrArg (List.take k) Db;rw[J5x,<- List.map_take] at h1;have e1:(List.take k xs).length=k:=by simp;omega
    rw[e1,<- h1];congr 1;omega
  have JL:((k:Int) == -1)=false:=by simp
  clear Ak M2 EG Ir IM A3 hc Db AM;go_wp2_with fail
  go_loopw [5,6] (fun iv jv wr=>Z6K xs id g cap w k iv jv wr) (fun _ jv _=>xs.length-(intOf jv).toNat)
  case atStart=>exact Er.out
  case round =>
   clear Er;obtain⟨j,cs,rfl,rfl,NN,hj,Fj,hc,AM,A3,Jn,hg⟩:=hrel;generalize hi:(fltK (List.take j xs) id).length=i at Fj A3;have Hi:Hid ((fltK (List.take j xs) id).length=i):=hi;clear hi;have Bw:wr.cell? ⟨b,0,none⟩=some (.int .i64 id):=hg.cell h (by simpa using Aa);have Kj:Hid (List.take i cs=List.map (Value.int IntKind.i64) (fltK (List.take j xs) id)):=A3;have G7:Hid (∀(m:Nat),j<=m->m<xs.length->cs[m]?=some (Value.int IntKind.i64 (xs[m]?.getD 0))):=Jn;have KI:Hid (cs.length=cap):=AM;clear A3 Jn h AM;by_cases Ab:j<xs.length
   ·have Uo:=hc.cell j _ (G7.out j (J3b _) Ab);have Ih:=hc.cell i (cs[i]?.getD undef) (by have:=KI.out;rw[J5t (by omega)];rfl);generalize hu:cs[i]?.getD undef=u at Ih;clear hu;have La:=hc.free i;generalize hx:xs[j]?.getD 0=x at Uo;have Hx:Hid (xs[j]?.getD 0=x):=hx;clear hx;have B4:Hid (Cells wr g 3 cs):=hc;clear hc;have JS:=Q4d xs id j Ab;by_cases hx:x=id
    ·have Hf:Hid (fltK (List.take (j+1) xs) id=fltK (List.take j xs) id):=by rw[JS,if_pos (Hx.out.trans hx)];exact rfl
     have Bn:(x==id)=true:=by simpa using hx
     clear hx JS;go_wp2_with (go_at_call 241;refine(Q4Q _ id b _ Bw).mono ?_;rintro e w'⟨rfl,rfl⟩);go_roundw
     case rel =>
      refine⟨j+1,cs,by go_num,?_,by omega,by omega,?_,B4.out,KI.out,?_,fun m DH CN=>G7.out m (by omega) CN,hg⟩
      ·rw[Hf.out,Hi.out]
      ·rw[Hf.out,Hi.out];omega
      ·rw[Hf.out,Hi.out];exact Kj.out
     case measure=>simp[intOf];omega
    ·have Hf:Hid (fltK (List.take (j+1) xs) id=fltK (List.take j xs) id++[x]):=by rw[JS,if_neg (by rw[Hx.out];exact hx),Hx.out];exact rfl
     have Bn:(x==id)=false:=by simpa using hx
     clear hx JS;go_wp2_with (go_at_call 241;refine(Q4Q _ id b _ Bw).mono ?_;rintro e w'⟨rfl,rfl⟩);go_roundw
     case rel =>
      refine⟨j+1,cs.set i (.int .i64 x),by go_num,?_,by omega,by omega,?_,B4.out.set _ _,by simpa using KI.out,?_,fun m DH CN=>?_,?_⟩
      ·rw[Hf.out];simp[Hi.out]
      ·rw[Hf.out];simp[Hi.out];omega
      ·rw[Hf.out];have e1:(fltK (List.take j xs) id++[x]).length=i+1:=by simp[Hi.out]
       have C4:i<cs.length:=by have:=KI.out;omega
       rw[e1,J7u (by simpa using C4),J4d (J3b _),Kj.out];simp
      ·rw[J6K (by omega)];exact G7.out m (by omega) CN
      ·exact⟨hg.os,hg.tape,hg.output,by simpa using hg.size,fun q hq hqn=>(Below.heap_setCell _ _ _ _ (fun e=>hqn (by simp[e]))).trans (hg.block q hq hqn)⟩
     case measure=>simp[intOf];omega
   ·obtain rfl:j=xs.length:=by omega
    have Ri:i<cap:=by omega
    have Ih:((cap:Int)==i)=false:=by simp;omega
    have Jy:¬(cap=i):=by omega
    have B4:Hid (Cells wr g 3 cs):=hc;clear hc;go_wp2_with (refine Q4p _ rfl (.tmp 38) 38 3 rfl underlying38 (.int .i64 0) J2j rfl rfl g i (xs.length-i) (cap-i) rfl (by omega) 3 cs B4.out (by have:=KI.out;omega) ?_;intro w2 BF Bu);go_ret;have D2:List.take xs.length xs=xs:=J5a (J3b _);have Ou:=Hi.out;have Jf:=Kj.out;have Tv:=KI.out;rw[D2] at Ou Jf;refine⟨by rw[Ou];rfl,⟨_,BF,?_,?_⟩,?_⟩
    ·simp;omega
    ·rw[Ou,J4c,J5w (by simp;omega),J5x,Nat.min_self,Jf]
    ·exact⟨Bu.os.trans hg.os,Bu.tape.trans hg.tape,Bu.output.trans hg.output,J3c hg.size Bu.size,fun q hq hqn=>(Bu.block q (J3d hq hg.size) hqn).trans (hg.block q hq hqn)⟩
theorem Step.aside{H H':HL}{w w1 w2:World}(st:Step H H' w w1){F:Nat->Prop}(hc:Chg F w1 w2)(hF:∀b,F b->w.heap.size<=b/\b∉keys H')(BK:GB<=w.heap.size):Step H H' w w2:=
 ⟨st.sep.chg hc (fun b hb hf=>(hF b hf).2 hb) (fun b hf=>J3c BK (hF b hf).1),st.chg.trans hc (fun i hi=>.inr (hF i hi).1),st.new⟩
theorem Step.set_aside{H H':HL}{w w1:World}(st:Step H H' w w1){b:Nat}(hb:w.heap.size<=b)(hk:b∉keys H')(BK:GB<=w.heap.size)(i:Nat)(v:Value):Step H H' w (w1.setCell ⟨b,i,none⟩ v):=
 st.aside (F:=fun k=>k=b) ((Chg.refl _ _).set _ _ (.inl rfl)) (fun k Bt=>by subst Bt;exact⟨hb,hk⟩) BK
def FO.dropped(q:FO)(e:En Nd):FO:={q with N:=Q0B q.N e 0}
theorem FO.cutRow{w:World}{q:FO}(h:Sep w q.hl)(ok:q.Ok){e p:En Nd}(he:find q.N e.id=some e)(hp:find q.N e.q.par=some p){b:Nat}(hb:w.cell? ⟨b,0,none⟩=some (.int .i64 e.id))(AJ:b∉keys q.hl)(CS:b<w.heap.size) :
  ∃g cap:Nat,q.kr e.q.par=some (g,cap)/\Calls prog 240 #[.slice (some ⟨g,0,none⟩) p.q.ks.length cap,Z6J b] w fun r w'=>r=.returned (.slice (some ⟨g,0,none⟩) (cutK p.q e.id).ks.length cap) /\
   (w'.cell? ⟨b,0,none⟩=some (.int .i64 e.id))/\w'.frozen? ⟨p.b,3,none⟩=false/\(∃v,w'.cell? ⟨p.b,3,none⟩=some v) /\
   Step q.hl (q.setN e.q.par (cutK p.q e.id) (some (g,cap))).hl w (w'.setCell ⟨p.b,3,none⟩ (.slice (some ⟨g,0,none⟩) (cutK p.q e.id).ks.length cap)):=by
 obtain⟨Ca,_⟩:=Q0b he;obtain⟨BP,FA⟩:=Q0b hp;have Cm:e.id∈p.q.ks:=by
  obtain⟨p',BH,hk⟩:=(ok.n.par e Ca).2 (by have:=ok.n.rng p BP;omega);rw[hp] at BH;cases BH;exact hk
 have A6:=ok.rv p BP;rw[FA] at A6;obtain⟨R,p1,p2⟩:=FO.split ok.n.ids hp;cases Di:q.kr e.q.par with
 | none =>
  rw[Di] at A6;have:p.q.ks.length=0:=A6;rw[J5b] at this;rw[this] at Cm;cases Cm
 | some gc =>
  obtain⟨g,cap⟩:=gc;rw[Di] at A6 p1;obtain⟨A4,I3⟩:p.q.ks.length<=cap/\cap<=maxLen:=A6;refine⟨g,cap,rfl,?_⟩;have pm:∀(Z:HL) (a:Nat×(Obj->Prop)),((a::Z)++R).Perm (Z++(a::R)):=fun Z a=>J6H.symm
  have h':Sep w (rowH (some (g,cap)) 3 1 (p.q.ks.map encI)++((p.b,isC 285 (p.q.cells (some (g,cap))))::R)):=h.perm (p1.trans (pm _ _));obtain⟨ds,FP,DF,S5⟩:=h'.left.row (b:=g) (T:=3) (n:=cap*1) (cs:=p.q.ks.map encI) (by simp[rowH]);rw[J4i] at DF;rw[J4L] at S5;have EH:g∈keys q.hl:=by
   have:g∈keys (rowH (some (g,cap)) 3 1 (p.q.ks.map encI)++((p.b,isC 285 (p.q.cells (some (g,cap))))::R)):=by simp[rowH,keys]
   exact((p1.trans (pm _ _)).map Prod.fst).mem_iff.2 this
  have Jw:b≠g:=fun x=>AJ (x ▸ EH)
  have C7:=ok.n.kids_few BP;have G0:=ok.few;have OF:fltK p.q.ks e.id=(cutK p.q e.id).ks:=by
   unfold fltK cutK;exact J5S fun x _=>by by_cases hx:x=e.id <;> simp[hx]
  refine(Q9C p.q.ks e.id b g cap w ds hb Jw FP A4 DF (by rw[S5]) (by omega)).mono ?_;rintro r w'⟨hr,⟨cs,B4,AM,NJ⟩,hg⟩;rw[OF] at hr NJ;have s1:=Sep.turn (A:=[]) (B:=(p.b,isC 285 (p.q.cells (some (g,cap))))::R) (q':=isR 3 (cap*1) ((cutK p.q e.id).ks.map encI)) h' hg ⟨_,B4,cs.toArray,rfl,by simpa using AM,by
   rw[J4L]
   simpa using NJ⟩
  have hc:=s1.sep.cells (b:=p.b) (T:=285) (cs:=p.q.cells (some (g,cap))) (by simp);have s2:=Sep.set (A:=[(g,isR 3 (cap*1) ((cutK p.q e.id).ks.map encI))]) (B:=R) s1.sep 3 (.slice (some ⟨g,0,none⟩) (cutK p.q e.id).ks.length cap);have P8:(p.q.cells (some (g,cap))).set 3 (.slice (some ⟨g,0,none⟩) (cutK p.q e.id).ks.length cap)=(cutK p.q e.id).cells (some (g,cap)):=rfl;rw[P8] at s2;refine⟨hr,hg.cell hb (by simpa using Jw),hc.free 3,⟨_,hc.cell 3 _ rfl⟩,(s1.trans s2).perm ((p1.trans (pm _ _)).symm) ?_⟩;exact((p2 (cutK p.q e.id) (some (g,cap)) rfl rfl).trans (pm _ _)).symm
def Z9i(q:FO)(e:En Nd)(w w':World):Prop:=Step q.hl ((q.dropped e).hl++ndH q.kr e) w w'
theorem Z9j{q:FO}(ok:q.Ok){e p:En Nd}(hp:find q.N e.q.par=some p){rv:RV}(Di:q.kr e.q.par=rv):(q.setN e.q.par (cutK p.q e.id) rv).cut e.id=q.dropped e/\(q.setN e.q.par (cutK p.q e.id) rv).kr=q.kr:=by
 have hk:(fun j=>if j=e.q.par then rv else q.kr j)=q.kr:=by
  funext j;split
  ·rename_i h;rw[h];exact Di.symm
  ·rfl
 refine⟨?_,hk⟩;unfold FO.cut FO.setN FO.dropped;simp only[hk];rw[Z9f ok.n.ids hp]
theorem Z6L{q:FO}{e:En Nd}(he:find q.N e.id=some e)(Aa:e.id≠e.q.par)(n:Nd)(rv:RV):find (q.setN e.q.par n rv).N e.id=some e:=by
 show find (mapE _ q.N) e.id=_;rw[Q1v,he];simp only[J4Q,if_neg Aa]
def Q0C(w:World)(id:Int):World:=(w.alloc (.cells #[.int .i64 id] 3)).alloc (.cells #[.int .i64 0,.int .i64 0] 173)
theorem Q3a(w:World)(id:Int):Below w.heap.size w (Q0C w id):=((Below.refl _ _).alloc (J3b _) _).alloc (by simp) _
structure J1m(q q1:FO)(e:En Nd)(w w3:World):Prop where
 c0:w3.cell? ⟨q.f,0,none⟩=some (.map (some q.m))
 c1:w3.cell? ⟨q.f,1,none⟩=some (.map (some q.o))
 b0:w3.cell? ⟨w.heap.size,0,none⟩=some (.int .i64 e.id)
 del:∃w5,(Builtin.delete_ #[280,3] 0 #[.map (some q.m),.int .i64 e.id]).run prog w3.drew=.ok (.tuple #[]) w5/\(w5.cell? ⟨q.f,1,none⟩=some (.map (some q.o))/\w5.cell? ⟨e.b,0,none⟩=some (.int .i64 e.q.sp)/\w5.cell? ⟨e.b,1,none⟩=some (.int .i64 e.q.sl)) /\
  ∃w7,(Builtin.delete_ #[281,173] 0 #[.map (some q.o),.agg #[.int .i64 e.q.sp,.int .i64 e.q.sl]]).run prog w5.drew=.ok (.tuple #[]) w7/\(w7.cell? ⟨e.b,0,none⟩=some (.int .i64 e.q.sp)/\w7.cell? ⟨e.b,1,none⟩=some (.int .i64 e.q.sl))/\Cells w7 (w.heap.size+1) 173 [.int .i64 0,.int .i64 0] /\
   ∀u v,Z9i q e w ((w7.setCell ⟨w.heap.size+1,0,none⟩ u).setCell ⟨w.heap.size+1,1,none⟩ v)
theorem Q9D{w w2 w3:World}{q q1:FO}{e:En Nd}(h:Sep w q.hl)(ok:q.Ok)(Ai:Below (Q0C w e.id).heap.size (Q0C w e.id) w2)(st:Step q.hl q1.hl w w3)(Fz:find q1.N e.id=some e)(Ae:q1.N.Pairwise (fun a b=>a.id≠b.id))(hs:q1.N.Pairwise (fun a b=>(a.q.sp,a.q.sl)≠(b.q.sp,b.q.sl)))(hn:∀e∈q1.N,0<=e.q.sp/\e.q.sp<4294967296/\0<=e.q.sl/\e.q.sl<256)
  (e1:q1.cut e.id=q.dropped e) (e2:q1.kr=q.kr) (f1:q1.f=q.f) (f2:q1.m=q.m) (f3:q1.o=q.o) (Bw:w3.cell? ⟨w.heap.size,0,none⟩=some (.int .i64 e.id)) (Aj:Cells w3 (w.heap.size+1) 173 [.int .i64 0,.int .i64 0]) (DY:∀b∈keys q1.hl,b∈keys q.hl):J1m q q1 e w w3:=by
 have BK:GB<=w.heap.size:=h.env.gb;have AE:=st.sep;obtain⟨w5,r5,s5,BI⟩:=FO.delSteps AE.drew Ae hs hn Fz 3 0 173 0;obtain⟨w7,r7,s7⟩:=BI w5.drew (Below.refl _ _).drew;rw[f2] at r5;rw[f3] at r7;have nd5:Cells w5 e.b 285 (e.q.cells (q1.kr e.id)):=by
  obtain⟨A,B,hN,_,_⟩:=Q3i Ae Fz;exact s5.sep.cells (by rw[hN];simp[ndH])
 have nd7:Cells w7 e.b 285 (e.q.cells (q1.kr e.id)):=s7.sep.right.cells (by simp[ndH]);have st7:Step q.hl ((q1.cut e.id).hl++ndH q1.kr e) w w7:=st.trans s7.from_drew;rw[e1,e2] at st7;have c1:=FO.c1 AE;have Rj:w5.cell? ⟨q1.f,1,none⟩=some (.map (some q1.o)):=(s5.sep.cells (b:=q1.f) (T:=283) (cs:=[.map (some q1.m),.map (some q1.o),.int .i64 q1.next]) (by simp[FO.head])).cell 1 _ rfl;rw[f1,f3] at Rj;have NP:=FO.c0 AE;rw[f1,f2] at NP;rw[f1,f3] at c1;refine⟨NP,c1,Bw,w5,r5,⟨Rj,nd5.cell 0 _ rfl,nd5.cell 1 _ rfl⟩,w7,r7,⟨nd7.cell 0 _ rfl,nd7.cell 1 _ rfl⟩,Aj.same (s7.from_drew.chg.block _ Aj.lt fun hk=>by have:=h.lt (DY _ hk);omega),fun u v=>?_⟩
 have Fq:w.heap.size+1∉keys ((q.dropped e).hl++ndH q.kr e):=fun hk=>by
  rw[<- e1,<- e2] at hk;have h1:=((FO.cut_perm Ae Fz).map Prod.fst).mem_iff.2 hk;have h2:w.heap.size+1∈keys q1.hl:=by
   simpa[FO.hl,keys] using h1
  have:=h.lt (DY _ h2);omega
 exact(st7.set_aside (J7v _) Fq BK 0 u).set_aside (J7v _) Fq BK 1 v
theorem Z6M{q:FO}(Ae:q.N.Pairwise (fun a b=>a.id≠b.id)){id:Int}{c:En Nd}(hf:find q.N id=some c){n:Nd}{g cap:Nat}(Di:q.kr id=some (g,cap))(h1:n.sp=c.q.sp)(h2:n.sl=c.q.sl):∀b∈keys (q.setN id n (some (g,cap))).hl,b∈keys q.hl:=fun b hb=>by
 obtain⟨R,p1,p2⟩:=FO.split Ae hf;rw[Di] at p1;have k1:=((p2 n (some (g,cap)) h1 h2).map Prod.fst).mem_iff.1 hb;exact(p1.map Prod.fst).mem_iff.2 (by simpa[rowH] using k1)
theorem Z3w{w:World}{q:FO}(h:Sep w q.hl)(ok:q.Ok){e p:En Nd}(he:find q.N e.id=some e)(hp:find q.N e.q.par=some p) :
  ∃g cap:Nat,∀w2,Below (Q0C w e.id).heap.size (Q0C w e.id) w2->w2.cell? ⟨e.b,2,none⟩=some (.int .i64 e.q.par) /\
   Calls prog 180 #[.pointer (some ⟨q.f,0,none⟩),.int .i64 e.q.par] w2 (fun r w'=>r=.returned (.pointer (some ⟨p.b,0,none⟩))/\w2=w')/\w2.cell? ⟨p.b,3,none⟩=some (.slice (some ⟨g,0,none⟩) p.q.ks.length cap) /\
   Calls prog 240 #[.slice (some ⟨g,0,none⟩) p.q.ks.length cap,.func (.func 241) #[] #[.pointer (some ⟨w.heap.size,0,none⟩)]] w2 fun r w3=>r=.returned (.slice (some ⟨g,0,none⟩) (cutK p.q e.id).ks.length cap)/\w3.frozen? ⟨p.b,3,none⟩=false/\(∃v,w3.cell? ⟨p.b,3,none⟩=some v) /\
    ∃q1,J1m q q1 e w (w3.setCell ⟨p.b,3,none⟩ (.slice (some ⟨g,0,none⟩) (cutK p.q e.id).ks.length cap)):=by
 obtain⟨Ca,_⟩:=Q0b he;obtain⟨BP,FA⟩:=Q0b hp;have Aa:e.id≠e.q.par:=by have:=ok.n.rise e Ca;omega
 have hB:=Q3a w e.id;have Hg:Cells (Q0C w e.id) w.heap.size 3 [.int .i64 e.id]:=(Cells.new w 3 [.int .i64 e.id]).alloc (.cells #[.int .i64 0,.int .i64 0] 173);have Be:(Q0C w e.id).heap.size=w.heap.size+2:=by simp[Q0C]
 have facts:∀w2,Below (Q0C w e.id).heap.size (Q0C w e.id) w2->Below w.heap.size w w2/\w2.cell? ⟨w.heap.size,0,none⟩=some (.int .i64 e.id)/\w.heap.size+2<=w2.heap.size:=fun w2 hb=>⟨hB.trans (hb.mono (by omega)),(Hg.same (hb.block _ (by omega))).cell 0 _ rfl,by have:=hb.size;omega⟩
 have Fq:w.heap.size∉keys q.hl:=fun hk=>by have:=h.lt hk;omega
 obtain⟨g,cap,Di,_⟩:=FO.cutRow (w:=Q0C w e.id) (h.grown hB).sep ok he hp (b:=w.heap.size) (Hg.cell 0 _ rfl) Fq (by omega);refine⟨g,cap,fun w2 hb=>?_⟩;obtain⟨Al,Bw,Gu⟩:=facts w2 hb;have s2:=(h.grown Al).sep;have c3:=(FO.nd0 s2 hp).2.2.2;rw[FA,Di] at c3;refine⟨(FO.nd0 s2 he).2.2.1,Q2Y s2 hp,c3,?_⟩;obtain⟨g',BG,L9,AR⟩:=FO.cutRow s2 ok he hp Bw Fq (by omega);rw[Di] at L9;cases L9;refine AR.mono ?_;rintro r w3⟨rfl,Ar,D9,Cu,st⟩;obtain⟨e1,e2⟩:=Z9j ok (e:=e) hp Di;refine⟨rfl,D9,Cu,q.setN e.q.par (cutK p.q e.id) (some (g,cap)),?_⟩;refine Q9D h ok hb ((h.grown Al).trans st) (Z6L he Aa _ _) (Q2k (fun _ _ h=>h) ok.n.ids) ?_ ?_ e1 e2 rfl rfl rfl ?_ ?_ (Z6M ok.n.ids hp Di rfl rfl)
 ·show(mapE _ q.N).Pairwise _;unfold mapE;refine J3H.2 (J6M ?_ ok.n.spots);intro a b ha hb Cp;have sp:∀c∈q.N,(if c.id=e.q.par then cutK p.q e.id else c.q).sp=c.q.sp/\(if c.id=e.q.par then cutK p.q e.id else c.q).sl=c.q.sl:=fun c hc=>by
   split
   ·rename_i G5;rw[Q9A ok.n.ids hc G5 hp];exact⟨rfl,rfl⟩
   ·exact⟨rfl,rfl⟩
  simp only[(sp a ha).1,(sp a ha).2,(sp b hb).1,(sp b hb).2];exact Cp
 ·intro d hd;obtain⟨c,hc,rfl⟩:=Q1w (show d∈mapE _ q.N from hd);have:=ok.n.sm c hc;simp only;split
  ·rename_i G5;rw[Q9A ok.n.ids hc G5 hp] at this;exact this
  ·exact this
 ·have Aa:w.heap.size≠p.b:=fun hx=>Fq (by
   have:p.b∈keys q.hl:=by
    obtain⟨A,B,hN,_,_⟩:=Q3i ok.n.ids hp;simp only[FO.hl,keys,J3e,List.map_flatMap];refine J7w _ (J7w _ (J7w _ (J3C.2 ⟨p,BP,?_⟩)));simp[ndH]
   rw[hx];exact this)
  exact(World.cell?_of_block (Below.heap_setCell _ _ _ _ (by simpa using Aa))).trans Ar
 ·have Dc:Cells (Q0C w e.id) (w.heap.size+1) 173 [.int .i64 0,.int .i64 0]:=by
   have:=Cells.new (w.alloc (.cells #[.int .i64 e.id] 3)) 173 [.int .i64 0,.int .i64 0];rw[show(w.alloc (.cells #[.int .i64 e.id] 3)).heap.size=w.heap.size+1 by simp] at this;exact this
  have MU:=Dc.same (hb.block _ (by omega));exact MU.same (st.chg.block _ MU.lt fun hk=>by have:=h.lt hk;omega)
theorem Z6N{w:World}{q:FO}(h:Sep w q.hl)(ok:q.Ok){e p:En Nd}(he:find q.N e.id=some e)(hp:find q.N e.q.par=some p) :
  Calls prog 216 #[.pointer (some ⟨q.f,0,none⟩),.int .i64 e.id] w fun r w'=>(∃v,r=.returned v)/\Z9i q e w w':=by
 have hb:=Q3a w e.id;have Hg:=(Cells.new w 3 [.int .i64 e.id]).alloc (.cells #[.int .i64 0,.int .i64 0] 173);have b0:=Hg.cell 0 _ rfl;have FH:=(h.grown hb).sep;have c0:=FO.c0 FH;have hl:=FO.look_some FH he;have Sq:(Q0C w e.id).drew.cell? ⟨q.f,0,none⟩=some (.map (some q.m)):=c0;have b0d:(Q0C w e.id).drew.cell? ⟨w.heap.size,0,none⟩=some (.int .i64 e.id):=b0;have OT:=FO.look_some FH.drew he;obtain⟨g,cap,CZ⟩:=Z3w h ok he hp;obtain⟨k2,F1,k3,LF⟩:=CZ _ (Below.refl _ _).drew;have Gx:=Q0a LF;unfold Q0C at *
 clear h ok he hp hb FH Hg CZ LF;go_enter func216,ntmps216;go_wp2_with fail;go_region;go_wp2_with fail;refine F1.mono ?_;rintro r w'⟨rfl,rfl⟩;go_wp2_with fail;refine Gx.out.mono ?_;rintro r w3⟨rfl,D9,⟨v,Cu⟩,q1,hE⟩;obtain⟨Qq,Vq,b0e,w5,r5,⟨IV,e05,e15⟩,w7,r7,⟨e07,e17⟩,Aj,hz⟩:=hE;have HZ:=Q0a hz;generalize (cutK p.q e.id).ks.length=kl at *
 have Qb:(w3.setCell ⟨p.b,3,none⟩ (.slice (some ⟨g,0,none⟩) kl cap)).drew.cell? ⟨q.f,0,none⟩=some (.map (some q.m)):=Qq;have b0e':(w3.setCell ⟨p.b,3,none⟩ (.slice (some ⟨g,0,none⟩) kl cap)).drew.cell? ⟨w.heap.size,0,none⟩=some (.int .i64 e.id):=b0e;have O3:w5.drew.cell? ⟨q.f,1,none⟩=some (.map (some q.o)):=IV;have e05':w5.drew.cell? ⟨e.b,0,none⟩=some (.int .i64 e.q.sp):=e05;have e15':w5.drew.cell? ⟨e.b,1,none⟩=some (.int .i64 e.q.sl):=e15;clear hz Gx F1 hl OT c0 Sq b0 b0d k2 k3;go_wp2_with fail;go_region;go_wp2_with fail;go_region;have g0:=Aj.cell 0 _ rfl;have g1:=Aj.cell 1 _ rfl
 have gf0:=Aj.free 0;have gf1:=Aj.free 1;have glt:=Aj.lt;clear Aj;go_wp2_with fail;refine bodyPost_ret (v:=.agg #[.int .i64 e.q.sp,.int .i64 e.q.sl]) (by simp[results,results216,go_sem,g0,g1]) rfl ⟨⟨_,rfl⟩,HZ.out _ _⟩
theorem Z3x{w:World}{q:FO}(h:Sep w q.hl)(ok:q.Ok){e:En Nd}(he:find q.N e.id=some e)(hp:find q.N e.q.par=none) :
  Calls prog 216 #[.pointer (some ⟨q.f,0,none⟩),.int .i64 e.id] w fun r w'=>(∃v,r=.returned v)/\Z9i q e w w':=by
 have hb:=Q3a w e.id;have Hg:=(Cells.new w 3 [.int .i64 e.id]).alloc (.cells #[.int .i64 0,.int .i64 0] 173);have b0:=Hg.cell 0 _ rfl;have FH:=(h.grown hb).sep;have c0:=FO.c0 FH;have hl:=FO.look_some FH he;have Sq:(Q0C w e.id).drew.cell? ⟨q.f,0,none⟩=some (.map (some q.m)):=c0;have b0d:(Q0C w e.id).drew.cell? ⟨w.heap.size,0,none⟩=some (.int .i64 e.id):=b0;have OT:=FO.look_some FH.drew he;have F1:=Q4N FH.drew hp;have k2:=(FO.nd0 FH.drew he).2.2.1;have Dc:Cells (Q0C w e.id) (w.heap.size+1) 173 [.int .i64 0,.int .i64 0]:=by
  have:=Cells.new (w.alloc (.cells #[.int .i64 e.id] 3)) 173 [.int .i64 0,.int .i64 0];rw[show(w.alloc (.cells #[.int .i64 e.id] 3)).heap.size=w.heap.size+1 by simp] at this;exact this
 have Aq:∀c∈q.N,c.id≠e.q.par:=fun c hc hx=>by
  have:=Q0k ok.n.ids hc;rw[hx,hp] at this;cases this
 have e1:q.cut e.id=q.dropped e:=by
  unfold FO.cut FO.dropped;rw[Z6G Aq]
 have hE:J1m q q e w (Q0C w e.id).drew:=Q9D h ok ((Below.refl _ _).drew) ((h.grown hb).drew) he ok.n.ids ok.n.spots (fun c hc=>ok.n.sm c hc) e1 rfl rfl rfl rfl b0d Dc (fun _ h=>h);obtain⟨Qq,Vq,b0e,w5,r5,⟨IV,e05,e15⟩,w7,r7,⟨e07,e17⟩,Aj,hz⟩:=hE;have HZ:=Q0a hz;have Qb:(Q0C w e.id).drew.drew.cell? ⟨q.f,0,none⟩=some (.map (some q.m)):=Qq;have b0e':(Q0C w e.id).drew.drew.cell? ⟨w.heap.size,0,none⟩=some (.int .i64 e.id):=b0e;have O3:w5.drew.cell? ⟨q.f,1,none⟩=some (.map (some q.o)):=IV;have e05':w5.drew.cell? ⟨e.b,0,none⟩=some (.int .i64 e.q.sp):=e05;have e15':w5.drew.cell? ⟨e.b,1,none⟩=some (.int .i64 e.q.sl):=e15
 have g0:=Aj.cell 0 _ rfl;have g1:=Aj.cell 1 _ rfl;have gf0:=Aj.free 0;have gf1:=Aj.free 1;have glt:=Aj.lt;clear h ok he hp hb FH Hg Dc Aq e1 hz Aj;unfold Q0C at *
 go_enter func216,ntmps216;go_wp2_with fail;go_region;go_wp2_with fail;refine F1.mono ?_;rintro r w'⟨rfl,rfl⟩;clear F1 hl OT c0 b0 k2;go_wp2_with fail;go_region;go_wp2_with fail;go_region;go_wp2_with fail;refine bodyPost_ret (v:=.agg #[.int .i64 e.q.sp,.int .i64 e.q.sl]) (by simp[results,results216,go_sem,g0,g1]) rfl ⟨⟨_,rfl⟩,HZ.out _ _⟩
theorem Z6O{w:World}{q:FO}(h:Sep w q.hl)(ok:q.Ok){e:En Nd}(he:find q.N e.id=some e) :
  Calls prog 216 #[.pointer (some ⟨q.f,0,none⟩),.int .i64 e.id] w fun r w'=>(∃v,r=.returned v)/\Z9i q e w w':=by
 cases hp:find q.N e.q.par with
 | none=>exact Z3x h ok he hp
 | some p=>exact Z6N h ok he hp
def J2k(q:FO)(e:En Nd)(w w':World):Prop:=∃F':FO,F'.f=q.f/\F'.N=Q0B q.N e e.q.ks.length/\F'.next=q.next/\F'.Ok/\Step q.hl F'.hl w w'
theorem Z6P{w w':World}{q F:FO}{e:En Nd}(ok:q.Ok)(he:find q.N e.id=some e)(L:Z3v q e e.q.ks.length F)(st:Step q.hl (F.hl++ndH q.kr e) w w'):J2k q e w w':=by
 refine⟨F,L.f,L.N,L.next,⟨by rw[L.N,L.next];exact ok.n.lift he,by rw[L.next];exact ok.lim,L.rv,?_⟩,st.drop (J3R _ _)⟩;rw[L.N];unfold Q0B mapE;rw[J4L];exact J3c (Q1G q.N e.id).length_le ok.few
theorem Z3y{q:FO}(ok:q.Ok)(e:En Nd):Z3v q e 0 (q.dropped e):=⟨rfl,rfl,rfl,rfl,rfl,fun c hc=>by
 obtain⟨d,hd,rfl⟩:=Q1w (show c∈mapE _ (rem q.N e.id) from hc);have h0:=ok.rv d (Q8a hd);show rvOk (q.kr d.id) (Q0t e 0 d).ks.length;have D1:(Q0t e 0 d).ks.length<=d.q.ks.length:=by
  unfold Q0t;simp only[J6C,J5i];split
  ·exact J5r _ _
  ·exact J3b _
 cases hk:q.kr d.id with
 | none =>
  rw[hk] at h0;have Dj:d.q.ks.length=0:=h0;show(Q0t e 0 d).ks.length=0;omega
 | some gc =>
  rw[hk] at h0;obtain⟨g,cap⟩:=gc;have Dj:d.q.ks.length<=cap/\cap<=maxLen:=h0;exact⟨by omega,Dj.2⟩⟩
theorem Q9E{w:World}{q:FO}(h:Sep w q.hl)(ok:q.Ok){e:En Nd}(he:find q.N e.id=some e) :
  Calls prog 174 #[.pointer (some ⟨q.f,0,none⟩),.int .i64 e.id] w fun r w'=>(∃v,r=.returned v)/\J2k q e w w':=by
 have ka:=Q2Y h he;obtain⟨Ca,_⟩:=Q0b he;have kd:=Z6O h ok he;have DX:=ok.n.kids_few Ca;have C7:=ok.few;have HD:=Q0a kd;have Ci:=Q0a ok;have HE:=Q0a he;have Ac:e.q.ks.length<=65536:=by omega
 clear kd h ok he Ca;go_enter func174,ntmps174;go_wp2_with fail;refine ka.mono ?_;rintro r w1⟨rfl,rfl⟩;go_wp2_with fail;refine HD.out.mono ?_;rintro r w1⟨⟨v,rfl⟩,st⟩;have Bc:Cells w1 e.b 285 (e.q.cells (q.kr e.id)):=st.sep.right.cells (by simp[ndH]);have c3:=Bc.cell 3 _ rfl;have Br:=Q0a st;have QP:=Q0a (rfl:e.q.ks.length=e.q.ks.length);have Kv:∃(a:Option Addr) (cap:Nat),lvOf (q.kr e.id) e.q.ks.length=.slice a e.q.ks.length cap/\(∀g c,q.kr e.id=some (g,c)->a=some ⟨g,0,none⟩)/\(q.kr e.id=none->e.q.ks.length=0):=by
  have A6:=Ci.out.rv e (Q0b HE.out).1;cases Di:q.kr e.id with
  | none =>
   rw[Di] at A6;have CB:e.q.ks.length=0:=A6;exact⟨none,0,by rw[CB];rfl,fun _ _ h=>by(cases h),fun _=>CB⟩
  | some gc=>exact⟨some ⟨gc.1,0,none⟩,gc.2,rfl,fun g c h=>by cases h;rfl,fun h=>by cases h⟩
 obtain⟨a0,cap,IS,Jx,Bb⟩:=Kv;rw[IS] at c3;have M4:=Q0a Jx;have GJ:=Q0a Bb;have Fg:=Q0a Ac;clear st ka HD Bc IS Jx Bb DX C7;go_wp2_with fail
 go_loopg [26] e.q.ks.length (fun gk iv wr=>∃(j:Nat) (F:FO),iv=.int .i64 j/\j+gk=e.q.ks.length/\Z3v q e j F/\Step q.hl (F.hl++ndH q.kr e) w wr)
 case atStart=>exact⟨0,q.dropped e,rfl,by omega,Z3y Ci.out e,Br.out⟩
 case round =>
  obtain⟨j,F,rfl,Iy,hL,st⟩:=hrel;have HL:=Q0a hL;have Jj:=Q0a Iy;have HS:=Q0a st;by_cases hj:j<e.q.ks.length
  ·obtain⟨k,hk⟩:∃k,e.q.ks[j]?=some k:=⟨e.q.ks[j],J5t hj⟩
   have Au:∃g,a0=some ⟨g,0,none⟩/\wr.cell? ⟨g,j,none⟩=some (.int .i64 k):=by
    cases Di:q.kr e.id with
    | none=>have:=GJ.out Di;omega
    | some gc =>
     have hr:=st.sep.right.tail;rw[Di] at hr;exact⟨gc.1,M4.out gc.1 gc.2 Di,Q0G hr j _ (by rw[J4N,hk];rfl)⟩
   obtain⟨g,rfl,DU⟩:=Au;obtain⟨c,FM,⟨f0,e2,D9,v,Cu⟩,Tn,ee2,Gd⟩:=Q7I Ci.out HE.out hL st.sep hk;obtain⟨c',Ii,⟨f0',e2',PU,v',O9⟩,O2,ee2',-⟩:=Q7I Ci.out HE.out hL st.sep.drew hk;rw[FM] at Ii;obtain rfl:c=c':=J3Z Ii;have KG:F.f=q.f:=hL.f;rw[KG] at f0 f0';have hW:=Gd _ (Below.refl _ _).drew;rw[KG] at hW;have ee2d:(wr.setCell ⟨c.b,2,none⟩ (.int .i64 e.q.par)).drew.cell? ⟨e.b,2,none⟩=some (.int .i64 e.q.par):=ee2;by_cases Bo:find q.N e.q.par=none
   ·obtain⟨F1,F',L',st'⟩:=hW.1 Bo;have PC:=Q0a L';have Qd:=Q0a (st.trans st');have OR:(j:Int)<(e.q.ks.length:Int):=by omega
    have Fw:(0:Int)<=(j:Int):=by omega
    have SR:(j:Int)<65536:=by have:=Fg.out;omega
    generalize e.q.ks.length=n at *
    clear Gd hW FM Ii L' st' hL st hk Iy Ac GJ;go_wp2_with fail;go_region;go_wp2_with fail;refine F1.mono ?_;rintro r w'⟨rfl,rfl⟩;go_wp2_with fail;go_roundg (n-(j+1))
    case measure=>have:=Jj.out;omega
    case rel=>exact⟨j+1,F',by go_num,by have:=Jj.out;omega,PC.out,Qd.out⟩
   ·obtain⟨pb,V,F1,Sn,⟨ua,un,uc,rfl⟩,V',w',rap,⟨va,vn,vc,rfl⟩,VV,pfr,F',L',st'⟩:=hW.2 Bo;have PC:=Q0a L';have Qd:=Q0a (st.trans st');have OR:(j:Int)<(e.q.ks.length:Int):=by omega
    have Fw:(0:Int)<=(j:Int):=by omega
    have SR:(j:Int)<65536:=by have:=Fg.out;omega
    have VM:((wr.setCell ⟨c.b,2,none⟩ (.int .i64 e.q.par)).drew.alloc (.cells #[.int .i64 k] 3)).cell? ⟨pb,3,none⟩=some (.slice ua un uc):=(World.cell?_of_block (Below.heap_alloc _ _ _ (World.block_lt_of_cell? _ ⟨pb,3,none⟩ Sn))).trans Sn;have pf3:=pfr 3;generalize e.q.ks.length=n at *
    clear Gd hW FM Ii L' st' hL st hk Iy Ac GJ pfr;go_wp2_with fail;go_region;go_wp2_with fail;refine F1.mono ?_;rintro r w'⟨rfl,rfl⟩;generalize hW0:(wr.setCell ⟨c.b,2,none⟩ (.int .i64 e.q.par)).drew=W0 at *
    clear f0 e2 D9 Cu Tn ee2 f0' e2' PU O9 O2 ee2' ee2d DU F1 hW0;go_wp2_with (at_builtin;refine Lib.wpList_append_run _ rfl _ _ _ _ rfl _ _ rfl rfl _ _ rap ?_);go_roundg (n-(j+1))
    case measure=>have:=Jj.out;omega
    case rel=>exact⟨j+1,F',by go_num,by have:=Jj.out;omega,PC.out,Qd.out⟩
  ·obtain rfl:j=e.q.ks.length:=by omega
   have HR:=Q0a (Z6P Ci.out HE.out hL st);generalize e.q.ks.length=n at *
   clear hL st Ac;go_wp2_with fail
   (try go_ret);exact⟨⟨_,rfl⟩,HR.out⟩
end Go.Proofs.YtfidemmgofcnmaaGreatDoor
