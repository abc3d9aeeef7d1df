/- SpaceCharge returns true at every input. No condition. Part of its proof. -/
import Derived.Test.YtfidemmgofcnmaaGreatDoorSc10
import Derived.DeepKeys3
set_option linter.unusedVariables false
namespace Go.Proofs.YtfidemmgofcnmaaGreatDoor
open Go.RowKit Go.Proofs.Tryz
def Q3W (q:QT) (id:Int) (e:En Fa) (b:Nat) (limit:Int):QT:={q with E:=upd q.E id {e.q with given:=e.q.given+limit,kids:=e.q.kids+1}++[⟨q.next,b,⟨limit,0,0,id,0⟩⟩],next:=q.next+1}
def Z0r (w:World) (q:QT) (id:Int) (e:En Fa) (limit:Int) (r:Ending) (w':World):Prop:=r=.returned (.tuple #[.int .i64 q.next,.int .i64 0])/\∃b,Step q.hl (Q3W q id e b limit).hl w w'
def closed (q:QT) (par:Int) (e c:En Fa) (id:Int):QT:={q with E:=rem (upd q.E par {e.q with given:=e.q.given-c.q.limit,kids:=e.q.kids-1}) id}
def Z5A (w:World) (q:QT) (par:Int) (e c:En Fa) (id:Int) (r:Ending) (w':World):Prop:=r=.returned (.int .i64 0)/\Step q.hl (closed q par e c id).hl w w'
theorem Z8j {α:Type} (E:List (En α)) (x:En α) (id:Int) (f:α) (h:x.id≠id):upd (E++[x]) id f=upd E id f++[x]:=by
 simp [upd,h]
theorem QT.next_none {q:QT} (ok:q.Ok):find q.E q.next=none:=by
 cases h:find q.E q.next with
 | none=>rfl
 | some e=>have:=(ok.fa _ e h).2.2.2.2.2.2.2;omega
theorem J0z {q:QT} (ok:q.Ok) (b:Nat) (f:Fa):(q.E++[(⟨q.next,b,f⟩:En Fa)]).Pairwise (fun a b=>a.id≠b.id):=by
 rw [J3n];refine⟨ok.ids,by simp,fun x hx y hy=>?_⟩;rw [J4H] at hy;subst hy;exact Q8u (QT.next_none ok) x hx
theorem QT.carve {w:World} {q:QT} (h:Sep w q.hl) (ok:q.Ok) {id:Int} {e:En Fa} (hf:find q.E id=some e) (limit:Int) (w4:World) (hm:Q0z w4 q.m (put (kvs q.E) q.next (ptr w.heap.size)))
  (hg:((w.setCell ⟨q.t,1,none⟩ (.int .i64 (q.next+1))).alloc (.cells #[.int .i64 limit,.int .i64 0,.int .i64 0,.int .i64 id,.int .i64 0] 147)).grownBy w4 (some q.m)) :
  w4.cell? ⟨e.b,2,none⟩=some (.int .i64 e.q.given)/\w4.cell? ⟨e.b,4,none⟩=some (.int .i64 e.q.kids)/\(∀i,w4.frozen? ⟨e.b,i,none⟩=false) /\
   Step q.hl (Q3W q id e w.heap.size limit).hl w ((w4.setCell ⟨e.b,2,none⟩ (.int .i64 (e.q.given+limit))).setCell ⟨e.b,4,none⟩ (.int .i64 (e.q.kids+1))):=by
 have Aq:=QT.next_none ok;have Aa:q.next≠id:=fun e'=>by rw [e',hf] at Aq;cases Aq
 have s1:Step q.hl ({q with next:=q.next+1}:QT).hl w (w.setCell ⟨q.t,1,none⟩ (.int .i64 (q.next+1))):=Sep.set (A:=[]) (B:=(q.m,isMI (kvs q.E))::facH q.E) h 1 (.int .i64 (q.next+1));have Bj:(w.setCell ⟨q.t,1,none⟩ (.int .i64 (q.next+1))).heap.size=w.heap.size:=by simp [World.setCell]
 have s2:=s1.sep.new 147 [.int .i64 limit,.int .i64 0,.int .i64 0,.int .i64 id,.int .i64 0];rw [Bj] at s2;obtain⟨es,Af,ho,hr⟩:=hm;have s3:=Sep.turn (A:=[(w.heap.size,isC 147 [.int .i64 limit,.int .i64 0,.int .i64 0,.int .i64 id,.int .i64 0]),(q.t,isC 150 [.map (some q.m),.int .i64 (q.next+1)])]) (B:=facH q.E) (q':=isMI (put (kvs q.E) q.next (ptr w.heap.size))) s2.sep hg ⟨_,ho,es,Af,rfl,hr⟩;rw [Z4t q.E q.next w.heap.size ⟨limit,0,0,id,0⟩ Aq] at s3;have s123:=(s1.trans s2).trans s3;obtain⟨q1,Eu⟩:∃q1:QT,q1={q with E:=q.E++[⟨q.next,w.heap.size,⟨limit,0,0,id,0⟩⟩],next:=q.next+1}:=⟨_,rfl⟩
 have s4:Step q.hl q1.hl w w4:=by
  refine s123.perm (J5T _) ?_;rw [Eu];simp only [QT.hl,facH,J6d,J2B,J5g,J4L,J4K,Fa.cells];refine (List.Perm.swap _ _ _).trans (List.Perm.cons _ ?_);refine (List.Perm.swap _ _ _).trans (List.Perm.cons _ ?_);exact (J6g _ _).symm
 have C7:q1.E.Pairwise (fun a b=>a.id≠b.id):=by rw [Eu];exact J0z ok _ _
 have FX:find q1.E id=some e:=by
  rw [Eu];show find (q.E++[_]) id=_;rw [Q1Z,hf]
 have k:=QT.fac s4.sep FX;have s5:=QT.setF s4.sep C7 FX 2 (.int .i64 (e.q.given+limit)) {e.q with given:=e.q.given+limit} rfl;have Io:find (upd q1.E id {e.q with given:=e.q.given+limit}) id=some {e with q:={e.q with given:=e.q.given+limit}}:=Q0h FX _;have Cb:(upd q1.E id {e.q with given:=e.q.given+limit}).Pairwise (fun a b=>a.id≠b.id):=Q0O _ _ (fun a b a' b' _ h1 _ h2 h=>by rw [<- h1,<- h2];exact h) C7;have s6:=QT.setF (q:={q1 with E:=upd q1.E id {e.q with given:=e.q.given+limit}}) s5.sep Cb Io 4 (.int .i64 (e.q.kids+1)) {e.q with given:=e.q.given+limit,kids:=e.q.kids+1} rfl;refine⟨k.cell 2 _ rfl,k.cell 4 _ rfl,k.free,?_⟩
 have:=(s4.trans s5).trans s6;have e1:upd (upd q1.E id {e.q with given:=e.q.given+limit}) id {e.q with given:=e.q.given+limit,kids:=e.q.kids+1}=upd q.E id {e.q with given:=e.q.given+limit,kids:=e.q.kids+1}++[⟨q.next,w.heap.size,⟨limit,0,0,id,0⟩⟩]:=by
  rw [upd_upd,Eu];exact Z8j _ _ _ _ Aa
 rw [e1] at this;rw [Eu] at this;exact this
theorem Z5B {q:QT} (ok:q.Ok) {id:Int} {e:En Fa} (hf:find q.E id=some e) (b:Nat) {limit:Int} (h0:0<=limit) (An:limit<=e.q.limit-(e.q.charged+e.q.given)) (hn:q.next+1<1048576):(Q3W q id e b limit).Ok:=by
 have Aq:=QT.next_none ok;have CQ:=ok.next0;have Aa:q.next≠id:=fun e'=>by rw [e',hf] at Aq;cases Aq
 have Ac:(upd q.E id {e.q with given:=e.q.given+limit,kids:=e.q.kids+1}).Pairwise (fun a b=>a.id≠b.id):=Q0O _ _ (fun a b a' b' _ h1 _ h2 h=>by rw [<- h1,<- h2];exact h) ok.ids;refine⟨?_,by show 0<q.next+1;omega,hn,fun j x hx=>?_⟩
 ·show (upd q.E id _++[_]).Pairwise _;rw [J3n];refine⟨Ac,by simp,fun x hx y hy=>?_⟩;rw [J4H] at hy;subst hy;obtain⟨y,hy,_,h2,_⟩:=Z9S hx;rw [<- h2];exact Q8u Aq y hy
 ·have BS:find (upd q.E id {e.q with given:=e.q.given+limit,kids:=e.q.kids+1}++[⟨q.next,b,⟨limit,0,0,id,0⟩⟩]) j=some x:=hx;show _/\_/\_/\_/\_/\_<q.next+1/\_/\j<q.next+1;obtain⟨f1,f2,f3,f4,f5,f6,f7,f8⟩:=ok.fa id e hf;rw [Q1Z] at BS;by_cases hj:j=id
  ·subst hj;rw [Q0h hf] at BS;cases BS;show 0<=e.q.charged/\0<=e.q.given+limit/\e.q.charged+(e.q.given+limit)<=e.q.limit/\e.q.limit<=_/\0<=e.q.kids+1/\e.q.kids+1<q.next+1/\0<=j/\j<q.next+1;omega
  ·rw [Q0y hj] at BS;cases hc:find q.E j with
   | some y =>
    rw [hc] at BS;cases BS;obtain⟨g1,g2,g3,g4,g5,g6,g7,g8⟩:=ok.fa j x hc;omega
   | none =>
    rw [hc] at BS;simp only at BS;split at BS
    ·rename_i h';cases BS;have VS:j=q.next:=h';show 0<=(0:Int)/\0<=(0:Int)/\(0:Int)+0<=limit/\limit<=1073741824/\0<=(0:Int)/\(0:Int)<q.next+1/\0<=j/\j<q.next+1;omega
    ·cases BS
theorem Z5C {q:QT} (ok:q.Ok) {par id:Int} {e c:En Fa} (he:find q.E par=some e) (hc:find q.E id=some c) (Aa:par≠id) (h1:0<=e.q.given-c.q.limit) (h2:0<=e.q.kids-1) (h3:0<=c.q.limit):(closed q par e c id).Ok:=by
 have Ac:(upd q.E par {e.q with given:=e.q.given-c.q.limit,kids:=e.q.kids-1}).Pairwise (fun a b=>a.id≠b.id):=Q0O _ _ (fun a b a' b' _ h1 _ h2 h=>by rw [<- h1,<- h2];exact h) ok.ids;refine⟨Ac.sublist (Q1y _ _),ok.next0,ok.next1,fun j x hx=>?_⟩;have BS:find (rem (upd q.E par {e.q with given:=e.q.given-c.q.limit,kids:=e.q.kids-1}) id) j=some x:=hx;show _/\_/\_/\_/\_/\_<q.next/\_/\j<q.next;rw [Q2l Ac] at BS;split at BS
 ·cases BS
 ·by_cases hj:j=par
  ·subst hj;rw [Q0h he] at BS;cases BS;obtain⟨f1,f2,f3,f4,f5,f6,f7,f8⟩:=ok.fa j e he;show 0<=e.q.charged/\0<=e.q.given-c.q.limit/\e.q.charged+(e.q.given-c.q.limit)<=e.q.limit/\e.q.limit<=_/\0<=e.q.kids-1/\e.q.kids-1<q.next/\0<=j/\j<q.next;omega
  ·rw [Q0y hj] at BS;exact ok.fa j x BS
theorem QT.close {w:World} {q:QT} (h:Sep w q.hl) (ok:q.Ok) {par id:Int} {e c:En Fa} (he:find q.E par=some e) (hc:find q.E id=some c) (w4:World) (hm:Q0z w4 q.m (del (kvs q.E) id))
  (hg:((w.setCell ⟨e.b,2,none⟩ (.int .i64 (e.q.given-c.q.limit))).setCell ⟨e.b,4,none⟩ (.int .i64 (e.q.kids-1))).grownBy w4 (some q.m)):Step q.hl (closed q par e c id).hl w w4:=by
 have s1:=QT.setF h ok.ids he 2 (.int .i64 (e.q.given-c.q.limit)) {e.q with given:=e.q.given-c.q.limit} rfl;have Io:find (upd q.E par {e.q with given:=e.q.given-c.q.limit}) par=some {e with q:={e.q with given:=e.q.given-c.q.limit}}:=Q0h he _;have Cb:(upd q.E par {e.q with given:=e.q.given-c.q.limit}).Pairwise (fun a b=>a.id≠b.id):=Q0O _ _ (fun a b a' b' _ h1 _ h2 h=>by rw [<- h1,<- h2];exact h) ok.ids;have s2:=QT.setF (q:={q with E:=upd q.E par {e.q with given:=e.q.given-c.q.limit}}) s1.sep Cb Io 4 (.int .i64 (e.q.kids-1)) {e.q with given:=e.q.given-c.q.limit,kids:=e.q.kids-1} rfl;have s12:=s1.trans s2
 rw [show upd (upd q.E par {e.q with given:=e.q.given-c.q.limit}) par {e.q with given:=e.q.given-c.q.limit,kids:=e.q.kids-1}=upd q.E par {e.q with given:=e.q.given-c.q.limit,kids:=e.q.kids-1} from upd_upd _ _ _ _] at s12;obtain⟨es,Af,ho,hr⟩:=hm;have s3:=Sep.turn (A:=[(q.t,isC 150 [.map (some q.m),.int .i64 q.next])]) (B:=facH (upd q.E par {e.q with given:=e.q.given-c.q.limit,kids:=e.q.kids-1})) (q':=isMI (del (kvs q.E) id)) s12.sep hg ⟨_,ho,es,Af,rfl,hr⟩;have s4:=s12.trans s3;rw [Q7J,show kvs (rem q.E id)=kvs (rem (upd q.E par {e.q with given:=e.q.given-c.q.limit,kids:=e.q.kids-1}) id) by rw [<- Q7J,<- Q7J,Z4u]] at s4
 refine s4.drop ?_;show List.Sublist (_::_::facH (rem _ id)) (_::_::facH _);refine List.Sublist.cons_cons _ (List.Sublist.cons_cons _ ?_);exact (Q1y _ _).map _
def Q0x (e:En Fa):Int:=e.q.limit-(e.q.charged+e.q.given)
def two (x:Nat) (e:Int):Ending:=.returned (.tuple #[.int .u32 x,.int .i64 e])
structure MadeOk (S:CO) (fr:List Nat) (f:Pl) (e:En Fa) (n a:Nat) (lim:Int) (x:Nat) (i:Nat) (p:Pl) (P':PL) (fr':List Nat):Prop where
 inv:Inv P' (S.l.set i ⟨n,a,f.own,1,p.age,x⟩) fr' S.xc (S.ts.map Prod.fst)
 same:SameP S.P P'
 kept:KeptL S.P.a.mem P'.a.mem S.l
 next:P'.q.next<=S.P.q.next+1
 fac:n≠1->P'.q.E=upd S.P.q.E f.own {e.q with charged:=e.q.charged+((costK n:Nat):Int)}
 fac1:n=1->(x:Int)=S.P.q.next/\P'.q.next=S.P.q.next+1/\∃b,P'.q.E=upd S.P.q.E f.own {e.q with charged:=e.q.charged+64,given:=e.q.given+lim,kids:=e.q.kids+1}++[⟨x,b,⟨lim,0,0,f.own,0⟩⟩]
 zero:n≠1->∀j,a<=j->j<a+costK n->P'.a.mem[j]?=some 0
 few:P'.d.ps.length<=S.P.d.ps.length+1
 high:∀j,6<=j->(P'.usedOf j).Perm (S.P.usedOf j)
 memH:Z5h S.P P'
 room:a+costK n<=S.P.a.mem.length
def CO.made (S:CO) (f:Pl) (n a x i:Nat) (p:Pl) (P':PL):CO:=(S.setP P').setL (S.l.set i ⟨n,a,f.own,1,p.age,x⟩)
def J1C (S:CO) (fr:List Nat) (f:Pl) (e:En Fa) (n:Nat) (lim:Int) (w:World) (r:Ending) (w':World):Prop:=
 (Q0x e<((costK n:Nat):Int)/\r=two 0 5/\Step S.hl S.hl w w') ∨
 (((costK n:Nat):Int)<=Q0x e/\NoPage S.P/\r=two 0 4/\Step S.hl S.hl w w') ∨
 (((costK n:Nat):Int)<=Q0x e/\∃(er:Int) (P':PL),((er=11/\((∀p∈S.l,p.st≠0)∨n=1/\S.P.q.E.length=32))∨(er=5/\n=1/\Q0x e-64<lim))/\Tried S.P fr S.l P'/\r=two 0 er/\Step S.hl (S.setP P').hl w w') ∨
 (∃(i:Nat) (p:Pl) (a x:Nat) (P':PL) (fr':List Nat),S.l[i]?=some p/\p.st=0/\(∀j q,j<i->S.l[j]?=some q->q.st≠0)/\((costK n:Nat):Int)<=Q0x e/\r=two (nm i p) 0/\MadeOk S fr f e n a lim x i p P' fr'/\Step S.hl (S.made f n a x i p P').hl w w')
def MakeR (S:CO) (fr:List Nat) (h:Nat) (k lim:Int) (w:World) (r:Ending) (w':World):Prop:=
 (pget S.l 1 h=none/\r=two 0 8/\Step S.hl S.hl w w') ∨
 ∃f,pget S.l 1 h=some f/\((f.kind≠1/\r=two 0 10/\Step S.hl S.hl w w') ∨
  (f.kind=1/\(¬(k=8∨1<=k/\k<=5)∨k=1/\lim<0)/\r=two 0 1/\Step S.hl S.hl w w') ∨
  ∃(n:Nat) (e:En Fa),k=(n:Int)/\f.kind=1/\(n=8∨1<=n/\n<=5)/\(n=1->0<=lim)/\find S.P.q.E f.own=some e/\J1C S fr f e n lim w r w')
def J0A (S:CO) (h:Nat) (w:World) (r:Ending) (w':World):Prop:=
 (pget S.l 1 h=none/\r=.returned (.int .i64 8)/\Step S.hl S.hl w w') ∨
 (pget S.l 1 h≠none/\h=0/\r=.returned (.int .i64 1)/\Step S.hl S.hl w w') ∨
 (pget S.l 1 h≠none/\h≠0/\kids S.l h≠[]/\r=.returned (.int .i64 12)/\Step S.hl S.hl w w') ∨
 (∃p rv,pget S.l 1 h=some p/\h≠0/\kids S.l h=[]/\ovOk rv (S.ts.length+1)/\r=.returned (.int .i64 0)/\Step S.hl (S.doomed h p rv).hl w w')
def TickR (S:CO) (fr:List Nat) (N K:Nat) (w:World) (r:Ending) (w':World):Prop:=
 ∃(rv:OV) (S':CO) (fr':List Nat) (v:Value),r=.returned v/\w'.ownsRow w.heap.size 58 1 v (dueN S).length (Q1b (dueN S))/\ovOk rv (dueT S).length/\Ticked (S.setG (S.now+1) rv (dueT S)) S' (dueN S)/\S'.Ok fr' N (K+1) /\
  Step S.hl S'.hl w w'/\∀b∈keys S'.hl,v.ownBlock≠some b
theorem CO.Ok.mono {S:CO} {fr:List Nat} {N N' K K':Nat} (ok:S.Ok fr N K) (h1:N<=N') (h2:K<=K'):S.Ok fr N' K':=
 ⟨ok.inv,ok.per,ok.due,ok.ord,ok.ov,by have:=ok.next;omega,J2z ok.now h2,ok.age⟩
theorem MadeOk.ok {S:CO} {fr:List Nat} {N K:Nat} (ok:S.Ok fr N K) {f:Pl} {e:En Fa} {n a x i:Nat} {lim:Int} {p:Pl} {P':PL} {fr':List Nat} (m:MadeOk S fr f e n a lim x i p P' fr') (hi:S.l[i]?=some p):(S.made f n a x i p P').Ok fr' (N+1) K:=
 ok.made m.inv (by have:=m.next;have:=ok.next;omega) (Z5m ok.age (ok.age p (J4O hi)))
theorem MadeOk.went {S:CO} {fr:List Nat} {N K:Nat} (ok:S.Ok fr N K) {f:Pl} {e:En Fa} {n a x i:Nat} {lim:Int} {p:Pl} {P':PL} {fr':List Nat} (m:MadeOk S fr f e n a lim x i p P' fr') (hi:S.l[i]?=some p) (hp:p.st=0):Went S (S.made f n a x i p P'):=
 Went.made ok m.same hi hp rfl m.kept m.high m.memH
def xcP (tb:Nat->TB) (id:Int) (i:Nat) (o:Option Pl):Int:=match o with
 | some p=>if (p.fac:Int)=id then (tb i).cost else 0
 | none=>0
def xcOf (l:List Pl) (tb:Nat->TB) (id:Int):Int:=((List.range 256).map fun i=>xcP tb id i l[i]?).sum
def Q3e (tb:Nat->TB):List Nat:=(List.range 256).flatMap fun i=>(tb i).lvs
def Q4c (tb:Nat->TB):List Nat:=(List.range 256).flatMap fun i=>(tb i).nds
structure TPI (S:CO) (tb:Nat->TB):Prop where
 tin:∀(i:Nat) (p:Pl),S.l[i]?=some p->p.st=1->p.kind=2->(tb i).In S.P.a.mem p.at_
 full:∀i,i<256->(tb i).Full
 nil:∀(i:Nat) (p:Pl),S.l[i]?=some p->¬(p.st=1/\p.kind=2)->(tb i).Nil
 lvs:(Q3e tb).Perm (S.P.usedOf 7)
 nds:(Q4c tb).Perm (S.P.usedOf 6)
 xc:∀id,S.xc id=xcOf S.l tb id
theorem Q3f {n:Nat} {f g:Nat->Int} (h:∀i,i<n->f i=g i):((List.range n).map f).sum=((List.range n).map g).sum:=by
 congr 1;exact J4J fun i hi=>h i (J2P.1 hi)
theorem Q7l {l l':List Pl} {tb tb':Nat->TB} {id:Int} (h:∀i,i<256->xcP tb id i l[i]?=xcP tb' id i l'[i]?):xcOf l tb id=xcOf l' tb' id:=Q3f h
theorem Z1G {l:List Pl} {tb:Nat->TB} {i:Nat} {q:Pl} (hi:i<l.length) (hn:(tb i).Nil) (id:Int):xcOf (l.set i q) tb id=xcOf l tb id:=by
 refine Q7l fun j hj=>?_
 by_cases e:i=j
 ·subst e;have h0:=(TB.Nil.lists hn).2.2;have hp:∀o,xcP tb id i o=0:=fun o=>by
   unfold xcP;cases o with
   | none=>rfl
   | some p=>simp only [h0];split <;> rfl
  rw [hp,hp]
 ·rw [J6h e]
theorem Q2O:Q0c 7=256:=rfl
theorem Q5a:Q0c 6=48:=rfl
theorem Z5D:costK 2=128:=rfl
theorem TPI.leaf {S:CO} {tb:Nat->TB} (t:TPI S tb) {i k:Nat} (hi:i<256) (hk:k<16) (h:(tb i).lf k≠0):(tb i).lf k∈S.P.usedOf 7:=by
 refine t.lvs.mem_iff.1 (J2Z.2 ⟨i,J2P.2 hi,mem_lvs.2 ⟨k,hk,rfl,h⟩⟩)
theorem Q1p {l:List Pl} (hl:l.length=256) {i:Nat} {p:Pl} (h:l[i]?=some p):i<256:=by
 have:=(J2Q.1 h).1;omega
theorem TPI.tin_kept {S:CO} {tb:Nat->TB} (hl:S.l.length=256) (t:TPI S tb) {m:List Nat} (k1:∀(i:Nat) (p:Pl),S.l[i]?=some p->p.st=1->p.kind=2->Kept S.P.a.mem m p.at_ 128) (k2:∀a,a∈S.P.usedOf 7->Kept S.P.a.mem m a 256) {i:Nat} {p:Pl} (hi:S.l[i]?=some p) (h1:p.st=1) (h2:p.kind=2):(tb i).In m p.at_:=
 (t.tin i p hi h1 h2).kept (k1 i p hi h1 h2) fun k hk Aa=>k2 _ (t.leaf (Q1p hl hi) hk Aa)
theorem TPI.tried {S:CO} {tb:Nat->TB} {fr:List Nat} {N K:Nat} (ok:S.Ok fr N K) (t:TPI S tb) {P':PL} (h:Tried S.P fr S.l P'):TPI (S.setP P') tb:=by
 refine⟨fun i p hi h1 h2=>?_,t.full,t.nil,t.lvs.trans (h.used 7).symm,t.nds.trans (h.used 6).symm,t.xc⟩;refine t.tin_kept ok.inv.len (fun j q hj q1 q2=>?_) (fun a ha=>h.memH 7 a (by omega) ha) hi h1 h2;have:=h.mem q (J4O hj) (Pl.is_iff.2 (.inl q1));rw [q2] at this;exact this
theorem TPI.made {S:CO} {tb:Nat->TB} {fr fr':List Nat} {N K:Nat} (ok:S.Ok fr N K) (t:TPI S tb) {f p:Pl} {e:En Fa} {n a x i:Nat} {lim:Int} {P':PL} (m:MadeOk S fr f e n a lim x i p P' fr') (hi:S.l[i]?=some p) (hp:p.st=0):TPI (S.made f n a x i p P') tb:=by
 have Am:=Q1p ok.inv.len hi;have BK:=t.nil i p hi (by omega);have Ab:i<S.l.length:=(J2Q.1 hi).1;refine⟨fun j q hj q1 q2=>?_,t.full,fun j q hj hq=>?_,t.lvs.trans (m.high 7 (by omega)).symm,t.nds.trans (m.high 6 (by omega)).symm,fun id=>?_⟩
 ·have Bl:(S.l.set i ⟨n,a,f.own,1,p.age,x⟩)[j]?=some q:=hj;by_cases e:i=j
  ·subst e;rw [J6p Ab] at Bl;cases Bl;have TH:n=2:=q2;refine BK.new fun y h1 h2=>m.zero (by omega) y h1 ?_
   rw [TH,Z5D];exact h2
  ·rw [J6h e] at Bl;refine t.tin_kept ok.inv.len (fun k r hk r1 r2=>?_) (fun b hb=>m.memH 7 b (by omega) hb) Bl q1 q2;have:=m.kept r (J4O hk) (Pl.is_iff.2 (.inl r1));rw [r2] at this;exact this
 ·have Bl:(S.l.set i ⟨n,a,f.own,1,p.age,x⟩)[j]?=some q:=hj;by_cases e:i=j
  ·subst e;exact BK
  ·rw [J6h e] at Bl;exact t.nil j q Bl hq
 ·show S.xc id=xcOf (S.l.set i _) tb id;rw [Z1G Ab BK,t.xc]
theorem TPI.spare {S:CO} {tb:Nat->TB} {fr:List Nat} {N K:Nat} (ok:S.Ok fr N K) (t:TPI S tb) {h:Nat} {p:Pl} (hp:pget S.l 1 h=some p) (hn:(tb (h%256)).Nil):S.Spare h p:=by
 obtain⟨hi,_,_⟩:=pget_some.1 hp;intro id Aa;rw [t.xc] at Aa
 -- some place has what counts
 have UA:∃j,j<256/\xcP tb id j S.l[j]?≠0:=by
  apply Classical.byContradiction
  intro Aq
  apply Aa
  have h0:xcOf S.l tb id=((List.range 256).map fun _=>(0:Int)).sum:=Q3f fun j hj=>Classical.byContradiction fun h=>Aq ⟨j,hj,h⟩
  rw [h0];have z:∀l:List Nat,(l.map fun _=>(0:Int)).sum=0:=fun l=>by
   induction l with
   | nil=>rfl
   | cons a r ih=>rw [J2B,J6m,ih];rfl
  exact z _
 obtain⟨j,hj,hx⟩:=UA;unfold xcP at hx;cases hl:S.l[j]? with
 | none=>rw [hl] at hx;exact absurd rfl hx
 | some r =>
  rw [hl] at hx;simp only at hx;split at hx
  ·rename_i hf;have El:¬(tb j).Nil:=fun h=>hx (TB.Nil.lists h).2.2
   have BQ:r.st=1/\r.kind=2:=Classical.byContradiction fun h=>El (t.nil j r hl h)
   have Br:h%256≠j:=fun e=>El (by rw [<- e];exact hn)
   exact⟨r,J4O (i:=j) (by rw [J6h Br];exact hl),BQ.1,hf⟩
  ·exact absurd rfl hx
theorem TPI.doomed {S:CO} {tb:Nat->TB} {fr:List Nat} {N K:Nat} (ok:S.Ok fr N K) (t:TPI S tb) {h:Nat} {p:Pl} (hp:pget S.l 1 h=some p) (hn:(tb (h%256)).Nil) (rv:OV):TPI (S.doomed h p rv) tb:=by
 obtain⟨hi,_,_⟩:=pget_some.1 hp;have Ab:h%256<S.l.length:=(J2Q.1 hi).1;refine⟨fun j q hj q1 q2=>?_,t.full,fun j q hj hq=>?_,t.lvs,t.nds,fun id=>?_⟩
 ·have Bl:(S.l.set (h%256) {p with st:=2})[j]?=some q:=hj;by_cases e:h%256=j
  ·subst e;rw [J6p Ab] at Bl;cases Bl;cases q1
  ·rw [J6h e] at Bl;exact t.tin j q Bl q1 q2
 ·have Bl:(S.l.set (h%256) {p with st:=2})[j]?=some q:=hj;by_cases e:h%256=j
  ·subst e;exact hn
  ·rw [J6h e] at Bl;exact t.nil j q Bl hq
 ·show S.xc id=xcOf (S.l.set (h%256) _) tb id;rw [Z1G Ab hn,t.xc]
theorem TPI.ticked {S S':CO} {tb:Nat->TB} {D:List Nat} (hl:S.l.length=256) (Hd:S'.l.length=256) (t:TPI S tb) (BQ:∀x,pget S'.l 1 x=pget S.l 1 x) (Az:S'.P.a.mem=S.P.a.mem) (hhigh:∀j,6<=j->(S'.P.usedOf j).Perm (S.P.usedOf j)) (hxc:S'.xc=S.xc):TPI S' tb:=by
 have fwd:∀(i:Nat) (p:Pl),S.l[i]?=some p->p.st=1->S'.l[i]?=some p:=fun i p hi h1=>by
  have Am:=Q1p hl hi;have:pget S.l 1 (nm i p)=some p:=pget_some.2 ⟨by rw [Q1m Am];exact hi,by rw [Q1m Am],h1⟩;rw [<- BQ] at this;have:=(pget_some.1 this).1
  rwa [Q1m Am] at this
 have bwd:∀(i:Nat) (p:Pl),S'.l[i]?=some p->p.st=1->S.l[i]?=some p:=fun i p hi h1=>by
  have Am:=Q1p Hd hi;have:pget S'.l 1 (nm i p)=some p:=pget_some.2 ⟨by rw [Q1m Am];exact hi,by rw [Q1m Am],h1⟩;rw [BQ] at this;have:=(pget_some.1 this).1
  rwa [Q1m Am] at this
 have same:∀i,i<256->(tb i).Nil∨S'.l[i]?=S.l[i]?:=fun i hi=>by
  have hp:S.l[i]?=some (S.l[i]'(by omega)):=J4R _;by_cases h:(S.l[i]'(by omega)).st=1/\(S.l[i]'(by omega)).kind=2
  ·right;rw [fwd i _ hp h.1,hp]
  ·exact .inl (t.nil i _ hp h)
 refine⟨fun i p hi h1 h2=>?_,t.full,fun i p hi h=>?_,t.lvs.trans (hhigh 7 (by omega)).symm,t.nds.trans (hhigh 6 (by omega)).symm,fun id=>?_⟩
 ·rw [Az];exact t.tin i p (bwd i p hi h1) h1 h2
 ·rcases same i (Q1p Hd hi) with hn|e
  ·exact hn
  ·rw [e] at hi;exact t.nil i p hi h
 ·rw [hxc,t.xc];refine Q7l fun i hi=>?_
  rcases same i hi with hn|e
  ·have h0:=(TB.Nil.lists hn).2.2;have hp:∀o,xcP tb id i o=0:=fun o=>by
    unfold xcP;cases o with
    | none=>rfl
    | some p=>simp only [h0];split <;> rfl
   rw [hp,hp]
  ·rw [e]
def CO.paid (S:CO) (P':PL) (own:Int) (d:Int):CO:={S with P:=P',xc:=fun id=>if id=own then S.xc id+d else S.xc id}
theorem TreI.pay {E:List (En Fa)} {l:List Pl} {xc:Int->Int} (t:TreI E l xc) (Ac:E.Pairwise (fun a b=>a.id≠b.id)) {own:Int} {e:En Fa} (hf:find E own=some e) (d:Int):TreI (upd E own {e.q with charged:=e.q.charged+d}) l (fun id=>if id=own then xc id+d else xc id):=by
 have Hc:∀a,Q1v (upd E own {e.q with charged:=e.q.charged+d}) a=Q1v E a:=fun a=>Q1N Ac hf _ _ rfl
 have FS:∀a,Q1Q (upd E own {e.q with charged:=e.q.charged+d}) a=Q1Q E a:=fun a=>Q1N Ac hf _ _ rfl
 refine⟨by rw [Q1o];exact t.ids,fun p hp Ap=>?_,fun p hp Ap hk x hx=>?_,fun id x hx=>?_,fun id x hx=>?_⟩
 ·obtain⟨y,hy⟩:=t.fac p hp Ap;exact Q0Z _ hy
 ·obtain⟨y,hy,h1,h2⟩:=Q0q _ hf hx;have:=t.par p hp Ap hk y hy;by_cases hid:(p.own:Int)=own
  ·obtain⟨rfl,e2⟩:=h1 hid;rw [e2];exact this
  ·rw [h2 hid];exact this
 ·obtain⟨y,hy,h1,h2⟩:=Q0q _ hf hx;have:=t.charged id y hy;by_cases hid:id=own
  ·obtain⟨rfl,e2⟩:=h1 hid;rw [e2,if_pos hid];show y.q.charged+d=_;omega
  ·rw [h2 hid,if_neg hid];exact this
 ·obtain⟨y,hy,h1,h2⟩:=Q0q _ hf hx;have:=t.given id y hy;rw [Hc,FS];by_cases hid:id=own
  ·obtain⟨rfl,e2⟩:=h1 hid;rw [e2];exact this
  ·rw [h2 hid];exact this
theorem CO.Ok.paid {S:CO} {fr:List Nat} {N K:Nat} (ok:S.Ok fr N K) {P':PL} {own:Int} {e:En Fa} {d:Int} (Bh:P'.Ok fr) (he:find S.P.q.E own=some e) (hE:P'.q={S.P.q with E:=upd S.P.q.E own {e.q with charged:=e.q.charged+d}}) (hu:∀j,1<=j->j<=5->P'.usedOf j=S.P.usedOf j) (hw:∀b∈S.P.usedOf 1,Q0u P'.a.mem b=Q0u S.P.a.mem b)
  (El:0<=S.xc own+d) (BQ:S.xc own+d≠0->∃p∈S.l,p.st=1/\(p.fac:Int)=own):(S.paid P' own d).Ok fr N K:=by
 have v:=ok.inv;refine⟨⟨v.len,v.st,v.mem.same Bh hu hw,?_,?_⟩,ok.per,ok.due,ok.ord,ok.ov,?_,ok.now,ok.age⟩
 ·show TreI P'.q.E S.l _;rw [hE];exact v.tre.pay v.mem.pool.q.ids he d
 ·refine⟨v.que.root,v.que.live,fun id=>?_,v.que.nd,v.que.has,v.que.ord⟩;show 0<=(if id=own then S.xc id+d else S.xc id)/\((if id=own then S.xc id+d else S.xc id)≠0->_);split
  ·rename_i h;subst h;exact⟨El,BQ⟩
  ·exact v.que.xc id
 ·show P'.q.next<=N;rw [hE];exact ok.next
theorem CO.Ok.stored {S:CO} {fr:List Nat} {N K:Nat} (ok:S.Ok fr N K) {m:List Nat} (hl:m.length=S.P.a.mem.length) (hb:∀b∈m,b<256) (hw:∀b∈S.P.usedOf 1,Q0u m b=Q0u S.P.a.mem b):(S.setP (S.P.setA m)).Ok fr N K:=by
 have v:=ok.inv;exact⟨⟨v.len,v.st,v.mem.same (PL.ok_setA v.mem.pool hl hb) (fun _ _ _=>rfl) hw,v.tre,v.que⟩,ok.per,ok.due,ok.ord,ok.ov,ok.next,ok.now,ok.age⟩
structure TPX (S:CO) (tb:Nat->TB) (own:Int) (xl xn:List Nat):Prop where
 tin:∀(i:Nat) (p:Pl),S.l[i]?=some p->p.st=1->p.kind=2->(tb i).In S.P.a.mem p.at_
 nil:∀(i:Nat) (p:Pl),S.l[i]?=some p->¬(p.st=1/\p.kind=2)->(tb i).Nil
 lvs:(xl++Q3e tb).Perm (S.P.usedOf 7)
 nds:(xn++Q4c tb).Perm (S.P.usedOf 6)
 xc:∀id,S.xc id=xcOf S.l tb id+if id=own then 256*(xl.length:Int)+48*(xn.length:Int) else 0
theorem TPI.x {S:CO} {tb:Nat->TB} (t:TPI S tb) (own:Int):TPX S tb own [] []:=⟨t.tin,t.nil,t.lvs,t.nds,fun id=>by rw [t.xc];simp⟩
theorem TPX.done {S:CO} {tb:Nat->TB} {own:Int} (t:TPX S tb own [] []) (hf:∀i,i<256->(tb i).Full):TPI S tb:=⟨t.tin,hf,t.nil,t.lvs,t.nds,fun id=>by rw [t.xc];simp⟩
theorem TPX.leaf {S:CO} {tb:Nat->TB} {own:Int} {xl xn:List Nat} (t:TPX S tb own xl xn) {i k:Nat} (hi:i<256) (hk:k<16) (h:(tb i).lf k≠0):(tb i).lf k∈S.P.usedOf 7:=
 t.lvs.mem_iff.1 (J3u _ (J2Z.2 ⟨i,J2P.2 hi,mem_lvs.2 ⟨k,hk,rfl,h⟩⟩))
theorem TPX.tin_kept {S:CO} {tb:Nat->TB} {own:Int} {xl xn:List Nat} (hl:S.l.length=256) (t:TPX S tb own xl xn) {m:List Nat} (k1:∀(i:Nat) (p:Pl),S.l[i]?=some p->p.st=1->p.kind=2->Kept S.P.a.mem m p.at_ 128) (k2:∀a,a∈S.P.usedOf 7->Kept S.P.a.mem m a 256) {i:Nat} {p:Pl} (hi:S.l[i]?=some p) (h1:p.st=1) (h2:p.kind=2):(tb i).In m p.at_:=
 (t.tin i p hi h1 h2).kept (k1 i p hi h1 h2) fun k hk Aa=>k2 _ (t.leaf (Q1p hl hi) hk Aa)
theorem Q1J {S:CO} {fr:List Nat} {N K:Nat} (ok:S.Ok fr N K) {i:Nat} {p:Pl} (hi:S.l[i]?=some p) (h1:p.st=1) (h2:p.kind=2):p.at_∈S.P.usedOf 2:=by
 have:=ok.inv.mem.used (J4O hi) (Pl.is_iff.2 (.inl h1)) (by omega)
 rwa [h2] at this
theorem GotM.kept {P P':PL} {fr fr':List Nat} {own:Int} {k a:Nat} (g:GotM P fr own k a P' fr') (ok:P.Ok fr) {j b:Nat} (hb:b∈P.usedOf j):Kept P.a.mem P'.a.mem b (Q0c j):=by
 have:=(g.apart ok).1 j b hb;rw [g.mem];exact Q1D (by rw [J2I];exact g.room.1) (by rw [J2I];omega)
theorem Z9D:∀{l:List Int},(∀x∈l,0<=x)->0<=l.sum
 | [],_=>J6E _
 | x::r,h=>by
  have:=Z9D (l:=r) fun y hy=>h y (by simp [hy])
  have:=h x (by simp);rw [J6m];omega
theorem Z0s (l:List Pl) (tb:Nat->TB) (id:Int):0<=xcOf l tb id:=by
 refine Z9D fun x hx=>?_
 obtain⟨i,_,rfl⟩:=J2E.1 hx;unfold xcP;split
 ·split
  ·exact TB.cost_nn _
  ·exact J6E _
 ·exact J6E _
section
variable {S:CO} {fr:List Nat} {N K:Nat} {tb:Nat->TB} {own:Int} {xl xn:List Nat}
theorem TPX.got {n a:Nat} {P':PL} (ok:S.Ok fr N K) (t:TPX S tb own xl xn) (hn:n=6∨n=7) (g:GetOk S.P fr own n a P') (Ah:∃p∈S.l,p.st=1/\(p.fac:Int)=own) :
  (S.paid P' own ((Q0c n:Nat):Int)).Ok fr N K/\TPX (S.paid P' own ((Q0c n:Nat):Int)) tb own (if n=7 then a::xl else xl) (if n=6 then a::xn else xn):=by
 have gm:=g.gotM ok.inv.mem.pool;have D1:costK n=Q0c n:=Q1R (by omega);obtain⟨e,q1,q2,q3⟩:=g.q;have Vm:=(ok.inv.que.xc own).1;refine⟨ok.paid g.ok q1 q3 (fun j h1 h5=>g.other j (by omega)) (fun b hb=>?_) (by omega) (fun _=>Ah),?_,t.nil,?_,?_,fun id=>?_⟩
 ·have:=gm.kept ok.inv.mem.pool hb;exact (this.sub (b:=b) (k:=8) (J2y _) (by show b+8<=b+64;omega)).word
 ·intro i p hi h1 h2;refine t.tin_kept ok.inv.len (fun j q hj q1 q2=>?_) (fun b hb=>gm.kept ok.inv.mem.pool hb) hi h1 h2;exact gm.kept ok.inv.mem.pool (Q1J ok hj q1 q2)
 ·show (_++Q3e tb).Perm (P'.usedOf 7);by_cases h7:n=7
  ·subst h7;rw [if_pos rfl];exact (List.Perm.cons a t.lvs).trans (gm.used (by omega)).symm
  ·rw [if_neg h7,g.other 7 (by omega)];exact t.lvs
 ·show (_++Q4c tb).Perm (P'.usedOf 6);by_cases h6:n=6
  ·subst h6;rw [if_pos rfl];exact (List.Perm.cons a t.nds).trans (gm.used (by omega)).symm
  ·rw [if_neg h6,g.other 6 (by omega)];exact t.nds
 ·show (if id=own then S.xc id+_ else S.xc id)=xcOf S.l tb id+_;by_cases hid:id=own
  ·subst hid;rw [if_pos rfl,t.xc,if_pos rfl,if_pos rfl];rcases hn with rfl|rfl
   ·simp [Q5a];omega
   ·simp [Q2O];omega
  ·rw [if_neg hid,t.xc,if_neg hid,if_neg hid]
theorem TPX.put {n a:Nat} {P':PL} (ok:S.Ok fr N K) (hn:n=6∨n=7) (t:TPX S tb own (if n=7 then a::xl else xl) (if n=6 then a::xn else xn)) (g:PutOk S.P fr own n a P') (Ah:∃p∈S.l,p.st=1/\(p.fac:Int)=own) :
  (S.paid P' own (-((Q0c n:Nat):Int))).Ok fr N K/\TPX (S.paid P' own (-((Q0c n:Nat):Int))) tb own xl xn:=by
 have bm:=g.backM ok.inv.mem.pool;obtain⟨e,q1,q2,q3⟩:=g.q;have Az:P'.a.mem=S.P.a.mem:=by rw [g.aa]
 have Mr:P'.q={S.P.q with E:=upd S.P.q.E own {e.q with charged:=e.q.charged + -((Q0c n:Nat):Int)}}:=by rw [q3,Int.sub_eq_add_neg]
 have Vm:=Z0s S.l tb own;have Ju:=t.xc own;rw [if_pos rfl] at Ju;refine⟨ok.paid g.ok q1 Mr (fun j h1 h5=>g.other j (by omega)) (fun b hb=>by rw [Az]) ?_ (fun _=>Ah),?_,t.nil,?_,?_,fun id=>?_⟩
 ·rcases hn with rfl|rfl
  ·simp [Q5a] at Ju ⊢;omega
  ·simp [Q2O] at Ju ⊢;omega
 ·intro i p hi h1 h2;show (tb i).In P'.a.mem p.at_;rw [Az];exact t.tin i p hi h1 h2
 ·show (xl++Q3e tb).Perm (P'.usedOf 7);by_cases h7:n=7
  ·subst h7;have h1:=t.lvs;rw [if_pos rfl] at h1;exact J6n (h1.trans (bm.used (by omega)))
  ·have h1:=t.lvs;rw [if_neg h7] at h1;rw [g.other 7 (by omega)];exact h1
 ·show (xn++Q4c tb).Perm (P'.usedOf 6);by_cases h6:n=6
  ·subst h6;have h1:=t.nds;rw [if_pos rfl] at h1;exact J6n (h1.trans (bm.used (by omega)))
  ·have h1:=t.nds;rw [if_neg h6] at h1;rw [g.other 6 (by omega)];exact h1
 ·show (if id=own then S.xc id+_ else S.xc id)=xcOf S.l tb id+_;have hx:=t.xc id;by_cases hid:id=own
  ·subst hid;rw [if_pos rfl] at hx ⊢;rw [hx,if_pos rfl];rcases hn with rfl|rfl
   ·simp [Q5a];omega
   ·simp [Q2O];omega
  ·rw [if_neg hid] at hx ⊢;rw [hx,if_neg hid]
end
def updT (tb:Nat->TB) (i:Nat) (t:TB):Nat->TB:=fun j=>if j=i then t else tb j
theorem updT_same (tb:Nat->TB) (i:Nat) (t:TB):updT tb i t i=t:=by unfold updT;rw [if_pos rfl]
theorem Q0X {tb:Nat->TB} {i j:Nat} {t:TB} (h:j≠i):updT tb i t j=tb j:=by unfold updT;rw [if_neg h]
theorem Z1H (i:Nat) (hi:i<256):∃A B,List.range 256=A++i::B/\(∀j∈A,j≠i)/\∀j∈B,j≠i:=by
 have hm:i∈List.range 256:=J2P.2 hi;obtain⟨A,B,e⟩:=J6F hm;have AG:(List.range 256).Nodup:=J6u;rw [e] at AG;obtain⟨h1,h2,h3⟩:=J3t.1 AG;exact⟨A,B,e,fun j hj=>h3 j hj i (by simp),fun j hj h=>(J3w.1 h2).1 (h ▸ hj)⟩
theorem Q4A (f:TB->List Nat) (tb:Nat->TB) {i:Nat} (hi:i<256) (t:TB):∃A B,(List.range 256).flatMap (fun j=>f (tb j))=A++f (tb i)++B/\(List.range 256).flatMap (fun j=>f (updT tb i t j))=A++f t++B:=by
 obtain⟨A,B,e,h1,h2⟩:=Z1H i hi;refine⟨A.flatMap fun j=>f (tb j),B.flatMap fun j=>f (tb j),by rw [e];simp,?_⟩;have g1:A.flatMap (fun j=>f (updT tb i t j))=A.flatMap fun j=>f (tb j):=by
  rw [J6G,J6G];congr 1;exact J4J fun j hj=>by rw [Q0X (h1 j hj)]
 have g2:B.flatMap (fun j=>f (updT tb i t j))=B.flatMap fun j=>f (tb j):=by
  rw [J6G,J6G];congr 1;exact J4J fun j hj=>by rw [Q0X (h2 j hj)]
 rw [e,J3h,J2W,g1,g2,updT_same];simp
theorem Q8Q {l:List Pl} {tb:Nat->TB} {i:Nat} (hi:i<256) {p:Pl} (hp:l[i]?=some p) (t:TB) (id:Int):xcOf l (updT tb i t) id=xcOf l tb id+if (p.fac:Int)=id then t.cost-(tb i).cost else 0:=by
 obtain⟨A,B,e,h1,h2⟩:=Z1H i hi;unfold xcOf;rw [e];simp only [J6d,J2B,J6o,J6m];have g1:A.map (fun j=>xcP (updT tb i t) id j l[j]?)=A.map fun j=>xcP tb id j l[j]?:=J4J fun j hj=>by unfold xcP;rw [Q0X (h1 j hj)]
 have g2:B.map (fun j=>xcP (updT tb i t) id j l[j]?)=B.map fun j=>xcP tb id j l[j]?:=J4J fun j hj=>by unfold xcP;rw [Q0X (h2 j hj)]
 rw [g1,g2];have e1:∀tb',xcP tb' id i l[i]?=if (p.fac:Int)=id then (tb' i).cost else 0:=fun tb'=>by unfold xcP;rw [hp]
 rw [e1,e1,updT_same];split <;> omega
end Go.Proofs.YtfidemmgofcnmaaGreatDoor
namespace Go.Proofs.YtfidemmgofcnmaaGreatDoor
open Go.Proofs.Tryz
structure Fst3 (kd:Int->List Int) (rk:Int->Nat):Prop where
 dn:∀h x,x∈kd h->rk x<rk h
 one:∀a b x,x∈kd a->x∈kd b->a=b
 nd:∀h,(kd h).Nodup
def preG (kd:Int->List Int):Nat->Int->List Int
 | 0,h=>[h]
 | n+1,h=>h::(kd h).reverse.flatMap (preG kd n)
section
variable {kd:Int->List Int} {rk:Int->Nat}
theorem Q6b {f g:Int->List Int}:∀{L:List Int},(∀x∈L,f x=g x)->L.flatMap f=L.flatMap g
 | [],_=>rfl
 | x::r,h=>by rw [J2W,J2W,h x (by simp),Q6b (L:=r) fun y hy=>h y (by simp [hy])]
theorem Fst3.leaf (t:Fst3 kd rk) {h:Int} (hr:rk h=0):kd h=[]:=by
 cases hk:kd h with
 | nil=>rfl
 | cons x r =>
  have:=t.dn h x (by rw [hk];simp);omega
theorem Q6c (t:Fst3 kd rk):∀n m h,rk h<=n->rk h<=m->preG kd n h=preG kd m h:=by
 intro n
 induction n with
 | zero =>
  intro m h h1 h2;have hk:=t.leaf (J2X.1 h1);cases m with
  | zero=>rfl
  | succ m=>simp [preG,hk]
 | succ n ih =>
  intro m h h1 h2;cases m with
  | zero =>
   have hk:=t.leaf (J2X.1 h2);simp [preG,hk]
  | succ m =>
   simp only [preG];congr 1;refine Q6b fun x hx=>?_
   have:=t.dn h x (J2Y.1 hx);exact ih m x (by omega) (by omega)
def preT (kd:Int->List Int) (rk:Int->Nat) (h:Int):List Int:=preG kd (rk h) h
theorem Z0t (t:Fst3 kd rk) (h:Int):preT kd rk h=h::(kd h).reverse.flatMap (preT kd rk):=by
 have:preT kd rk h=preG kd (rk h+1) h:=Q6c t _ _ h (J2y _) (by omega);rw [this];simp only [preG];congr 1;refine Q6b fun x hx=>?_
 have:=t.dn h x (J2Y.1 hx);exact Q6c t _ _ x (by omega) (J2y _)
def Q0H (kd:Int->List Int) (rk:Int->Nat) (h:Int):List Int:=(preT kd rk h).tail.reverse
theorem Q3C (t:Fst3 kd rk) (h:Int):preT kd rk h=h::(Q0H kd rk h).reverse:=by
 unfold Q0H;rw [J3m,Z0t t h];rfl
inductive Dn (kd:Int->List Int):Int->Int->Prop where
 | here (h:Int):Dn kd h h
 | down (h k x:Int):k∈kd h->Dn kd k x->Dn kd h x
theorem Dn.trans {h k x:Int} (a:Dn kd h k) (b:Dn kd k x):Dn kd h x:=by
 induction a with
 | here=>exact b
 | down h k y hk _ ih=>exact .down h k x hk (ih b)
theorem Dn.rank (t:Fst3 kd rk) {h x:Int} (a:Dn kd h x):rk x<=rk h/\(x=h∨rk x<rk h):=by
 induction a with
 | here=>exact⟨J2y _,.inl rfl⟩
 | down h k y hk _ ih =>
  have:=t.dn h k hk;have:=ih.1;exact⟨by omega,.inr (by omega)⟩
theorem Q5D (t:Fst3 kd rk):∀n h x,rk h<=n->(x∈preG kd n h↔Dn kd h x):=by
 intro n
 induction n with
 | zero =>
  intro h x hn;have hk:=t.leaf (J2X.1 hn);simp only [preG,J4H]
  constructor
  ·rintro rfl;exact .here _
  ·intro d;cases d with
   | here=>rfl
   | down _ k _ hm _=>rw [hk] at hm;cases hm
 | succ n ih =>
  intro h x hn;simp only [preG,J2D,J2Z,J2Y]
  constructor
  ·rintro (rfl|⟨k,hk,hx⟩)
   ·exact .here _
   ·have:=t.dn h k hk;exact .down h k x hk ((ih k x (by omega)).1 hx)
  ·intro d;cases d with
   | here=>exact .inl rfl
   | down _ k _ hm hd =>
    have:=t.dn h k hm;exact .inr ⟨k,hm,(ih k x (by omega)).2 hd⟩
theorem Z1I (t:Fst3 kd rk) {h x:Int}:x∈preT kd rk h↔Dn kd h x:=Q5D t _ h x (J2y _)
theorem Dn.line (t:Fst3 kd rk) {a x:Int} (h:Dn kd a x):∀{b:Int},Dn kd b x->Dn kd a b∨Dn kd b a:=by
 -- the last step down to x
 have last:∀{a x:Int},Dn kd a x->x=a∨∃z,Dn kd a z/\x∈kd z:=by
  intro a x h
  induction h with
  | here=>exact .inl rfl
  | down h k y hk _ ih =>
   rcases ih with rfl|⟨z,h1,h2⟩
   ·exact .inr ⟨h,.here _,hk⟩
   ·exact .inr ⟨z,.down h k z hk h1,h2⟩
 have key:∀n a b x,rk a-rk x<=n->Dn kd a x->Dn kd b x->Dn kd a b∨Dn kd b a:=by
  intro n
  induction n with
  | zero =>
   intro a b x hn h k;rcases (h.rank t).2 with rfl|Ab
   ·exact .inr k
   ·omega
  | succ n ih =>
   intro a b x hn h k;rcases last h with rfl|⟨z,h1,h2⟩
   ·exact .inr k
   ·rcases last k with rfl|⟨z',k1,k2⟩
    ·exact .inl h
    ·have:z=z':=t.one z z' x h2 k2;subst this;have:=t.dn z x h2;have:=(h1.rank t).1;exact ih a b z (by omega) h1 k1
 intro b k;exact key _ a b x (J2y _) h k
theorem Dn.last {a x:Int} (h:Dn kd a x):x=a∨∃z,Dn kd a z/\x∈kd z:=by
 induction h with
 | here=>exact .inl rfl
 | down h k y hk _ ih =>
  rcases ih with rfl|⟨z,h1,h2⟩
  ·exact .inr ⟨h,.here _,hk⟩
  ·exact .inr ⟨z,.down h k z hk h1,h2⟩
theorem Q7m (t:Fst3 kd rk) {h a b x:Int} (ha:a∈kd h) (hb:b∈kd h) (Aa:a≠b) (h1:Dn kd a x) (h2:Dn kd b x):False:=by
 have no:∀{a b:Int},a∈kd h->b∈kd h->a≠b->¬Dn kd a b:=by
  intro a b ha hb Aa d;rcases d.last with e|⟨z,d1,d2⟩
  ·exact Aa e.symm
  ·have:z=h:=t.one z h b d2 hb;subst this;have:=(d1.rank t).1;have:=t.dn z a ha;omega
 rcases h1.line t h2 with h|h
 ·exact no ha hb Aa h
 ·exact no hb ha Aa.symm h
theorem Z5E (t:Fst3 kd rk):∀n h,rk h<=n->(preG kd n h).Pairwise (fun a b=>a≠b/\¬Dn kd b a):=by
 intro n
 induction n with
 | zero=>intro h _;simp [preG]
 | succ n ih =>
  intro h hn;simp only [preG,J3a,J3b];refine⟨fun b hb=>?_,fun x hx=>?_,?_⟩
  ·obtain⟨k,hk,Ak⟩:=J2Z.1 hb;have hk:=J2Y.1 hk;have h1:=t.dn h k hk;have hd:=(Q5D t n k b (by omega)).1 Ak;have h2:=(hd.rank t).1;refine⟨fun e=>by subst e;omega,fun d=>?_⟩;have:=(d.rank t).1;omega
  ·have:=t.dn h x (J2Y.1 hx);exact ih x (by omega)
  ·rw [J3c];refine (t.nd h).imp_of_mem ?_;intro x1 x2 m1 m2 Aa a ha b hb;have r1:=t.dn h x1 m1;have r2:=t.dn h x2 m2;have d1:=(Q5D t n x2 a (by omega)).1 ha;have d2:=(Q5D t n x1 b (by omega)).1 hb;refine⟨?_,fun d=>?_⟩
   ·rintro rfl;exact Q7m t m1 m2 Aa d2 d1
   ·exact Q7m t m1 m2 Aa (d2.trans d) d1
theorem Q6d (t:Fst3 kd rk) (h:Int):(preT kd rk h).Pairwise (fun a b=>a≠b/\¬Dn kd b a):=Z5E t _ h (J2y _)
theorem Q7n (t:Fst3 kd rk) {h x:Int}:x∈Q0H kd rk h↔Dn kd h x/\x≠h:=by
 have e:=Q3C t h;have hp:=Q6d t h;rw [e] at hp;obtain⟨h1,_⟩:=J3a.1 hp;have hm:x∈preT kd rk h↔x=h∨x∈Q0H kd rk h:=by rw [e];simp
 rw [<- Z1I t,hm]
 constructor
 ·intro hx;exact⟨.inr hx,fun e=>(h1 x (by simpa using hx)).1 e.symm⟩
 ·rintro⟨h|h,Aa⟩
  ·exact absurd h Aa
  ·exact h
theorem Z2H (t:Fst3 kd rk) (h:Int):(Q0H kd rk h).Pairwise (fun a b=>a≠b/\¬Dn kd a b):=by
 have hp:=Q6d t h;rw [Q3C t h] at hp;have:=(J3a.1 hp).2;rw [J3c] at this;exact this.imp fun ⟨h1,h2⟩=>⟨h1.symm,h2⟩
def Q8R (kd:Int->List Int) (rk:Int->Nat) (ws:List Int):List Int:=ws.reverse.flatMap (preT kd rk)
theorem Z2I (t:Fst3 kd rk) (ws:List Int) (x:Int):Q8R kd rk (ws++[x])=x::Q8R kd rk (ws++kd x):=by
 unfold Q8R;rw [J3f,J3f,J3g,J3h,J3h,J3i,Z0t t x];rfl
theorem Z5F (kd:Int->List Int) (rk:Int->Nat) (t:Fst3 kd rk) (ws:List Int):ws.length<=(Q8R kd rk ws).length:=by
 unfold Q8R;have:∀w:List Int,w.length<=(w.flatMap (preT kd rk)).length:=by
  intro w
  induction w with
  | nil=>simp
  | cons x r ih =>
   rw [J2W,J3j,J3k];have:0<(preT kd rk x).length:=by rw [Z0t t x];simp
   omega
 simpa using this ws.reverse
end
open Go.RowKit
abbrev SKV:=List ((Int×Int)×Value)
def Q2s (p:Int×Int):Value:=.agg #[.int .i64 p.1,.int .i64 p.2]
def Q3R (kv:SKV) (p:Int×Int):Option Value:=(kv.find? fun q=>decide (q.1=p)).map Prod.snd
def delS (kv:SKV) (p:Int×Int):SKV:=kv.filter fun q=>decide (q.1≠p)
def Q3g (w:World) (m:Nat) (kv:SKV):Prop:=MapIs w m (kv.map fun q=>(Q2s q.1,q.2))
def Q1K (P:Program) (K:TypeId) (p:Int×Int):Prop:=∃l,keyOf P K (Q2s p)=some l
theorem Z5G {p q:Int×Int} (h:Q2s p=Q2s q):p=q:=by
 unfold Q2s at h;simp at h;exact Prod.ext h.1 h.2
theorem Z5H:∀{kv:SKV} {p:Int×Int} {v:Value} {j:Nat},kv.Pairwise (fun a b=>a.1≠b.1)->kv[j]?=some (p,v)->Q3R kv p=some v/\kv.eraseIdx j=delS kv p
 | [],_,_,_,_,h=>by simp at h
 | q::r,p,v,0,hn,h=>by
  simp at h;subst h;obtain⟨h1,_⟩:=J3a.1 hn;refine⟨by simp [Q3R],?_⟩;unfold delS;rw [J4N (by simp)]
  symm
  rw [List.eraseIdx_zero,List.tail_cons,J6H];intro a ha;have:=h1 a ha;simp;exact fun e=>this e.symm
 | q::r,p,v,j+1,hn,h=>by
  rw [J5M] at h;obtain⟨h1,h2⟩:=J3a.1 hn;obtain⟨i1,i2⟩:=Z5H h2 h;have Aa:q.1≠p:=h1 _ (J4O h);refine⟨?_,?_⟩
  ·unfold Q3R at i1 ⊢;rw [List.find?_cons_of_neg (by simpa using Aa)];exact i1
  ·unfold delS at i2 ⊢;rw [J4M (by simpa using Aa),J6I,i2]
theorem map_erase {α β:Type} (f:α->β):∀(l:List α) (j:Nat),(l.eraseIdx j).map f=(l.map f).eraseIdx j
 | [],_=>by simp
 | _::_,0=>rfl
 | x::r,j+1=>by rw [J6I,J2B,J2B,J6I,map_erase f r j]
theorem Q8S {kv:SKV} {p:Int×Int} (h:∀q∈kv,q.1≠p):Q3R kv p=none/\delS kv p=kv:=by
 refine⟨?_,?_⟩
 ·unfold Q3R;rw [J4t.2 (fun q hq=>by simpa using h q hq)];rfl
 ·unfold delS;rw [J6H];intro q hq
  simpa using h q hq
section
variable {P:Program} {K V:TypeId} {T:TypeId}
theorem Q6e (law:WideMaps.KeyLaw P K) (w:World) {es:List MapEntry} {kv:SKV} (hr:es.map (fun e=>(e.key,e.val))=kv.map fun q=>(Q2s q.1,q.2)) (hn:kv.Pairwise (fun a b=>a.1≠b.1)) (hk:∀q∈kv,Q1K P K q.1) {p:Int×Int} (hp:Q1K P K p) :
  ((Instr.findKey K (Q2s p) es).run P w=.ok none w/\Q3R kv p=none/\delS kv p=kv/\∀e∈es,e.key≠Q2s p) ∨
  ∃j v,(Instr.findKey K (Q2s p) es).run P w=.ok (some (j,v)) w/\Q3R kv p=some v/\j<es.length/\(es.eraseIdx j).map (fun e=>(e.key,e.val))=(delS kv p).map fun q=>(Q2s q.1,q.2):=by
 obtain⟨l,hl⟩:=hp;have AQ:∀e∈es,∃l,keyOf P K e.key=some l:=fun e he=>by
  have hm:(e.key,e.val)∈kv.map fun q=>(Q2s q.1,q.2):=by rw [<- hr];exact J2E.2 ⟨e,he,rfl⟩
  obtain⟨q,hq,e1⟩:=J2E.1 hm;have:Q2s q.1=e.key:=((Prod.mk.injEq _ _ _ _).mp e1).1;rw [<- this];exact hk q hq
 rcases law.find w hl es AQ with ⟨h1,h2⟩|⟨j,e,h1,h2,h3⟩
 ·left;have Aq:∀q∈kv,q.1≠p:=fun q hq e=>by
   have hm:(Q2s q.1,q.2)∈es.map fun e=>(e.key,e.val):=by rw [hr];exact J2E.2 ⟨q,hq,rfl⟩
   obtain⟨x,hx,e1⟩:=J2E.1 hm;exact h2 x hx (by rw [((Prod.mk.injEq _ _ _ _).mp e1).1,e])
  exact⟨h1,(Q8S Aq).1,(Q8S Aq).2,h2⟩
 ·right;have hj:j<es.length:=(J2Q.1 h2).1;have NE:(kv.map fun q=>(Q2s q.1,q.2))[j]?=some (e.key,e.val):=by rw [<- hr,J4l,h2];rfl
  rw [J4l] at NE;obtain⟨q,hq,e1⟩:=J6x.1 NE;obtain⟨e2,e3⟩:=(Prod.mk.injEq _ _ _ _).mp e1;have Lf:q.1=p:=Z5G (e2.trans h3);have S7:kv[j]?=some (p,e.val):=by rw [hq,<- Lf,<- e3]
  obtain⟨f1,f2⟩:=Z5H hn S7;refine⟨j,e.val,h1,f1,hj,?_⟩;rw [<- f2,map_erase,map_erase,hr]
theorem Q6f {w:World} {m:Nat} {kv:SKV} (h:Q3g w m kv) (law:WideMaps.KeyLaw P K) (hn:kv.Pairwise (fun a b=>a.1≠b.1)) (hk:∀q∈kv,Q1K P K q.1) {p:Int×Int} (hp:Q1K P K p) (ok:Bool) (z:Value) (hT:P.underlying T=some (.map K V)) (hz:(zeroValue V).run P w=.ok z w) :
  (Instr.lookup T (.map (some m)) (Q2s p) ok).run P w=.ok (if ok then .tuple #[(Q3R kv p).getD z,.bool (Q3R kv p).isSome] else (Q3R kv p).getD z) w:=by
 obtain⟨es,Af,hb,hs,hr⟩:=h;have hc:=fun em=>law.check w em hp.choose_spec
 unfold Instr.lookup;rcases Q6e law w hr hn hk hp with ⟨hf,hl,_,_⟩|⟨j,v,hf,hl,_,_⟩
 ·cases ok <;> simp [run_underlying hT,Result.andThen,Go.MapKept.run_getObj_map hb,hc,hf,hl,hz]
 ·cases ok <;> simp [run_underlying hT,Result.andThen,Go.MapKept.run_getObj_map hb,hc,hf,hl]
theorem Q4B {w:World} {m:Nat} {kv:SKV} (h:Q3g w m kv) (law:WideMaps.KeyLaw P K) (hn:kv.Pairwise (fun a b=>a.1≠b.1)) (hk:∀q∈kv,Q1K P K q.1) {p:Int×Int} (hp:Q1K P K p) (u:Value) (Aq:Q3R kv p=none) (hT:P.underlying T=some (.map K V)) :
  ∃w',(Instr.mapUpdate T (.map (some m)) (Q2s p) u).run P w=.ok () w'/\Q3g w' m (kv++[(p,u)])/\w.grownBy w' (some m):=by
 obtain⟨es,Af,hb,hs,hr⟩:=h;have hc:=fun em=>law.check w em hp.choose_spec
 have CY:∀o,w.grownBy {w with heap:=w.heap.setIfInBounds m o} (some m):=fun o=>⟨rfl,rfl,rfl,by simp,fun k _ Aa=>by
  have:m≠k:=fun e=>Aa (by rw [e])
  simp [this]⟩
 have Ab:=lt_of_block hb;unfold Instr.mapUpdate;rcases Q6e law w hr hn hk hp with ⟨hf,hl,_,Aa⟩|⟨j,v,hf,hl,_,_⟩
 ·refine⟨{w with heap:=w.heap.setIfInBounds m (.map (es.push {key:=Q2s p,val:=u,born:=Af}) (Af+1))},?_,?_,CY _⟩
  ·simp [run_underlying hT,Result.andThen,Go.MapKept.run_getObj_map hb,hc,hf,Go.MapKept.run_setObj_map _ hb]
  ·refine⟨es.push {key:=Q2s p,val:=u,born:=Af},Af+1,by simp [Ab],Go.MapKept.stamped_push hs (fun x hx=>Aa x (by simpa using hx)),?_⟩;simp [hr]
 ·rw [Aq] at hl;cases hl
theorem Q6g {w:World} {m:Nat} {kv:SKV} (h:Q3g w m kv) (law:WideMaps.KeyLaw P K) (hn:kv.Pairwise (fun a b=>a.1≠b.1)) (hk:∀q∈kv,Q1K P K q.1) {p:Int×Int} (hp:Q1K P K p) (t1 t2:TypeId) (hT:P.underlying T=some (.map K V)) :
  ∃w',(Builtin.delete_ #[T,t1] t2 #[.map (some m),Q2s p]).run P w=.ok (.tuple #[]) w'/\Q3g w' m (delS kv p)/\w.grownBy w' (some m):=by
 obtain⟨es,Af,hb,hs,hr⟩:=h;have hc:=fun em=>law.check w em hp.choose_spec
 have CY:∀o,w.grownBy {w with heap:=w.heap.setIfInBounds m o} (some m):=fun o=>⟨rfl,rfl,rfl,by simp,fun k _ Aa=>by
  have:m≠k:=fun e=>Aa (by rw [e])
  simp [this]⟩
 have Ab:=lt_of_block hb;unfold Builtin.delete_;rcases Q6e law w hr hn hk hp with ⟨hf,hl,hd,Aa⟩|⟨j,v,hf,hl,hj,hd⟩
 ·refine⟨{w with heap:=w.heap.setIfInBounds m (.map es Af)},?_,?_,CY _⟩
  ·simp [run_underlying hT,Result.andThen,Go.MapKept.run_getObj_map hb,hc,hf,Go.MapKept.run_setObj_map _ hb]
  ·refine⟨_,_,by simp [Ab],hs,?_⟩;rw [hd];exact hr
 ·refine⟨{w with heap:=w.heap.setIfInBounds m (.map (es.eraseIdxIfInBounds j) Af)},?_,?_,CY _⟩
  ·simp [run_underlying hT,Result.andThen,Go.MapKept.run_getObj_map hb,hc,hf,Go.MapKept.run_setObj_map _ hb]
  ·refine⟨es.eraseIdxIfInBounds j,Af,by simp [Ab],Go.MapKept.stamped_erase hs _,?_⟩;rw [<- hd];have:j<es.size:=by simpa using hj
   simp [Array.eraseIdxIfInBounds,this]
end
end Go.Proofs.YtfidemmgofcnmaaGreatDoor
