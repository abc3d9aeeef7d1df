/- What the laws of spaces share is proved. No condition. Part of a proof. -/
import Derived.Test.YtfidemmgofcnmaaGreatDoorBz03
set_option maxHeartbeats 4000000
set_option maxRecDepth 100000
set_option linter.unusedVariables false
namespace Go.Proofs.YtfidemmgofcnmaaGreatDoor
open Go.RowKit Go.Proofs.Tryz
def Q2L(pg:List (BM×Nat))(y:BM×Nat):List (BM×Nat):=pg.take (Q0p pg y.2)++y::pg.drop (Q0p pg y.2)
theorem Q7N(a b:List (BM×Nat)):Q0i (a++b)=Q0i a++Q0i b:=by simp[Q0i]
theorem Z0f(pg:List (BM×Nat))(j:Nat):Q0i (pg.take j)=(Q0i pg).take (j*2):=by
 induction pg generalizing j with
 | nil=>simp[Q0i]
 | cons y r ih =>
  cases j with
  | zero=>simp[Q0i]
  | succ j =>
   show _::_::Q0i (r.take j)=_;rw[ih,show(j+1)*2=j*2+1+1 by omega];rfl
theorem Z0g(pg:List (BM×Nat))(j:Nat):Q0i (pg.drop j)=(Q0i pg).drop (j*2):=by
 induction pg generalizing j with
 | nil=>simp[Q0i]
 | cons y r ih =>
  cases j with
  | zero=>simp
  | succ j =>
   show Q0i (r.drop j)=_;rw[ih,show(j+1)*2=j*2+1+1 by omega];rfl
theorem Z2y(pg:List (BM×Nat))(y:BM×Nat):Q0i (Q2L pg y)=(Q0i pg).take (Q0p pg y.2*2)++[ptr y.1.b,.int .i64 ((1024*y.2:Nat):Int)]++(Q0i pg).drop (Q0p pg y.2*2):=by
 unfold Q2L;rw[Q7N,Z0f];show _++([ptr y.1.b,.int .i64 ((1024*y.2:Nat):Int)]++Q0i (pg.drop _))=_;rw[Z0g,J4b]
theorem J0N(pg:List (BM×Nat))(y:BM×Nat):(y.1.hl++pgH pg).Perm (pgH (Q2L pg y)):=by
 unfold Q2L pgH;rw[J3M,J3E];have e:pg.flatMap (fun x=>x.1.hl)=(pg.take (Q0p pg y.2)).flatMap (fun x=>x.1.hl)++(pg.drop (Q0p pg y.2)).flatMap (fun x=>x.1.hl):=by
  rw[<- J3M,J4a]
 rw[e,<- J4b,<- J4b];exact J5O _ J5P
theorem insPg_len(pg:List (BM×Nat))(y:BM×Nat):(Q2L pg y).length=pg.length+1:=by
 unfold Q2L;simp only[J3N,J3O,J5u,J5t];omega
theorem mem_insPg{pg:List (BM×Nat)}{y z:BM×Nat}:z∈Q2L pg y↔z=y∨z∈pg:=by
 unfold Q2L;have:z∈pg↔z∈pg.take (Q0p pg y.2)∨z∈pg.drop (Q0p pg y.2):=by rw[<- J3Q,J4a]
 rw[this];simp only[J3Q,J3m]
 constructor
 ·rintro(h|h|h)
  ·exact .inr (.inl h)
  ·exact .inl h
  ·exact .inr (.inr h)
 ·rintro(h|h|h)
  ·exact .inr (.inl h)
  ·exact .inl h
  ·exact .inr (.inr h)
theorem Q6R{pg:List (BM×Nat)}(hs:pg.Pairwise (fun a b=>a.2<b.2))(y:BM×Nat)(hn:∀x∈pg,x.2≠y.2):(Q2L pg y).Pairwise (fun a b=>a.2<b.2):=by
 have Ti:∀x∈pg.take (Q0p pg y.2),x.2<y.2:=fun x hx=>by
  obtain⟨k,hk⟩:=J5Q.1 hx;rw[J5e] at hk;split at hk
  ·rename_i Aa;exact(Q3Y hs y.2 k x hk).1 Aa
  ·cases hk
 have RF:∀x∈pg.drop (Q0p pg y.2),y.2<x.2:=fun x hx=>by
  obtain⟨k,hk⟩:=J5Q.1 hx;rw[J5D] at hk;have h1:=Q3Y hs y.2 _ x hk;have h2:=hn x (J5p hk);have h3:¬x.2<y.2:=fun e=>by have:=h1.2 e;omega
  omega
 unfold Q2L;rw[J3P];refine⟨hs.sublist (List.take_sublist _ _),J3H.2 ⟨fun x hx=>RF x hx,hs.sublist (List.drop_sublist _ _)⟩,fun a ha b hb=>?_⟩;rcases J3m.1 hb with rfl|hb
 ·exact Ti a ha
 ·exact J5R (Ti a ha) (RF b hb)
def CA.insert(c:CA)(rv':RV)(y:BM×Nat):CA:={c with rv:=rv',pg:=Q2L c.pg y}
theorem CA.ok_ins{c:CA}(ok:c.Ok)(rv':RV)(y:BM×Nat)(hn:∀x∈c.pg,x.2≠y.2)(hr:rvOk rv' (c.pg.length+1))(hl:c.pg.length<1048576)(hy:y.2<1048576)(hb:y.1.bits.length=960/c.size):(c.insert rv' y).Ok:=by
 refine⟨?_,ok.s0,ok.s1,Q6R ok.sorted y hn,fun x hx=>?_,fun x hx=>?_,?_⟩
 ·show rvOk rv' (Q2L c.pg y).length;rw[insPg_len];exact hr
 ·rcases mem_insPg.1 hx with rfl|h
  ·exact hy
  ·exact ok.lt x h
 ·rcases mem_insPg.1 hx with rfl|h
  ·exact hb
  ·exact ok.many x h
 ·show(Q2L c.pg y).length<=_;rw[insPg_len];omega
theorem CA.insStep {w w1:World} {c:CA} {K:HL} (y:BM×Nat) (rv':RV) (h:Sep w (c.hl++(y.1.hl++K))) (Ao:Step ([(c.c,isC 233 [ptr c.bb,.int .i64 c.size,lvOf c.rv c.pg.length])]++rowH c.rv 236 2 (Q0i c.pg)++(pgH c.pg++(y.1.hl++K)))
   ([(c.c,isC 233 [ptr c.bb,.int .i64 c.size,lvOf c.rv c.pg.length])]++rowH rv' 236 2 ((Q0i c.pg).take (Q0p c.pg y.2*2)++[ptr y.1.b,.int .i64 ((1024*y.2:Nat):Int)]++(Q0i c.pg).drop (Q0p c.pg y.2*2))++(pgH c.pg++(y.1.hl++K))) w w1) :
  Step (c.hl++(y.1.hl++K)) ((c.insert rv' y).hl++K) w (w1.setCell ⟨c.c,2,none⟩ (lvOf rv' (c.pg.length+1))):=by
 rw[<- Z2y] at Ao;have s2:Step _ _ w1 _:=Sep.set (A:=[]) (b:=c.c) (T:=233) (cs:=[ptr c.bb,.int .i64 c.size,lvOf c.rv c.pg.length]) (B:=rowH rv' 236 2 (Q0i (Q2L c.pg y))++(pgH c.pg++(y.1.hl++K))) (by simpa using Ao.sep) 2 (lvOf rv' (c.pg.length+1));have h3:=Step.trans (H1:=[]++(c.c,isC 233 [ptr c.bb,.int .i64 c.size,lvOf c.rv c.pg.length])::(rowH rv' 236 2 (Q0i (Q2L c.pg y))++(pgH c.pg++(y.1.hl++K)))) (by simpa using Ao) s2;refine h3.perm (.of_eq (by unfold CA.hl;simp)) ?_;unfold CA.hl CA.insert;simp only[J5l,J5M,J5N,insPg_len,J5m];refine List.Perm.cons _ ?_;rw[J4b];refine J5S _ ?_;rw[<- J4b]
 refine J5O _ ?_;exact J5P.trans (J0N c.pg y)
def Q2Q(bits:List Bool):List Nat:=(List.range bits.length).filter fun i=>bits[i]?.getD false
theorem mem_trues{bits:List Bool}{i:Nat}:i∈Q2Q bits↔bits[i]?.getD false=true:=by
 unfold Q2Q;rw[J3B,J3x]
 constructor
 ·exact fun h=>h.2
 ·intro h;refine⟨?_,h⟩;rcases J5K i bits.length with e|e
  ·exact e
  ·rw[J4Q e] at h;cases h
theorem Q4S(bits:List Bool):(Q2Q bits).Pairwise (·<·):=J3A.filter _
theorem Q6S(f:Nat->Bool):∀n,((List.range n).filter f).length=cnt f n
 | 0=>rfl
 | n+1=>by
  rw[J3s,J4Y,J3N,Q6S f n];show _=cnt f n+(f n).toNat;cases h:f n <;> simp[h]
theorem Q5y(bits:List Bool):(Q2Q bits).length=cntB bits:=by
 unfold Q2Q;rw[Q6S,Z1l bits _ (J3h _)]
def Q1i(size:Nat)(x:BM×Nat):List Nat:=(Q2Q x.1.bits).map (addr size x.2)
def CA.used(c:CA):List Nat:=c.pg.flatMap (Q1i c.size)
theorem mem_used{c:CA}{a:Nat}:a∈c.used↔∃x∈c.pg,∃i,x.1.bits[i]?.getD false=true/\a=addr c.size x.2 i:=by
 unfold CA.used Q1i;rw[J3G]
 constructor
 ·rintro⟨x,hx,ha⟩;obtain⟨i,hi,rfl⟩:=J3n.1 ha;exact⟨x,hx,i,mem_trues.1 hi,rfl⟩
 ·rintro⟨x,hx,i,hi,rfl⟩;exact⟨x,hx,J3n.2 ⟨i,mem_trues.2 hi,rfl⟩⟩
theorem Q5z{bits:List Bool}{i:Nat}(hi:i<bits.length)(h:bits[i]?.getD false=false):∃A B,Q2Q bits=A++B/\Q2Q (bits.set i true)=A++i::B:=by
 have e:List.range bits.length=List.range i++i::(List.range (bits.length-(i+1))).map (·+(i+1)):=by
  obtain⟨d,hd⟩:∃d,bits.length=i+(1+d):=⟨bits.length-(i+1),by omega⟩
  rw[hd,show i+(1+d)-(i+1)=d by omega,List.range_add,List.range_add];simp[Function.comp_def,Nat.add_comm,Nat.add_left_comm]
 unfold Q2Q;rw[J4N,e,J4Y,J4Y];refine⟨_,_,rfl,?_⟩;congr 1
 ·apply J5T
  intro j hj;rw[J3x] at hj;rw[Q1A _ _ hi,if_neg (by omega)]
 ·rw[J5n (by rw[Q1A _ _ hi];simp),J5o (by rw[h];simp)];congr 1
  apply J5T
  intro j hj;obtain⟨t,_,rfl⟩:=J3n.1 hj;rw[Q1A _ _ hi,if_neg (by omega)]
theorem Q8E{bits:List Bool}{i:Nat}(h:bits[i]?.getD false=true):∃A B,Q2Q bits=A++i::B/\Q2Q (bits.set i false)=A++B:=by
 have hi:i<bits.length:=by
  rcases J5K i bits.length with e|e
  ·exact e
  ·rw[J4Q e] at h;cases h
 obtain⟨A,B,e1,e2⟩:=Q5z (bits:=bits.set i false) (i:=i) (by simpa using hi) (by simp[hi]);rw[J5U,show bits.set i true=bits from ?_] at e2
 ·exact⟨A,B,e2,e1⟩
 ·apply J4J
  intro j;rw[J4I];split
  ·rename_i e;subst e;rw[J5s hi] at h ⊢;simp only[Option.getD_some] at h;simp[h]
  ·rfl
theorem Q4T{α β:Type}(f:α->List β)(L:List α)(k:Nat):L.flatMap f=(L.take k).flatMap f++(L.drop k).flatMap f:=by
 rw[<- J3M,J4a]
theorem Z2z{α β:Type}(f:α->List β)(L:List α)(k:Nat)(x:α)(h:L[k]?=some x):L.flatMap f=(L.take k).flatMap f++(f x++(L.drop (k+1)).flatMap f):=by
 rw[Q4T f L k];have hk:=J3y.1 h;rw[J5V hk.1,J3E,hk.2]
theorem Z4E{α β:Type}(f:α->List β)(L:List α)(k:Nat)(y:α)(hk:k<L.length):(L.set k y).flatMap f=(L.take k).flatMap f++(f y++(L.drop (k+1)).flatMap f):=by
 rw[Z2z f (L.set k y) k y (by simp[hk]),J4c (J3h k),J4d (by omega)]
theorem Z7T{α β:Type}(f:α->List β)(L:List α)(k:Nat):(L.eraseIdx k).flatMap f=(L.take k).flatMap f++(L.drop (k+1)).flatMap f:=by
 rw[J5W,J3M]
theorem Z7U{c:CA}{k i:Nat}{x:BM×Nat}(hx:c.pg[k]?=some x)(hi:i<x.1.bits.length)(h:x.1.bits[i]?.getD false=false) :
  ∃A B,c.used=A++B/\(c.pageTo k x {x.1 with bits:=x.1.bits.set i true}).used=A++addr c.size x.2 i::B:=by
 obtain⟨A,B,e1,e2⟩:=Q5z hi h;have hk:=(J3y.1 hx).1;refine⟨(c.pg.take k).flatMap (Q1i c.size)++A.map (addr c.size x.2),B.map (addr c.size x.2)++(c.pg.drop (k+1)).flatMap (Q1i c.size),?_,?_⟩
 ·unfold CA.used;rw[Z2z _ _ _ _ hx];simp[Q1i,e1]
 ·unfold CA.used CA.pageTo;rw[Z4E _ _ _ _ hk];simp[Q1i,e2]
theorem Z7V{c:CA}{k i:Nat}{x:BM×Nat}(hx:c.pg[k]?=some x)(h:x.1.bits[i]?.getD false=true) :
  ∃A B,c.used=A++addr c.size x.2 i::B/\(c.pageTo k x {x.1 with bits:=x.1.bits.set i false}).used=A++B:=by
 obtain⟨A,B,e1,e2⟩:=Q8E h;have hk:=(J3y.1 hx).1;refine⟨(c.pg.take k).flatMap (Q1i c.size)++A.map (addr c.size x.2),B.map (addr c.size x.2)++(c.pg.drop (k+1)).flatMap (Q1i c.size),?_,?_⟩
 ·unfold CA.used;rw[Z2z _ _ _ _ hx];simp[Q1i,e1]
 ·unfold CA.used CA.pageTo;rw[Z4E _ _ _ _ hk];simp[Q1i,e2]
theorem Z4F(n:Nat)(h:0<n):Q2Q ((List.replicate n false).set 0 true)=[0]:=by
 obtain⟨A,B,e1,e2⟩:=Q5z (bits:=List.replicate n false) (i:=0) (by simpa using h) (by simp[List.getElem?_replicate];split <;> rfl);have e0:Q2Q (List.replicate n false)=[]:=by
  unfold Q2Q;rw[J5b];intro j _;rw[J5c];split <;> simp
 rw[e0] at e1;obtain⟨rfl,rfl⟩:=J5X.1 e1.symm;exact e2
theorem Z7W{c:CA}(rv':RV)(m:BM)(p n:Nat)(hn:0<n)(hm:m.bits=(List.replicate n false).set 0 true):∃A B,c.used=A++B/\(c.insert rv' (m,p)).used=A++addr c.size p 0::B:=by
 refine⟨_,_,Q4T (Q1i c.size) c.pg (Q0p c.pg p),?_⟩;unfold CA.used CA.insert Q2L;rw[J3M,J3E];congr 1;simp only[Q1i];rw[hm,Z4F n hn];rfl
theorem Z4G{c:CA}{k i:Nat}{x:BM×Nat}(hx:c.pg[k]?=some x)(h:x.1.bits[i]?.getD false=true)(h0:cntB (x.1.bits.set i false)=0) :
  ∃A B,c.used=A++addr c.size x.2 i::B/\(c.dropPg k).used=A++B:=by
 obtain⟨A,B,e1,e2⟩:=Q8E h;have e3:=Q5y (x.1.bits.set i false);rw[h0,e2] at e3;have e4:A++B=[]:=J5r e3;obtain⟨rfl,rfl⟩:=J5X.1 e4;refine⟨(c.pg.take k).flatMap (Q1i c.size),(c.pg.drop (k+1)).flatMap (Q1i c.size),?_,?_⟩
 ·unfold CA.used;rw[Z2z _ _ _ _ hx];simp[Q1i,e1]
 ·unfold CA.used CA.dropPg;rw[Z7T]
theorem Q3Z{s i n:Nat}(hs:0<s)(hi:i<n)(hn:n=960/s):i*s+s<=960:=by
 subst hn;have:(i+1)*s<=960/s*s:=J5Y s hi;have h2:=Nat.div_mul_le_self 960 s;rw[Nat.add_mul,Nat.one_mul] at this;omega
theorem Z2A{s p i:Nat}(hs:0<s)(h:i*s+s<=960):addr s p i/1024=p/\addr s p i%1024=64+i*s/\(addr s p i%1024-64)%s=0/\(addr s p i%1024-64)/s=i:=by
 have e:addr s p i=64+i*s+p*1024:=by unfold addr;omega
 have h1:addr s p i/1024=p:=by rw[e];omega
 have h2:addr s p i%1024=64+i*s:=by rw[e];omega
 refine⟨h1,h2,?_,?_⟩
 ·rw[h2,J5Z,Nat.mul_mod_left]
 ·rw[h2,J5Z,J6a _ hs]
theorem Q8F{c:CA}{a k i:Nat}(h:Q5a c a=some (k,i)):∃x,c.pg[k]?=some x/\x.1.bits[i]?.getD false=true/\a=addr c.size x.2 i:=by
 unfold Q5a at h;split at h
 ·cases h
 ·rename_i x hx;split at h
  ·rename_i hc;obtain⟨h1,h2,h3,h4⟩:=hc;cases h;refine⟨x,hx,h4,?_⟩;have:=Nat.div_add_mod (a%1024-64) c.size;rw[h3,J3q,J6b] at this;unfold addr;rw[this,h1];omega
  ·cases h
theorem Z2B{pg:List (BM×Nat)}(hs:pg.Pairwise (fun a b=>a.2<b.2))(k:Nat)(x:BM×Nat)(hx:pg[k]?=some x):Q0p pg x.2=k:=by
 have h1:=Q3Y hs x.2 k x hx;have hk:=(J3y.1 hx).1;have Io:=Q7L pg x.2;rcases J6c (Q0p pg x.2) k with h|h|h
 ·have hy:pg[Q0p pg x.2]?=some (pg[Q0p pg x.2]'(by omega)):=J5s (by omega);have h2:=Q3Y hs x.2 _ _ hy;have h3:=J6d.1 hs (Q0p pg x.2) k (by omega) hk h;have h4:pg[k]=x:=(J3y.1 hx).2;rw[h4] at h3;have:=h2.2 h3;omega
 ·exact h
 ·have:=h1.1 h;omega
theorem Z4H{c:CA}(ok:c.Ok){k i:Nat}{x:BM×Nat}(hx:c.pg[k]?=some x)(h:x.1.bits[i]?.getD false=true):Q5a c (addr c.size x.2 i)=some (k,i):=by
 have FX:=ok.s0;have hi:i<x.1.bits.length:=by
  rcases J5K i x.1.bits.length with e|e
  ·exact e
  ·rw[J4Q e] at h;cases h
 have hm:=ok.many x (J5p hx);have hp:=Q3Z (s:=c.size) (by omega) hi hm;obtain⟨e1,e2,e3,e4⟩:=Z2A (p:=x.2) (by omega:0<c.size) hp;unfold Q5a;rw[e1,Z2B ok.sorted k x hx,hx];simp only[e3,e4,h];rw[if_pos ⟨trivial,by omega,trivial,trivial⟩]
theorem Z1p{c:CA}(ok:c.Ok)(a:Nat):(Q5a c a).isSome=decide (a∈c.used):=by
 cases hs:Q5a c a with
 | none =>
  symm
  simp only[J6e,decide_eq_false_iff_not];intro hm;obtain⟨x,hx,i,hi,rfl⟩:=mem_used.1 hm;obtain⟨k,hk⟩:=J5Q.1 hx;rw[Z4H ok hk hi] at hs;cases hs
 | some y =>
  obtain⟨k,i⟩:=y;obtain⟨x,hx,hb,rfl⟩:=Q8F hs
  symm
  simp only[Option.isSome_some,decide_eq_true_eq];exact mem_used.2 ⟨x,J5p hx,i,hb,rfl⟩
theorem Q7O{c:CA}(ok:c.Ok){a:Nat}(ha:a∈c.used):∃x∈c.pg,1024*x.2+64<=a/\a+c.size<=1024*x.2+1024:=by
 obtain⟨x,hx,i,hi,rfl⟩:=mem_used.1 ha;have FX:=ok.s0;have CC:i<x.1.bits.length:=by
  rcases J5K i x.1.bits.length with e|e
  ·exact e
  ·rw[J4Q e] at hi;cases hi
 have hp:=Q3Z (s:=c.size) (by omega) CC (ok.many x hx);exact⟨x,hx,by unfold addr;omega,by unfold addr;omega⟩
def J0O(c:CA)(k i:Nat)(x:BM×Nat)(w:World)(r:Ending)(w':World):Prop:=r=.returned (.tuple #[.int .i64 ((addr c.size x.2 i:Nat):Int),.int .i64 0])/\Step c.hl (c.pageTo k x {x.1 with bits:=x.1.bits.set i true}).hl w w'
def Q3A(x:BM×Nat):Option Nat:=Q1N x.1.bits false 0
theorem Z7X{w:World}{c:CA}(h:Sep w c.hl)(ok:c.Ok)(k i:Nat)(x:BM×Nat)(hx:c.pg[k]?=some x)(hf:Q3A x=some i)(A1:∀j y,j<k->c.pg[j]?=some y->Q3A y=none) :
  Calls prog 69 #[.pointer (some ⟨c.c,0,none⟩)] w (J0O c k i x w):=by
 have hk:=(J3y.1 hx).1;obtain⟨CC,_,Ky,_⟩:=Q1s hf;have Fb:=ok.len;have Er:∀y∈c.pg,y.1.bits.length<=60:=fun y hy=>by
  rw[ok.many y hy];have:=ok.s0;exact J3i (J6f this (by omega)) (by omega)
 have Mk:=Er x (J5p hx);have UF:i<60:=J3j CC (Er x (J5p hx));obtain⟨rb,cap,AA⟩:∃rb cap,c.rv=some (rb,cap):=by
  cases e:c.rv with
  | none=>have:=ok.rv;rw[e] at this;have:c.pg.length=0:=this;omega
  | some p=>exact⟨p.1,p.2,rfl⟩
 have B5:w.cell? ⟨c.c,2,none⟩=some (.slice (some ⟨rb,0,none⟩) c.pg.length cap):=by
  have:=(CA.sepC h).cell 2 _ rfl;rw[AA] at this;exact this
 have Kf:Hid (∀j y w1,c.pg[j]?=some y->Below w.heap.size w w1->w1.cell? ⟨rb,j*2,none⟩=some (.pointer (some ⟨y.1.b,0,none⟩))/\w1.cell? ⟨rb,j*2+1,none⟩=some (.int .i64 ((1024*y.2:Nat):Int)) /\
   Calls prog 72 #[.pointer (some ⟨y.1.b,0,none⟩),.bool false,.int .i64 0] (w1.alloc (.cells #[.pointer (some ⟨y.1.b,0,none⟩),.int .i64 ((1024*y.2:Nat):Int)] 236)) fun r w'=>r=.returned (.int .i64 (optI (Q3A y)))/\(w1.alloc (.cells #[.pointer (some ⟨y.1.b,0,none⟩),.int .i64 ((1024*y.2:Nat):Int)] 236))=w'):=fun j y w1 hy hb=>by
  have s1:=(h.grown hb).sep;have BJ:=CA.sepR s1;rw[AA] at BJ;obtain⟨e1,e2⟩:=Q1J _ _ _ hy;refine⟨Q0w BJ _ _ e1,Q0w BJ _ _ e2,?_⟩;have:=Er y (J5p hy);exact Q3K (CA.sepB (s1.alloc _) j y hy) false 0 (by omega) (by omega)
 have J8:Hid (∀w1,Below w.heap.size w w1 ->
   Calls prog 127 #[.pointer (some ⟨x.1.b,0,none⟩),.bool true,.slice (some ⟨w1.heap.size+1,0,none⟩) 1 1] ((w1.alloc (.cells #[.pointer (some ⟨x.1.b,0,none⟩),.int .i64 ((1024*x.2:Nat):Int)] 236)).alloc (.cells #[.int .i64 i] 3)) fun r w4=>r=.returned (.int .i64 1) /\
    w4.cell? ⟨w1.heap.size,0,none⟩=some (.pointer (some ⟨x.1.b,0,none⟩))/\w4.cell? ⟨w1.heap.size,1,none⟩=some (.int .i64 ((1024*x.2:Nat):Int)) /\
    Calls prog 128 #[.pointer (some ⟨c.c,0,none⟩),.agg #[.pointer (some ⟨x.1.b,0,none⟩),.int .i64 ((1024*x.2:Nat):Int)],.int .i64 i] w4 fun r w5=>r=.returned (.int .i64 ((addr c.size x.2 i:Nat):Int))/\J0O c k i x w (.returned (.tuple #[.int .i64 ((addr c.size x.2 i:Nat):Int),.int .i64 0])) w5):=fun w1 hb=>by
  have s1:=(h.grown hb).sep;have s3:=(s1.alloc (.cells #[.pointer (some ⟨x.1.b,0,none⟩),.int .i64 ((1024*x.2:Nat):Int)] 236)).alloc (.cells #[.int .i64 i] 3);have sb:=CA.sepB s3 k x hx;have Aa:∀b∈keys x.1.hl,b<w1.heap.size:=fun b AJ=>(CA.sepB s1 k x hx).lt AJ
  have hz:((w1.alloc (.cells #[.pointer (some ⟨x.1.b,0,none⟩),.int .i64 ((1024*x.2:Nat):Int)] 236))).heap.size=w1.heap.size+1:=by simp
  have AR:=Q2l sb true i CC (by omega) (by rw[Ky];simp) (w1.heap.size+1) (by
   have:=(Cells.new (w1.alloc (.cells #[.pointer (some ⟨x.1.b,0,none⟩),.int .i64 ((1024*x.2:Nat):Int)] 236)) 3 [.int .i64 i]).cell 0 _ rfl;rw[hz] at this;exact this) (fun hm=>by have:=Aa _ hm;omega)
  refine AR.mono ?_;rintro r w4⟨rfl,Ao⟩;have Bo:=CA.turnB s3 k x hx {x.1 with bits:=x.1.bits.set i true} rfl Ao;have A9:=(h.grown hb).trans Bo.from_alloc.from_alloc;have G0:w1.heap.size∉keys x.1.hl:=fun hm=>by have:=Aa _ hm;omega
  have AJ:=Ao.chg.block w1.heap.size (by simp;omega) G0;have AY:=((Cells.new w1 236 [.pointer (some ⟨x.1.b,0,none⟩),.int .i64 ((1024*x.2:Nat):Int)]).alloc (.cells #[.int .i64 i] 3))
  have d0:w4.cell? ⟨w1.heap.size,0,none⟩=some (.pointer (some ⟨x.1.b,0,none⟩)):=by simp only[World.cell?,AJ];exact AY.cell 0 _ rfl
  have d1:w4.cell? ⟨w1.heap.size,1,none⟩=some (.int .i64 ((1024*x.2:Nat):Int)):=by simp only[World.cell?,AJ];exact AY.cell 1 _ rfl
  have ok':=CA.ok_page ok k x hx {x.1 with bits:=x.1.bits.set i true} (by simp);have CI:=Q8C A9.sep ok' x.1.b x.2 i (ok.lt x (J5p hx)) (by omega);refine⟨rfl,d0,d1,CI.mono ?_⟩;rintro r w5⟨rfl,As⟩;exact⟨rfl,rfl,A9.trans (A9.sep.grown As)⟩
 have Cm:Hid (∀j,j<c.pg.length->∃y,c.pg[j]?=some y):=fun j hj=>⟨_,J5s hj⟩
 have Ho:=Q0a A1;have HX:=Q0a hx;have HF:=Q0a hf;clear h ok hx hf A1 CC Ky Er Mk AA;generalize KV:c.pg=pg at *
 generalize pg.length=np at *
 clear KV;obtain⟨TA,T8⟩:∃TA:Ending->World->Prop,TA=J0O c k i x w:=⟨_,rfl⟩
 rw[<- T8] at J8 ⊢;clear T8;generalize addr c.size x.2 i=ad at *
 generalize c.c=cc at *
 go_enter func69,ntmps69;go_wp2_with fail
 go_loopw [19] (fun jv wr=>∃j:Nat,jv=.int .i64 j/\j<=k/\Below w.heap.size w wr) (fun jv _=>k+1-(intOf jv).toNat)
 case atStart=>exact⟨0,rfl,J5d _,Below.refl _ _⟩
 case round =>
  obtain⟨j,rfl,hj,hb⟩:=hrel;obtain⟨y,hy⟩:=Cm.out j (by omega);obtain⟨c1,c2,AE⟩:=Kf.out j y wr hy hb;have Gz:(0:Int)<=j:=by omega
  have QA:(j:Int)<np:=by omega
  have Tm:(j:Int)<1048577:=by omega
  by_cases Aa:j<k
  ·rw[Ho.out j y Aa hy] at AE;unfold optI at AE;have Dv:=Q0a AE;have HB:=Q0a (((hb.alloc (by exact hb.size) (.cells #[.pointer (some ⟨y.1.b,0,none⟩),.int .i64 ((1024*y.2:Nat):Int)] 236))));clear AE hy;generalize 1024*y.2=pv at *
   go_wp2_with (go_at_call 72;refine Dv.out.mono ?_;rintro e w'⟨rfl,rfl⟩);go_roundw
   case rel=>exact⟨j+1,by go_num,by omega,HB.out⟩
   case measure=>simp[intOf];omega
  ·obtain rfl:j=k:=by omega
   rw[HX.out] at hy;cases hy;rw[HF.out] at AE;unfold optI at AE;have Dv:=Q0a AE;have HT:=Q0a (J8.out wr hb);have BH:(0:Int)<=i:=by omega
   have K4:(i:Int)<60:=by omega
   have Mj:decide ((0:Int)<=(i:Int))=true:=by simp
   clear AE;generalize 1024*x.2=pv at *
   go_wp2_with (go_at_call 72;refine Dv.out.mono ?_;rintro e w'⟨rfl,rfl⟩);refine HT.out.mono ?_;rintro r w4⟨rfl,d0,d1,CI⟩;have HP:=Q0a CI;clear CI;go_wp2_with fail;refine HP.out.mono ?_;rintro r w5⟨rfl,LF⟩;have Qb:=Q0a LF;clear LF;go_wp2_with fail;exact Qb.out
end Go.Proofs.YtfidemmgofcnmaaGreatDoor
namespace Go.Proofs.YtfidemmgofcnmaaGreatDoor
open Go.Proofs.Tryz
def clr(u:Nat->Bool)(k i:Nat):Bool:=(List.range (2 ^ k)).all fun j=>!u (i*2 ^ k+j)
theorem clr_iff(u:Nat->Bool)(k i:Nat):clr u k i=true↔∀p,p/2 ^ k=i->u p=false:=by
 unfold clr;rw[J6g];have hk:0<2 ^ k:=J4q k
 constructor
 ·intro h p hp;have:=h (p%2 ^ k) (J3x.2 (J6h _ hk));have e:i*2 ^ k+p%2 ^ k=p:=by
   rw[<- hp,J6b];exact Nat.div_add_mod p (2 ^ k)
  rw[e] at this;simpa using this
 ·intro h j hj;have Bn:=J3x.1 hj;have:u (i*2 ^ k+j)=false:=h _ (by rw[J4k,J6i _ _ hk,Nat.div_eq_of_lt Bn,J5F]);simp[this]
theorem Z1q(u:Nat->Bool)(p:Nat):clr u 0 p=!u p:=by simp[clr]
theorem div_succ(p k:Nat):p/2 ^ (k+1)=p/2 ^ k/2:=by rw[J4j,J4D]
theorem clr_half(u:Nat->Bool)(k i:Nat):clr u (k+1) i=(clr u k (2*i)&&clr u k (2*i+1)):=by
 rw[J6j,J3C,clr_iff,clr_iff,clr_iff]
 constructor
 ·intro h;exact⟨fun p hp=>h p (by rw[div_succ,hp];omega),fun p hp=>h p (by rw[div_succ,hp];omega)⟩
 ·rintro⟨h1,h2⟩ p hp;rw[div_succ] at hp;have:p/2 ^ k=2*i∨p/2 ^ k=2*i+1:=by omega
  rcases this with h|h
  ·exact h1 p h
  ·exact h2 p h
def fre(u:Nat->Bool)(top k i:Nat):Bool:=clr u k i&&(k==top||!clr u (k+1) (i/2))
def setU(u:Nat->Bool)(p:Nat)(b:Bool):Nat->Bool:=fun x=>if x=p then b else u x
theorem clr_set_true(u:Nat->Bool)(p k i:Nat):clr (setU u p true) k i=(clr u k i&&!(p/2 ^ k==i)):=by
 rw[J6j,J3C,clr_iff,clr_iff];simp only[J6k,beq_eq_false_iff_ne,setU]
 constructor
 ·intro h;refine⟨fun q hq=>?_,fun e=>?_⟩
  ·have:=h q hq;split at this
   ·cases this
   ·exact this
  ·have:=h p e;simp at this
 ·rintro⟨h1,h2⟩ q hq;rw[if_neg (fun e:q=p=>h2 (by rw[<- e];exact hq))];exact h1 q hq
theorem Q4a(u:Nat->Bool)(p k i:Nat)(h:p/2 ^ k≠i):clr (setU u p false) k i=clr u k i:=by
 rw[J6j,clr_iff,clr_iff]
 constructor
 ·intro a q hq;have:=a q hq;simp only[setU] at this;split at this
  ·rename_i e;subst e;exact absurd hq h
  ·exact this
 ·intro a q hq;simp only[setU];rw[if_neg (fun e:q=p=>h (by rw[<- e];exact hq))];exact a q hq
theorem Q5g{u:Nat->Bool}{k:Nat}(e:Nat){i:Nat}(h:clr u (k+e) (i/2 ^ e)=true):clr u k i=true:=by
 rw[clr_iff] at h ⊢;intro p hp;refine h p ?_;rw[J4C,<- J4D,hp]
def sib(i:Nat):Nat:=if i%2=0 then i+1 else i-1
theorem Q4b(i:Nat):sib i/2=i/2/\sib i≠i:=by unfold sib;split <;> omega
theorem J2g{x a:Nat}(h:x/2=a/2)(Ac:x≠a):x=sib a:=by unfold sib;split <;> omega
theorem Z1r(u:Nat->Bool)(top k p:Nat)(hk:k<=top)(h:fre u top k (p/2 ^ k)=true)(j x:Nat)(hj:j<=top) :
  fre (setU u p true) top j x=if j<k then(fre u top j x||(x==sib (p/2 ^ j))) else if j=k then(fre u top j x&&!(x==p/2 ^ k)) else fre u top j x:=by
 unfold fre at h;rw[J3C] at h;obtain⟨hc,hp⟩:=h;have above:∀m y,k<m->m<=top->clr u m y=true->p/2 ^ m≠y:=by
  intro m y hm Pe Cp e;have Ac:(k==top)=false:=by simp;omega
  rw[Ac] at hp;simp only[J6l,J6k] at hp;have:clr u (k+1) (p/2 ^ k/2)=true:=by
   refine Q5g (m-(k+1)) ?_;rw[show k+1+(m-(k+1))=m from by omega,<- div_succ,J4D,<- J4C,show k+1+(m-(k+1))=m from by omega,e];exact Cp
  rw[this] at hp;cases hp
 have same:∀m y,k<m->m<=top->clr (setU u p true) m y=clr u m y:=by
  intro m y hm Pe;rw[clr_set_true];cases Cp:clr u m y with
  | false=>rfl
  | true=>simp[above m y hm Pe Cp]
 by_cases h1:j<k
 ·rw[if_pos h1];have V5:(j==top)=false:=by simp;omega
  have PV:p/2 ^ j/2 ^ (k-j)=p/2 ^ k:=by rw[J4D,<- J4C,show j+(k-j)=k from by omega]
  unfold fre;rw[clr_set_true,clr_set_true,div_succ,V5];simp only[J6l];generalize hg:p/2 ^ j=a at *
  obtain⟨s1,s2⟩:=Q4b a;by_cases Bj:x/2 ^ (k-j)=p/2 ^ k
  ·have c1:clr u j x=true:=Q5g (k-j) (by rw[Bj,show j+(k-j)=k from by omega];exact hc);have c2:clr u (j+1) (x/2)=true:=by
    refine Q5g (k-(j+1)) ?_;have e3:x/2/2 ^ (k-(j+1))=x/2 ^ (k-j):=by
     rw[show k-j=(k-(j+1))+1 from by omega,J6m,J4D]
    rw[show j+1+(k-(j+1))=k from by omega,e3,Bj];exact hc
   rw[c1,c2];simp only[J4r,Bool.not_true,Bool.and_false,J6l,Bool.not_not];rw[J6j];simp only[J3C,J6k,beq_eq_false_iff_ne,beq_iff_eq]
   constructor
   ·rintro⟨e1,e2⟩;exact J2g e2.symm (fun e=>e1 e.symm)
   ·rintro rfl;exact⟨fun e=>s2 e.symm,s1.symm⟩
  ·have hx:x/2≠a/2:=by
    intro e;apply Bj;rw[<- PV,show k-j=(k-j-1)+1 from by omega,J6m,<- J4D,e,J4D]
   have e1:(a==x)=false:=by simp;omega
   have e2:(a/2==x/2)=false:=by simp;omega
   have e3:(x==sib a)=false:=by simp;rintro rfl;exact hx s1
   rw[e1,e2,e3];simp
 ·rw[if_neg h1];by_cases h2:j=k
  ·subst h2;rw[if_pos rfl];unfold fre;rw[clr_set_true,show(p/2 ^ j==x)=(x==p/2 ^ j) from BEq.comm];by_cases ht:j=top
   ·subst ht;simp
   ·rw[same (j+1) _ (by omega) (by omega)];cases clr u j x <;> cases (x==p/2 ^ j) <;> simp
  ·rw[if_neg h2];unfold fre;rw[same j x (by omega) hj];by_cases ht:j=top
   ·subst ht;simp
   ·rw[same (j+1) _ (by omega) (by omega)]
theorem Z4I(u:Nat->Bool)(top p:Nat)(h:u p=false):∃k,k<=top/\fre u top k (p/2 ^ k)=true:=by
 have key:∀n,n<=top->clr u n (p/2 ^ n)=true∨∃k,k<n/\fre u top k (p/2 ^ k)=true:=by
  intro n
  induction n with
  | zero=>intro _;left;rw[Z1q];simp[h]
  | succ n ih =>
   intro hn;rcases ih (by omega) with hc|⟨k,hk,hf⟩
   ·cases B5:clr u (n+1) (p/2 ^ (n+1)) with
    | true=>exact .inl rfl
    | false =>
     right;refine⟨n,by omega,?_⟩;unfold fre;rw[div_succ] at B5;rw[hc,B5];simp
   ·exact .inr ⟨k,by omega,hf⟩
 rcases key top (J3h _) with hc|⟨k,hk,hf⟩
 ·exact⟨top,J3h _,by unfold fre;rw[hc];simp⟩
 ·exact⟨k,by omega,hf⟩
theorem Q8G{u:Nat->Bool}{top k i p:Nat}(h:fre u top k i=true)(hp:p/2 ^ k=i):u p=false:=by
 unfold fre at h;rw[J3C] at h;exact(clr_iff u k i).1 h.1 p hp
theorem Q8H{u:Nat->Bool}{top k i l j p:Nat}(hk:k<=top)(hl:l<=top)(h:fre u top k i=true)(h':fre u top l j=true)(hp:p/2 ^ k=i)(AG:p/2 ^ l=j):k=l/\i=j:=by
 have main:∀{k l:Nat},l<=top->fre u top k (p/2 ^ k)=true->fre u top l (p/2 ^ l)=true->¬k<l:=by
  intro k l hl h h' Aa;unfold fre at h h';rw[J3C] at h h';have Ac:(k==top)=false:=by simp;omega
  rw[Ac] at h;simp only[J6l,J6k] at h;have:clr u (k+1) (p/2 ^ k/2)=true:=by
   refine Q5g (l-(k+1)) ?_;rw[show k+1+(l-(k+1))=l from by omega,<- div_succ,J4D,<- J4C,show k+1+(l-(k+1))=l from by omega];exact h'.1
  rw[this] at h;cases h.2
 subst hp;subst AG;have:k=l:=Nat.le_antisymm (by have:=main hk h' h;omega) (by have:=main hl h h';omega);subst this;exact⟨rfl,rfl⟩
theorem Z4J{u:Nat->Bool}{p:Nat}(h:u p=true):setU (setU u p false) p true=u:=by
 funext x;unfold setU;split
 ·rename_i e;rw[e,h]
 ·rfl
theorem Z7Y(u:Nat->Bool)(top p k:Nat)(hk:k<=top)(hu:u p=true)(hc:clr (setU u p false) k (p/2 ^ k)=true)(hn:k<top->clr u k (sib (p/2 ^ k))=false)(j x:Nat)(hj:j<=top) :
  fre (setU u p false) top j x=if j<k then(fre u top j x&&!(x==sib (p/2 ^ j))) else if j=k then(fre u top j x||(x==p/2 ^ k)) else fre u top j x:=by
 have hf:fre (setU u p false) top k (p/2 ^ k)=true:=by
  unfold fre;rw[hc,J4r,J6n];by_cases ht:k=top
  ·left;simp[ht]
  ·right;have h1:=hn (by omega);obtain⟨s1,s2⟩:=Q4b (p/2 ^ k);rw[clr_half,J6k,Bool.and_eq_false_iff];rw[<- Q4a u p k (sib (p/2 ^ k)) (fun e=>s2 e.symm)] at h1;have:sib (p/2 ^ k)=2*(p/2 ^ k/2)∨sib (p/2 ^ k)=2*(p/2 ^ k/2)+1:=by omega
   rcases this with e|e
   ·left;rw[<- e];exact h1
   ·right;rw[<- e];exact h1
 have main:=Z1r (setU u p false) top k p hk hf j x hj;rw[Z4J hu] at main;by_cases h1:j<k
 ·rw[if_pos h1] at main ⊢;rw[main];by_cases hx:x=sib (p/2 ^ j)
  ·obtain⟨s1,s2⟩:=Q4b (p/2 ^ j);have:fre (setU u p false) top j x=false:=by
    cases Gv:fre (setU u p false) top j x with
    | false=>rfl
    | true =>
     have e1:x*2 ^ j/2 ^ j=x:=J6a _ (J4q j);have e2:x*2 ^ j/2 ^ k=p/2 ^ k:=by
      rw[show k=j+(k-j) from by omega,J4C,<- J4D,e1,<- J4D,show k-j=(k-j-1)+1 from by omega,J6m,<- J4D,<- J4D,hx,s1]
     have:=Q8H hj hk Gv hf e1 e2;omega
   rw[this];simp[hx]
  ·have e9:(x==sib (p/2 ^ j))=false:=by simpa using hx
   rw[e9];simp
 ·rw[if_neg h1] at main ⊢;by_cases h2:j=k
  ·subst h2;rw[if_pos rfl] at main ⊢;rw[main];by_cases hx:x=p/2 ^ j
   ·subst hx;rw[hf];simp
   ·have e9:(x==p/2 ^ j)=false:=by simpa using hx
    rw[e9];simp
  ·rw[if_neg h2] at main ⊢;exact main.symm
theorem Z7Z(u:Nat->Bool)(top:Nat)(h:∀p,p<2 ^ top->u p=false)(k i:Nat)(hk:k<=top)(hi:i<2 ^ (top-k)):fre u top k i=decide (k=top):=by
 have hc:∀m y,m<=top->y<2 ^ (top-m)->clr u m y=true:=by
  intro m y hm hy;rw[clr_iff];intro p hp;refine h p ?_;have h1:p<(y+1)*2 ^ m:=by rw[<- hp];rw[J6b];exact Nat.lt_mul_div_succ p (J4q m)
  have h2:(y+1)*2 ^ m<=2 ^ (top-m)*2 ^ m:=J5Y _ hy;rw[<- J4C,show top-m+m=top from by omega] at h2;omega
 unfold fre;rw[hc k i hk hi];by_cases ht:k=top
 ·subst ht;simp
 ·have Ax:i/2<2 ^ (top-(k+1)):=by
   rw[show top-k=top-(k+1)+1 from by omega,J4j] at hi;omega
  rw[hc (k+1) (i/2) (by omega) Ax];simp[ht]
open Go.RowKit
structure BD where
 b:Nat
 mb:Nat
 top:Nat
 bms:List BM
 ps:List Nat
def BD.cells(d:BD):List Value:=.int .i64 d.top::(d.bms.map (fun m=>ptr m.b)++List.replicate (21-d.bms.length) (.pointer none)++[.map (some d.mb)])
def upk(ps:List Nat):List (Int×Value):=ps.map fun p=>(((1024*p:Nat):Int),.int .i64 0)
def BD.hl(d:BD):HL:=(d.b,isC 158 d.cells)::(d.mb,isMI (upk d.ps))::d.bms.flatMap BM.hl
structure BD.Is(d:BD)(G:Nat->Nat->Bool):Prop where
 len:d.bms.length=d.top+1
 top:d.top<=20
 bits:∀k m,d.bms[k]?=some m->m.bits=(List.range (2 ^ (d.top-k))).map (G k)
def uOf(ps:List Nat):Nat->Bool:=fun p=>decide (p∈ps)
structure BD.At(d:BD):Prop where
 is:d.Is (fre (uOf d.ps) d.top)
 nd:d.ps.Nodup
 lt:∀p∈d.ps,p<2 ^ d.top
def upG(G:Nat->Nat->Bool)(k i:Nat)(on:Bool):Nat->Nat->Bool:=fun l j=>if l=k/\j=i then on else G l j
theorem Z8a(ps:List Nat)(p:Nat):look (upk ps) ((1024*p:Nat):Int)=if p∈ps then some (.int .i64 0) else none:=by
 induction ps with
 | nil=>rfl
 | cons x r ih =>
  have ih':look (r.map fun p=>(((1024*p:Nat):Int),Value.int .i64 0)) ((1024*p:Nat):Int)=_:=ih;by_cases h:p=x
  ·subst h;simp[upk,look]
  ·have h2:¬((1024*p:Nat):Int)=((1024*x:Nat):Int):=by omega
   simp only[upk,J3k,look,h2,if_false];rw[ih'];simp[h]
theorem J0P(ps:List Nat)(p:Nat)(h:p∉ps):put (upk ps) ((1024*p:Nat):Int) (.int .i64 0)=upk (ps++[p]):=by
 induction ps with
 | nil=>rfl
 | cons x r ih =>
  have h1:¬p=x:=fun e=>h (by simp[e])
  have h2:¬((1024*p:Nat):Int)=((1024*x:Nat):Int):=by omega
  have ih':=ih (fun hr=>h (by simp[hr]));simp only[upk,J3k,put,h2,if_false,J5m] at ih' ⊢;rw[ih']
theorem J0Q(ps:List Nat)(p:Nat):del (upk ps) ((1024*p:Nat):Int)=upk (ps.erase p):=by
 induction ps with
 | nil=>rfl
 | cons x r ih =>
  by_cases h:p=x
  ·subst h;simp[upk,del]
  ·have h2:¬((1024*p:Nat):Int)=((1024*x:Nat):Int):=by omega
   have h3:(x==p)=false:=by simp;exact fun e=>h e.symm
   have e1:(x::r).erase p=x::r.erase p:=by rw[List.erase_cons,h3];rfl
   rw[e1];simp only[upk,J3k,del,h2,if_false] at ih ⊢;rw[ih]
theorem Z8b(ps:List Nat)(p:Nat):uOf (ps++[p])=setU (uOf ps) p true:=by
 funext x;unfold uOf setU;by_cases h:x=p <;> simp[h]
theorem Z4K{ps:List Nat}(h:ps.Nodup)(p:Nat):uOf (ps.erase p)=setU (uOf ps) p false:=by
 funext x;unfold uOf setU;simp only[h.mem_erase_iff];by_cases h:x=p <;> simp[h]
theorem Z4L(G:Nat->Bool)(n i:Nat)(on:Bool):((List.range n).map G).set i on=(List.range n).map fun j=>if j=i then on else G j:=by
 apply J4J
 intro j;rw[J4I,J4M,J4M,J4K,J4L];by_cases h:i=j
 ·subst h;by_cases h2:i<n
  ·simp[h2]
  ·simp[h2]
 ·rw[if_neg h];by_cases h2:j<n
  ·simp[h2,show ¬j=i from fun e=>h e.symm]
  ·rw[J4Q (by simp;omega)];rfl
section
variable {w:World} {d:BD} {G:Nat->Nat->Bool}
theorem BD.sepC(h:Sep w d.hl):Cells w d.b 158 d.cells:=h.cells (by simp[BD.hl])
theorem BD.c0(h:Sep w d.hl):w.cell? ⟨d.b,0,none⟩=some (.int .i64 d.top):=(BD.sepC h).cell 0 _ rfl
theorem BD.cf(h:Sep w d.hl)(k:Nat)(m:BM)(hm:d.bms[k]?=some m):w.cell? ⟨d.b,1+k,none⟩=some (ptr m.b):=by
 have hk:k<d.bms.length:=(J3y.1 hm).1;refine(BD.sepC h).cell (1+k) _ ?_;unfold BD.cells;rw[J4k,J6o,J4b,J6p (by simpa using hk),J4M,hm];rfl
theorem BD.cm(h:Sep w d.hl)(hl:d.bms.length<=21):w.cell? ⟨d.b,22,none⟩=some (.map (some d.mb)):=by
 refine(BD.sepC h).cell 22 _ ?_;unfold BD.cells;have e:(d.bms.map (fun m=>ptr m.b)++List.replicate (21-d.bms.length) (Value.pointer none)).length=21:=by simp;omega
 rw[J6o,J6q (by omega),e];rfl
theorem BD.map(h:Sep w d.hl):Q0H w d.mb (upk d.ps):=h.map (by simp[BD.hl,isMI])
theorem BD.bm(h:Sep w d.hl)(k:Nat)(m:BM)(hm:d.bms[k]?=some m):Sep w m.hl:=by
 refine h.sub ?_;unfold BD.hl;rw[Q3W _ _ _ _ hm];refine List.Sublist.cons _ (List.Sublist.cons _ ?_);exact(J3S _ _).trans (J3R _ _)
theorem BD.setBm(h:Sep w d.hl)(k:Nat)(m m':BM)(hm:d.bms[k]?=some m)(hb:m'.b=m.b){w':World}(hs:Step m.hl m'.hl w w'):Step d.hl ({d with bms:=d.bms.set k m'}:BD).hl w w':=by
 have hk:k<d.bms.length:=(J3y.1 hm).1;have hx:d.bms[k]=m:=(J3y.1 hm).2;have ec:({d with bms:=d.bms.set k m'}:BD).cells=d.cells:=by
  have:(d.bms.set k m').map (fun m=>ptr m.b)=d.bms.map fun m=>ptr m.b:=by
   apply J4J
   intro j;rw[J4M,J4M,J4I];by_cases hj:k=j
   ·subst hj;simp[hk,hb,hx]
   ·rw[if_neg hj]
  unfold BD.cells;simp only[this,J4N]
 have e1:d.hl=((d.b,isC 158 d.cells)::(d.mb,isMI (upk d.ps))::(d.bms.take k).flatMap BM.hl)++m.hl++(d.bms.drop (k+1)).flatMap BM.hl:=by
  unfold BD.hl;rw[Q3W _ _ _ _ hm];simp[List.append_assoc]
 have e2:({d with bms:=d.bms.set k m'}:BD).hl=((d.b,isC 158 d.cells)::(d.mb,isMI (upk d.ps))::(d.bms.take k).flatMap BM.hl)++m'.hl++(d.bms.drop (k+1)).flatMap BM.hl:=by
  unfold BD.hl;rw[ec,J0c _ _ _ _ hk];simp[List.append_assoc]
 rw[e1] at h;rw[e1,e2];exact Step.frame _ _ h hs
end
theorem BD.Is.get{d:BD}{G:Nat->Nat->Bool}(h:d.Is G)(k:Nat)(hk:k<=d.top):∃m,d.bms[k]?=some m/\m.bits=(List.range (2 ^ (d.top-k))).map (G k):=by
 have:k<d.bms.length:=by rw[h.len];omega
 exact⟨_,J5s this,h.bits k _ (J5s this)⟩
theorem Q1v{t k:Nat}(h:t<=20):2 ^ (t-k)<=1048576:=J3i (J4p (by omega) (by omega:t-k<=20)) (by decide)
def fstG(G:Nat->Nat->Bool)(top k s:Nat):Option Nat:=Q1N ((List.range (2 ^ (top-k))).map (G k)) true s
theorem Q5h{w:World}{d:BD}{G:Nat->Nat->Bool}(h:Sep w d.hl)(hi:d.Is G)(k:Nat)(hk:k<=d.top)(s:Nat)(hs:s<=1048576):∃b,w.cell? ⟨d.b,1+k,none⟩=some (.pointer (some ⟨b,0,none⟩)) /\
  Calls prog 72 #[.pointer (some ⟨b,0,none⟩),.bool true,.int .i64 s] w fun r w'=>r=.returned (.int .i64 (optI (fstG G d.top k s)))/\w=w':=by
 obtain⟨m,hm,hb⟩:=hi.get k hk;refine⟨m.b,BD.cf h k m hm,?_⟩;have:=Q3K (BD.bm h k m hm) true s hs (by rw[hb];simpa using Q1v hi.top);rw[hb] at this;exact this
theorem Q2R{α β:Type}(f:α->β)(L:List α)(k:Nat)(x y:α)(h:L[k]?=some x)(e:f y=f x):(L.set k y).map f=L.map f:=by
 apply J4J
 intro j;rw[J4M,J4M,J4I];by_cases hj:k=j
 ·subst hj;have hk:k<L.length:=(J3y.1 h).1;rw[if_pos rfl,if_pos hk,h];simp[e]
 ·rw[if_neg hj]
structure BD.To(d d':BD)(w w':World):Prop where
 b:d'.b=d.b
 mb:d'.mb=d.mb
 top:d'.top=d.top
 ps:d'.ps=d.ps
 step:Step d.hl d'.hl w w'
 ptrs:d'.bms.map BM.b=d.bms.map BM.b
theorem BD.To.refl{d:BD}{w:World}(h:Sep w d.hl):d.To d w w:=⟨rfl,rfl,rfl,rfl,Step.refl h,rfl⟩
theorem BD.To.trans{d d1 d2:BD}{w w1 w2:World}(h:d.To d1 w w1)(k:d1.To d2 w1 w2):d.To d2 w w2:=⟨k.b.trans h.b,k.mb.trans h.mb,k.top.trans h.top,k.ps.trans h.ps,h.step.trans k.step,k.ptrs.trans h.ptrs⟩
def SetG(d:BD)(w:World)(n:Int)(G:Nat->Nat->Bool)(r:Ending)(w':World):Prop:=r=.returned (.int .i64 n)/\∃d',d.To d' w w'/\d'.Is G
theorem Q8I{w:World}{d:BD}{G:Nat->Nat->Bool}(h:Sep w d.hl)(hi:d.Is G)(k i:Nat)(on:Bool)(hk:k<=d.top)(F8:i<2 ^ (d.top-k))(Ac:G k i≠on):∃b,w.cell? ⟨d.b,1+k,none⟩=some (.pointer (some ⟨b,0,none⟩)) /\
  Calls prog 127 #[.pointer (some ⟨b,0,none⟩),.bool on,.slice (some ⟨w.heap.size,0,none⟩) 1 1] (w.alloc (.cells #[.int .i64 i] 3)) (SetG d w 1 (upG G k i on)):=by
 obtain⟨m,hm,hb⟩:=hi.get k hk;refine⟨m.b,BD.cf h k m hm,?_⟩;have Ab:m.bits.length=2 ^ (d.top-k):=by rw[hb];simp
 have CM:m.bits[i]?.getD false=G k i:=by rw[hb];simp[F8]
 have hs:=BD.bm h k m hm;refine(Q2l (hs.alloc (.cells #[.int .i64 i] 3)) on i (by rw[Ab];exact F8) (by rw[Ab];exact Q1v hi.top) (by rw[CM];exact Ac) w.heap.size ((Cells.new w 3 [.int .i64 i]).cell 0 _ rfl) (fun hb=>by have:=hs.lt hb;omega)).mono ?_;rintro r w'⟨rfl,Ao⟩;refine⟨rfl,{d with bms:=d.bms.set k {m with bits:=m.bits.set i on}},⟨rfl,rfl,rfl,rfl,BD.setBm h k m {m with bits:=m.bits.set i on} hm rfl Ao.from_alloc,Q2R BM.b _ _ _ _ hm rfl⟩,⟨by simpa using hi.len,hi.top,?_⟩⟩;intro l m' By;rw[J4I] at By;by_cases hl:k=l
 ·subst hl;have QN:k<d.bms.length:=by rw[hi.len];omega
  simp only[if_true,QN] at By;cases By;show m.bits.set i on=_;rw[hb,Z4L]
  apply J5k
  intro j _;unfold upG;simp
 ·rw[if_neg hl] at By;rw[hi.bits l m' By]
  apply J5k
  intro j _;unfold upG;rw[if_neg];rintro⟨e,_⟩;exact hl e.symm
theorem BD.To.ptr{d d':BD}{w w':World}(h:d.To d' w w'){k:Nat}{b:Nat}(hm:(d.bms.map BM.b)[k]?=some b):w'.cell? ⟨d.b,1+k,none⟩=some (.pointer (some ⟨b,0,none⟩)):=by
 rw[<- h.ptrs,J4M] at hm;cases hx:d'.bms[k]? with
 | none=>rw[hx] at hm;cases hm
 | some m =>
  rw[hx] at hm;have:m.b=b:=J3Y hm;have hc:=BD.cf h.step.sep k m hx;rw[h.b,this] at hc;exact hc
theorem J0R{w:World}{d:BD}{G:Nat->Nat->Bool}(h:Sep w d.hl)(hi:d.Is G)(k i:Nat)(on:Bool)(hk:k<=d.top)(F8:i<2 ^ (d.top-k))(Ac:G k i=on):∃b,w.cell? ⟨d.b,1+k,none⟩=some (.pointer (some ⟨b,0,none⟩)) /\
  Calls prog 127 #[.pointer (some ⟨b,0,none⟩),.bool on,.slice (some ⟨w.heap.size,0,none⟩) 1 1] (w.alloc (.cells #[.int .i64 i] 3)) (SetG d w 0 G):=by
 obtain⟨m,hm,hb⟩:=hi.get k hk;refine⟨m.b,BD.cf h k m hm,?_⟩;have Ab:m.bits.length=2 ^ (d.top-k):=by rw[hb];simp
 have CM:m.bits[i]?.getD false=G k i:=by rw[hb];simp[F8]
 refine(Z2t ((BD.bm h k m hm).alloc (.cells #[.int .i64 i] 3)) on i (by rw[Ab];exact F8) (by rw[Ab];exact Q1v hi.top) (by rw[CM];exact Ac) w.heap.size ((Cells.new w 3 [.int .i64 i]).cell 0 _ rfl)).mono ?_;rintro r w'⟨rfl,rfl⟩;exact⟨rfl,d,⟨rfl,rfl,rfl,rfl,(Step.refl (h.alloc _)).from_alloc,rfl⟩,hi⟩
end Go.Proofs.YtfidemmgofcnmaaGreatDoor
