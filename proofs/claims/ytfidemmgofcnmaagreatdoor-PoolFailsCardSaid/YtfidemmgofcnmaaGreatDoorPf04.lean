/- PoolFails returns true at every input. No condition. Part of its proof. -/
import Derived.Test.YtfidemmgofcnmaaGreatDoorPf03
set_option maxHeartbeats 4000000
set_option maxRecDepth 100000
set_option linter.unusedVariables false
namespace Go.Proofs.YtfidemmgofcnmaaGreatDoor
open Go.RowKit Go.Proofs.Tryz
def Q0Y(pg:List (BM×Nat))(y:BM×Nat):List (BM×Nat):=pg.take (Q0f pg y.2)++y::pg.drop (Q0f pg y.2)
theorem Q2I(a b:List (BM×Nat)):Q0b (a++b)=Q0b a++Q0b b:=by simp[Q0b]
theorem Q3H(pg:List (BM×Nat))(j:Nat):Q0b (pg.take j)=(Q0b pg).take (j*2):=by
 induction pg generalizing j with
 | nil=>simp[Q0b]
 | cons y r ih =>
  cases j with
  | zero=>simp[Q0b]
  | succ j =>
   show _::_::Q0b (r.take j)=_;rw[ih,show(j+1)*2=j*2+1+1 by omega];rfl
theorem Q3I(pg:List (BM×Nat))(j:Nat):Q0b (pg.drop j)=(Q0b pg).drop (j*2):=by
 induction pg generalizing j with
 | nil=>simp[Q0b]
 | cons y r ih =>
  cases j with
  | zero=>simp
  | succ j =>
   show Q0b (r.drop j)=_;rw[ih,show(j+1)*2=j*2+1+1 by omega];rfl
theorem Q4P(pg:List (BM×Nat))(y:BM×Nat):Q0b (Q0Y pg y)=(Q0b pg).take (Q0f pg y.2*2)++[ptr y.1.b,.int .i64 ((1024*y.2:Nat):Int)]++(Q0b pg).drop (Q0f pg y.2*2):=by
 unfold Q0Y;rw[Q2I,Q3H];show _++([ptr y.1.b,.int .i64 ((1024*y.2:Nat):Int)]++Q0b (pg.drop _))=_;rw[Q3I,Z0F]
theorem Q8H(pg:List (BM×Nat))(y:BM×Nat):(y.1.hl++pgH pg).Perm (pgH (Q0Y pg y)):=by
 unfold Q0Y pgH;rw[Z0r,Z0n];have e:pg.flatMap (fun x=>x.1.hl)=(pg.take (Q0f pg y.2)).flatMap (fun x=>x.1.hl)++(pg.drop (Q0f pg y.2)).flatMap (fun x=>x.1.hl):=by
  rw[<- Z0r,Z0E]
 rw[e,<- Z0F,<- Z0F];exact Z2l _ Z2m
theorem insPg_len(pg:List (BM×Nat))(y:BM×Nat):(Q0Y pg y).length=pg.length+1:=by
 unfold Q0Y;simp only[Z0s,Z0t,Z1T,Z1S];omega
theorem mem_insPg{pg:List (BM×Nat)}{y z:BM×Nat}:z∈Q0Y pg y↔z=y∨z∈pg:=by
 unfold Q0Y;have:z∈pg↔z∈pg.take (Q0f pg y.2)∨z∈pg.drop (Q0f pg y.2):=by rw[<- Z0v,Z0E]
 rw[this];simp only[Z0v,Z0d]
 constructor
 ·rintro(h|h|h)
  ·exact .inr (.inl h)
  ·exact .inl h
  ·exact .inr (.inr h)
 ·rintro(h|h|h)
  ·exact .inr (.inl h)
  ·exact .inl h
  ·exact .inr (.inr h)
theorem Q2s{pg:List (BM×Nat)}(hs:pg.Pairwise (fun a b=>a.2<b.2))(y:BM×Nat)(hn:∀x∈pg,x.2≠y.2):(Q0Y pg y).Pairwise (fun a b=>a.2<b.2):=by
 have Hc:∀x∈pg.take (Q0f pg y.2),x.2<y.2:=fun x hx=>by
  obtain⟨k,hk⟩:=Z2n.1 hx;rw[Z1D] at hk;split at hk
  ·rename_i Ae;exact(Q1t hs y.2 k x hk).1 Ae
  ·cases hk
 have Hf:∀x∈pg.drop (Q0f pg y.2),y.2<x.2:=fun x hx=>by
  obtain⟨k,hk⟩:=Z2n.1 hx;rw[Z2c] at hk;have h1:=Q1t hs y.2 _ x hk;have h2:=hn x (Z1O hk);have h3:¬x.2<y.2:=fun e=>by have:=h1.2 e;omega
  omega
 unfold Q0Y;rw[Z0u];refine⟨hs.sublist (List.take_sublist _ _),Z0p.2 ⟨fun x hx=>Hf x hx,hs.sublist (List.drop_sublist _ _)⟩,fun a ha b hb=>?_⟩;rcases Z0d.1 hb with rfl|hb
 ·exact Hc a ha
 ·exact Nat.lt_trans (Hc a ha) (Hf b hb)
def CA.insert(c:CA)(rv':RV)(y:BM×Nat):CA:={c with rv:=rv',pg:=Q0Y c.pg y}
theorem CA.ok_ins{c:CA}(ok:c.Ok)(rv':RV)(y:BM×Nat)(hn:∀x∈c.pg,x.2≠y.2)(hr:rvOk rv' (c.pg.length+1))(hl:c.pg.length<1048576)(hy:y.2<1048576)(hb:y.1.bits.length=960/c.size):(c.insert rv' y).Ok:=by
 refine⟨?_,ok.s0,ok.s1,Q2s ok.sorted y hn,fun x hx=>?_,fun x hx=>?_,?_⟩
 ·show rvOk rv' (Q0Y c.pg y).length;rw[insPg_len];exact hr
 ·rcases mem_insPg.1 hx with rfl|h
  ·exact hy
  ·exact ok.lt x h
 ·rcases mem_insPg.1 hx with rfl|h
  ·exact hb
  ·exact ok.many x h
 ·show(Q0Y c.pg y).length<=_;rw[insPg_len];omega
theorem CA.insStep {w w1:World} {c:CA} {K:HL} (y:BM×Nat) (rv':RV) (h:Sep w (c.hl++(y.1.hl++K))) (Ah:Step ([(c.c,isC 233 [ptr c.bb,.int .i64 c.size,lvOf c.rv c.pg.length])]++rowH c.rv 236 2 (Q0b c.pg)++(pgH c.pg++(y.1.hl++K)))
   ([(c.c,isC 233 [ptr c.bb,.int .i64 c.size,lvOf c.rv c.pg.length])]++rowH rv' 236 2 ((Q0b c.pg).take (Q0f c.pg y.2*2)++[ptr y.1.b,.int .i64 ((1024*y.2:Nat):Int)]++(Q0b c.pg).drop (Q0f c.pg y.2*2))++(pgH c.pg++(y.1.hl++K))) w w1) :
  Step (c.hl++(y.1.hl++K)) ((c.insert rv' y).hl++K) w (w1.setCell ⟨c.c,2,none⟩ (lvOf rv' (c.pg.length+1))):=by
 rw[<- Q4P] at Ah;have s2:Step _ _ w1 _:=Sep.set (A:=[]) (b:=c.c) (T:=233) (cs:=[ptr c.bb,.int .i64 c.size,lvOf c.rv c.pg.length]) (B:=rowH rv' 236 2 (Q0b (Q0Y c.pg y))++(pgH c.pg++(y.1.hl++K))) (by simpa using Ah.sep) 2 (lvOf rv' (c.pg.length+1));have h3:=Step.trans (H1:=[]++(c.c,isC 233 [ptr c.bb,.int .i64 c.size,lvOf c.rv c.pg.length])::(rowH rv' 236 2 (Q0b (Q0Y c.pg y))++(pgH c.pg++(y.1.hl++K)))) (by simpa using Ah) s2;refine h3.perm (.of_eq (by unfold CA.hl;simp)) ?_;unfold CA.hl CA.insert;simp only[Z1K,Z2j,Z2k,insPg_len,Z1L];refine List.Perm.cons _ ?_;rw[Z0F];refine Z2o _ ?_;rw[<- Z0F]
 refine Z2l _ ?_;exact Z2m.trans (Q8H c.pg y)
def Q0L(bits:List Bool):List Nat:=(List.range bits.length).filter fun i=>bits[i]?.getD false
theorem mem_trues{bits:List Bool}{i:Nat}:i∈Q0L bits↔bits[i]?.getD false=true:=by
 unfold Q0L;rw[List.mem_filter,Z0j]
 constructor
 ·exact fun h=>h.2
 ·intro h;refine⟨?_,h⟩;rcases Z2h i bits.length with e|e
  ·exact e
  ·rw[Z1r e] at h;cases h
theorem Q2X(bits:List Bool):(Q0L bits).Pairwise (·<·):=Z0l.filter _
theorem Q2t(f:Nat->Bool):∀n,((List.range n).filter f).length=cnt f n
 | 0=>rfl
 | n+1=>by
  rw[Z0i,Z1y,Z0s,Q2t f n];show _=cnt f n+(f n).toNat;cases h:f n <;> simp[h]
theorem Q1R(bits:List Bool):(Q0L bits).length=cntB bits:=by
 unfold Q0L;rw[Q2t,Q4k bits _ (Q9Y _)]
def Q0v(size:Nat)(x:BM×Nat):List Nat:=(Q0L x.1.bits).map (addr size x.2)
def CA.used(c:CA):List Nat:=c.pg.flatMap (Q0v c.size)
theorem mem_used{c:CA}{a:Nat}:a∈c.used↔∃x∈c.pg,∃i,x.1.bits[i]?.getD false=true/\a=addr c.size x.2 i:=by
 unfold CA.used Q0v;rw[Z0o]
 constructor
 ·rintro⟨x,hx,ha⟩;obtain⟨i,hi,rfl⟩:=Z0e.1 ha;exact⟨x,hx,i,mem_trues.1 hi,rfl⟩
 ·rintro⟨x,hx,i,hi,rfl⟩;exact⟨x,hx,Z0e.2 ⟨i,mem_trues.2 hi,rfl⟩⟩
theorem Q1S{bits:List Bool}{i:Nat}(hi:i<bits.length)(h:bits[i]?.getD false=false):∃A B,Q0L bits=A++B/\Q0L (bits.set i true)=A++i::B:=by
 have e:List.range bits.length=List.range i++i::(List.range (bits.length-(i+1))).map (·+(i+1)):=by
  obtain⟨d,hd⟩:∃d,bits.length=i+(1+d):=⟨bits.length-(i+1),by omega⟩
  rw[hd,show i+(1+d)-(i+1)=d by omega,List.range_add,List.range_add];simp[Function.comp_def,Nat.add_comm,Nat.add_left_comm]
 unfold Q0L;rw[Z1p,e,Z1y,Z1y];refine⟨_,_,rfl,?_⟩;congr 1
 ·apply List.filter_congr
  intro j hj;rw[Z0j] at hj;rw[Q0C _ _ hi,if_neg (by omega)]
 ·rw[Z1M (by rw[Q0C _ _ hi];simp),Z1N (by rw[h];simp)];congr 1
  apply List.filter_congr
  intro j hj;obtain⟨t,_,rfl⟩:=Z0e.1 hj;rw[Q0C _ _ hi,if_neg (by omega)]
theorem Q2Y{bits:List Bool}{i:Nat}(h:bits[i]?.getD false=true):∃A B,Q0L bits=A++i::B/\Q0L (bits.set i false)=A++B:=by
 have hi:i<bits.length:=by
  rcases Z2h i bits.length with e|e
  ·exact e
  ·rw[Z1r e] at h;cases h
 obtain⟨A,B,e1,e2⟩:=Q1S (bits:=bits.set i false) (i:=i) (by simpa using hi) (by simp[hi]);rw[List.set_set,show bits.set i true=bits from ?_] at e2
 ·exact⟨A,B,e2,e1⟩
 ·apply Z1l
  intro j;rw[Z1k];split
  ·rename_i e;subst e;rw[Z1R hi] at h ⊢;simp only[Option.getD_some] at h;simp[h]
  ·rfl
theorem Q1F{α β:Type}(f:α->List β)(L:List α)(k:Nat):L.flatMap f=(L.take k).flatMap f++(L.drop k).flatMap f:=by
 rw[<- Z0r,Z0E]
theorem Q4Q{α β:Type}(f:α->List β)(L:List α)(k:Nat)(x:α)(h:L[k]?=some x):L.flatMap f=(L.take k).flatMap f++(f x++(L.drop (k+1)).flatMap f):=by
 rw[Q1F f L k];have hk:=Z0k.1 h;rw[List.drop_eq_getElem_cons hk.1,Z0n,hk.2]
theorem Q5J{α β:Type}(f:α->List β)(L:List α)(k:Nat)(y:α)(hk:k<L.length):(L.set k y).flatMap f=(L.take k).flatMap f++(f y++(L.drop (k+1)).flatMap f):=by
 rw[Q4Q f (L.set k y) k y (by simp[hk]),Z0G (Q9Y k),Z0H (by omega)]
theorem Q7j{α β:Type}(f:α->List β)(L:List α)(k:Nat):(L.eraseIdx k).flatMap f=(L.take k).flatMap f++(L.drop (k+1)).flatMap f:=by
 rw[Z2p,Z0r]
theorem Q7k{c:CA}{k i:Nat}{x:BM×Nat}(hx:c.pg[k]?=some x)(hi:i<x.1.bits.length)(h:x.1.bits[i]?.getD false=false) :
  ∃A B,c.used=A++B/\(c.pageTo k x {x.1 with bits:=x.1.bits.set i true}).used=A++addr c.size x.2 i::B:=by
 obtain⟨A,B,e1,e2⟩:=Q1S hi h;have hk:=(Z0k.1 hx).1;refine⟨(c.pg.take k).flatMap (Q0v c.size)++A.map (addr c.size x.2),B.map (addr c.size x.2)++(c.pg.drop (k+1)).flatMap (Q0v c.size),?_,?_⟩
 ·unfold CA.used;rw[Q4Q _ _ _ _ hx];simp[Q0v,e1]
 ·unfold CA.used CA.pageTo;rw[Q5J _ _ _ _ hk];simp[Q0v,e2]
theorem Q7l{c:CA}{k i:Nat}{x:BM×Nat}(hx:c.pg[k]?=some x)(h:x.1.bits[i]?.getD false=true) :
  ∃A B,c.used=A++addr c.size x.2 i::B/\(c.pageTo k x {x.1 with bits:=x.1.bits.set i false}).used=A++B:=by
 obtain⟨A,B,e1,e2⟩:=Q2Y h;have hk:=(Z0k.1 hx).1;refine⟨(c.pg.take k).flatMap (Q0v c.size)++A.map (addr c.size x.2),B.map (addr c.size x.2)++(c.pg.drop (k+1)).flatMap (Q0v c.size),?_,?_⟩
 ·unfold CA.used;rw[Q4Q _ _ _ _ hx];simp[Q0v,e1]
 ·unfold CA.used CA.pageTo;rw[Q5J _ _ _ _ hk];simp[Q0v,e2]
theorem Q5K(n:Nat)(h:0<n):Q0L ((List.replicate n false).set 0 true)=[0]:=by
 obtain⟨A,B,e1,e2⟩:=Q1S (bits:=List.replicate n false) (i:=0) (by simpa using h) (by simp[List.getElem?_replicate];split <;> rfl);have e0:Q0L (List.replicate n false)=[]:=by
  unfold Q0L;rw[Z1A];intro j _;rw[Z1B];split <;> simp
 rw[e0] at e1;obtain⟨rfl,rfl⟩:=Z2q.1 e1.symm;exact e2
theorem Q7m{c:CA}(rv':RV)(m:BM)(p n:Nat)(hn:0<n)(hm:m.bits=(List.replicate n false).set 0 true):∃A B,c.used=A++B/\(c.insert rv' (m,p)).used=A++addr c.size p 0::B:=by
 refine⟨_,_,Q1F (Q0v c.size) c.pg (Q0f c.pg p),?_⟩;unfold CA.used CA.insert Q0Y;rw[Z0r,Z0n];congr 1;simp only[Q0v];rw[hm,Q5K n hn];rfl
theorem Q5L{c:CA}{k i:Nat}{x:BM×Nat}(hx:c.pg[k]?=some x)(h:x.1.bits[i]?.getD false=true)(h0:cntB (x.1.bits.set i false)=0) :
  ∃A B,c.used=A++addr c.size x.2 i::B/\(c.dropPg k).used=A++B:=by
 obtain⟨A,B,e1,e2⟩:=Q2Y h;have e3:=Q1R (x.1.bits.set i false);rw[h0,e2] at e3;have e4:A++B=[]:=Z1Q e3;obtain⟨rfl,rfl⟩:=Z2q.1 e4;refine⟨(c.pg.take k).flatMap (Q0v c.size),(c.pg.drop (k+1)).flatMap (Q0v c.size),?_,?_⟩
 ·unfold CA.used;rw[Q4Q _ _ _ _ hx];simp[Q0v,e1]
 ·unfold CA.used CA.dropPg;rw[Q7j]
theorem Q2J{s i n:Nat}(hs:0<s)(hi:i<n)(hn:n=960/s):i*s+s<=960:=by
 subst hn;have:(i+1)*s<=960/s*s:=Z2r s hi;have h2:=Nat.div_mul_le_self 960 s;rw[Nat.add_mul,Nat.one_mul] at this;omega
theorem Q4R{s p i:Nat}(hs:0<s)(h:i*s+s<=960):addr s p i/1024=p/\addr s p i%1024=64+i*s/\(addr s p i%1024-64)%s=0/\(addr s p i%1024-64)/s=i:=by
 have e:addr s p i=64+i*s+p*1024:=by unfold addr;omega
 have h1:addr s p i/1024=p:=by rw[e];omega
 have h2:addr s p i%1024=64+i*s:=by rw[e];omega
 refine⟨h1,h2,?_,?_⟩
 ·rw[h2,Z2s,Nat.mul_mod_left]
 ·rw[h2,Z2s,Z2t _ hs]
theorem Q2Z{c:CA}{a k i:Nat}(h:Q1G c a=some (k,i)):∃x,c.pg[k]?=some x/\x.1.bits[i]?.getD false=true/\a=addr c.size x.2 i:=by
 unfold Q1G at h;split at h
 ·cases h
 ·rename_i x hx;split at h
  ·rename_i hc;obtain⟨h1,h2,h3,h4⟩:=hc;cases h;refine⟨x,hx,h4,?_⟩;have:=Nat.div_add_mod (a%1024-64) c.size;rw[h3,Z0g,Z2u] at this;unfold addr;rw[this,h1];omega
  ·cases h
theorem Q4S{pg:List (BM×Nat)}(hs:pg.Pairwise (fun a b=>a.2<b.2))(k:Nat)(x:BM×Nat)(hx:pg[k]?=some x):Q0f pg x.2=k:=by
 have h1:=Q1t hs x.2 k x hx;have hk:=(Z0k.1 hx).1;have Cf:=Q2G pg x.2;rcases Nat.lt_trichotomy (Q0f pg x.2) k with h|h|h
 ·have hy:pg[Q0f pg x.2]?=some (pg[Q0f pg x.2]'(by omega)):=Z1R (by omega);have h2:=Q1t hs x.2 _ _ hy;have h3:=Z2v.1 hs (Q0f pg x.2) k (by omega) hk h;have h4:pg[k]=x:=(Z0k.1 hx).2;rw[h4] at h3;have:=h2.2 h3;omega
 ·exact h
 ·have:=h1.1 h;omega
theorem Q5M{c:CA}(ok:c.Ok){k i:Nat}{x:BM×Nat}(hx:c.pg[k]?=some x)(h:x.1.bits[i]?.getD false=true):Q1G c (addr c.size x.2 i)=some (k,i):=by
 have Cu:=ok.s0;have hi:i<x.1.bits.length:=by
  rcases Z2h i x.1.bits.length with e|e
  ·exact e
  ·rw[Z1r e] at h;cases h
 have hm:=ok.many x (Z1O hx);have hp:=Q2J (s:=c.size) (by omega) hi hm;obtain⟨e1,e2,e3,e4⟩:=Q4R (p:=x.2) (by omega:0<c.size) hp;unfold Q1G;rw[e1,Q4S ok.sorted k x hx,hx];simp only[e3,e4,h];rw[if_pos ⟨trivial,by omega,trivial,trivial⟩]
theorem Q4p{c:CA}(ok:c.Ok)(a:Nat):(Q1G c a).isSome=decide (a∈c.used):=by
 cases hs:Q1G c a with
 | none =>
  symm
  simp only[Z2w,decide_eq_false_iff_not];intro hm;obtain⟨x,hx,i,hi,rfl⟩:=mem_used.1 hm;obtain⟨k,hk⟩:=Z2n.1 hx;rw[Q5M ok hk hi] at hs;cases hs
 | some y =>
  obtain⟨k,i⟩:=y;obtain⟨x,hx,hb,rfl⟩:=Q2Z hs
  symm
  simp only[Option.isSome_some,decide_eq_true_eq];exact mem_used.2 ⟨x,Z1O hx,i,hb,rfl⟩
theorem Q5N{c:CA}(ok:c.Ok){a:Nat}(ha:a∈c.used):∃x∈c.pg,1024*x.2+64<=a/\a+c.size<=1024*x.2+1024:=by
 obtain⟨x,hx,i,hi,rfl⟩:=mem_used.1 ha;have Cu:=ok.s0;have AK:i<x.1.bits.length:=by
  rcases Z2h i x.1.bits.length with e|e
  ·exact e
  ·rw[Z1r e] at hi;cases hi
 have hp:=Q2J (s:=c.size) (by omega) AK (ok.many x hx);exact⟨x,hx,by unfold addr;omega,by unfold addr;omega⟩
def Q8I(c:CA)(k i:Nat)(x:BM×Nat)(w:World)(r:Ending)(w':World):Prop:=r=.returned (.tuple #[.int .i64 ((addr c.size x.2 i:Nat):Int),.int .i64 0])/\Step c.hl (c.pageTo k x {x.1 with bits:=x.1.bits.set i true}).hl w w'
def Q1i(x:BM×Nat):Option Nat:=Q0q x.1.bits false 0
theorem Q7n{w:World}{c:CA}(h:Sep w c.hl)(ok:c.Ok)(k i:Nat)(x:BM×Nat)(hx:c.pg[k]?=some x)(hf:Q1i x=some i)(As:∀j y,j<k->c.pg[j]?=some y->Q1i y=none) :
  Calls prog 69 #[.pointer (some ⟨c.c,0,none⟩)] w (Q8I c k i x w):=by
 have hk:=(Z0k.1 hx).1;obtain⟨AK,_,EL,_⟩:=Q0t hf;have Bp:=ok.len;have Be:∀y∈c.pg,y.1.bits.length<=60:=fun y hy=>by
  rw[ok.many y hy];have:=ok.s0;exact Q9Z (Z2x this (by omega)) (by omega)
 have Ix:=Be x (Z1O hx);have Jv:i<60:=Z0a AK (Be x (Z1O hx));obtain⟨rb,Aa,Am⟩:∃rb Aa,c.rv=some (rb,Aa):=by
  cases e:c.rv with
  | none=>have:=ok.rv;rw[e] at this;have:c.pg.length=0:=this;omega
  | some p=>exact⟨p.1,p.2,rfl⟩
 have Ay:w.cell? ⟨c.c,2,none⟩=some (.slice (some ⟨rb,0,none⟩) c.pg.length Aa):=by
  have:=(CA.sepC h).cell 2 _ rfl;rw[Am] at this;exact this
 have CV:Hid (∀j y w1,c.pg[j]?=some y->Below w.heap.size w w1->w1.cell? ⟨rb,j*2,none⟩=some (.pointer (some ⟨y.1.b,0,none⟩))/\w1.cell? ⟨rb,j*2+1,none⟩=some (.int .i64 ((1024*y.2:Nat):Int)) /\
   Calls prog 72 #[.pointer (some ⟨y.1.b,0,none⟩),.bool false,.int .i64 0] (w1.alloc (.cells #[.pointer (some ⟨y.1.b,0,none⟩),.int .i64 ((1024*y.2:Nat):Int)] 236)) fun r w'=>r=.returned (.int .i64 (optI (Q1i y)))/\(w1.alloc (.cells #[.pointer (some ⟨y.1.b,0,none⟩),.int .i64 ((1024*y.2:Nat):Int)] 236))=w'):=fun j y w1 hy hb=>by
  have s1:=(h.grown hb).sep;have A3:=CA.sepR s1;rw[Am] at A3;obtain⟨e1,e2⟩:=Q0y _ _ _ hy;refine⟨Q0r A3 _ _ e1,Q0r A3 _ _ e2,?_⟩;have:=Be y (Z1O hy);exact Q0G (CA.sepB (s1.alloc _) j y hy) false 0 (by omega) (by omega)
 have CH:Hid (∀w1,Below w.heap.size w w1 ->
   Calls prog 127 #[.pointer (some ⟨x.1.b,0,none⟩),.bool true,.slice (some ⟨w1.heap.size+1,0,none⟩) 1 1] ((w1.alloc (.cells #[.pointer (some ⟨x.1.b,0,none⟩),.int .i64 ((1024*x.2:Nat):Int)] 236)).alloc (.cells #[.int .i64 i] 3)) fun r w4=>r=.returned (.int .i64 1) /\
    w4.cell? ⟨w1.heap.size,0,none⟩=some (.pointer (some ⟨x.1.b,0,none⟩))/\w4.cell? ⟨w1.heap.size,1,none⟩=some (.int .i64 ((1024*x.2:Nat):Int)) /\
    Calls prog 128 #[.pointer (some ⟨c.c,0,none⟩),.agg #[.pointer (some ⟨x.1.b,0,none⟩),.int .i64 ((1024*x.2:Nat):Int)],.int .i64 i] w4 fun r w5=>r=.returned (.int .i64 ((addr c.size x.2 i:Nat):Int))/\Q8I c k i x w (.returned (.tuple #[.int .i64 ((addr c.size x.2 i:Nat):Int),.int .i64 0])) w5):=fun w1 hb=>by
  have s1:=(h.grown hb).sep;have s3:=(s1.alloc (.cells #[.pointer (some ⟨x.1.b,0,none⟩),.int .i64 ((1024*x.2:Nat):Int)] 236)).alloc (.cells #[.int .i64 i] 3);have sb:=CA.sepB s3 k x hx;have Ae:∀b∈keys x.1.hl,b<w1.heap.size:=fun b A5=>(CA.sepB s1 k x hx).lt A5
  have hz:((w1.alloc (.cells #[.pointer (some ⟨x.1.b,0,none⟩),.int .i64 ((1024*x.2:Nat):Int)] 236))).heap.size=w1.heap.size+1:=by simp
  have An:=Q0P sb true i AK (by omega) (by rw[EL];simp) (w1.heap.size+1) (by
   have:=(Cells.new (w1.alloc (.cells #[.pointer (some ⟨x.1.b,0,none⟩),.int .i64 ((1024*x.2:Nat):Int)] 236)) 3 [.int .i64 i]).cell 0 _ rfl;rw[hz] at this;exact this) (fun hm=>by have:=Ae _ hm;omega)
  refine An.mono ?_;rintro r w4⟨rfl,Ah⟩;have DM:=CA.turnB s3 k x hx {x.1 with bits:=x.1.bits.set i true} rfl Ah;have A8:=(h.grown hb).trans DM.from_alloc.from_alloc;have D7:w1.heap.size∉keys x.1.hl:=fun hm=>by have:=Ae _ hm;omega
  have A5:=Ah.chg.block w1.heap.size (by simp;omega) D7;have Au:=((Cells.new w1 236 [.pointer (some ⟨x.1.b,0,none⟩),.int .i64 ((1024*x.2:Nat):Int)]).alloc (.cells #[.int .i64 i] 3))
  have d0:w4.cell? ⟨w1.heap.size,0,none⟩=some (.pointer (some ⟨x.1.b,0,none⟩)):=by simp only[World.cell?,A5];exact Au.cell 0 _ rfl
  have d1:w4.cell? ⟨w1.heap.size,1,none⟩=some (.int .i64 ((1024*x.2:Nat):Int)):=by simp only[World.cell?,A5];exact Au.cell 1 _ rfl
  have ok':=CA.ok_page ok k x hx {x.1 with bits:=x.1.bits.set i true} (by simp);have B7:=Q1P A8.sep ok' x.1.b x.2 i (ok.lt x (Z1O hx)) (by omega);refine⟨rfl,d0,d1,B7.mono ?_⟩;rintro r w5⟨rfl,CR⟩;exact⟨rfl,rfl,A8.trans (A8.sep.grown CR)⟩
 have Cl:Hid (∀j,j<c.pg.length->∃y,c.pg[j]?=some y):=fun j hj=>⟨_,Z1R hj⟩
 have FV:=Q0a As;have HX:=Q0a hx;have HF:=Q0a hf;clear h ok hx hf As AK EL Be Ix Am;generalize hpp:c.pg=pg at *
 generalize pg.length=np at *
 clear hpp;obtain⟨TA,Hi⟩:∃TA:Ending->World->Prop,TA=Q8I c k i x w:=⟨_,rfl⟩
 rw[<- Hi] at CH ⊢;clear Hi;generalize addr c.size x.2 i=ad at *
 generalize c.c=cc at *
 go_enter func69,ntmps69;go_wp2_with fail
 go_loopw [19] (fun jv wr=>∃j:Nat,jv=.int .i64 j/\j<=k/\Below w.heap.size w wr) (fun jv _=>k+1-(intOf jv).toNat)
 case atStart=>exact⟨0,rfl,Z1C _,Below.refl _ _⟩
 case round =>
  obtain⟨j,rfl,hj,hb⟩:=hrel;obtain⟨y,hy⟩:=Cl.out j (by omega);obtain⟨c1,c2,Aw⟩:=CV.out j y wr hy hb;have EB:(0:Int)<=j:=by omega
  have GC:(j:Int)<np:=by omega
  have Ka:(j:Int)<1048577:=by omega
  by_cases Ae:j<k
  ·rw[FV.out j y Ae hy] at Aw;unfold optI at Aw;have AP:=Q0a Aw;have HB:=Q0a (((hb.alloc (by exact hb.size) (.cells #[.pointer (some ⟨y.1.b,0,none⟩),.int .i64 ((1024*y.2:Nat):Int)] 236))));clear Aw hy;generalize 1024*y.2=pv at *
   go_wp2_with (go_at_call 72;refine AP.out.mono ?_;rintro e w'⟨rfl,rfl⟩);go_roundw
   case rel=>exact⟨j+1,by go_num,by omega,HB.out⟩
   case measure=>simp[intOf];omega
  ·obtain rfl:j=k:=by omega
   rw[HX.out] at hy;cases hy;rw[HF.out] at Aw;unfold optI at Aw;have AP:=Q0a Aw;have HT:=Q0a (CH.out wr hb);have AU:(0:Int)<=i:=by omega
   have CD:(i:Int)<60:=by omega
   have Eb:decide ((0:Int)<=(i:Int))=true:=by simp
   clear Aw;generalize 1024*x.2=pv at *
   go_wp2_with (go_at_call 72;refine AP.out.mono ?_;rintro e w'⟨rfl,rfl⟩);refine HT.out.mono ?_;rintro r w4⟨rfl,d0,d1,B7⟩;have HP:=Q0a B7;clear B7;go_wp2_with fail;refine HP.out.mono ?_;rintro r w5⟨rfl,Ev⟩;have Gm:=Q0a Ev;clear Ev;go_wp2_with fail;exact Gm.out
end Go.Proofs.YtfidemmgofcnmaaGreatDoor
namespace Go.Proofs.YtfidemmgofcnmaaGreatDoor
open Go.Proofs.Tryz
def clr(u:Nat->Bool)(k i:Nat):Bool:=(List.range (2 ^ k)).all fun j=>!u (i*2 ^ k+j)
theorem clr_iff(u:Nat->Bool)(k i:Nat):clr u k i=true↔∀p,p/2 ^ k=i->u p=false:=by
 unfold clr;rw[List.all_eq_true];have hk:0<2 ^ k:=Z0U k
 constructor
 ·intro h p hp;have:=h (p%2 ^ k) (Z0j.2 (Nat.mod_lt _ hk));have e:i*2 ^ k+p%2 ^ k=p:=by
   rw[<- hp,Z2u];exact Nat.div_add_mod p (2 ^ k)
  rw[e] at this;simpa using this
 ·intro h j hj;have Bw:=Z0j.1 hj;have:u (i*2 ^ k+j)=false:=h _ (by rw[Z0O,Z2y _ _ hk,Nat.div_eq_of_lt Bw,Z2e]);simp[this]
theorem Q7o(u:Nat->Bool)(p:Nat):clr u 0 p=!u p:=by simp[clr]
theorem div_succ(p k:Nat):p/2 ^ (k+1)=p/2 ^ k/2:=by rw[Z0N,Z1g]
theorem clr_half(u:Nat->Bool)(k i:Nat):clr u (k+1) i=(clr u k (2*i)&&clr u k (2*i+1)):=by
 rw[Z2z,Z0m,clr_iff,clr_iff,clr_iff]
 constructor
 ·intro h;exact⟨fun p hp=>h p (by rw[div_succ,hp];omega),fun p hp=>h p (by rw[div_succ,hp];omega)⟩
 ·rintro⟨h1,h2⟩ p hp;rw[div_succ] at hp;have:p/2 ^ k=2*i∨p/2 ^ k=2*i+1:=by omega
  rcases this with h|h
  ·exact h1 p h
  ·exact h2 p h
def fre(u:Nat->Bool)(top k i:Nat):Bool:=clr u k i&&(k==top||!clr u (k+1) (i/2))
def setU(u:Nat->Bool)(p:Nat)(b:Bool):Nat->Bool:=fun x=>if x=p then b else u x
theorem clr_set_true(u:Nat->Bool)(p k i:Nat):clr (setU u p true) k i=(clr u k i&&!(p/2 ^ k==i)):=by
 rw[Z2z,Z0m,clr_iff,clr_iff];simp only[Z2A,beq_eq_false_iff_ne,setU]
 constructor
 ·intro h;refine⟨fun q hq=>?_,fun e=>?_⟩
  ·have:=h q hq;split at this
   ·cases this
   ·exact this
  ·have:=h p e;simp at this
 ·rintro⟨h1,h2⟩ q hq;rw[if_neg (fun e:q=p=>h2 (by rw[<- e];exact hq))];exact h1 q hq
theorem Q1u(u:Nat->Bool)(p k i:Nat)(h:p/2 ^ k≠i):clr (setU u p false) k i=clr u k i:=by
 rw[Z2z,clr_iff,clr_iff]
 constructor
 ·intro a q hq;have:=a q hq;simp only[setU] at this;split at this
  ·rename_i e;subst e;exact absurd hq h
  ·exact this
 ·intro a q hq;simp only[setU];rw[if_neg (fun e:q=p=>h (by rw[<- e];exact hq))];exact a q hq
theorem Q1H{u:Nat->Bool}{k:Nat}(e:Nat){i:Nat}(h:clr u (k+e) (i/2 ^ e)=true):clr u k i=true:=by
 rw[clr_iff] at h ⊢;intro p hp;refine h p ?_;rw[Z1f,<- Z1g,hp]
def sib(i:Nat):Nat:=if i%2=0 then i+1 else i-1
theorem Q1v(i:Nat):sib i/2=i/2/\sib i≠i:=by unfold sib;split <;> omega
theorem Q9u{x a:Nat}(h:x/2=a/2)(Ao:x≠a):x=sib a:=by unfold sib;split <;> omega
theorem Q4q(u:Nat->Bool)(top k p:Nat)(hk:k<=top)(h:fre u top k (p/2 ^ k)=true)(j x:Nat)(hj:j<=top) :
  fre (setU u p true) top j x=if j<k then(fre u top j x||(x==sib (p/2 ^ j))) else if j=k then(fre u top j x&&!(x==p/2 ^ k)) else fre u top j x:=by
 unfold fre at h;rw[Z0m] at h;obtain⟨hc,hp⟩:=h;have above:∀m y,k<m->m<=top->clr u m y=true->p/2 ^ m≠y:=by
  intro m y hm EJ Bu e;have Ao:(k==top)=false:=by simp;omega
  rw[Ao] at hp;simp only[Z2B,Z2A] at hp;have:clr u (k+1) (p/2 ^ k/2)=true:=by
   refine Q1H (m-(k+1)) ?_;rw[show k+1+(m-(k+1))=m from by omega,<- div_succ,Z1g,<- Z1f,show k+1+(m-(k+1))=m from by omega,e];exact Bu
  rw[this] at hp;cases hp
 have same:∀m y,k<m->m<=top->clr (setU u p true) m y=clr u m y:=by
  intro m y hm EJ;rw[clr_set_true];cases Bu:clr u m y with
  | false=>rfl
  | true=>simp[above m y hm EJ Bu]
 by_cases h1:j<k
 ·rw[if_pos h1];have IH:(j==top)=false:=by simp;omega
  have Gd:p/2 ^ j/2 ^ (k-j)=p/2 ^ k:=by rw[Z1g,<- Z1f,show j+(k-j)=k from by omega]
  unfold fre;rw[clr_set_true,clr_set_true,div_succ,IH];simp only[Z2B];generalize hg:p/2 ^ j=a at *
  obtain⟨s1,s2⟩:=Q1v a;by_cases Bg:x/2 ^ (k-j)=p/2 ^ k
  ·have c1:clr u j x=true:=Q1H (k-j) (by rw[Bg,show j+(k-j)=k from by omega];exact hc);have c2:clr u (j+1) (x/2)=true:=by
    refine Q1H (k-(j+1)) ?_;have e3:x/2/2 ^ (k-(j+1))=x/2 ^ (k-j):=by
     rw[show k-j=(k-(j+1))+1 from by omega,Z2C,Z1g]
    rw[show j+1+(k-(j+1))=k from by omega,e3,Bg];exact hc
   rw[c1,c2];simp only[Z0V,Bool.not_true,Bool.and_false,Z2B,Bool.not_not];rw[Z2z];simp only[Z0m,Z2A,beq_eq_false_iff_ne,beq_iff_eq]
   constructor
   ·rintro⟨e1,e2⟩;exact Q9u e2.symm (fun e=>e1 e.symm)
   ·rintro rfl;exact⟨fun e=>s2 e.symm,s1.symm⟩
  ·have hx:x/2≠a/2:=by
    intro e;apply Bg;rw[<- Gd,show k-j=(k-j-1)+1 from by omega,Z2C,<- Z1g,e,Z1g]
   have e1:(a==x)=false:=by simp;omega
   have e2:(a/2==x/2)=false:=by simp;omega
   have e3:(x==sib a)=false:=by simp;rintro rfl;exact hx s1
   rw[e1,e2,e3];simp
 ·rw[if_neg h1];by_cases h2:j=k
  ·subst h2;rw[if_pos rfl];unfold fre;rw[clr_set_true,show(p/2 ^ j==x)=(x==p/2 ^ j) from BEq.comm];by_cases ht:j=top
   ·subst ht;simp
   ·rw[same (j+1) _ (by omega) (by omega)];cases clr u j x <;> cases (x==p/2 ^ j) <;> simp
  ·rw[if_neg h2];unfold fre;rw[same j x (by omega) hj];by_cases ht:j=top
   ·subst ht;simp
   ·rw[same (j+1) _ (by omega) (by omega)]
theorem Q3a{u:Nat->Bool}{top k i p:Nat}(h:fre u top k i=true)(hp:p/2 ^ k=i):u p=false:=by
 unfold fre at h;rw[Z0m] at h;exact(clr_iff u k i).1 h.1 p hp
theorem Q3b{u:Nat->Bool}{top k i l j p:Nat}(hk:k<=top)(hl:l<=top)(h:fre u top k i=true)(h':fre u top l j=true)(hp:p/2 ^ k=i)(AW:p/2 ^ l=j):k=l/\i=j:=by
 have main:∀{k l:Nat},l<=top->fre u top k (p/2 ^ k)=true->fre u top l (p/2 ^ l)=true->¬k<l:=by
  intro k l hl h h' Ae;unfold fre at h h';rw[Z0m] at h h';have Ao:(k==top)=false:=by simp;omega
  rw[Ao] at h;simp only[Z2B,Z2A] at h;have:clr u (k+1) (p/2 ^ k/2)=true:=by
   refine Q1H (l-(k+1)) ?_;rw[show k+1+(l-(k+1))=l from by omega,<- div_succ,Z1g,<- Z1f,show k+1+(l-(k+1))=l from by omega];exact h'.1
  rw[this] at h;cases h.2
 subst hp;subst AW;have:k=l:=Nat.le_antisymm (by have:=main hk h' h;omega) (by have:=main hl h h';omega);subst this;exact⟨rfl,rfl⟩
theorem Q5O{u:Nat->Bool}{p:Nat}(h:u p=true):setU (setU u p false) p true=u:=by
 funext x;unfold setU;split
 ·rename_i e;rw[e,h]
 ·rfl
theorem Q7p(u:Nat->Bool)(top p k:Nat)(hk:k<=top)(hu:u p=true)(hc:clr (setU u p false) k (p/2 ^ k)=true)(hn:k<top->clr u k (sib (p/2 ^ k))=false)(j x:Nat)(hj:j<=top) :
  fre (setU u p false) top j x=if j<k then(fre u top j x&&!(x==sib (p/2 ^ j))) else if j=k then(fre u top j x||(x==p/2 ^ k)) else fre u top j x:=by
 have hf:fre (setU u p false) top k (p/2 ^ k)=true:=by
  unfold fre;rw[hc,Z0V,Z2D];by_cases ht:k=top
  ·left;simp[ht]
  ·right;have h1:=hn (by omega);obtain⟨s1,s2⟩:=Q1v (p/2 ^ k);rw[clr_half,Z2A,Bool.and_eq_false_iff];rw[<- Q1u u p k (sib (p/2 ^ k)) (fun e=>s2 e.symm)] at h1;have:sib (p/2 ^ k)=2*(p/2 ^ k/2)∨sib (p/2 ^ k)=2*(p/2 ^ k/2)+1:=by omega
   rcases this with e|e
   ·left;rw[<- e];exact h1
   ·right;rw[<- e];exact h1
 have main:=Q4q (setU u p false) top k p hk hf j x hj;rw[Q5O hu] at main;by_cases h1:j<k
 ·rw[if_pos h1] at main ⊢;rw[main];by_cases hx:x=sib (p/2 ^ j)
  ·obtain⟨s1,s2⟩:=Q1v (p/2 ^ j);have:fre (setU u p false) top j x=false:=by
    cases hfx:fre (setU u p false) top j x with
    | false=>rfl
    | true =>
     have e1:x*2 ^ j/2 ^ j=x:=Z2t _ (Z0U j);have e2:x*2 ^ j/2 ^ k=p/2 ^ k:=by
      rw[show k=j+(k-j) from by omega,Z1f,<- Z1g,e1,<- Z1g,show k-j=(k-j-1)+1 from by omega,Z2C,<- Z1g,<- Z1g,hx,s1]
     have:=Q3b hj hk hfx hf e1 e2;omega
   rw[this];simp[hx]
  ·have e9:(x==sib (p/2 ^ j))=false:=by simpa using hx
   rw[e9];simp
 ·rw[if_neg h1] at main ⊢;by_cases h2:j=k
  ·subst h2;rw[if_pos rfl] at main ⊢;rw[main];by_cases hx:x=p/2 ^ j
   ·subst hx;rw[hf];simp
   ·have e9:(x==p/2 ^ j)=false:=by simpa using hx
    rw[e9];simp
  ·rw[if_neg h2] at main ⊢;exact main.symm
theorem Q7q(u:Nat->Bool)(top:Nat)(h:∀p,p<2 ^ top->u p=false)(k i:Nat)(hk:k<=top)(hi:i<2 ^ (top-k)):fre u top k i=decide (k=top):=by
 have hc:∀m y,m<=top->y<2 ^ (top-m)->clr u m y=true:=by
  intro m y hm hy;rw[clr_iff];intro p hp;refine h p ?_;have h1:p<(y+1)*2 ^ m:=by rw[<- hp];rw[Z2u];exact Nat.lt_mul_div_succ p (Z0U m)
  have h2:(y+1)*2 ^ m<=2 ^ (top-m)*2 ^ m:=Z2r _ hy;rw[<- Z1f,show top-m+m=top from by omega] at h2;omega
 unfold fre;rw[hc k i hk hi];by_cases ht:k=top
 ·subst ht;simp
 ·have CE:i/2<2 ^ (top-(k+1)):=by
   rw[show top-k=top-(k+1)+1 from by omega,Z0N] at hi;omega
  rw[hc (k+1) (i/2) (by omega) CE];simp[ht]
open Go.RowKit
structure BD where
 b:Nat
 mb:Nat
 top:Nat
 bms:List BM
 ps:List Nat
def BD.cells(d:BD):List Value:=.int .i64 d.top::(d.bms.map (fun m=>ptr m.b)++List.replicate (21-d.bms.length) (.pointer none)++[.map (some d.mb)])
def upk(ps:List Nat):List (Int×Value):=ps.map fun p=>(((1024*p:Nat):Int),.int .i64 0)
def BD.hl(d:BD):HL:=(d.b,isC 158 d.cells)::(d.mb,isMI (upk d.ps))::d.bms.flatMap BM.hl
structure BD.Is(d:BD)(G:Nat->Nat->Bool):Prop where
 len:d.bms.length=d.top+1
 top:d.top<=20
 bits:∀k m,d.bms[k]?=some m->m.bits=(List.range (2 ^ (d.top-k))).map (G k)
def uOf(ps:List Nat):Nat->Bool:=fun p=>decide (p∈ps)
structure BD.At(d:BD):Prop where
 is:d.Is (fre (uOf d.ps) d.top)
 nd:d.ps.Nodup
 lt:∀p∈d.ps,p<2 ^ d.top
def upG(G:Nat->Nat->Bool)(k i:Nat)(on:Bool):Nat->Nat->Bool:=fun l j=>if l=k/\j=i then on else G l j
theorem Q7r(ps:List Nat)(p:Nat):look (upk ps) ((1024*p:Nat):Int)=if p∈ps then some (.int .i64 0) else none:=by
 induction ps with
 | nil=>rfl
 | cons x r ih =>
  have ih':look (r.map fun p=>(((1024*p:Nat):Int),Value.int .i64 0)) ((1024*p:Nat):Int)=_:=ih;by_cases h:p=x
  ·subst h;simp[upk,look]
  ·have h2:¬((1024*p:Nat):Int)=((1024*x:Nat):Int):=by omega
   simp only[upk,Z0b,look,h2,if_false];rw[ih'];simp[h]
theorem Q8J(ps:List Nat)(p:Nat)(h:p∉ps):put (upk ps) ((1024*p:Nat):Int) (.int .i64 0)=upk (ps++[p]):=by
 induction ps with
 | nil=>rfl
 | cons x r ih =>
  have h1:¬p=x:=fun e=>h (by simp[e])
  have h2:¬((1024*p:Nat):Int)=((1024*x:Nat):Int):=by omega
  have ih':=ih (fun hr=>h (by simp[hr]));simp only[upk,Z0b,put,h2,if_false,Z1L] at ih' ⊢;rw[ih']
theorem Q8K(ps:List Nat)(p:Nat):del (upk ps) ((1024*p:Nat):Int)=upk (ps.erase p):=by
 induction ps with
 | nil=>rfl
 | cons x r ih =>
  by_cases h:p=x
  ·subst h;simp[upk,del]
  ·have h2:¬((1024*p:Nat):Int)=((1024*x:Nat):Int):=by omega
   have h3:(x==p)=false:=by simp;exact fun e=>h e.symm
   have e1:(x::r).erase p=x::r.erase p:=by rw[List.erase_cons,h3];rfl
   rw[e1];simp only[upk,Z0b,del,h2,if_false] at ih ⊢;rw[ih]
theorem Q7s(ps:List Nat)(p:Nat):uOf (ps++[p])=setU (uOf ps) p true:=by
 funext x;unfold uOf setU;by_cases h:x=p <;> simp[h]
theorem Q5P{ps:List Nat}(h:ps.Nodup)(p:Nat):uOf (ps.erase p)=setU (uOf ps) p false:=by
 funext x;unfold uOf setU;simp only[h.mem_erase_iff];by_cases h:x=p <;> simp[h]
theorem Q5Q(G:Nat->Bool)(n i:Nat)(on:Bool):((List.range n).map G).set i on=(List.range n).map fun j=>if j=i then on else G j:=by
 apply Z1l
 intro j;rw[Z1k,Z1o,Z1o,Z1m,Z1n];by_cases h:i=j
 ·subst h;by_cases h2:i<n
  ·simp[h2]
  ·simp[h2]
 ·rw[if_neg h];by_cases h2:j<n
  ·simp[h2,show ¬j=i from fun e=>h e.symm]
  ·rw[Z1r (by simp;omega)];rfl
section
variable {w:World} {d:BD} {G:Nat->Nat->Bool}
theorem BD.sepC(h:Sep w d.hl):Cells w d.b 158 d.cells:=h.cells (by simp[BD.hl])
theorem BD.c0(h:Sep w d.hl):w.cell? ⟨d.b,0,none⟩=some (.int .i64 d.top):=(BD.sepC h).cell 0 _ rfl
theorem BD.cf(h:Sep w d.hl)(k:Nat)(m:BM)(hm:d.bms[k]?=some m):w.cell? ⟨d.b,1+k,none⟩=some (ptr m.b):=by
 have hk:k<d.bms.length:=(Z0k.1 hm).1;refine(BD.sepC h).cell (1+k) _ ?_;unfold BD.cells;rw[Z0O,Z2E,Z0F,Z2F (by simpa using hk),Z1o,hm];rfl
theorem BD.cm(h:Sep w d.hl)(hl:d.bms.length<=21):w.cell? ⟨d.b,22,none⟩=some (.map (some d.mb)):=by
 refine(BD.sepC h).cell 22 _ ?_;unfold BD.cells;have e:(d.bms.map (fun m=>ptr m.b)++List.replicate (21-d.bms.length) (Value.pointer none)).length=21:=by simp;omega
 rw[Z2E,Z2G (by omega),e];rfl
theorem BD.map(h:Sep w d.hl):Q0n w d.mb (upk d.ps):=h.map (by simp[BD.hl,isMI])
theorem BD.bm(h:Sep w d.hl)(k:Nat)(m:BM)(hm:d.bms[k]?=some m):Sep w m.hl:=by
 refine h.sub ?_;unfold BD.hl;rw[Q1r _ _ _ _ hm];refine List.Sublist.cons _ (List.Sublist.cons _ ?_);exact(Z0x _ _).trans (Z0w _ _)
theorem BD.setBm(h:Sep w d.hl)(k:Nat)(m m':BM)(hm:d.bms[k]?=some m)(hb:m'.b=m.b){w':World}(hs:Step m.hl m'.hl w w'):Step d.hl ({d with bms:=d.bms.set k m'}:BD).hl w w':=by
 have hk:k<d.bms.length:=(Z0k.1 hm).1;have hx:d.bms[k]=m:=(Z0k.1 hm).2;have ec:({d with bms:=d.bms.set k m'}:BD).cells=d.cells:=by
  have:(d.bms.set k m').map (fun m=>ptr m.b)=d.bms.map fun m=>ptr m.b:=by
   apply Z1l
   intro j;rw[Z1o,Z1o,Z1k];by_cases hj:k=j
   ·subst hj;simp[hk,hb,hx]
   ·rw[if_neg hj]
  unfold BD.cells;simp only[this,Z1p]
 have e1:d.hl=((d.b,isC 158 d.cells)::(d.mb,isMI (upk d.ps))::(d.bms.take k).flatMap BM.hl)++m.hl++(d.bms.drop (k+1)).flatMap BM.hl:=by
  unfold BD.hl;rw[Q1r _ _ _ _ hm];simp[List.append_assoc]
 have e2:({d with bms:=d.bms.set k m'}:BD).hl=((d.b,isC 158 d.cells)::(d.mb,isMI (upk d.ps))::(d.bms.take k).flatMap BM.hl)++m'.hl++(d.bms.drop (k+1)).flatMap BM.hl:=by
  unfold BD.hl;rw[ec,Q8h _ _ _ _ hk];simp[List.append_assoc]
 rw[e1] at h;rw[e1,e2];exact Step.frame _ _ h hs
end
theorem BD.Is.get{d:BD}{G:Nat->Nat->Bool}(h:d.Is G)(k:Nat)(hk:k<=d.top):∃m,d.bms[k]?=some m/\m.bits=(List.range (2 ^ (d.top-k))).map (G k):=by
 have:k<d.bms.length:=by rw[h.len];omega
 exact⟨_,Z1R this,h.bits k _ (Z1R this)⟩
theorem Q0z{t k:Nat}(h:t<=20):2 ^ (t-k)<=1048576:=Q9Z (Z0T (by omega) (by omega:t-k<=20)) (by decide)
def fstG(G:Nat->Nat->Bool)(top k s:Nat):Option Nat:=Q0q ((List.range (2 ^ (top-k))).map (G k)) true s
theorem Q1I{w:World}{d:BD}{G:Nat->Nat->Bool}(h:Sep w d.hl)(hi:d.Is G)(k:Nat)(hk:k<=d.top)(s:Nat)(hs:s<=1048576):∃b,w.cell? ⟨d.b,1+k,none⟩=some (.pointer (some ⟨b,0,none⟩)) /\
  Calls prog 72 #[.pointer (some ⟨b,0,none⟩),.bool true,.int .i64 s] w fun r w'=>r=.returned (.int .i64 (optI (fstG G d.top k s)))/\w=w':=by
 obtain⟨m,hm,hb⟩:=hi.get k hk;refine⟨m.b,BD.cf h k m hm,?_⟩;have:=Q0G (BD.bm h k m hm) true s hs (by rw[hb];simpa using Q0z hi.top);rw[hb] at this;exact this
theorem Q1d{α β:Type}(f:α->β)(L:List α)(k:Nat)(x y:α)(h:L[k]?=some x)(e:f y=f x):(L.set k y).map f=L.map f:=by
 apply Z1l
 intro j;rw[Z1o,Z1o,Z1k];by_cases hj:k=j
 ·subst hj;have hk:k<L.length:=(Z0k.1 h).1;rw[if_pos rfl,if_pos hk,h];simp[e]
 ·rw[if_neg hj]
structure BD.To(d d':BD)(w w':World):Prop where
 b:d'.b=d.b
 mb:d'.mb=d.mb
 top:d'.top=d.top
 ps:d'.ps=d.ps
 step:Step d.hl d'.hl w w'
 ptrs:d'.bms.map BM.b=d.bms.map BM.b
theorem BD.To.refl{d:BD}{w:World}(h:Sep w d.hl):d.To d w w:=⟨rfl,rfl,rfl,rfl,Step.refl h,rfl⟩
theorem BD.To.trans{d d1 d2:BD}{w w1 w2:World}(h:d.To d1 w w1)(k:d1.To d2 w1 w2):d.To d2 w w2:=⟨k.b.trans h.b,k.mb.trans h.mb,k.top.trans h.top,k.ps.trans h.ps,h.step.trans k.step,k.ptrs.trans h.ptrs⟩
def SetG(d:BD)(w:World)(n:Int)(G:Nat->Nat->Bool)(r:Ending)(w':World):Prop:=r=.returned (.int .i64 n)/\∃d',d.To d' w w'/\d'.Is G
theorem Q3c{w:World}{d:BD}{G:Nat->Nat->Bool}(h:Sep w d.hl)(hi:d.Is G)(k i:Nat)(on:Bool)(hk:k<=d.top)(Ce:i<2 ^ (d.top-k))(Ao:G k i≠on):∃b,w.cell? ⟨d.b,1+k,none⟩=some (.pointer (some ⟨b,0,none⟩)) /\
  Calls prog 127 #[.pointer (some ⟨b,0,none⟩),.bool on,.slice (some ⟨w.heap.size,0,none⟩) 1 1] (w.alloc (.cells #[.int .i64 i] 3)) (SetG d w 1 (upG G k i on)):=by
 obtain⟨m,hm,hb⟩:=hi.get k hk;refine⟨m.b,BD.cf h k m hm,?_⟩;have Ad:m.bits.length=2 ^ (d.top-k):=by rw[hb];simp
 have AH:m.bits[i]?.getD false=G k i:=by rw[hb];simp[Ce]
 have hs:=BD.bm h k m hm;refine(Q0P (hs.alloc (.cells #[.int .i64 i] 3)) on i (by rw[Ad];exact Ce) (by rw[Ad];exact Q0z hi.top) (by rw[AH];exact Ao) w.heap.size ((Cells.new w 3 [.int .i64 i]).cell 0 _ rfl) (fun hb=>by have:=hs.lt hb;omega)).mono ?_;rintro r w'⟨rfl,Ah⟩;refine⟨rfl,{d with bms:=d.bms.set k {m with bits:=m.bits.set i on}},⟨rfl,rfl,rfl,rfl,BD.setBm h k m {m with bits:=m.bits.set i on} hm rfl Ah.from_alloc,Q1d BM.b _ _ _ _ hm rfl⟩,⟨by simpa using hi.len,hi.top,?_⟩⟩;intro l m' B5;rw[Z1k] at B5;by_cases hl:k=l
 ·subst hl;have EI:k<d.bms.length:=by rw[hi.len];omega
  simp only[if_true,EI] at B5;cases B5;show m.bits.set i on=_;rw[hb,Q5Q]
  apply Z1J
  intro j _;unfold upG;simp
 ·rw[if_neg hl] at B5;rw[hi.bits l m' B5]
  apply Z1J
  intro j _;unfold upG;rw[if_neg];rintro⟨e,_⟩;exact hl e.symm
theorem BD.To.ptr{d d':BD}{w w':World}(h:d.To d' w w'){k:Nat}{b:Nat}(hm:(d.bms.map BM.b)[k]?=some b):w'.cell? ⟨d.b,1+k,none⟩=some (.pointer (some ⟨b,0,none⟩)):=by
 rw[<- h.ptrs,Z1o] at hm;cases hx:d'.bms[k]? with
 | none=>rw[hx] at hm;cases hm
 | some m =>
  rw[hx] at hm;have:m.b=b:=Z0C hm;have hc:=BD.cf h.step.sep k m hx;rw[h.b,this] at hc;exact hc
theorem Q8L{w:World}{d:BD}{G:Nat->Nat->Bool}(h:Sep w d.hl)(hi:d.Is G)(k i:Nat)(on:Bool)(hk:k<=d.top)(Ce:i<2 ^ (d.top-k))(Ao:G k i=on):∃b,w.cell? ⟨d.b,1+k,none⟩=some (.pointer (some ⟨b,0,none⟩)) /\
  Calls prog 127 #[.pointer (some ⟨b,0,none⟩),.bool on,.slice (some ⟨w.heap.size,0,none⟩) 1 1] (w.alloc (.cells #[.int .i64 i] 3)) (SetG d w 0 G):=by
 obtain⟨m,hm,hb⟩:=hi.get k hk;refine⟨m.b,BD.cf h k m hm,?_⟩;have Ad:m.bits.length=2 ^ (d.top-k):=by rw[hb];simp
 have AH:m.bits[i]?.getD false=G k i:=by rw[hb];simp[Ce]
 refine(Q4K ((BD.bm h k m hm).alloc (.cells #[.int .i64 i] 3)) on i (by rw[Ad];exact Ce) (by rw[Ad];exact Q0z hi.top) (by rw[AH];exact Ao) w.heap.size ((Cells.new w 3 [.int .i64 i]).cell 0 _ rfl)).mono ?_;rintro r w'⟨rfl,rfl⟩;exact⟨rfl,d,⟨rfl,rfl,rfl,rfl,(Step.refl (h.alloc _)).from_alloc,rfl⟩,hi⟩
theorem Q4T{w:World}{d:BD}{G:Nat->Nat->Bool}(h:Sep w d.hl)(hi:d.Is G)(hn:∀k,k<=d.top->fstG G d.top k 0=none) :
  Calls prog 129 #[.pointer (some ⟨d.b,0,none⟩),.int .i64 0] w fun r w'=>r=.returned (.tuple #[.int .i64 0,.int .i64 4])/\w=w':=by
 have c0:=BD.c0 h;have HF:=Q0a (show ∀k,k<=d.top->∃b,w.cell? ⟨d.b,1+k,none⟩=some (.pointer (some ⟨b,0,none⟩))/\Calls prog 72 #[.pointer (some ⟨b,0,none⟩),.bool true,.int .i64 0] w fun r w'=>r=.returned (.int .i64 (-1))/\w=w' from fun k hk=>by
  obtain⟨b,h1,h2⟩:=Q1I h hi k hk 0 (by omega);rw[hn k hk] at h2;exact⟨b,h1,h2⟩)
 have ht:=hi.top;clear h hi hn;generalize d.top=top at *
 go_enter func129,ntmps129;go_wp2_with fail
 go_loop [6,7] (fun kv iv=>∃k:Nat,kv=.int .i64 k/\iv=.int .i64 (-1)/\k<=top+1) (fun kv _=>top+1-(intOf kv).toNat)
 case atStart=>exact⟨0,rfl,rfl,by omega⟩
 case round =>
  obtain⟨k,rfl,rfl,hk⟩:=hrel;by_cases Ae:k<=top
  ·obtain⟨b,hc,Aj⟩:=HF.out k Ae;go_wp2_with (go_at_call 72;refine Aj.mono ?_;rintro e w'⟨rfl,rfl⟩)
   go_round
   case rel=>exact⟨k+1,by go_num,rfl,by omega⟩
   case measure=>simp[intOf];omega
  ·go_wp2_with fail;go_ret2;exact⟨rfl,rfl⟩
def spl(G:Nat->Nat->Bool)(k0 i0 j:Nat):Nat->Nat->Bool:=fun l x=>if l<j then G l x else if l<k0 then(G l x||(x==i0*2 ^ (k0-l)+1)) else if l=k0 then(G l x&&!(x==i0)) else G l x
theorem Q8M(G:Nat->Nat->Bool)(k0 i0:Nat):upG G k0 i0 false=spl G k0 i0 k0:=by
 funext l x;unfold upG spl;by_cases h:l=k0
 ·subst h;by_cases h2:x=i0 <;> simp[h2]
 ·by_cases h2:l<k0
  ·simp[h,h2]
  ·simp[h,h2]
theorem Q7t(G:Nat->Nat->Bool)(k0 i0 j:Nat)(hj:j<k0):upG (spl G k0 i0 (j+1)) j (i0*2 ^ (k0-j)+1) true=spl G k0 i0 j:=by
 funext l x;unfold upG spl;by_cases h:l=j
 ·subst h;have h1:¬l<l:=by omega
  have h2:l<l+1:=by omega
  by_cases hx:x=i0*2 ^ (k0-l)+1
  ·simp[hj,h1,hx]
  ·have e:(x==i0*2 ^ (k0-l)+1)=false:=by simpa using hx
   simp[hj,h1,h2,hx,e]
 ·have e:(l<j+1)=(l<j):=by apply propext;omega
  simp[h,e]
theorem Q8N(ps:List Nat)(top k0 i0:Nat)(hk:k0<=top)(hf:fre (uOf ps) top k0 i0=true)(l x:Nat)(hl:l<=top):spl (fre (uOf ps) top) k0 i0 0 l x=fre (uOf (ps++[i0*2 ^ k0])) top l x:=by
 have hp:i0*2 ^ k0/2 ^ k0=i0:=Z2t _ (Z0U k0);rw[Q7s,Q4q _ top k0 (i0*2 ^ k0) hk (by rw[hp];exact hf) l x hl,hp];unfold spl;rw[if_neg (by omega)];by_cases h1:l<k0
 ·rw[if_pos h1,if_pos h1];have e:i0*2 ^ k0/2 ^ l=i0*2 ^ (k0-l):=by
   rw[show(2:Nat) ^ k0=2 ^ (k0-l)*2 ^ l from by rw[<- Z1f];congr 1;omega,<- Z2H];exact Z2t _ (Z0U l)
  have e2:sib (i0*2 ^ (k0-l))=i0*2 ^ (k0-l)+1:=by
   unfold sib;rw[if_pos];rw[show k0-l=(k0-l-1)+1 from by omega,Z0N,<- Z2H];omega
  rw[e,e2]
 ·rw[if_neg h1,if_neg h1]
theorem Q5R{ps:List Nat}{top k0 i0:Nat}(hk:k0<=top)(hf:fre (uOf ps) top k0 i0=true)(j:Nat)(hj:j<k0):fre (uOf ps) top j (i0*2 ^ (k0-j)+1)=false:=by
 cases h:fre (uOf ps) top j (i0*2 ^ (k0-j)+1) with
 | false=>rfl
 | true =>
  have e1:(i0*2 ^ (k0-j)+1)*2 ^ j/2 ^ j=i0*2 ^ (k0-j)+1:=Z2t _ (Z0U j);have e2:(i0*2 ^ (k0-j)+1)*2 ^ j/2 ^ k0=i0:=by
   rw[show(2:Nat) ^ k0=2 ^ j*2 ^ (k0-j) from by rw[<- Z1f];congr 1;omega,<- Z1g,e1,Z0O,Z2y _ _ (Z0U _),Nat.div_eq_of_lt (Nat.one_lt_two_pow (by omega)),Z2e]
  have:=Q3b (by omega) hk h hf e1 e2;omega
def Q9v(d:BD)(p:Nat)(w:World)(r:Ending)(w':World):Prop:=r=.returned (.tuple #[.int .i64 ((1024*p:Nat):Int),.int .i64 0]) /\
 ∃d':BD,d'.b=d.b/\d'.top=d.top/\d'.ps=d.ps++[p]/\d'.At/\Step d.hl d'.hl w w'
theorem BD.putMap{w w':World}{d:BD}(h:Sep w d.hl)(ps':List Nat)(hm:Q0n w' d.mb (upk ps'))(hg:w.grownBy w' (some d.mb)):Step d.hl ({d with ps:=ps'}:BD).hl w w':=by
 obtain⟨es,Ab,ho,hr⟩:=hm;exact Sep.turn (A:=[(d.b,isC 158 d.cells)]) (B:=d.bms.flatMap BM.hl) h hg ⟨_,ho,es,Ab,rfl,hr⟩
theorem Q4U{w:World}{d:BD}(h:Sep w d.hl)(ha:d.At)(k0 i0:Nat)(Br:k0<=d.top)(hf:fstG (fre (uOf d.ps) d.top) d.top k0 0=some i0)(hp:∀k,k<k0->fstG (fre (uOf d.ps) d.top) d.top k 0=none) :
  Calls prog 129 #[.pointer (some ⟨d.b,0,none⟩),.int .i64 0] w (Q9v d (i0*2 ^ k0) w):=by
 obtain⟨s1,s2,s3,s4⟩:=Q0t hf;have AU:i0<2 ^ (d.top-k0):=by simpa using s1
 have Az:fre (uOf d.ps) d.top k0 i0=true:=by simpa[AU] using s3
 have ht:=ha.is.top;have Cd:i0*2 ^ k0<2 ^ d.top:=by
  have:i0*2 ^ k0<2 ^ (d.top-k0)*2 ^ k0:=Z2I AU (Z0U _)
  rwa [<- Z1f,show d.top-k0+k0=d.top from by omega] at this
 have Db:i0*2 ^ k0∉d.ps:=by
  have:=Q3a Az (p:=i0*2 ^ k0) (Z2t _ (Z0U k0))
  simpa[uOf] using this
 have CD:∀j,j<=k0->i0*2 ^ (k0-j)+1<=1048576/\i0*2 ^ (k0-j)<2 ^ (d.top-j):=by
  intro j hj;have h1:i0*2 ^ (k0-j)<2 ^ (d.top-k0)*2 ^ (k0-j):=Z2I AU (Z0U _);rw[<- Z1f,show d.top-k0+(k0-j)=d.top-j from by omega] at h1;have:=Q0z (k:=j) ht;omega
 have c0:=BD.c0 h;have hi:=ha.is;have HF:=Q0a (show ∀k,k<k0->∃b,w.cell? ⟨d.b,1+k,none⟩=some (.pointer (some ⟨b,0,none⟩))/\Calls prog 72 #[.pointer (some ⟨b,0,none⟩),.bool true,.int .i64 0] w fun r w'=>r=.returned (.int .i64 (-1))/\w=w' from fun k hk=>by
  obtain⟨b,h1,h2⟩:=Q1I h hi k (by omega) 0 (by omega);rw[hp k hk] at h2;exact⟨b,h1,h2⟩)
 have ID:Hid (∃b,w.cell? ⟨d.b,1+k0,none⟩=some (.pointer (some ⟨b,0,none⟩))/\(Calls prog 72 #[.pointer (some ⟨b,0,none⟩),.bool true,.int .i64 0] w fun r w'=>r=.returned (.int .i64 i0)/\w=w') /\
   Calls prog 127 #[.pointer (some ⟨b,0,none⟩),.bool false,.slice (some ⟨w.heap.size,0,none⟩) 1 1] (w.alloc (.cells #[.int .i64 i0] 3)) (SetG d w 1 (spl (fre (uOf d.ps) d.top) k0 i0 k0))):=by
  obtain⟨b,h1,h2⟩:=Q1I h hi k0 Br 0 (by omega);rw[hf] at h2;obtain⟨b',h3,h4⟩:=Q3c h hi k0 i0 false Br AU (by rw[Az];decide);rw[h1] at h3;cases h3;rw[Q8M] at h4;exact⟨b,h1,h2,h4⟩
 have Eq:=Q0a (show ∀j wr d1,j<k0->d.To d1 w wr->d1.Is (spl (fre (uOf d.ps) d.top) k0 i0 (j+1))->∃b,wr.cell? ⟨d.b,1+j,none⟩=some (.pointer (some ⟨b,0,none⟩)) /\
   Calls prog 127 #[.pointer (some ⟨b,0,none⟩),.bool true,.slice (some ⟨wr.heap.size,0,none⟩) 1 1] (wr.alloc (.cells #[.int .i64 ((i0*2 ^ (k0-j)+1:Nat):Int)] 3)) fun r w'=>r=.returned (.int .i64 1)/\∃d2,d.To d2 w w'/\d2.Is (spl (fre (uOf d.ps) d.top) k0 i0 j) from fun j wr d1 hj Ag A7=>by
  obtain⟨b1,b2⟩:=CD j (by omega);have Gk:i0*2 ^ (k0-j)+1<2 ^ (d.top-j):=by
   have e1:i0*2 ^ (k0-j)=2*(i0*2 ^ (k0-j-1)):=by
    rw[show k0-j=(k0-j-1)+1 from by omega,Z0N,Nat.add_sub_cancel];simp only[Z2u,Nat.mul_left_comm]
   have e2:2 ^ (d.top-j)=2*2 ^ (d.top-j-1):=by
    rw[<- Z2C];congr 1;omega
   omega
  have Ao:spl (fre (uOf d.ps) d.top) k0 i0 (j+1) j (i0*2 ^ (k0-j)+1)≠true:=by
   unfold spl;rw[if_pos (by omega),Q5R Br Az j hj];decide
  obtain⟨b,h3,h4⟩:=Q3c Ag.step.sep A7 j (i0*2 ^ (k0-j)+1) true (by rw[Ag.top];omega) (by rw[Ag.top];exact Gk) Ao;rw[Ag.b] at h3;refine⟨b,h3,h4.mono ?_⟩;rintro r w'⟨rfl,d2,AE,Ax⟩;rw[Q7t _ _ _ _ hj] at Ax;exact⟨rfl,d2,Ag.trans AE,Ax⟩)
 have CY:=Q0a (show ∀wr d1,d.To d1 w wr->d1.Is (spl (fre (uOf d.ps) d.top) k0 i0 0)->wr.cell? ⟨d.b,22,none⟩=some (.map (some d.mb))/\Q0n wr d.mb (upk d.ps)/\∀w2,Q0n w2 d.mb (put (upk d.ps) ((1024*(i0*2 ^ k0):Nat):Int) (.int .i64 0))->wr.grownBy w2 (some d.mb)->Q9v d (i0*2 ^ k0) w (.returned (.tuple #[.int .i64 ((1024*(i0*2 ^ k0):Nat):Int),.int .i64 0])) w2 from fun wr d1 Ag A7=>by
  have hs:=Ag.step.sep;have hc:=BD.cm hs (by rw[A7.len,Ag.top];omega);have Df:=BD.map hs;rw[Ag.b,Ag.mb] at hc;rw[Ag.mb,Ag.ps] at Df;refine⟨hc,Df,fun w2 Bs Bl=>⟨rfl,{d1 with ps:=d.ps++[i0*2 ^ k0]},Ag.b,Ag.top,rfl,⟨⟨A7.len,A7.top,?_⟩,?_,?_⟩,?_⟩⟩
  ·intro k m hm;rw[A7.bits k m hm];have B4:k<=d1.top:=by
    have h1:k<d1.bms.length:=(Z0k.1 hm).1;have h2:d1.bms.length=d1.top+1:=A7.len;omega
   apply Z1J
   intro x _;show spl (fre (uOf d.ps) d.top) k0 i0 0 k x=fre (uOf (d.ps++[i0*2 ^ k0])) d1.top k x;rw[Ag.top];exact Q8N _ _ _ _ Br Az k x (by rw[<- Ag.top];exact B4)
  ·rw[Z0z];refine⟨ha.nd,by simp,?_⟩;intro a Jf b hb e;simp at hb;subst hb;subst e;exact Db Jf
  ·intro p AW;show p<2 ^ d1.top;rw[Ag.top];rcases Z0v.1 AW with h1|h1
   ·exact ha.lt p h1
   ·simp at h1;subst h1;exact Cd
  ·rw[Q8J _ _ Db] at Bs;have It:Q0n w2 d1.mb (upk (d.ps++[i0*2 ^ k0])):=by rw[Ag.mb];exact Bs
   rw[<- Ag.mb] at Bl;exact Ag.step.trans (BD.putMap hs _ It Bl))
 have Da:=Q0a (show ∀wr d1,d.To d1 w wr->wr.cell? ⟨d.b,0,none⟩=some (.int .i64 d.top) from fun wr d1 Ag=>by
  have:=BD.c0 Ag.step.sep;rw[Ag.b,Ag.top] at this;exact this)
 have Gn:=Q0a CD;clear h ha hi hf hp s1 s2 s3 s4 Az Db CD;generalize hG:spl (fre (uOf d.ps) d.top) k0 i0=S at *
 clear hG;generalize d.top=top at *
 go_enter func129,ntmps129;go_wp2_with fail
 go_loop [6,7] (fun kv iv=>∃k:Nat,kv=.int .i64 k/\iv=.int .i64 (-1)/\k<=k0) (fun kv _=>k0+1-(intOf kv).toNat)
 case atStart=>exact⟨0,rfl,rfl,by omega⟩
 case round =>
  obtain⟨k,rfl,rfl,hk⟩:=hrel;have B4:k<=top:=by omega
  by_cases Ae:k<k0
  ·obtain⟨b,hc,Aj⟩:=HF.out k Ae;go_wp2_with (go_at_call 72;refine Aj.mono ?_;rintro e w'⟨rfl,rfl⟩)
   go_round
   case rel=>exact⟨k+1,by go_num,rfl,by omega⟩
   case measure=>simp[intOf];omega
  ·obtain rfl:k=k0:=by omega
   obtain⟨b,hc,Aj,An⟩:=ID.out;obtain⟨B9,AG⟩:=Gn.out k (Q9Y _);rw[Z2J,Nat.pow_zero,Z0L] at B9;clear AG;go_wp2_with fail;refine Aj.mono ?_;rintro e w'⟨rfl,rfl⟩;go_wp2_with fail;refine An.mono ?_;rintro e w1⟨rfl,d1,Ag,A7⟩;have Ik:=Q0a Ag;have I6:=Q0a A7;clear Ag A7 An Aj hc;go_wp2_with fail
   go_loopw [6,7] (fun jv iv wr=>∃(j:Nat) (d2:BD),jv=.int .i64 j/\iv=.int .i64 ((i0*2 ^ (k-j):Nat):Int)/\j<=k/\d.To d2 w wr/\d2.Is (S j)) (fun jv _ _=>(intOf jv).toNat)
   case atStart=>exact⟨k,d1,rfl,by simp,Q9Y _,Ik.out,I6.out⟩
   case round =>
    obtain⟨j,d2,rfl,rfl,hj,Ag,A7⟩:=hrel;have Im:=Da.out _ _ Ag;by_cases EB:j=0
    ·subst EB;obtain⟨Bu,Df,Ap⟩:=CY.out _ _ Ag A7;have AA:=Q0a Ap;clear Ap;have hv:((1024*(i0*2 ^ k):Nat):Int)=((i0*2 ^ (k-0):Nat):Int)*1024:=by rw[Nat.sub_zero];omega
     have hb:i0*2 ^ (k-0)<1048576:=by
      have:=(Gn.out 0 (by omega)).1;omega
     rw[hv] at AA;generalize i0*2 ^ (k-0)=p at *
     clear hv;go_wp2_with (refine Q0D _ rfl _ _ _ 156 3 3 rfl underlying156 underlying3 d.mb (upk d.ps) Df _ _ rfl rfl rfl ?_;intro w2 Bs Bl);go_ret2;exact AA.out _ Bs Bl
    ·obtain⟨l,rfl⟩:∃l,j=l+1:=⟨j-1,by omega⟩
     obtain⟨b2,Ay,AC⟩:=Eq.out l wr d2 (by omega) Ag A7;have hI:i0*2 ^ (k-l)=i0*2 ^ (k-(l+1))*2:=by
      rw[show k-l=k-(l+1)+1 from by omega,Z0N,Z2H]
     have hb:=(Gn.out l (by omega)).1;have Hk:((i0*2 ^ (k-l)+1:Nat):Int)=((i0*2 ^ (k-(l+1)):Nat):Int)*2+1:=by rw[hI];omega
     have FY:=Q0a (show((i0*2 ^ (k-l):Nat):Int)=((i0*2 ^ (k-(l+1)):Nat):Int)*2 from by rw[hI];omega);rw[Hk] at AC;rw[hI] at hb;clear Hk hI Ag A7;generalize i0*2 ^ (k-(l+1))=p at *
     have F4:((l+1:Nat):Int)=(l:Int)+1:=by omega
     go_wp2_with fail;refine AC.mono ?_;rintro e w2⟨rfl,d3,BH,FN⟩;go_wp2_with fail;go_roundw
     case rel=>exact⟨l,d3,by go_num,by rw[FY.out],by omega,BH,FN⟩
     case measure=>simp[intOf]
end Go.Proofs.YtfidemmgofcnmaaGreatDoor
