/- What the laws of spaces share is proved. No condition. Part of a proof. -/
import Derived.Test.YtfidemmgofcnmaaGreatDoorAt11
import Derived.DeepKeys3
set_option linter.unusedVariables false
namespace Go.Proofs.YtfidemmgofcnmaaGreatDoor
open Go.RowKit Go.Proofs.Tryz
def xcP(tb:Nat->TB)(id:Int)(i:Nat)(o:Option Pl):Int:=match o with
 | some p=>if (p.fac:Int)=id then(tb i).cost else 0
 | none=>0
def xcOf(l:List Pl)(tb:Nat->TB)(id:Int):Int:=((List.range 256).map fun i=>xcP tb id i l[i]?).sum
def Q2K(tb:Nat->TB):List Nat:=(List.range 256).flatMap fun i=>(tb i).lvs
def Q3D(tb:Nat->TB):List Nat:=(List.range 256).flatMap fun i=>(tb i).nds
structure TPI(S:CO)(tb:Nat->TB):Prop where
 tin:∀(i:Nat) (p:Pl),S.l[i]?=some p->p.st=1->p.kind=2->(tb i).In S.P.a.mem p.at_
 full:∀i,i<256->(tb i).Full
 nil:∀(i:Nat) (p:Pl),S.l[i]?=some p->¬(p.st=1/\p.kind=2)->(tb i).Nil
 lvs:(Q2K tb).Perm (S.P.usedOf 7)
 nds:(Q3D tb).Perm (S.P.usedOf 6)
 xc:∀id,S.xc id=xcOf S.l tb id
theorem Q5B{n:Nat}{f g:Nat->Int}(h:∀i,i<n->f i=g i):((List.range n).map f).sum=((List.range n).map g).sum:=by
 congr 1;exact J3G fun i hi=>h i (J1U.1 hi)
theorem Z2g{l l':List Pl}{tb tb':Nat->TB}{id:Int}(h:∀i,i<256->xcP tb id i l[i]?=xcP tb' id i l'[i]?):xcOf l tb id=xcOf l' tb' id:=Q5B h
theorem Z7y{l:List Pl}{tb:Nat->TB}{i:Nat}{q:Pl}(hi:i<l.length)(hn:(tb i).Nil)(id:Int):xcOf (l.set i q) tb id=xcOf l tb id:=by
 refine Z2g fun j hj=>?_
 by_cases e:i=j
 ·subst e;have h0:=(TB.Nil.lists hn).2.2;have hp:∀o,xcP tb id i o=0:=fun o=>by
   unfold xcP;cases o with
   | none=>rfl
   | some p=>simp only[h0];split <;> rfl
  rw[hp,hp]
 ·rw[J5c e]
theorem Q2q:Q0e 7=256:=rfl
theorem Q4y:Q0e 6=48:=rfl
theorem Z4N:costK 2=128:=rfl
theorem TPI.leaf{S:CO}{tb:Nat->TB}(t:TPI S tb){i k:Nat}(hi:i<256)(hk:k<16)(h:(tb i).lf k≠0):(tb i).lf k∈S.P.usedOf 7:=by
 refine t.lvs.mem_iff.1 (J2c.2 ⟨i,J1U.2 hi,mem_lvs.2 ⟨k,hk,rfl,h⟩⟩)
theorem Q1w{l:List Pl}(hl:l.length=256){i:Nat}{p:Pl}(h:l[i]?=some p):i<256:=by
 have:=(J1V.1 h).1;omega
theorem TPI.tin_kept{S:CO}{tb:Nat->TB}(hl:S.l.length=256)(t:TPI S tb){m:List Nat}(k1:∀(i:Nat) (p:Pl),S.l[i]?=some p->p.st=1->p.kind=2->Kept S.P.a.mem m p.at_ 128)(k2:∀a,a∈S.P.usedOf 7->Kept S.P.a.mem m a 256){i:Nat}{p:Pl}(hi:S.l[i]?=some p)(h1:p.st=1)(h2:p.kind=2):(tb i).In m p.at_:=
 (t.tin i p hi h1 h2).kept (k1 i p hi h1 h2) fun k hk Ac=>k2 _ (t.leaf (Q1w hl hi) hk Ac)
theorem TPI.tried{S:CO}{tb:Nat->TB}{fr:List Nat}{N K:Nat}(ok:S.Ok fr N K)(t:TPI S tb){P':PL}(h:Tried S.P fr S.l P'):TPI (S.setP P') tb:=by
 refine⟨fun i p hi h1 h2=>?_,t.full,t.nil,t.lvs.trans (h.used 7).symm,t.nds.trans (h.used 6).symm,t.xc⟩;refine t.tin_kept ok.inv.len (fun j q hj q1 q2=>?_) (fun a ha=>h.memH 7 a (by omega) ha) hi h1 h2;have:=h.mem q (J3L hj) (Pl.is_iff.2 (.inl q1));rw[q2] at this;exact this
theorem TPI.made{S:CO}{tb:Nat->TB}{fr fr':List Nat}{N K:Nat}(ok:S.Ok fr N K)(t:TPI S tb){f p:Pl}{e:En Fa}{n a x i:Nat}{lim:Int}{P':PL}(m:MadeOk S fr f e n a lim x i p P' fr')(hi:S.l[i]?=some p)(hp:p.st=0):TPI (S.made f n a x i p P') tb:=by
 have Ap:=Q1w ok.inv.len hi;have DY:=t.nil i p hi (by omega);have Aa:i<S.l.length:=(J1V.1 hi).1;refine⟨fun j q hj q1 q2=>?_,t.full,fun j q hj hq=>?_,t.lvs.trans (m.high 7 (by omega)).symm,t.nds.trans (m.high 6 (by omega)).symm,fun id=>?_⟩
 ·have BN:(S.l.set i ⟨n,a,f.own,1,p.age,x⟩)[j]?=some q:=hj;by_cases e:i=j
  ·subst e;rw[J5k Aa] at BN;cases BN;have TG:n=2:=q2;refine DY.new fun y h1 h2=>m.zero (by omega) y h1 ?_
   rw[TG,Z4N];exact h2
  ·rw[J5c e] at BN;refine t.tin_kept ok.inv.len (fun k r hk r1 r2=>?_) (fun b hb=>m.memH 7 b (by omega) hb) BN q1 q2;have:=m.kept r (J3L hk) (Pl.is_iff.2 (.inl r1));rw[r2] at this;exact this
 ·have BN:(S.l.set i ⟨n,a,f.own,1,p.age,x⟩)[j]?=some q:=hj;by_cases e:i=j
  ·subst e;exact DY
  ·rw[J5c e] at BN;exact t.nil j q BN hq
 ·show S.xc id=xcOf (S.l.set i _) tb id;rw[Z7y Aa DY,t.xc]
def CO.paid(S:CO)(P':PL)(own:Int)(d:Int):CO:={S with P:=P',xc:=fun id=>if id=own then S.xc id+d else S.xc id}
theorem TreI.pay{E:List (En Fa)}{l:List Pl}{xc:Int->Int}(t:TreI E l xc)(Af:E.Pairwise (fun a b=>a.id≠b.id)){own:Int}{e:En Fa}(hf:find E own=some e)(d:Int):TreI (upd E own {e.q with charged:=e.q.charged+d}) l (fun id=>if id=own then xc id+d else xc id):=by
 have L9:∀a,Q3v (upd E own {e.q with charged:=e.q.charged+d}) a=Q3v E a:=fun a=>Q4u Af hf _ _ rfl
 have IK:∀a,Q3w (upd E own {e.q with charged:=e.q.charged+d}) a=Q3w E a:=fun a=>Q4u Af hf _ _ rfl
 refine⟨by rw[Q2d];exact t.ids,fun p hp AD=>?_,fun p hp AD hk x hx=>?_,fun id x hx=>?_,fun id x hx=>?_⟩
 ·obtain⟨y,hy⟩:=t.fac p hp AD;exact Q1U _ hy
 ·obtain⟨y,hy,h1,h2⟩:=Q0H _ hf hx;have:=t.par p hp AD hk y hy;by_cases hid:(p.own:Int)=own
  ·obtain⟨rfl,e2⟩:=h1 hid;rw[e2];exact this
  ·rw[h2 hid];exact this
 ·obtain⟨y,hy,h1,h2⟩:=Q0H _ hf hx;have:=t.charged id y hy;by_cases hid:id=own
  ·obtain⟨rfl,e2⟩:=h1 hid;rw[e2,if_pos hid];show y.q.charged+d=_;omega
  ·rw[h2 hid,if_neg hid];exact this
 ·obtain⟨y,hy,h1,h2⟩:=Q0H _ hf hx;have:=t.given id y hy;rw[L9,IK];by_cases hid:id=own
  ·obtain⟨rfl,e2⟩:=h1 hid;rw[e2];exact this
  ·rw[h2 hid];exact this
theorem CO.Ok.paid{S:CO}{fr:List Nat}{N K:Nat}(ok:S.Ok fr N K){P':PL}{own:Int}{e:En Fa}{d:Int}(B3:P'.Ok fr)(he:find S.P.q.E own=some e)(hE:P'.q={S.P.q with E:=upd S.P.q.E own {e.q with charged:=e.q.charged+d}})(hu:∀j,1<=j->j<=5->P'.usedOf j=S.P.usedOf j)(hw:∀b∈S.P.usedOf 1,Q0m P'.a.mem b=Q0m S.P.a.mem b)
  (GH:0<=S.xc own+d) (hlive:S.xc own+d≠0->∃p∈S.l,p.st=1/\(p.fac:Int)=own):(S.paid P' own d).Ok fr N K:=by
 have v:=ok.inv;refine⟨⟨v.len,v.st,v.mem.same B3 hu hw,?_,?_⟩,ok.per,ok.due,ok.ord,ok.ov,?_,ok.now,ok.age⟩
 ·show TreI P'.q.E S.l _;rw[hE];exact v.tre.pay v.mem.pool.q.ids he d
 ·refine⟨v.que.root,v.que.live,fun id=>?_,v.que.nd,v.que.has,v.que.ord⟩;show 0<=(if id=own then S.xc id+d else S.xc id)/\((if id=own then S.xc id+d else S.xc id)≠0->_);split
  ·rename_i h;subst h;exact⟨GH,hlive⟩
  ·exact v.que.xc id
 ·show P'.q.next<=N;rw[hE];exact ok.next
theorem CO.Ok.stored{S:CO}{fr:List Nat}{N K:Nat}(ok:S.Ok fr N K){m:List Nat}(hl:m.length=S.P.a.mem.length)(hb:∀b∈m,b<256)(hw:∀b∈S.P.usedOf 1,Q0m m b=Q0m S.P.a.mem b):(S.setP (S.P.setA m)).Ok fr N K:=by
 have v:=ok.inv;exact⟨⟨v.len,v.st,v.mem.same (PL.ok_setA v.mem.pool hl hb) (fun _ _ _=>rfl) hw,v.tre,v.que⟩,ok.per,ok.due,ok.ord,ok.ov,ok.next,ok.now,ok.age⟩
structure TPX(S:CO)(tb:Nat->TB)(own:Int)(xl xn:List Nat):Prop where
 tin:∀(i:Nat) (p:Pl),S.l[i]?=some p->p.st=1->p.kind=2->(tb i).In S.P.a.mem p.at_
 nil:∀(i:Nat) (p:Pl),S.l[i]?=some p->¬(p.st=1/\p.kind=2)->(tb i).Nil
 lvs:(xl++Q2K tb).Perm (S.P.usedOf 7)
 nds:(xn++Q3D tb).Perm (S.P.usedOf 6)
 xc:∀id,S.xc id=xcOf S.l tb id+if id=own then 256*(xl.length:Int)+48*(xn.length:Int) else 0
theorem TPI.x{S:CO}{tb:Nat->TB}(t:TPI S tb)(own:Int):TPX S tb own [] []:=⟨t.tin,t.nil,t.lvs,t.nds,fun id=>by rw[t.xc];simp⟩
theorem TPX.done{S:CO}{tb:Nat->TB}{own:Int}(t:TPX S tb own [] [])(hf:∀i,i<256->(tb i).Full):TPI S tb:=⟨t.tin,hf,t.nil,t.lvs,t.nds,fun id=>by rw[t.xc];simp⟩
theorem TPX.leaf{S:CO}{tb:Nat->TB}{own:Int}{xl xn:List Nat}(t:TPX S tb own xl xn){i k:Nat}(hi:i<256)(hk:k<16)(h:(tb i).lf k≠0):(tb i).lf k∈S.P.usedOf 7:=
 t.lvs.mem_iff.1 (J2r _ (J2c.2 ⟨i,J1U.2 hi,mem_lvs.2 ⟨k,hk,rfl,h⟩⟩))
theorem TPX.tin_kept{S:CO}{tb:Nat->TB}{own:Int}{xl xn:List Nat}(hl:S.l.length=256)(t:TPX S tb own xl xn){m:List Nat}(k1:∀(i:Nat) (p:Pl),S.l[i]?=some p->p.st=1->p.kind=2->Kept S.P.a.mem m p.at_ 128)(k2:∀a,a∈S.P.usedOf 7->Kept S.P.a.mem m a 256){i:Nat}{p:Pl}(hi:S.l[i]?=some p)(h1:p.st=1)(h2:p.kind=2):(tb i).In m p.at_:=
 (t.tin i p hi h1 h2).kept (k1 i p hi h1 h2) fun k hk Ac=>k2 _ (t.leaf (Q1w hl hi) hk Ac)
theorem Q1k{S:CO}{fr:List Nat}{N K:Nat}(ok:S.Ok fr N K){i:Nat}{p:Pl}(hi:S.l[i]?=some p)(h1:p.st=1)(h2:p.kind=2):p.at_∈S.P.usedOf 2:=by
 have:=ok.inv.mem.used (J3L hi) (Pl.is_iff.2 (.inl h1)) (by omega)
 rwa [h2] at this
theorem GotM.kept{P P':PL}{fr fr':List Nat}{own:Int}{k a:Nat}(g:GotM P fr own k a P' fr')(ok:P.Ok fr){j b:Nat}(hb:b∈P.usedOf j):Kept P.a.mem P'.a.mem b (Q0e j):=by
 have:=(g.apart ok).1 j b hb;rw[g.mem];exact Q1q (by rw[J1O];exact g.room.1) (by rw[J1O];omega)
theorem Z8L:∀{l:List Int},(∀x∈l,0<=x)->0<=l.sum
 | [],_=>J5x _
 | x::r,h=>by
  have:=Z8L (l:=r) fun y hy=>h y (by simp[hy])
  have:=h x (by simp);rw[J5h];omega
theorem Z4O(l:List Pl)(tb:Nat->TB)(id:Int):0<=xcOf l tb id:=by
 refine Z8L fun x hx=>?_
 obtain⟨i,_,rfl⟩:=J1K.1 hx;unfold xcP;split
 ·split
  ·exact TB.cost_nn _
  ·exact J5x _
 ·exact J5x _
section
variable {S:CO} {fr:List Nat} {N K:Nat} {tb:Nat->TB} {own:Int} {xl xn:List Nat}
theorem TPX.got{n a:Nat}{P':PL}(ok:S.Ok fr N K)(t:TPX S tb own xl xn)(hn:n=6∨n=7)(g:GetOk S.P fr own n a P')(Al:∃p∈S.l,p.st=1/\(p.fac:Int)=own) :
  (S.paid P' own ((Q0e n:Nat):Int)).Ok fr N K/\TPX (S.paid P' own ((Q0e n:Nat):Int)) tb own (if n=7 then a::xl else xl) (if n=6 then a::xn else xn):=by
 have gm:=g.gotM ok.inv.mem.pool;have DQ:costK n=Q0e n:=Q1j (by omega);obtain⟨e,q1,q2,q3⟩:=g.q;have QZ:=(ok.inv.que.xc own).1;refine⟨ok.paid g.ok q1 q3 (fun j h1 h5=>g.other j (by omega)) (fun b hb=>?_) (by omega) (fun _=>Al),?_,t.nil,?_,?_,fun id=>?_⟩
 ·have:=gm.kept ok.inv.mem.pool hb;exact(this.sub (b:=b) (k:=8) (J1E _) (by show b+8<=b+64;omega)).word
 ·intro i p hi h1 h2;refine t.tin_kept ok.inv.len (fun j q hj q1 q2=>?_) (fun b hb=>gm.kept ok.inv.mem.pool hb) hi h1 h2;exact gm.kept ok.inv.mem.pool (Q1k ok hj q1 q2)
 ·show(_++Q2K tb).Perm (P'.usedOf 7);by_cases h7:n=7
  ·subst h7;rw[if_pos rfl];exact(List.Perm.cons a t.lvs).trans (gm.used (by omega)).symm
  ·rw[if_neg h7,g.other 7 (by omega)];exact t.lvs
 ·show(_++Q3D tb).Perm (P'.usedOf 6);by_cases h6:n=6
  ·subst h6;rw[if_pos rfl];exact(List.Perm.cons a t.nds).trans (gm.used (by omega)).symm
  ·rw[if_neg h6,g.other 6 (by omega)];exact t.nds
 ·show(if id=own then S.xc id+_ else S.xc id)=xcOf S.l tb id+_;by_cases hid:id=own
  ·subst hid;rw[if_pos rfl,t.xc,if_pos rfl,if_pos rfl];rcases hn with rfl|rfl
   ·simp[Q4y];omega
   ·simp[Q2q];omega
  ·rw[if_neg hid,t.xc,if_neg hid,if_neg hid]
theorem TPX.put{n a:Nat}{P':PL}(ok:S.Ok fr N K)(hn:n=6∨n=7)(t:TPX S tb own (if n=7 then a::xl else xl) (if n=6 then a::xn else xn))(g:PutOk S.P fr own n a P')(Al:∃p∈S.l,p.st=1/\(p.fac:Int)=own) :
  (S.paid P' own (-((Q0e n:Nat):Int))).Ok fr N K/\TPX (S.paid P' own (-((Q0e n:Nat):Int))) tb own xl xn:=by
 have bm:=g.backM ok.inv.mem.pool;obtain⟨e,q1,q2,q3⟩:=g.q;have A8:P'.a.mem=S.P.a.mem:=by rw[g.aa]
 have Jb:P'.q={S.P.q with E:=upd S.P.q.E own {e.q with charged:=e.q.charged + -((Q0e n:Nat):Int)}}:=by rw[q3,Int.sub_eq_add_neg]
 have QZ:=Z4O S.l tb own;have Pk:=t.xc own;rw[if_pos rfl] at Pk;refine⟨ok.paid g.ok q1 Jb (fun j h1 h5=>g.other j (by omega)) (fun b hb=>by rw[A8]) ?_ (fun _=>Al),?_,t.nil,?_,?_,fun id=>?_⟩
 ·rcases hn with rfl|rfl
  ·simp[Q4y] at Pk ⊢;omega
  ·simp[Q2q] at Pk ⊢;omega
 ·intro i p hi h1 h2;show(tb i).In P'.a.mem p.at_;rw[A8];exact t.tin i p hi h1 h2
 ·show(xl++Q2K tb).Perm (P'.usedOf 7);by_cases h7:n=7
  ·subst h7;have h1:=t.lvs;rw[if_pos rfl] at h1;exact J5i (h1.trans (bm.used (by omega)))
  ·have h1:=t.lvs;rw[if_neg h7] at h1;rw[g.other 7 (by omega)];exact h1
 ·show(xn++Q3D tb).Perm (P'.usedOf 6);by_cases h6:n=6
  ·subst h6;have h1:=t.nds;rw[if_pos rfl] at h1;exact J5i (h1.trans (bm.used (by omega)))
  ·have h1:=t.nds;rw[if_neg h6] at h1;rw[g.other 6 (by omega)];exact h1
 ·show(if id=own then S.xc id+_ else S.xc id)=xcOf S.l tb id+_;have hx:=t.xc id;by_cases hid:id=own
  ·subst hid;rw[if_pos rfl] at hx ⊢;rw[hx,if_pos rfl];rcases hn with rfl|rfl
   ·simp[Q4y];omega
   ·simp[Q2q];omega
  ·rw[if_neg hid] at hx ⊢;rw[hx,if_neg hid]
end
def updT(tb:Nat->TB)(i:Nat)(t:TB):Nat->TB:=fun j=>if j=i then t else tb j
theorem updT_same(tb:Nat->TB)(i:Nat)(t:TB):updT tb i t i=t:=by unfold updT;rw[if_pos rfl]
theorem Q0P{tb:Nat->TB}{i j:Nat}{t:TB}(h:j≠i):updT tb i t j=tb j:=by unfold updT;rw[if_neg h]
theorem Z0S(i:Nat)(hi:i<256):∃A B,List.range 256=A++i::B/\(∀j∈A,j≠i)/\∀j∈B,j≠i:=by
 have hm:i∈List.range 256:=J1U.2 hi;obtain⟨A,B,e⟩:=List.append_of_mem hm;have AO:(List.range 256).Nodup:=J5p;rw[e] at AO;obtain⟨h1,h2,h3⟩:=J2q.1 AO;exact⟨A,B,e,fun j hj=>h3 j hj i (by simp),fun j hj h=>(J2t.1 h2).1 (h ▸ hj)⟩
theorem Q3Y(f:TB->List Nat)(tb:Nat->TB){i:Nat}(hi:i<256)(t:TB):∃A B,(List.range 256).flatMap (fun j=>f (tb j))=A++f (tb i)++B/\(List.range 256).flatMap (fun j=>f (updT tb i t j))=A++f t++B:=by
 obtain⟨A,B,e,h1,h2⟩:=Z0S i hi;refine⟨A.flatMap fun j=>f (tb j),B.flatMap fun j=>f (tb j),by rw[e];simp,?_⟩;have g1:A.flatMap (fun j=>f (updT tb i t j))=A.flatMap fun j=>f (tb j):=by
  rw[J5y,J5y];congr 1;exact J3G fun j hj=>by rw[Q0P (h1 j hj)]
 have g2:B.flatMap (fun j=>f (updT tb i t j))=B.flatMap fun j=>f (tb j):=by
  rw[J5y,J5y];congr 1;exact J3G fun j hj=>by rw[Q0P (h2 j hj)]
 rw[e,J2i,J2a,g1,g2,updT_same];simp
theorem Q8C{l:List Pl}{tb:Nat->TB}{i:Nat}(hi:i<256){p:Pl}(hp:l[i]?=some p)(t:TB)(id:Int):xcOf l (updT tb i t) id=xcOf l tb id+if (p.fac:Int)=id then t.cost-(tb i).cost else 0:=by
 obtain⟨A,B,e,h1,h2⟩:=Z0S i hi;unfold xcOf;rw[e];simp only[J4Z,J1H,J5j,J5h];have g1:A.map (fun j=>xcP (updT tb i t) id j l[j]?)=A.map fun j=>xcP tb id j l[j]?:=J3G fun j hj=>by unfold xcP;rw[Q0P (h1 j hj)]
 have g2:B.map (fun j=>xcP (updT tb i t) id j l[j]?)=B.map fun j=>xcP tb id j l[j]?:=J3G fun j hj=>by unfold xcP;rw[Q0P (h2 j hj)]
 rw[g1,g2];have e1:∀tb',xcP tb' id i l[i]?=if (p.fac:Int)=id then(tb' i).cost else 0:=fun tb'=>by unfold xcP;rw[hp]
 rw[e1,e1,updT_same];split <;> omega
end Go.Proofs.YtfidemmgofcnmaaGreatDoor
namespace Go.Proofs.YtfidemmgofcnmaaGreatDoor
open Go.Proofs.Tryz
structure Fst3(kd:Int->List Int)(rk:Int->Nat):Prop where
 dn:∀h x,x∈kd h->rk x<rk h
 one:∀a b x,x∈kd a->x∈kd b->a=b
 nd:∀h,(kd h).Nodup
def preG(kd:Int->List Int):Nat->Int->List Int
 | 0,h=>[h]
 | n+1,h=>h::(kd h).reverse.flatMap (preG kd n)
section
variable {kd:Int->List Int} {rk:Int->Nat}
theorem Q5C{f g:Int->List Int}:∀{L:List Int},(∀x∈L,f x=g x)->L.flatMap f=L.flatMap g
 | [],_=>rfl
 | x::r,h=>by rw[J2a,J2a,h x (by simp),Q5C (L:=r) fun y hy=>h y (by simp[hy])]
theorem Fst3.leaf(t:Fst3 kd rk){h:Int}(hr:rk h=0):kd h=[]:=by
 cases hk:kd h with
 | nil=>rfl
 | cons x r =>
  have:=t.dn h x (by rw[hk];simp);omega
theorem Q5D(t:Fst3 kd rk):∀n m h,rk h<=n->rk h<=m->preG kd n h=preG kd m h:=by
 intro n
 induction n with
 | zero =>
  intro m h h1 h2;have hk:=t.leaf (Nat.le_zero.1 h1);cases m with
  | zero=>rfl
  | succ m=>simp[preG,hk]
 | succ n ih =>
  intro m h h1 h2;cases m with
  | zero =>
   have hk:=t.leaf (Nat.le_zero.1 h2);simp[preG,hk]
  | succ m =>
   simp only[preG];congr 1;refine Q5C fun x hx=>?_
   have:=t.dn h x (J2b.1 hx);exact ih m x (by omega) (by omega)
def preT(kd:Int->List Int)(rk:Int->Nat)(h:Int):List Int:=preG kd (rk h) h
theorem Q9N(t:Fst3 kd rk)(h:Int):preT kd rk h=h::(kd h).reverse.flatMap (preT kd rk):=by
 have:preT kd rk h=preG kd (rk h+1) h:=Q5D t _ _ h (J1E _) (by omega);rw[this];simp only[preG];congr 1;refine Q5C fun x hx=>?_
 have:=t.dn h x (J2b.1 hx);exact Q5D t _ _ x (by omega) (J1E _)
def Q0Q(kd:Int->List Int)(rk:Int->Nat)(h:Int):List Int:=(preT kd rk h).tail.reverse
theorem Q3c(t:Fst3 kd rk)(h:Int):preT kd rk h=h::(Q0Q kd rk h).reverse:=by
 unfold Q0Q;rw[List.reverse_reverse,Q9N t h];rfl
inductive Dn (kd:Int->List Int):Int->Int->Prop where
 | here (h:Int):Dn kd h h
 | down (h k x:Int):k∈kd h->Dn kd k x->Dn kd h x
theorem Dn.trans{h k x:Int}(a:Dn kd h k)(b:Dn kd k x):Dn kd h x:=by
 induction a with
 | here=>exact b
 | down h k y hk _ ih=>exact .down h k x hk (ih b)
theorem Dn.rank(t:Fst3 kd rk){h x:Int}(a:Dn kd h x):rk x<=rk h/\(x=h∨rk x<rk h):=by
 induction a with
 | here=>exact⟨J1E _,.inl rfl⟩
 | down h k y hk _ ih =>
  have:=t.dn h k hk;have:=ih.1;exact⟨by omega,.inr (by omega)⟩
theorem Q5f(t:Fst3 kd rk):∀n h x,rk h<=n->(x∈preG kd n h↔Dn kd h x):=by
 intro n
 induction n with
 | zero =>
  intro h x hn;have hk:=t.leaf (Nat.le_zero.1 hn);simp only[preG,J3E]
  constructor
  ·rintro rfl;exact .here _
  ·intro d;cases d with
   | here=>rfl
   | down _ k _ hm _=>rw[hk] at hm;cases hm
 | succ n ih =>
  intro h x hn;simp only[preG,J1J,J2c,J2b]
  constructor
  ·rintro(rfl|⟨k,hk,hx⟩)
   ·exact .here _
   ·have:=t.dn h k hk;exact .down h k x hk ((ih k x (by omega)).1 hx)
  ·intro d;cases d with
   | here=>exact .inl rfl
   | down _ k _ hm hd =>
    have:=t.dn h k hm;exact .inr ⟨k,hm,(ih k x (by omega)).2 hd⟩
theorem Z0T(t:Fst3 kd rk){h x:Int}:x∈preT kd rk h↔Dn kd h x:=Q5f t _ h x (J1E _)
theorem Dn.line(t:Fst3 kd rk){a x:Int}(h:Dn kd a x):∀{b:Int},Dn kd b x->Dn kd a b∨Dn kd b a:=by
 -- the last step down to x
 have last:∀{a x:Int},Dn kd a x->x=a∨∃z,Dn kd a z/\x∈kd z:=by
  intro a x h
  induction h with
  | here=>exact .inl rfl
  | down h k y hk _ ih =>
   rcases ih with rfl|⟨z,h1,h2⟩
   ·exact .inr ⟨h,.here _,hk⟩
   ·exact .inr ⟨z,.down h k z hk h1,h2⟩
 have key:∀n a b x,rk a-rk x<=n->Dn kd a x->Dn kd b x->Dn kd a b∨Dn kd b a:=by
  intro n
  induction n with
  | zero =>
   intro a b x hn h k;rcases(h.rank t).2 with rfl|Aa
   ·exact .inr k
   ·omega
  | succ n ih =>
   intro a b x hn h k;rcases last h with rfl|⟨z,h1,h2⟩
   ·exact .inr k
   ·rcases last k with rfl|⟨z',k1,k2⟩
    ·exact .inl h
    ·have:z=z':=t.one z z' x h2 k2;subst this;have:=t.dn z x h2;have:=(h1.rank t).1;exact ih a b z (by omega) h1 k1
 intro b k;exact key _ a b x (J1E _) h k
theorem Dn.last{a x:Int}(h:Dn kd a x):x=a∨∃z,Dn kd a z/\x∈kd z:=by
 induction h with
 | here=>exact .inl rfl
 | down h k y hk _ ih =>
  rcases ih with rfl|⟨z,h1,h2⟩
  ·exact .inr ⟨h,.here _,hk⟩
  ·exact .inr ⟨z,.down h k z hk h1,h2⟩
theorem Q6P(t:Fst3 kd rk){h a b x:Int}(ha:a∈kd h)(hb:b∈kd h)(Ac:a≠b)(h1:Dn kd a x)(h2:Dn kd b x):False:=by
 have no:∀{a b:Int},a∈kd h->b∈kd h->a≠b->¬Dn kd a b:=by
  intro a b ha hb Ac d;rcases d.last with e|⟨z,d1,d2⟩
  ·exact Ac e.symm
  ·have:z=h:=t.one z h b d2 hb;subst this;have:=(d1.rank t).1;have:=t.dn z a ha;omega
 rcases h1.line t h2 with h|h
 ·exact no ha hb Ac h
 ·exact no hb ha Ac.symm h
theorem Z4P(t:Fst3 kd rk):∀n h,rk h<=n->(preG kd n h).Pairwise (fun a b=>a≠b/\¬Dn kd b a):=by
 intro n
 induction n with
 | zero=>intro h _;simp[preG]
 | succ n ih =>
  intro h hn;simp only[preG,J2d,J2e];refine⟨fun b hb=>?_,fun x hx=>?_,?_⟩
  ·obtain⟨k,hk,Aj⟩:=J2c.1 hb;have hk:=J2b.1 hk;have h1:=t.dn h k hk;have hd:=(Q5f t n k b (by omega)).1 Aj;have h2:=(hd.rank t).1;refine⟨fun e=>by subst e;omega,fun d=>?_⟩;have:=(d.rank t).1;omega
  ·have:=t.dn h x (J2b.1 hx);exact ih x (by omega)
  ·rw[J2f];refine(t.nd h).imp_of_mem ?_;intro x1 x2 m1 m2 Ac a ha b hb;have r1:=t.dn h x1 m1;have r2:=t.dn h x2 m2;have d1:=(Q5f t n x2 a (by omega)).1 ha;have d2:=(Q5f t n x1 b (by omega)).1 hb;refine⟨?_,fun d=>?_⟩
   ·rintro rfl;exact Q6P t m1 m2 Ac d2 d1
   ·exact Q6P t m1 m2 Ac (d2.trans d) d1
theorem Q5E(t:Fst3 kd rk)(h:Int):(preT kd rk h).Pairwise (fun a b=>a≠b/\¬Dn kd b a):=Z4P t _ h (J1E _)
theorem Q6Q(t:Fst3 kd rk){h x:Int}:x∈Q0Q kd rk h↔Dn kd h x/\x≠h:=by
 have e:=Q3c t h;have hp:=Q5E t h;rw[e] at hp;obtain⟨h1,_⟩:=J2d.1 hp;have hm:x∈preT kd rk h↔x=h∨x∈Q0Q kd rk h:=by rw[e];simp
 rw[<- Z0T t,hm]
 constructor
 ·intro hx;exact⟨.inr hx,fun e=>(h1 x (by simpa using hx)).1 e.symm⟩
 ·rintro⟨h|h,Ac⟩
  ·exact absurd h Ac
  ·exact h
theorem Z2h(t:Fst3 kd rk)(h:Int):(Q0Q kd rk h).Pairwise (fun a b=>a≠b/\¬Dn kd a b):=by
 have hp:=Q5E t h;rw[Q3c t h] at hp;have:=(J2d.1 hp).2;rw[J2f] at this;exact this.imp fun⟨h1,h2⟩=>⟨h1.symm,h2⟩
def Q8D(kd:Int->List Int)(rk:Int->Nat)(ws:List Int):List Int:=ws.reverse.flatMap (preT kd rk)
theorem Z2i(t:Fst3 kd rk)(ws:List Int)(x:Int):Q8D kd rk (ws++[x])=x::Q8D kd rk (ws++kd x):=by
 unfold Q8D;rw[List.reverse_append,List.reverse_append,List.reverse_singleton,J2i,J2i,List.flatMap_singleton,Q9N t x];rfl
theorem Z4Q(kd:Int->List Int)(rk:Int->Nat)(t:Fst3 kd rk)(ws:List Int):ws.length<=(Q8D kd rk ws).length:=by
 unfold Q8D;have:∀w:List Int,w.length<=(w.flatMap (preT kd rk)).length:=by
  intro w
  induction w with
  | nil=>simp
  | cons x r ih =>
   rw[J2a,J2j,J2k];have:0<(preT kd rk x).length:=by rw[Q9N t x];simp
   omega
 simpa using this ws.reverse
end
open Go.RowKit
abbrev SKV:=List ((Int×Int)×Value)
def Q1X(p:Int×Int):Value:=.agg #[.int .i64 p.1,.int .i64 p.2]
def Q3p(kv:SKV)(p:Int×Int):Option Value:=(kv.find? fun q=>decide (q.1=p)).map Prod.snd
def delS(kv:SKV)(p:Int×Int):SKV:=kv.filter fun q=>decide (q.1≠p)
def Q2L(w:World)(m:Nat)(kv:SKV):Prop:=MapIs w m (kv.map fun q=>(Q1X q.1,q.2))
def Q1x(P:Program)(K:TypeId)(p:Int×Int):Prop:=∃l,keyOf P K (Q1X p)=some l
theorem Z4R{p q:Int×Int}(h:Q1X p=Q1X q):p=q:=by
 unfold Q1X at h;simp at h;exact Prod.ext h.1 h.2
theorem Z4S:∀{kv:SKV} {p:Int×Int} {v:Value} {j:Nat},kv.Pairwise (fun a b=>a.1≠b.1)->kv[j]?=some (p,v)->Q3p kv p=some v/\kv.eraseIdx j=delS kv p
 | [],_,_,_,_,h=>by simp at h
 | q::r,p,v,0,hn,h=>by
  simp at h;subst h;obtain⟨h1,_⟩:=J2d.1 hn;refine⟨by simp[Q3p],?_⟩;unfold delS;rw[J3K (by simp)]
  symm
  rw[List.eraseIdx_zero,List.tail_cons,J5z];intro a ha;have:=h1 a ha;simp;exact fun e=>this e.symm
 | q::r,p,v,j+1,hn,h=>by
  rw[J4J] at h;obtain⟨h1,h2⟩:=J2d.1 hn;obtain⟨i1,i2⟩:=Z4S h2 h;have Ac:q.1≠p:=h1 _ (J3L h);refine⟨?_,?_⟩
  ·unfold Q3p at i1 ⊢;rw[List.find?_cons_of_neg (by simpa using Ac)];exact i1
  ·unfold delS at i2 ⊢;rw[J3J (by simpa using Ac),J5A,i2]
theorem map_erase{α β:Type}(f:α->β):∀(l:List α) (j:Nat),(l.eraseIdx j).map f=(l.map f).eraseIdx j
 | [],_=>by simp
 | _::_,0=>rfl
 | x::r,j+1=>by rw[J5A,J1H,J1H,J5A,map_erase f r j]
theorem Q8E{kv:SKV}{p:Int×Int}(h:∀q∈kv,q.1≠p):Q3p kv p=none/\delS kv p=kv:=by
 refine⟨?_,?_⟩
 ·unfold Q3p;rw[J3q.2 (fun q hq=>by simpa using h q hq)];rfl
 ·unfold delS;rw[J5z];intro q hq
  simpa using h q hq
section
variable {P:Program} {K V:TypeId} {T:TypeId}
theorem Q5F(law:WideMaps.KeyLaw P K)(w:World){es:List MapEntry}{kv:SKV}(hr:es.map (fun e=>(e.key,e.val))=kv.map fun q=>(Q1X q.1,q.2))(hn:kv.Pairwise (fun a b=>a.1≠b.1))(hk:∀q∈kv,Q1x P K q.1){p:Int×Int}(hp:Q1x P K p) :
  ((Instr.findKey K (Q1X p) es).run P w=.ok none w/\Q3p kv p=none/\delS kv p=kv/\∀e∈es,e.key≠Q1X p) ∨
  ∃j v,(Instr.findKey K (Q1X p) es).run P w=.ok (some (j,v)) w/\Q3p kv p=some v/\j<es.length/\(es.eraseIdx j).map (fun e=>(e.key,e.val))=(delS kv p).map fun q=>(Q1X q.1,q.2):=by
 obtain⟨l,hl⟩:=hp;have A4:∀e∈es,∃l,keyOf P K e.key=some l:=fun e he=>by
  have hm:(e.key,e.val)∈kv.map fun q=>(Q1X q.1,q.2):=by rw[<- hr];exact J1K.2 ⟨e,he,rfl⟩
  obtain⟨q,hq,e1⟩:=J1K.1 hm;have:Q1X q.1=e.key:=((Prod.mk.injEq _ _ _ _).mp e1).1;rw[<- this];exact hk q hq
 rcases law.find w hl es A4 with ⟨h1,h2⟩|⟨j,e,h1,h2,h3⟩
 ·left;have Aw:∀q∈kv,q.1≠p:=fun q hq e=>by
   have hm:(Q1X q.1,q.2)∈es.map fun e=>(e.key,e.val):=by rw[hr];exact J1K.2 ⟨q,hq,rfl⟩
   obtain⟨x,hx,e1⟩:=J1K.1 hm;exact h2 x hx (by rw[((Prod.mk.injEq _ _ _ _).mp e1).1,e])
  exact⟨h1,(Q8E Aw).1,(Q8E Aw).2,h2⟩
 ·right;have hj:j<es.length:=(J1V.1 h2).1;have N2:(kv.map fun q=>(Q1X q.1,q.2))[j]?=some (e.key,e.val):=by rw[<- hr,J3i,h2];rfl
  rw[J3i] at N2;obtain⟨q,hq,e1⟩:=J5q.1 N2;obtain⟨e2,e3⟩:=(Prod.mk.injEq _ _ _ _).mp e1;have Nf:q.1=p:=Z4R (e2.trans h3);have N7:kv[j]?=some (p,e.val):=by rw[hq,<- Nf,<- e3]
  obtain⟨f1,f2⟩:=Z4S hn N7;refine⟨j,e.val,h1,f1,hj,?_⟩;rw[<- f2,map_erase,map_erase,hr]
theorem Q5G{w:World}{m:Nat}{kv:SKV}(h:Q2L w m kv)(law:WideMaps.KeyLaw P K)(hn:kv.Pairwise (fun a b=>a.1≠b.1))(hk:∀q∈kv,Q1x P K q.1){p:Int×Int}(hp:Q1x P K p)(ok:Bool)(z:Value)(hT:P.underlying T=some (.map K V))(hz:(zeroValue V).run P w=.ok z w) :
  (Instr.lookup T (.map (some m)) (Q1X p) ok).run P w=.ok (if ok then .tuple #[(Q3p kv p).getD z,.bool (Q3p kv p).isSome] else(Q3p kv p).getD z) w:=by
 obtain⟨es,Ag,hb,hs,hr⟩:=h;have hc:=fun em=>law.check w em hp.choose_spec
 unfold Instr.lookup;rcases Q5F law w hr hn hk hp with ⟨hf,hl,_,_⟩|⟨j,v,hf,hl,_,_⟩
 ·cases ok <;> simp[run_underlying hT,Result.andThen,Go.MapKept.run_getObj_map hb,hc,hf,hl,hz]
 ·cases ok <;> simp[run_underlying hT,Result.andThen,Go.MapKept.run_getObj_map hb,hc,hf,hl]
theorem Q3Z{w:World}{m:Nat}{kv:SKV}(h:Q2L w m kv)(law:WideMaps.KeyLaw P K)(hn:kv.Pairwise (fun a b=>a.1≠b.1))(hk:∀q∈kv,Q1x P K q.1){p:Int×Int}(hp:Q1x P K p)(u:Value)(Aw:Q3p kv p=none)(hT:P.underlying T=some (.map K V)) :
  ∃w',(Instr.mapUpdate T (.map (some m)) (Q1X p) u).run P w=.ok () w'/\Q2L w' m (kv++[(p,u)])/\w.grownBy w' (some m):=by
 obtain⟨es,Ag,hb,hs,hr⟩:=h;have hc:=fun em=>law.check w em hp.choose_spec
 have DF:∀o,w.grownBy {w with heap:=w.heap.setIfInBounds m o} (some m):=fun o=>⟨rfl,rfl,rfl,by simp,fun k _ Ac=>by
  have:m≠k:=fun e=>Ac (by rw[e])
  simp[this]⟩
 have Aa:=lt_of_block hb;unfold Instr.mapUpdate;rcases Q5F law w hr hn hk hp with ⟨hf,hl,_,Ac⟩|⟨j,v,hf,hl,_,_⟩
 ·refine⟨{w with heap:=w.heap.setIfInBounds m (.map (es.push {key:=Q1X p,val:=u,born:=Ag}) (Ag+1))},?_,?_,DF _⟩
  ·simp[run_underlying hT,Result.andThen,Go.MapKept.run_getObj_map hb,hc,hf,Go.MapKept.run_setObj_map _ hb]
  ·refine⟨es.push {key:=Q1X p,val:=u,born:=Ag},Ag+1,by simp[Aa],Go.MapKept.stamped_push hs (fun x hx=>Ac x (by simpa using hx)),?_⟩;simp[hr]
 ·rw[Aw] at hl;cases hl
theorem Q5H{w:World}{m:Nat}{kv:SKV}(h:Q2L w m kv)(law:WideMaps.KeyLaw P K)(hn:kv.Pairwise (fun a b=>a.1≠b.1))(hk:∀q∈kv,Q1x P K q.1){p:Int×Int}(hp:Q1x P K p)(t1 t2:TypeId)(hT:P.underlying T=some (.map K V)) :
  ∃w',(Builtin.delete_ #[T,t1] t2 #[.map (some m),Q1X p]).run P w=.ok (.tuple #[]) w'/\Q2L w' m (delS kv p)/\w.grownBy w' (some m):=by
 obtain⟨es,Ag,hb,hs,hr⟩:=h;have hc:=fun em=>law.check w em hp.choose_spec
 have DF:∀o,w.grownBy {w with heap:=w.heap.setIfInBounds m o} (some m):=fun o=>⟨rfl,rfl,rfl,by simp,fun k _ Ac=>by
  have:m≠k:=fun e=>Ac (by rw[e])
  simp[this]⟩
 have Aa:=lt_of_block hb;unfold Builtin.delete_;rcases Q5F law w hr hn hk hp with ⟨hf,hl,hd,Ac⟩|⟨j,v,hf,hl,hj,hd⟩
 ·refine⟨{w with heap:=w.heap.setIfInBounds m (.map es Ag)},?_,?_,DF _⟩
  ·simp[run_underlying hT,Result.andThen,Go.MapKept.run_getObj_map hb,hc,hf,Go.MapKept.run_setObj_map _ hb]
  ·refine⟨_,_,by simp[Aa],hs,?_⟩;rw[hd];exact hr
 ·refine⟨{w with heap:=w.heap.setIfInBounds m (.map (es.eraseIdxIfInBounds j) Ag)},?_,?_,DF _⟩
  ·simp[run_underlying hT,Result.andThen,Go.MapKept.run_getObj_map hb,hc,hf,Go.MapKept.run_setObj_map _ hb]
  ·refine⟨es.eraseIdxIfInBounds j,Ag,by simp[Aa],Go.MapKept.stamped_erase hs _,?_⟩;rw[<- hd];have:j<es.size:=by simpa using hj
   simp[Array.eraseIdxIfInBounds,this]
end
structure Nd where
 sp:Int
 sl:Int
 par:Int
 ks:List Int
def mapE(f:En Nd->Nd)(N:List (En Nd)):List (En Nd):=N.map fun e=>{e with q:=f e}
theorem Q1l(f:En Nd->Nd)(N:List (En Nd))(id:Int):find (mapE f N) id=(find N id).map fun e=>{e with q:=f e}:=by
 induction N with
 | nil=>rfl
 | cons x r ih =>
  by_cases h:id=x.id
  ·simp[mapE,find,h]
  ·have ih':find (r.map fun e=>{e with q:=f e}) id=_:=ih;simp[mapE,find,h,ih']
theorem Q1r{f:En Nd->Nd}{N:List (En Nd)}{x:En Nd}(h:x∈mapE f N):∃e∈N,x={e with q:=f e}:=by
 obtain⟨e,he,rfl⟩:=J1K.1 h;exact⟨e,he,rfl⟩
theorem Q9O{f:En Nd->Nd}{N:List (En Nd)}(h:∀e∈N,f e=e.q):mapE f N=N:=by
 unfold mapE
 conv=>rhs;rw[<- List.map_id N]
 exact J3G fun e he=>by rw[h e he];rfl
theorem Q5I(f g:En Nd->Nd)(N:List (En Nd)):mapE g (mapE f N)=mapE (fun e=>g {e with q:=f e}) N:=by
 unfold mapE;rw[J3F];rfl
theorem Q4z{f g:En Nd->Nd}{N:List (En Nd)}(h:∀e∈N,f e=g e):mapE f N=mapE g N:=by
 unfold mapE;exact J3G fun e he=>by rw[h e he]
theorem Q1K{f:En Nd->Nd}{N:List (En Nd)}{R:En Nd->En Nd->Prop}(h:∀a b,R a b->R {a with q:=f a} {b with q:=f b})(hp:N.Pairwise R):(mapE f N).Pairwise R:=by
 unfold mapE;rw[J2h];exact hp.imp fun {a b} EI=>h a b EI
theorem Q4A{N:List (En Nd)}(Af:N.Pairwise (fun a b=>a.id≠b.id))(id:Int):∀x,x∈rem N id↔x∈N/\x.id≠id:=by
 induction N with
 | nil=>simp[rem]
 | cons y r ih =>
  obtain⟨h1,h2⟩:=J2d.1 Af;intro x;by_cases hk:id=y.id
  ·subst hk;simp only[rem,if_true,J1J]
   constructor
   ·intro hx;exact⟨.inr hx,fun e=>h1 x hx e.symm⟩
   ·rintro⟨rfl|hx,Ac⟩
    ·exact absurd rfl Ac
    ·exact hx
  ·simp only[rem,hk,if_false,J1J];rw[ih h2 x]
   constructor
   ·rintro(rfl|⟨hx,Ac⟩)
    ·exact⟨.inl rfl,fun e=>hk e.symm⟩
    ·exact⟨.inr hx,Ac⟩
   ·rintro⟨rfl|hx,Ac⟩
    ·exact .inl rfl
    ·exact .inr ⟨hx,Ac⟩
structure NOk(N:List (En Nd))(next:Int):Prop where
 ids:N.Pairwise (fun a b=>a.id≠b.id)
 spots:N.Pairwise (fun a b=>(a.q.sp,a.q.sl)≠(b.q.sp,b.q.sl))
 next0:0<=next
 rng:∀e∈N,1<=e.id/\e.id<=next
 sm:∀e∈N,0<=e.q.sp/\e.q.sp<4294967296/\0<=e.q.sl/\e.q.sl<256
 par:∀e∈N,0<=e.q.par/\(e.q.par≠0->∃p,find N e.q.par=some p/\e.id∈p.q.ks)
 kids:∀p∈N,∀k∈p.q.ks,∃e,find N k=some e/\e.q.par=p.id
 nd:∀p∈N,p.q.ks.Nodup
 rise:∀e∈N,e.q.par<e.id
theorem Q0r{N:List (En Nd)}(Af:N.Pairwise (fun a b=>a.id≠b.id)){e:En Nd}(h:e∈N):find N e.id=some e:=by
 induction N with
 | nil=>cases h
 | cons x r ih =>
  obtain⟨h1,h2⟩:=J2d.1 Af;rcases J1J.1 h with rfl|h
  ·simp[find]
  ·have Ac:¬e.id=x.id:=fun e'=>h1 e h e'.symm
   simp only[find,Ac,if_false];exact ih h2 h
theorem Q4B{N:List (En Nd)}{next:Int}(ok:NOk N next){a b:En Nd}(ha:a∈N)(hb:b∈N)(h1:a.q.sp=b.q.sp)(h2:a.q.sl=b.q.sl):a=b:=by
 obtain⟨i,hi⟩:=J4m.1 ha;obtain⟨j,hj⟩:=J4m.1 hb;obtain⟨i1,i2⟩:=J1V.1 hi;obtain⟨j1,j2⟩:=J1V.1 hj;rcases J4y i j with h|h|h
 ·have:=J4z.1 ok.spots i j i1 j1 h;rw[i2,j2] at this;exact absurd (Prod.ext h1 h2) this
 ·subst h;rw[<- i2,<- j2]
 ·have:=J4z.1 ok.spots j i j1 i1 h;rw[i2,j2] at this;exact absurd (Prod.ext h1.symm h2.symm) this
def kdF(N:List (En Nd))(id:Int):List Int:=match find N id with
 | some e=>e.q.ks
 | none=>[]
def rkF(next:Int)(id:Int):Nat:=(next+1-id).toNat
theorem NOk.tree{N:List (En Nd)}{next:Int}(ok:NOk N next):Fst3 (kdF N) (rkF next):=by
 have get:∀{h x},x∈kdF N h->∃p e,find N h=some p/\x∈p.q.ks/\find N x=some e/\e.q.par=p.id/\p.id=h:=by
  intro h x hx;unfold kdF at hx;cases hf:find N h with
  | none=>rw[hf] at hx;cases hx
  | some p =>
   rw[hf] at hx;obtain⟨e,h1,h2⟩:=ok.kids p (Q0d hf).1 x hx;exact⟨p,e,rfl,hx,h1,h2,(Q0d hf).2⟩
 refine⟨fun h x hx=>?_,fun a b x ha hb=>?_,fun h=>?_⟩
 ·obtain⟨p,e,h1,h2,h3,h4,h5⟩:=get hx;obtain⟨e1,e2⟩:=Q0d h3;have:=ok.rise e e1;have:=ok.rng e e1;unfold rkF;omega
 ·obtain⟨p,e,h1,h2,h3,h4,h5⟩:=get ha;obtain⟨p',e',O3,VX,Sc,Wl,V6⟩:=get hb;rw[h3] at Sc;cases Sc;omega
 ·unfold kdF;cases hf:find N h with
  | none=>simp
  | some p=>exact ok.nd p (Q0d hf).1
theorem NOk.zero{N:List (En Nd)}{next:Int}(ok:NOk N next):find N 0=none:=by
 cases hf:find N 0 with
 | none=>rfl
 | some e =>
  obtain⟨h1,h2⟩:=Q0d hf;have:=ok.rng e h1;omega
def addN(N:List (En Nd))(par:Int)(k:Int)(b:Nat)(sp sl:Int):List (En Nd):=mapE (fun c=>if c.id=par then {c.q with ks:=c.q.ks++[k]} else c.q) N++[⟨k,b,⟨sp,sl,par,[]⟩⟩]
theorem Q7G(N:List (En Nd))(x:En Nd)(id:Int):find (N++[x]) id=(find N id).or (if id=x.id then some x else none):=by
 rw[Q1H];cases find N id <;> rfl
theorem NOk.add{N:List (En Nd)}{next:Int}(ok:NOk N next){par sp sl:Int}(b:Nat)(hp:par=0∨∃p,find N par=some p)(Aw:∀e∈N,(e.q.sp,e.q.sl)≠(sp,sl))(h1:0<=sp)(h2:sp<4294967296)(h3:0<=sl)(h4:sl<256):NOk (addN N par (next+1) b sp sl) (next+1):=by
 have E6:=ok.next0;have D8:find N (next+1)=none:=by
  cases hf:find N (next+1) with
  | none=>rfl
  | some e =>
   obtain⟨e1,e2⟩:=Q0d hf;have:=ok.rng e e1;omega
 have V9:0<=par/\par<=next:=by
  rcases hp with rfl|⟨p,hp⟩
  ·omega
  ·obtain⟨e1,e2⟩:=Q0d hp;have:=ok.rng p e1;omega
 have Cd:∀id,find (addN N par (next+1) b sp sl) id=if id=next+1 then some ⟨next+1,b,⟨sp,sl,par,[]⟩⟩ else(find N id).map fun c=>{c with q:=if c.id=par then {c.q with ks:=c.q.ks++[next+1]} else c.q}:=fun id=>by
  unfold addN;rw[Q7G,Q1l];by_cases h:id=next+1
  ·subst h;rw[D8];simp
  ·cases hf:find N id with
   | none=>simp[h]
   | some e=>simp[h]
 have A8:∀{x},x∈addN N par (next+1) b sp sl->(∃e∈N,x={e with q:=if e.id=par then {e.q with ks:=e.q.ks++[next+1]} else e.q})∨x=⟨next+1,b,⟨sp,sl,par,[]⟩⟩:=fun {x} hx=>by
  rcases J2m.1 hx with hx|hx
  ·exact .inl (Q1r hx)
  ·exact .inr (J3E.1 hx)
 refine⟨?_,?_,by omega,fun x hx=>?_,fun x hx=>?_,fun x hx=>?_,fun x hx k hk=>?_,fun x hx=>?_,fun x hx=>?_⟩
 ·unfold addN;rw[J2l];refine⟨Q1K (fun a b h=>h) ok.ids,by simp,fun x hx y hy=>?_⟩;obtain⟨e,he,rfl⟩:=Q1r hx;rw[J3E] at hy;subst hy;have:=ok.rng e he;show e.id≠next+1;omega
 ·unfold addN;rw[J2l];refine⟨Q1K (fun a b h=>?_) ok.spots,by simp,fun x hx y hy=>?_⟩
  ·have e1:∀c:En Nd,(if c.id=par then({c.q with ks:=c.q.ks++[next+1]}:Nd) else c.q).sp=c.q.sp/\(if c.id=par then({c.q with ks:=c.q.ks++[next+1]}:Nd) else c.q).sl=c.q.sl:=fun c=>by split <;> exact⟨rfl,rfl⟩
   show((if a.id=par then({a.q with ks:=a.q.ks++[next+1]}:Nd) else a.q).sp,_)≠_;rw[(e1 a).1,(e1 a).2,(e1 b).1,(e1 b).2];exact h
  ·obtain⟨e,he,rfl⟩:=Q1r hx;rw[J3E] at hy;subst hy;have:=Aw e he;show((if e.id=par then({e.q with ks:=e.q.ks++[next+1]}:Nd) else e.q).sp,(if e.id=par then({e.q with ks:=e.q.ks++[next+1]}:Nd) else e.q).sl)≠_;split <;> exact this
 ·rcases A8 hx with ⟨e,he,rfl⟩|rfl
  ·have:=ok.rng e he;exact⟨this.1,by show e.id<=_;omega⟩
  ·exact⟨by show 1<=next+1;omega,J5x _⟩
 ·rcases A8 hx with ⟨e,he,rfl⟩|rfl
  ·have:=ok.sm e he;simp only;split <;> exact this
  ·exact⟨h1,h2,h3,h4⟩
 ·have key:∀e∈N,∀pr:Int,pr=e.q.par->0<=pr/\(pr≠0->∃p,find (addN N par (next+1) b sp sl) pr=some p/\e.id∈p.q.ks):=fun e he pr hpr'=>by
   subst hpr';obtain⟨q1,q2⟩:=ok.par e he;refine⟨q1,fun h0=>?_⟩;obtain⟨p,hp,hk⟩:=q2 h0;obtain⟨p1,p2⟩:=Q0d hp;have:=ok.rng p p1;refine⟨_,by rw[Cd,if_neg (by omega),hp];rfl,?_⟩;simp only;split
   ·exact J2s _ hk
   ·exact hk
  rcases A8 hx with ⟨e,he,rfl⟩|rfl
  ·exact key e he _ (by simp only;split <;> rfl)
  ·refine⟨V9.1,fun h0=>?_⟩;have Dk:par≠0:=h0;obtain⟨p,hp⟩:=hp.resolve_left Dk;obtain⟨p1,p2⟩:=Q0d hp;refine⟨_,by rw[Cd,if_neg (by show par≠_;omega)];show(find N par).map _=_;rw[hp];rfl,?_⟩;simp only[p2,if_true];exact J2r _ (by simp)
 ·have old:∀e∈N,∀k∈e.q.ks,∃c,find (addN N par (next+1) b sp sl) k=some c/\c.q.par=e.id:=fun e he k hk=>by
   obtain⟨c,hc,ER⟩:=ok.kids e he k hk;obtain⟨c1,c2⟩:=Q0d hc;have:=ok.rng c c1;refine⟨_,by rw[Cd,if_neg (by omega),hc];rfl,?_⟩;simp only;split <;> exact ER
  rcases A8 hx with ⟨e,he,rfl⟩|rfl
  ·by_cases P3:e.id=par
   ·have BE:k∈e.q.ks++[next+1]:=by
     have:=hk;simp only[P3,if_true] at this;exact this
    rcases J2m.1 BE with BE|BE
    ·exact old e he k BE
    ·rw[J3E] at BE;subst BE;exact⟨_,by rw[Cd,if_pos rfl],P3.symm⟩
   ·have BE:k∈e.q.ks:=by
     have:=hk;simp only[P3,if_false] at this;exact this
    exact old e he k BE
  ·cases hk
 ·rcases A8 hx with ⟨e,he,rfl⟩|rfl
  ·have AO:=ok.nd e he;simp only;split
   ·show(e.q.ks++[next+1]).Nodup;rw[J2q];refine⟨AO,by simp,fun a ha b' Aj=>?_⟩;rw[J3E] at Aj;subst Aj;obtain⟨c,hc,_⟩:=ok.kids e he a ha;obtain⟨c1,c2⟩:=Q0d hc;have:=ok.rng c c1;omega
   ·exact AO
  ·exact List.nodup_nil
 ·rcases A8 hx with ⟨e,he,rfl⟩|rfl
  ·have:=ok.rise e he;simp only;split <;> exact this
  ·show par<next+1;omega
def Q0s(e:En Nd)(j:Nat)(c:En Nd):Nd:=
 {c.q with par:=if c.id∈e.q.ks.take j then e.q.par else c.q.par,ks:=if c.id=e.q.par then c.q.ks.filter (fun k=>decide (k≠e.id))++e.q.ks.take j else c.q.ks}
def Q0E(N:List (En Nd))(e:En Nd)(j:Nat):List (En Nd):=mapE (Q0s e j) (rem N e.id)
theorem NOk.rem_find{N:List (En Nd)}{next:Int}(ok:NOk N next)(e:En Nd)(id:Int):find (rem N e.id) id=if id=e.id then none else find N id:=Z0w ok.ids e.id id
theorem NOk.lift{N:List (En Nd)}{next:Int}(ok:NOk N next){e:En Nd}(he:find N e.id=some e):NOk (Q0E N e e.q.ks.length) next:=by
 obtain⟨BO,_⟩:=Q0d he;have Jp:=ok.rng e BO;have P4:=ok.rise e BO;have Bu:=ok.par e BO;have Bh:e.q.ks.take e.q.ks.length=e.q.ks:=J5B;have hL:∀c,Q0s e e.q.ks.length c={c.q with par:=if c.id∈e.q.ks then e.q.par else c.q.par,ks:=if c.id=e.q.par then c.q.ks.filter (fun k=>decide (k≠e.id))++e.q.ks else c.q.ks}:=fun c=>by unfold Q0s;rw[Bh]
 have Cd:∀id,find (Q0E N e e.q.ks.length) id=if id=e.id then none else(find N id).map fun c=>{c with q:=Q0s e e.q.ks.length c}:=fun id=>by
  unfold Q0E;rw[Q1l,ok.rem_find];split <;> rfl
 have A8:∀{x},x∈Q0E N e e.q.ks.length->∃c∈N,c.id≠e.id/\x={c with q:=Q0s e e.q.ks.length c}:=fun {x} hx=>by
  obtain⟨c,hc,rfl⟩:=Q1r hx;obtain⟨h1,h2⟩:=(Q4A ok.ids e.id c).1 hc;exact⟨c,h1,h2,rfl⟩
 -- whose child is whose
 have Kw:∀c∈N,(c.id∈e.q.ks↔c.q.par=e.id):=fun c hc=>by
  constructor
  ·intro h;obtain⟨d,hd,E4⟩:=ok.kids e BO c.id h;rw[Q0r ok.ids hc] at hd;cases hd;exact E4
  ·intro h;obtain⟨p,hp,hk⟩:=(ok.par c hc).2 (by omega);rw[h,he] at hp;cases hp;exact hk
 have BP:(rem N e.id).Sublist N:=Q3A N e.id;refine⟨Q1K (fun a b h=>h) (ok.ids.sublist BP),Q1K (fun a b h=>h) (ok.spots.sublist BP),ok.next0,fun x hx=>?_,fun x hx=>?_,fun x hx=>?_,fun x hx k hk=>?_,fun x hx=>?_,fun x hx=>?_⟩
 ·obtain⟨c,hc,_,rfl⟩:=A8 hx;exact ok.rng c hc
 ·obtain⟨c,hc,_,rfl⟩:=A8 hx;exact ok.sm c hc
 ·obtain⟨c,hc,Ac,rfl⟩:=A8 hx;show 0<=(Q0s e e.q.ks.length c).par/\((Q0s e e.q.ks.length c).par≠0->_);rw[hL];simp only;by_cases FR:c.id∈e.q.ks
  ·rw[if_pos FR];refine⟨Bu.1,fun h0=>?_⟩;obtain⟨p,hp,hk⟩:=Bu.2 h0;obtain⟨p1,p2⟩:=Q0d hp;refine⟨_,by rw[Cd,if_neg (by omega),hp];rfl,?_⟩;show c.id∈(Q0s e e.q.ks.length p).ks;rw[hL];simp only[p2,if_true];exact J2r _ FR
  ·rw[if_neg FR];obtain⟨q1,q2⟩:=ok.par c hc;refine⟨q1,fun h0=>?_⟩;obtain⟨p,hp,hk⟩:=q2 h0;have Gy:c.q.par≠e.id:=fun h=>FR ((Kw c hc).2 h)
   refine⟨_,by rw[Cd,if_neg Gy,hp];rfl,?_⟩;show c.id∈(Q0s e e.q.ks.length p).ks;rw[hL];simp only;split
   ·exact J2s _ (J1X.2 ⟨hk,by simpa using Ac⟩)
   ·exact hk
 ·obtain⟨c,hc,Ac,rfl⟩:=A8 hx;have BE:k∈(Q0s e e.q.ks.length c).ks:=hk;rw[hL] at BE;simp only at BE;have fromC:k∈c.q.ks->k≠e.id->∃d,find (Q0E N e e.q.ks.length) k=some d/\d.q.par=c.id:=fun h1 h2=>by
   obtain⟨d,hd,E4⟩:=ok.kids c hc k h1;obtain⟨d1,d2⟩:=Q0d hd;refine⟨_,by rw[Cd,if_neg h2,hd];rfl,?_⟩;show(Q0s e e.q.ks.length d).par=c.id;rw[hL];simp only;rw[if_neg (fun h=>Ac (by rw[<- E4];exact(Kw d d1).1 h))];exact E4
  split at BE
  ·rename_i ER;rcases J2m.1 BE with BE|BE
   ·obtain⟨h1,h2⟩:=J1X.1 BE;exact fromC h1 (by simpa using h2)
   ·obtain⟨d,hd,E4⟩:=ok.kids e BO k BE;obtain⟨d1,d2⟩:=Q0d hd;have:=ok.rise d d1;refine⟨_,by rw[Cd,if_neg (by omega),hd];rfl,?_⟩;show(Q0s e e.q.ks.length d).par=c.id;rw[hL];simp only;rw[if_pos (by rw[d2];exact BE),ER]
  ·refine fromC BE fun h=>?_
   rename_i ER;obtain⟨d,hd,E4⟩:=ok.kids c hc k BE;rw[h,he] at hd;cases hd;exact ER E4.symm
 ·obtain⟨c,hc,Ac,rfl⟩:=A8 hx;show(Q0s e e.q.ks.length c).ks.Nodup;rw[hL];simp only;split
  ·rw[J2q];refine⟨(ok.nd c hc).filter _,ok.nd e BO,fun a ha b hb EI=>?_⟩;subst EI;obtain⟨d,hd,E4⟩:=ok.kids c hc a (J1X.1 ha).1;obtain⟨d',NH,Uy⟩:=ok.kids e BO a hb;rw[hd] at NH;cases NH;omega
  ·exact ok.nd c hc
 ·obtain⟨c,hc,Ac,rfl⟩:=A8 hx;show(Q0s e e.q.ks.length c).par<c.id;rw[hL];simp only;split
  ·rename_i h;have:=(Kw c hc).1 h;have:=ok.rise c hc;omega
  ·exact ok.rise c hc
end Go.Proofs.YtfidemmgofcnmaaGreatDoor
