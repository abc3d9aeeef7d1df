/- SpaceFails returns true at every input. No condition. Part of its proof. -/
import Derived.Test.YtfidemmgofcnmaaGreatDoorSf10
import Derived.DeepKeys3
set_option linter.unusedVariables false
namespace Go.Proofs.YtfidemmgofcnmaaGreatDoor
open Go.RowKit Go.Proofs.Tryz
def CO.paid(S:CO)(P':PL)(own:Int)(d:Int):CO:={S with P:=P',xc:=fun id=>if id=own then S.xc id+d else S.xc id}
theorem TreI.pay{E:List (En Fa)}{l:List Pl}{xc:Int->Int}(t:TreI E l xc)(Ae:E.Pairwise (fun a b=>a.id≠b.id)){own:Int}{e:En Fa}(hf:find E own=some e)(d:Int):TreI (upd E own {e.q with charged:=e.q.charged+d}) l (fun id=>if id=own then xc id+d else xc id):=by
 have Hd:∀a,Q1Y (upd E own {e.q with charged:=e.q.charged+d}) a=Q1Y E a:=fun a=>Q1U Ae hf _ _ rfl
 have FN:∀a,Q1Z (upd E own {e.q with charged:=e.q.charged+d}) a=Q1Z E a:=fun a=>Q1U Ae hf _ _ rfl
 refine⟨by rw[Q1s];exact t.ids,fun p hp As=>?_,fun p hp As hk x hx=>?_,fun id x hx=>?_,fun id x hx=>?_⟩
 ·obtain⟨y,hy⟩:=t.fac p hp As;exact Q0Z _ hy
 ·obtain⟨y,hy,h1,h2⟩:=Q0p _ hf hx;have:=t.par p hp As hk y hy;by_cases hid:(p.own:Int)=own
  ·obtain⟨rfl,e2⟩:=h1 hid;rw[e2];exact this
  ·rw[h2 hid];exact this
 ·obtain⟨y,hy,h1,h2⟩:=Q0p _ hf hx;have:=t.charged id y hy;by_cases hid:id=own
  ·obtain⟨rfl,e2⟩:=h1 hid;rw[e2,if_pos hid];show y.q.charged+d=_;omega
  ·rw[h2 hid,if_neg hid];exact this
 ·obtain⟨y,hy,h1,h2⟩:=Q0p _ hf hx;have:=t.given id y hy;rw[Hd,FN];by_cases hid:id=own
  ·obtain⟨rfl,e2⟩:=h1 hid;rw[e2];exact this
  ·rw[h2 hid];exact this
theorem CO.Ok.paid{S:CO}{fr:List Nat}{N K:Nat}(ok:S.Ok fr N K){P':PL}{own:Int}{e:En Fa}{d:Int}(Bg:P'.Ok fr)(he:find S.P.q.E own=some e)(hE:P'.q={S.P.q with E:=upd S.P.q.E own {e.q with charged:=e.q.charged+d}})(hu:∀j,1<=j->j<=5->P'.usedOf j=S.P.usedOf j)(hw:∀b∈S.P.usedOf 1,Q0u P'.a.mem b=Q0u S.P.a.mem b)
  (Ec:0<=S.xc own+d) (BX:S.xc own+d≠0->∃p∈S.l,p.st=1/\(p.fac:Int)=own):(S.paid P' own d).Ok fr N K:=by
 have v:=ok.inv;refine⟨⟨v.len,v.st,v.mem.same Bg hu hw,?_,?_⟩,ok.per,ok.due,ok.ord,ok.ov,?_,ok.now,ok.age⟩
 ·show TreI P'.q.E S.l _;rw[hE];exact v.tre.pay v.mem.pool.q.ids he d
 ·refine⟨v.que.root,v.que.live,fun id=>?_,v.que.nd,v.que.has,v.que.ord⟩;show 0<=(if id=own then S.xc id+d else S.xc id)/\((if id=own then S.xc id+d else S.xc id)≠0->_);split
  ·rename_i h;subst h;exact⟨Ec,BX⟩
  ·exact v.que.xc id
 ·show P'.q.next<=N;rw[hE];exact ok.next
theorem CO.Ok.stored{S:CO}{fr:List Nat}{N K:Nat}(ok:S.Ok fr N K){m:List Nat}(hl:m.length=S.P.a.mem.length)(hb:∀b∈m,b<256)(hw:∀b∈S.P.usedOf 1,Q0u m b=Q0u S.P.a.mem b):(S.setP (S.P.setA m)).Ok fr N K:=by
 have v:=ok.inv;exact⟨⟨v.len,v.st,v.mem.same (PL.ok_setA v.mem.pool hl hb) (fun _ _ _=>rfl) hw,v.tre,v.que⟩,ok.per,ok.due,ok.ord,ok.ov,ok.next,ok.now,ok.age⟩
structure TPX(S:CO)(tb:Nat->TB)(own:Int)(xl xn:List Nat):Prop where
 tin:∀(i:Nat) (p:Pl),S.l[i]?=some p->p.st=1->p.kind=2->(tb i).In S.P.a.mem p.at_
 nil:∀(i:Nat) (p:Pl),S.l[i]?=some p->¬(p.st=1/\p.kind=2)->(tb i).Nil
 lvs:(xl++Q2o tb).Perm (S.P.usedOf 7)
 nds:(xn++Q2J tb).Perm (S.P.usedOf 6)
 xc:∀id,S.xc id=xcOf S.l tb id+if id=own then 256*(xl.length:Int)+48*(xn.length:Int) else 0
theorem TPI.x{S:CO}{tb:Nat->TB}(t:TPI S tb)(own:Int):TPX S tb own [] []:=⟨t.tin,t.nil,t.lvs,t.nds,fun id=>by rw[t.xc];simp⟩
theorem TPX.done{S:CO}{tb:Nat->TB}{own:Int}(t:TPX S tb own [] [])(hf:∀i,i<256->(tb i).Full):TPI S tb:=⟨t.tin,hf,t.nil,t.lvs,t.nds,fun id=>by rw[t.xc];simp⟩
theorem TPX.leaf{S:CO}{tb:Nat->TB}{own:Int}{xl xn:List Nat}(t:TPX S tb own xl xn){i k:Nat}(hi:i<256)(hk:k<16)(h:(tb i).lf k≠0):(tb i).lf k∈S.P.usedOf 7:=
 t.lvs.mem_iff.1 (J3W _ (J3C.2 ⟨i,J3s.2 hi,mem_lvs.2 ⟨k,hk,rfl,h⟩⟩))
theorem TPX.tin_kept{S:CO}{tb:Nat->TB}{own:Int}{xl xn:List Nat}(hl:S.l.length=256)(t:TPX S tb own xl xn){m:List Nat}(k1:∀(i:Nat) (p:Pl),S.l[i]?=some p->p.st=1->p.kind=2->Kept S.P.a.mem m p.at_ 128)(k2:∀a,a∈S.P.usedOf 7->Kept S.P.a.mem m a 256){i:Nat}{p:Pl}(hi:S.l[i]?=some p)(h1:p.st=1)(h2:p.kind=2):(tb i).In m p.at_:=
 (t.tin i p hi h1 h2).kept (k1 i p hi h1 h2) fun k hk Aa=>k2 _ (t.leaf (Q1t hl hi) hk Aa)
theorem Q1P{S:CO}{fr:List Nat}{N K:Nat}(ok:S.Ok fr N K){i:Nat}{p:Pl}(hi:S.l[i]?=some p)(h1:p.st=1)(h2:p.kind=2):p.at_∈S.P.usedOf 2:=by
 have:=ok.inv.mem.used (J5q hi) (Pl.is_iff.2 (.inl h1)) (by omega)
 rwa [h2] at this
theorem GotM.kept{P P':PL}{fr fr':List Nat}{own:Int}{k a:Nat}(g:GotM P fr own k a P' fr')(ok:P.Ok fr){j b:Nat}(hb:b∈P.usedOf j):Kept P.a.mem P'.a.mem b (Q0c j):=by
 have:=(g.apart ok).1 j b hb;rw[g.mem];exact Q1J (by rw[J3l];exact g.room.1) (by rw[J3l];omega)
theorem J0f:∀{l:List Int},(∀x∈l,0<=x)->0<=l.sum
 | [],_=>J7h _
 | x::r,h=>by
  have:=J0f (l:=r) fun y hy=>h y (by simp[hy])
  have:=h x (by simp);rw[J6P];omega
theorem Z0F(l:List Pl)(tb:Nat->TB)(id:Int):0<=xcOf l tb id:=by
 refine J0f fun x hx=>?_
 obtain⟨i,_,rfl⟩:=J3h.1 hx;unfold xcP;split
 ·split
  ·exact TB.cost_nn _
  ·exact J7h _
 ·exact J7h _
section
variable {S:CO} {fr:List Nat} {N K:Nat} {tb:Nat->TB} {own:Int} {xl xn:List Nat}
theorem TPX.got{n a:Nat}{P':PL}(ok:S.Ok fr N K)(t:TPX S tb own xl xn)(hn:n=6∨n=7)(g:GetOk S.P fr own n a P')(Af:∃p∈S.l,p.st=1/\(p.fac:Int)=own) :
  (S.paid P' own ((Q0c n:Nat):Int)).Ok fr N K/\TPX (S.paid P' own ((Q0c n:Nat):Int)) tb own (if n=7 then a::xl else xl) (if n=6 then a::xn else xn):=by
 have gm:=g.gotM ok.inv.mem.pool;have DU:costK n=Q0c n:=Q2a (by omega);obtain⟨e,q1,q2,q3⟩:=g.q;have T7:=(ok.inv.que.xc own).1;refine⟨ok.paid g.ok q1 q3 (fun j h1 h5=>g.other j (by omega)) (fun b hb=>?_) (by omega) (fun _=>Af),?_,t.nil,?_,?_,fun id=>?_⟩
 ·have:=gm.kept ok.inv.mem.pool hb;exact(this.sub (b:=b) (k:=8) (J3b _) (by show b+8<=b+64;omega)).word
 ·intro i p hi h1 h2;refine t.tin_kept ok.inv.len (fun j q hj q1 q2=>?_) (fun b hb=>gm.kept ok.inv.mem.pool hb) hi h1 h2;exact gm.kept ok.inv.mem.pool (Q1P ok hj q1 q2)
 ·show(_++Q2o tb).Perm (P'.usedOf 7);by_cases h7:n=7
  ·subst h7;rw[if_pos rfl];exact(List.Perm.cons a t.lvs).trans (gm.used (by omega)).symm
  ·rw[if_neg h7,g.other 7 (by omega)];exact t.lvs
 ·show(_++Q2J tb).Perm (P'.usedOf 6);by_cases h6:n=6
  ·subst h6;rw[if_pos rfl];exact(List.Perm.cons a t.nds).trans (gm.used (by omega)).symm
  ·rw[if_neg h6,g.other 6 (by omega)];exact t.nds
 ·show(if id=own then S.xc id+_ else S.xc id)=xcOf S.l tb id+_;by_cases hid:id=own
  ·subst hid;rw[if_pos rfl,t.xc,if_pos rfl,if_pos rfl];rcases hn with rfl|rfl
   ·simp[Q5h];omega
   ·simp[Q2W];omega
  ·rw[if_neg hid,t.xc,if_neg hid,if_neg hid]
theorem TPX.put{n a:Nat}{P':PL}(ok:S.Ok fr N K)(hn:n=6∨n=7)(t:TPX S tb own (if n=7 then a::xl else xl) (if n=6 then a::xn else xn))(g:PutOk S.P fr own n a P')(Af:∃p∈S.l,p.st=1/\(p.fac:Int)=own) :
  (S.paid P' own (-((Q0c n:Nat):Int))).Ok fr N K/\TPX (S.paid P' own (-((Q0c n:Nat):Int))) tb own xl xn:=by
 have bm:=g.backM ok.inv.mem.pool;obtain⟨e,q1,q2,q3⟩:=g.q;have Az:P'.a.mem=S.P.a.mem:=by rw[g.aa]
 have MY:P'.q={S.P.q with E:=upd S.P.q.E own {e.q with charged:=e.q.charged + -((Q0c n:Nat):Int)}}:=by rw[q3,Int.sub_eq_add_neg]
 have T7:=Z0F S.l tb own;have Jt:=t.xc own;rw[if_pos rfl] at Jt;refine⟨ok.paid g.ok q1 MY (fun j h1 h5=>g.other j (by omega)) (fun b hb=>by rw[Az]) ?_ (fun _=>Af),?_,t.nil,?_,?_,fun id=>?_⟩
 ·rcases hn with rfl|rfl
  ·simp[Q5h] at Jt ⊢;omega
  ·simp[Q2W] at Jt ⊢;omega
 ·intro i p hi h1 h2;show(tb i).In P'.a.mem p.at_;rw[Az];exact t.tin i p hi h1 h2
 ·show(xl++Q2o tb).Perm (P'.usedOf 7);by_cases h7:n=7
  ·subst h7;have h1:=t.lvs;rw[if_pos rfl] at h1;exact J6Q (h1.trans (bm.used (by omega)))
  ·have h1:=t.lvs;rw[if_neg h7] at h1;rw[g.other 7 (by omega)];exact h1
 ·show(xn++Q2J tb).Perm (P'.usedOf 6);by_cases h6:n=6
  ·subst h6;have h1:=t.nds;rw[if_pos rfl] at h1;exact J6Q (h1.trans (bm.used (by omega)))
  ·have h1:=t.nds;rw[if_neg h6] at h1;rw[g.other 6 (by omega)];exact h1
 ·show(if id=own then S.xc id+_ else S.xc id)=xcOf S.l tb id+_;have hx:=t.xc id;by_cases hid:id=own
  ·subst hid;rw[if_pos rfl] at hx ⊢;rw[hx,if_pos rfl];rcases hn with rfl|rfl
   ·simp[Q5h];omega
   ·simp[Q2W];omega
  ·rw[if_neg hid] at hx ⊢;rw[hx,if_neg hid]
end
def updT(tb:Nat->TB)(i:Nat)(t:TB):Nat->TB:=fun j=>if j=i then t else tb j
theorem updT_same(tb:Nat->TB)(i:Nat)(t:TB):updT tb i t i=t:=by unfold updT;rw[if_pos rfl]
theorem Q0K{tb:Nat->TB}{i j:Nat}{t:TB}(h:j≠i):updT tb i t j=tb j:=by unfold updT;rw[if_neg h]
theorem Z2d(i:Nat)(hi:i<256):∃A B,List.range 256=A++i::B/\(∀j∈A,j≠i)/\∀j∈B,j≠i:=by
 have hm:i∈List.range 256:=J3s.2 hi;obtain⟨A,B,e⟩:=J7i hm;have AO:(List.range 256).Nodup:=J6X;rw[e] at AO;obtain⟨h1,h2,h3⟩:=J3V.1 AO;exact⟨A,B,e,fun j hj=>h3 j hj i (by simp),fun j hj h=>(J3Y.1 h2).1 (h ▸ hj)⟩
theorem Q4E(f:TB->List Nat)(tb:Nat->TB){i:Nat}(hi:i<256)(t:TB):∃A B,(List.range 256).flatMap (fun j=>f (tb j))=A++f (tb i)++B/\(List.range 256).flatMap (fun j=>f (updT tb i t j))=A++f t++B:=by
 obtain⟨A,B,e,h1,h2⟩:=Z2d i hi;refine⟨A.flatMap fun j=>f (tb j),B.flatMap fun j=>f (tb j),by rw[e];simp,?_⟩;have g1:A.flatMap (fun j=>f (updT tb i t j))=A.flatMap fun j=>f (tb j):=by
  rw[J7j,J7j];congr 1;exact J5l fun j hj=>by rw[Q0K (h1 j hj)]
 have g2:B.flatMap (fun j=>f (updT tb i t j))=B.flatMap fun j=>f (tb j):=by
  rw[J7j,J7j];congr 1;exact J5l fun j hj=>by rw[Q0K (h2 j hj)]
 rw[e,J3K,J3z,g1,g2,updT_same];simp
theorem Q9f{l:List Pl}{tb:Nat->TB}{i:Nat}(hi:i<256){p:Pl}(hp:l[i]?=some p)(t:TB)(id:Int):xcOf l (updT tb i t) id=xcOf l tb id+if (p.fac:Int)=id then t.cost-(tb i).cost else 0:=by
 obtain⟨A,B,e,h1,h2⟩:=Z2d i hi;unfold xcOf;rw[e];simp only[J6G,J3e,J6R,J6P];have g1:A.map (fun j=>xcP (updT tb i t) id j l[j]?)=A.map fun j=>xcP tb id j l[j]?:=J5l fun j hj=>by unfold xcP;rw[Q0K (h1 j hj)]
 have g2:B.map (fun j=>xcP (updT tb i t) id j l[j]?)=B.map fun j=>xcP tb id j l[j]?:=J5l fun j hj=>by unfold xcP;rw[Q0K (h2 j hj)]
 rw[g1,g2];have e1:∀tb',xcP tb' id i l[i]?=if (p.fac:Int)=id then(tb' i).cost else 0:=fun tb'=>by unfold xcP;rw[hp]
 rw[e1,e1,updT_same];split <;> omega
end Go.Proofs.YtfidemmgofcnmaaGreatDoor
namespace Go.Proofs.YtfidemmgofcnmaaGreatDoor
open Go.Proofs.Tryz
structure Fst3(kd:Int->List Int)(rk:Int->Nat):Prop where
 dn:∀h x,x∈kd h->rk x<rk h
 one:∀a b x,x∈kd a->x∈kd b->a=b
 nd:∀h,(kd h).Nodup
def preG(kd:Int->List Int):Nat->Int->List Int
 | 0,h=>[h]
 | n+1,h=>h::(kd h).reverse.flatMap (preG kd n)
section
variable {kd:Int->List Int} {rk:Int->Nat}
theorem Q6h{f g:Int->List Int}:∀{L:List Int},(∀x∈L,f x=g x)->L.flatMap f=L.flatMap g
 | [],_=>rfl
 | x::r,h=>by rw[J3z,J3z,h x (by simp),Q6h (L:=r) fun y hy=>h y (by simp[hy])]
theorem Fst3.leaf(t:Fst3 kd rk){h:Int}(hr:rk h=0):kd h=[]:=by
 cases hk:kd h with
 | nil=>rfl
 | cons x r =>
  have:=t.dn h x (by rw[hk];simp);omega
theorem Q6i(t:Fst3 kd rk):∀n m h,rk h<=n->rk h<=m->preG kd n h=preG kd m h:=by
 intro n
 induction n with
 | zero =>
  intro m h h1 h2;have hk:=t.leaf (J3A.1 h1);cases m with
  | zero=>rfl
  | succ m=>simp[preG,hk]
 | succ n ih =>
  intro m h h1 h2;cases m with
  | zero =>
   have hk:=t.leaf (J3A.1 h2);simp[preG,hk]
  | succ m =>
   simp only[preG];congr 1;refine Q6h fun x hx=>?_
   have:=t.dn h x (J3B.1 hx);exact ih m x (by omega) (by omega)
def preT(kd:Int->List Int)(rk:Int->Nat)(h:Int):List Int:=preG kd (rk h) h
theorem Z0G(t:Fst3 kd rk)(h:Int):preT kd rk h=h::(kd h).reverse.flatMap (preT kd rk):=by
 have:preT kd rk h=preG kd (rk h+1) h:=Q6i t _ _ h (J3b _) (by omega);rw[this];simp only[preG];congr 1;refine Q6h fun x hx=>?_
 have:=t.dn h x (J3B.1 hx);exact Q6i t _ _ x (by omega) (J3b _)
def Q0H(kd:Int->List Int)(rk:Int->Nat)(h:Int):List Int:=(preT kd rk h).tail.reverse
theorem Q3L(t:Fst3 kd rk)(h:Int):preT kd rk h=h::(Q0H kd rk h).reverse:=by
 unfold Q0H;rw[J3O,Z0G t h];rfl
inductive Dn (kd:Int->List Int):Int->Int->Prop where
 | here (h:Int):Dn kd h h
 | down (h k x:Int):k∈kd h->Dn kd k x->Dn kd h x
theorem Dn.trans{h k x:Int}(a:Dn kd h k)(b:Dn kd k x):Dn kd h x:=by
 induction a with
 | here=>exact b
 | down h k y hk _ ih=>exact .down h k x hk (ih b)
theorem Dn.rank(t:Fst3 kd rk){h x:Int}(a:Dn kd h x):rk x<=rk h/\(x=h∨rk x<rk h):=by
 induction a with
 | here=>exact⟨J3b _,.inl rfl⟩
 | down h k y hk _ ih =>
  have:=t.dn h k hk;have:=ih.1;exact⟨by omega,.inr (by omega)⟩
theorem Q5I(t:Fst3 kd rk):∀n h x,rk h<=n->(x∈preG kd n h↔Dn kd h x):=by
 intro n
 induction n with
 | zero =>
  intro h x hn;have hk:=t.leaf (J3A.1 hn);simp only[preG,J5j]
  constructor
  ·rintro rfl;exact .here _
  ·intro d;cases d with
   | here=>rfl
   | down _ k _ hm _=>rw[hk] at hm;cases hm
 | succ n ih =>
  intro h x hn;simp only[preG,J3g,J3C,J3B]
  constructor
  ·rintro(rfl|⟨k,hk,hx⟩)
   ·exact .here _
   ·have:=t.dn h k hk;exact .down h k x hk ((ih k x (by omega)).1 hx)
  ·intro d;cases d with
   | here=>exact .inl rfl
   | down _ k _ hm hd =>
    have:=t.dn h k hm;exact .inr ⟨k,hm,(ih k x (by omega)).2 hd⟩
theorem Z2e(t:Fst3 kd rk){h x:Int}:x∈preT kd rk h↔Dn kd h x:=Q5I t _ h x (J3b _)
theorem Dn.line(t:Fst3 kd rk){a x:Int}(h:Dn kd a x):∀{b:Int},Dn kd b x->Dn kd a b∨Dn kd b a:=by
 -- the last step down to x
 have last:∀{a x:Int},Dn kd a x->x=a∨∃z,Dn kd a z/\x∈kd z:=by
  intro a x h
  induction h with
  | here=>exact .inl rfl
  | down h k y hk _ ih =>
   rcases ih with rfl|⟨z,h1,h2⟩
   ·exact .inr ⟨h,.here _,hk⟩
   ·exact .inr ⟨z,.down h k z hk h1,h2⟩
 have key:∀n a b x,rk a-rk x<=n->Dn kd a x->Dn kd b x->Dn kd a b∨Dn kd b a:=by
  intro n
  induction n with
  | zero =>
   intro a b x hn h k;rcases(h.rank t).2 with rfl|Ab
   ·exact .inr k
   ·omega
  | succ n ih =>
   intro a b x hn h k;rcases last h with rfl|⟨z,h1,h2⟩
   ·exact .inr k
   ·rcases last k with rfl|⟨z',k1,k2⟩
    ·exact .inl h
    ·have:z=z':=t.one z z' x h2 k2;subst this;have:=t.dn z x h2;have:=(h1.rank t).1;exact ih a b z (by omega) h1 k1
 intro b k;exact key _ a b x (J3b _) h k
theorem Dn.last{a x:Int}(h:Dn kd a x):x=a∨∃z,Dn kd a z/\x∈kd z:=by
 induction h with
 | here=>exact .inl rfl
 | down h k y hk _ ih =>
  rcases ih with rfl|⟨z,h1,h2⟩
  ·exact .inr ⟨h,.here _,hk⟩
  ·exact .inr ⟨z,.down h k z hk h1,h2⟩
theorem Q7B(t:Fst3 kd rk){h a b x:Int}(ha:a∈kd h)(hb:b∈kd h)(Aa:a≠b)(h1:Dn kd a x)(h2:Dn kd b x):False:=by
 have no:∀{a b:Int},a∈kd h->b∈kd h->a≠b->¬Dn kd a b:=by
  intro a b ha hb Aa d;rcases d.last with e|⟨z,d1,d2⟩
  ·exact Aa e.symm
  ·have:z=h:=t.one z h b d2 hb;subst this;have:=(d1.rank t).1;have:=t.dn z a ha;omega
 rcases h1.line t h2 with h|h
 ·exact no ha hb Aa h
 ·exact no hb ha Aa.symm h
theorem Z6b(t:Fst3 kd rk):∀n h,rk h<=n->(preG kd n h).Pairwise (fun a b=>a≠b/\¬Dn kd b a):=by
 intro n
 induction n with
 | zero=>intro h _;simp[preG]
 | succ n ih =>
  intro h hn;simp only[preG,J3D,J3E];refine⟨fun b hb=>?_,fun x hx=>?_,?_⟩
  ·obtain⟨k,hk,Al⟩:=J3C.1 hb;have hk:=J3B.1 hk;have h1:=t.dn h k hk;have hd:=(Q5I t n k b (by omega)).1 Al;have h2:=(hd.rank t).1;refine⟨fun e=>by subst e;omega,fun d=>?_⟩;have:=(d.rank t).1;omega
  ·have:=t.dn h x (J3B.1 hx);exact ih x (by omega)
  ·rw[J3F];refine(t.nd h).imp_of_mem ?_;intro x1 x2 m1 m2 Aa a ha b hb;have r1:=t.dn h x1 m1;have r2:=t.dn h x2 m2;have d1:=(Q5I t n x2 a (by omega)).1 ha;have d2:=(Q5I t n x1 b (by omega)).1 hb;refine⟨?_,fun d=>?_⟩
   ·rintro rfl;exact Q7B t m1 m2 Aa d2 d1
   ·exact Q7B t m1 m2 Aa (d2.trans d) d1
theorem Q6j(t:Fst3 kd rk)(h:Int):(preT kd rk h).Pairwise (fun a b=>a≠b/\¬Dn kd b a):=Z6b t _ h (J3b _)
theorem Q7C(t:Fst3 kd rk){h x:Int}:x∈Q0H kd rk h↔Dn kd h x/\x≠h:=by
 have e:=Q3L t h;have hp:=Q6j t h;rw[e] at hp;obtain⟨h1,_⟩:=J3D.1 hp;have hm:x∈preT kd rk h↔x=h∨x∈Q0H kd rk h:=by rw[e];simp
 rw[<- Z2e t,hm]
 constructor
 ·intro hx;exact⟨.inr hx,fun e=>(h1 x (by simpa using hx)).1 e.symm⟩
 ·rintro⟨h|h,Aa⟩
  ·exact absurd h Aa
  ·exact h
theorem Z3c(t:Fst3 kd rk)(h:Int):(Q0H kd rk h).Pairwise (fun a b=>a≠b/\¬Dn kd a b):=by
 have hp:=Q6j t h;rw[Q3L t h] at hp;have:=(J3D.1 hp).2;rw[J3F] at this;exact this.imp fun⟨h1,h2⟩=>⟨h1.symm,h2⟩
def Q9g(kd:Int->List Int)(rk:Int->Nat)(ws:List Int):List Int:=ws.reverse.flatMap (preT kd rk)
theorem Z3d(t:Fst3 kd rk)(ws:List Int)(x:Int):Q9g kd rk (ws++[x])=x::Q9g kd rk (ws++kd x):=by
 unfold Q9g;rw[J3I,J3I,J3J,J3K,J3K,J3L,Z0G t x];rfl
theorem Z6c(kd:Int->List Int)(rk:Int->Nat)(t:Fst3 kd rk)(ws:List Int):ws.length<=(Q9g kd rk ws).length:=by
 unfold Q9g;have:∀w:List Int,w.length<=(w.flatMap (preT kd rk)).length:=by
  intro w
  induction w with
  | nil=>simp
  | cons x r ih =>
   rw[J3z,J3M,J3N];have:0<(preT kd rk x).length:=by rw[Z0G t x];simp
   omega
 simpa using this ws.reverse
end
open Go.RowKit
abbrev SKV:=List ((Int×Int)×Value)
def Q2x(p:Int×Int):Value:=.agg #[.int .i64 p.1,.int .i64 p.2]
def Q3X(kv:SKV)(p:Int×Int):Option Value:=(kv.find? fun q=>decide (q.1=p)).map Prod.snd
def delS(kv:SKV)(p:Int×Int):SKV:=kv.filter fun q=>decide (q.1≠p)
def Q3q(w:World)(m:Nat)(kv:SKV):Prop:=MapIs w m (kv.map fun q=>(Q2x q.1,q.2))
def Q1Q(P:Program)(K:TypeId)(p:Int×Int):Prop:=∃l,keyOf P K (Q2x p)=some l
theorem Z6d{p q:Int×Int}(h:Q2x p=Q2x q):p=q:=by
 unfold Q2x at h;simp at h;exact Prod.ext h.1 h.2
theorem Z6e:∀{kv:SKV} {p:Int×Int} {v:Value} {j:Nat},kv.Pairwise (fun a b=>a.1≠b.1)->kv[j]?=some (p,v)->Q3X kv p=some v/\kv.eraseIdx j=delS kv p
 | [],_,_,_,_,h=>by simp at h
 | q::r,p,v,0,hn,h=>by
  simp at h;subst h;obtain⟨h1,_⟩:=J3D.1 hn;refine⟨by simp[Q3X],?_⟩;unfold delS;rw[J5p (by simp)]
  symm
  rw[List.eraseIdx_zero,List.tail_cons,J7k];intro a ha;have:=h1 a ha;simp;exact fun e=>this e.symm
 | q::r,p,v,j+1,hn,h=>by
  rw[J6p] at h;obtain⟨h1,h2⟩:=J3D.1 hn;obtain⟨i1,i2⟩:=Z6e h2 h;have Aa:q.1≠p:=h1 _ (J5q h);refine⟨?_,?_⟩
  ·unfold Q3X at i1 ⊢;rw[List.find?_cons_of_neg (by simpa using Aa)];exact i1
  ·unfold delS at i2 ⊢;rw[J5o (by simpa using Aa),J7l,i2]
theorem map_erase{α β:Type}(f:α->β):∀(l:List α) (j:Nat),(l.eraseIdx j).map f=(l.map f).eraseIdx j
 | [],_=>by simp
 | _::_,0=>rfl
 | x::r,j+1=>by rw[J7l,J3e,J3e,J7l,map_erase f r j]
theorem Q9h{kv:SKV}{p:Int×Int}(h:∀q∈kv,q.1≠p):Q3X kv p=none/\delS kv p=kv:=by
 refine⟨?_,?_⟩
 ·unfold Q3X;rw[J4V.2 (fun q hq=>by simpa using h q hq)];rfl
 ·unfold delS;rw[J7k];intro q hq
  simpa using h q hq
section
variable {P:Program} {K V:TypeId} {T:TypeId}
theorem Q6k(law:WideMaps.KeyLaw P K)(w:World){es:List MapEntry}{kv:SKV}(hr:es.map (fun e=>(e.key,e.val))=kv.map fun q=>(Q2x q.1,q.2))(hn:kv.Pairwise (fun a b=>a.1≠b.1))(hk:∀q∈kv,Q1Q P K q.1){p:Int×Int}(hp:Q1Q P K p) :
  ((Instr.findKey K (Q2x p) es).run P w=.ok none w/\Q3X kv p=none/\delS kv p=kv/\∀e∈es,e.key≠Q2x p) ∨
  ∃j v,(Instr.findKey K (Q2x p) es).run P w=.ok (some (j,v)) w/\Q3X kv p=some v/\j<es.length/\(es.eraseIdx j).map (fun e=>(e.key,e.val))=(delS kv p).map fun q=>(Q2x q.1,q.2):=by
 obtain⟨l,hl⟩:=hp;have AZ:∀e∈es,∃l,keyOf P K e.key=some l:=fun e he=>by
  have hm:(e.key,e.val)∈kv.map fun q=>(Q2x q.1,q.2):=by rw[<- hr];exact J3h.2 ⟨e,he,rfl⟩
  obtain⟨q,hq,e1⟩:=J3h.1 hm;have:Q2x q.1=e.key:=((Prod.mk.injEq _ _ _ _).mp e1).1;rw[<- this];exact hk q hq
 rcases law.find w hl es AZ with ⟨h1,h2⟩|⟨j,e,h1,h2,h3⟩
 ·left;have Aq:∀q∈kv,q.1≠p:=fun q hq e=>by
   have hm:(Q2x q.1,q.2)∈es.map fun e=>(e.key,e.val):=by rw[hr];exact J3h.2 ⟨q,hq,rfl⟩
   obtain⟨x,hx,e1⟩:=J3h.1 hm;exact h2 x hx (by rw[((Prod.mk.injEq _ _ _ _).mp e1).1,e])
  exact⟨h1,(Q9h Aq).1,(Q9h Aq).2,h2⟩
 ·right;have hj:j<es.length:=(J3t.1 h2).1;have NN:(kv.map fun q=>(Q2x q.1,q.2))[j]?=some (e.key,e.val):=by rw[<- hr,J4N,h2];rfl
  rw[J4N] at NN;obtain⟨q,hq,e1⟩:=J7a.1 NN;obtain⟨e2,e3⟩:=(Prod.mk.injEq _ _ _ _).mp e1;have Ml:q.1=p:=Z6d (e2.trans h3);have Vd:kv[j]?=some (p,e.val):=by rw[hq,<- Ml,<- e3]
  obtain⟨f1,f2⟩:=Z6e hn Vd;refine⟨j,e.val,h1,f1,hj,?_⟩;rw[<- f2,map_erase,map_erase,hr]
theorem Q6l{w:World}{m:Nat}{kv:SKV}(h:Q3q w m kv)(law:WideMaps.KeyLaw P K)(hn:kv.Pairwise (fun a b=>a.1≠b.1))(hk:∀q∈kv,Q1Q P K q.1){p:Int×Int}(hp:Q1Q P K p)(ok:Bool)(z:Value)(hT:P.underlying T=some (.map K V))(hz:(zeroValue V).run P w=.ok z w) :
  (Instr.lookup T (.map (some m)) (Q2x p) ok).run P w=.ok (if ok then .tuple #[(Q3X kv p).getD z,.bool (Q3X kv p).isSome] else(Q3X kv p).getD z) w:=by
 obtain⟨es,Ah,hb,hs,hr⟩:=h;have hc:=fun em=>law.check w em hp.choose_spec
 unfold Instr.lookup;rcases Q6k law w hr hn hk hp with ⟨hf,hl,_,_⟩|⟨j,v,hf,hl,_,_⟩
 ·cases ok <;> simp[run_underlying hT,Result.andThen,Go.MapKept.run_getObj_map hb,hc,hf,hl,hz]
 ·cases ok <;> simp[run_underlying hT,Result.andThen,Go.MapKept.run_getObj_map hb,hc,hf,hl]
theorem Q4F{w:World}{m:Nat}{kv:SKV}(h:Q3q w m kv)(law:WideMaps.KeyLaw P K)(hn:kv.Pairwise (fun a b=>a.1≠b.1))(hk:∀q∈kv,Q1Q P K q.1){p:Int×Int}(hp:Q1Q P K p)(u:Value)(Aq:Q3X kv p=none)(hT:P.underlying T=some (.map K V)) :
  ∃w',(Instr.mapUpdate T (.map (some m)) (Q2x p) u).run P w=.ok () w'/\Q3q w' m (kv++[(p,u)])/\w.grownBy w' (some m):=by
 obtain⟨es,Ah,hb,hs,hr⟩:=h;have hc:=fun em=>law.check w em hp.choose_spec
 have C6:∀o,w.grownBy {w with heap:=w.heap.setIfInBounds m o} (some m):=fun o=>⟨rfl,rfl,rfl,by simp,fun k _ Aa=>by
  have:m≠k:=fun e=>Aa (by rw[e])
  simp[this]⟩
 have Ab:=lt_of_block hb;unfold Instr.mapUpdate;rcases Q6k law w hr hn hk hp with ⟨hf,hl,_,Aa⟩|⟨j,v,hf,hl,_,_⟩
 ·refine⟨{w with heap:=w.heap.setIfInBounds m (.map (es.push {key:=Q2x p,val:=u,born:=Ah}) (Ah+1))},?_,?_,C6 _⟩
  ·simp[run_underlying hT,Result.andThen,Go.MapKept.run_getObj_map hb,hc,hf,Go.MapKept.run_setObj_map _ hb]
  ·refine⟨es.push {key:=Q2x p,val:=u,born:=Ah},Ah+1,by simp[Ab],Go.MapKept.stamped_push hs (fun x hx=>Aa x (by simpa using hx)),?_⟩;simp[hr]
 ·rw[Aq] at hl;cases hl
theorem Q6m{w:World}{m:Nat}{kv:SKV}(h:Q3q w m kv)(law:WideMaps.KeyLaw P K)(hn:kv.Pairwise (fun a b=>a.1≠b.1))(hk:∀q∈kv,Q1Q P K q.1){p:Int×Int}(hp:Q1Q P K p)(t1 t2:TypeId)(hT:P.underlying T=some (.map K V)) :
  ∃w',(Builtin.delete_ #[T,t1] t2 #[.map (some m),Q2x p]).run P w=.ok (.tuple #[]) w'/\Q3q w' m (delS kv p)/\w.grownBy w' (some m):=by
 obtain⟨es,Ah,hb,hs,hr⟩:=h;have hc:=fun em=>law.check w em hp.choose_spec
 have C6:∀o,w.grownBy {w with heap:=w.heap.setIfInBounds m o} (some m):=fun o=>⟨rfl,rfl,rfl,by simp,fun k _ Aa=>by
  have:m≠k:=fun e=>Aa (by rw[e])
  simp[this]⟩
 have Ab:=lt_of_block hb;unfold Builtin.delete_;rcases Q6k law w hr hn hk hp with ⟨hf,hl,hd,Aa⟩|⟨j,v,hf,hl,hj,hd⟩
 ·refine⟨{w with heap:=w.heap.setIfInBounds m (.map es Ah)},?_,?_,C6 _⟩
  ·simp[run_underlying hT,Result.andThen,Go.MapKept.run_getObj_map hb,hc,hf,Go.MapKept.run_setObj_map _ hb]
  ·refine⟨_,_,by simp[Ab],hs,?_⟩;rw[hd];exact hr
 ·refine⟨{w with heap:=w.heap.setIfInBounds m (.map (es.eraseIdxIfInBounds j) Ah)},?_,?_,C6 _⟩
  ·simp[run_underlying hT,Result.andThen,Go.MapKept.run_getObj_map hb,hc,hf,Go.MapKept.run_setObj_map _ hb]
  ·refine⟨es.eraseIdxIfInBounds j,Ah,by simp[Ab],Go.MapKept.stamped_erase hs _,?_⟩;rw[<- hd];have:j<es.size:=by simpa using hj
   simp[Array.eraseIdxIfInBounds,this]
end
structure Nd where
 sp:Int
 sl:Int
 par:Int
 ks:List Int
def mapE(f:En Nd->Nd)(N:List (En Nd)):List (En Nd):=N.map fun e=>{e with q:=f e}
theorem Q1v(f:En Nd->Nd)(N:List (En Nd))(id:Int):find (mapE f N) id=(find N id).map fun e=>{e with q:=f e}:=by
 induction N with
 | nil=>rfl
 | cons x r ih =>
  by_cases h:id=x.id
  ·simp[mapE,find,h]
  ·have ih':find (r.map fun e=>{e with q:=f e}) id=_:=ih;simp[mapE,find,h,ih']
theorem Q1w{f:En Nd->Nd}{N:List (En Nd)}{x:En Nd}(h:x∈mapE f N):∃e∈N,x={e with q:=f e}:=by
 obtain⟨e,he,rfl⟩:=J3h.1 h;exact⟨e,he,rfl⟩
theorem Z0H{f:En Nd->Nd}{N:List (En Nd)}(h:∀e∈N,f e=e.q):mapE f N=N:=by
 unfold mapE
 conv=>rhs;rw[<- List.map_id N]
 exact J5l fun e he=>by rw[h e he];rfl
theorem Q6n(f g:En Nd->Nd)(N:List (En Nd)):mapE g (mapE f N)=mapE (fun e=>g {e with q:=f e}) N:=by
 unfold mapE;rw[J5k];rfl
theorem Q5i{f g:En Nd->Nd}{N:List (En Nd)}(h:∀e∈N,f e=g e):mapE f N=mapE g N:=by
 unfold mapE;exact J5l fun e he=>by rw[h e he]
theorem Q2k{f:En Nd->Nd}{N:List (En Nd)}{R:En Nd->En Nd->Prop}(h:∀a b,R a b->R {a with q:=f a} {b with q:=f b})(hp:N.Pairwise R):(mapE f N).Pairwise R:=by
 unfold mapE;rw[J3H];exact hp.imp fun {a b} Cp=>h a b Cp
theorem Q2K{N:List (En Nd)}(Ae:N.Pairwise (fun a b=>a.id≠b.id))(id:Int):∀x,x∈rem N id↔x∈N/\x.id≠id:=by
 induction N with
 | nil=>simp[rem]
 | cons y r ih =>
  obtain⟨h1,h2⟩:=J3D.1 Ae;intro x;by_cases hk:id=y.id
  ·subst hk;simp only[rem,if_true,J3g]
   constructor
   ·intro hx;exact⟨.inr hx,fun e=>h1 x hx e.symm⟩
   ·rintro⟨rfl|hx,Aa⟩
    ·exact absurd rfl Aa
    ·exact hx
  ·simp only[rem,hk,if_false,J3g];rw[ih h2 x]
   constructor
   ·rintro(rfl|⟨hx,Aa⟩)
    ·exact⟨.inl rfl,fun e=>hk e.symm⟩
    ·exact⟨.inr hx,Aa⟩
   ·rintro⟨rfl|hx,Aa⟩
    ·exact .inl rfl
    ·exact .inr ⟨hx,Aa⟩
structure NOk(N:List (En Nd))(next:Int):Prop where
 ids:N.Pairwise (fun a b=>a.id≠b.id)
 spots:N.Pairwise (fun a b=>(a.q.sp,a.q.sl)≠(b.q.sp,b.q.sl))
 next0:0<=next
 rng:∀e∈N,1<=e.id/\e.id<=next
 sm:∀e∈N,0<=e.q.sp/\e.q.sp<4294967296/\0<=e.q.sl/\e.q.sl<256
 par:∀e∈N,0<=e.q.par/\(e.q.par≠0->∃p,find N e.q.par=some p/\e.id∈p.q.ks)
 kids:∀p∈N,∀k∈p.q.ks,∃e,find N k=some e/\e.q.par=p.id
 nd:∀p∈N,p.q.ks.Nodup
 rise:∀e∈N,e.q.par<e.id
theorem Q0k{N:List (En Nd)}(Ae:N.Pairwise (fun a b=>a.id≠b.id)){e:En Nd}(h:e∈N):find N e.id=some e:=by
 induction N with
 | nil=>cases h
 | cons x r ih =>
  obtain⟨h1,h2⟩:=J3D.1 Ae;rcases J3g.1 h with rfl|h
  ·simp[find]
  ·have Aa:¬e.id=x.id:=fun e'=>h1 e h e'.symm
   simp only[find,Aa,if_false];exact ih h2 h
theorem Q4i{N:List (En Nd)}{next:Int}(ok:NOk N next){a b:En Nd}(ha:a∈N)(hb:b∈N)(h1:a.q.sp=b.q.sp)(h2:a.q.sl=b.q.sl):a=b:=by
 obtain⟨i,hi⟩:=J5Q.1 ha;obtain⟨j,hj⟩:=J5Q.1 hb;obtain⟨i1,i2⟩:=J3t.1 hi;obtain⟨j1,j2⟩:=J3t.1 hj;rcases J6d i j with h|h|h
 ·have:=J6e.1 ok.spots i j i1 j1 h;rw[i2,j2] at this;exact absurd (Prod.ext h1 h2) this
 ·subst h;rw[<- i2,<- j2]
 ·have:=J6e.1 ok.spots j i j1 i1 h;rw[i2,j2] at this;exact absurd (Prod.ext h1.symm h2.symm) this
def kdF(N:List (En Nd))(id:Int):List Int:=match find N id with
 | some e=>e.q.ks
 | none=>[]
def rkF(next:Int)(id:Int):Nat:=(next+1-id).toNat
theorem NOk.tree{N:List (En Nd)}{next:Int}(ok:NOk N next):Fst3 (kdF N) (rkF next):=by
 have get:∀{h x},x∈kdF N h->∃p e,find N h=some p/\x∈p.q.ks/\find N x=some e/\e.q.par=p.id/\p.id=h:=by
  intro h x hx;unfold kdF at hx;cases hf:find N h with
  | none=>rw[hf] at hx;cases hx
  | some p =>
   rw[hf] at hx;obtain⟨e,h1,h2⟩:=ok.kids p (Q0b hf).1 x hx;exact⟨p,e,rfl,hx,h1,h2,(Q0b hf).2⟩
 refine⟨fun h x hx=>?_,fun a b x ha hb=>?_,fun h=>?_⟩
 ·obtain⟨p,e,h1,h2,h3,h4,h5⟩:=get hx;obtain⟨e1,e2⟩:=Q0b h3;have:=ok.rise e e1;have:=ok.rng e e1;unfold rkF;omega
 ·obtain⟨p,e,h1,h2,h3,h4,h5⟩:=get ha;obtain⟨p',e',K0,QE,RY,Wq,VL⟩:=get hb;rw[h3] at RY;cases RY;omega
 ·unfold kdF;cases hf:find N h with
  | none=>simp
  | some p=>exact ok.nd p (Q0b hf).1
theorem NOk.zero{N:List (En Nd)}{next:Int}(ok:NOk N next):find N 0=none:=by
 cases hf:find N 0 with
 | none=>rfl
 | some e =>
  obtain⟨h1,h2⟩:=Q0b hf;have:=ok.rng e h1;omega
def addN(N:List (En Nd))(par:Int)(k:Int)(b:Nat)(sp sl:Int):List (En Nd):=mapE (fun c=>if c.id=par then {c.q with ks:=c.q.ks++[k]} else c.q) N++[⟨k,b,⟨sp,sl,par,[]⟩⟩]
theorem Q8p(N:List (En Nd))(x:En Nd)(id:Int):find (N++[x]) id=(find N id).or (if id=x.id then some x else none):=by
 rw[Q2g];cases find N id <;> rfl
theorem NOk.add{N:List (En Nd)}{next:Int}(ok:NOk N next){par sp sl:Int}(b:Nat)(hp:par=0∨∃p,find N par=some p)(Aq:∀e∈N,(e.q.sp,e.q.sl)≠(sp,sl))(h1:0<=sp)(h2:sp<4294967296)(h3:0<=sl)(h4:sl<256):NOk (addN N par (next+1) b sp sl) (next+1):=by
 have Dk:=ok.next0;have Ct:find N (next+1)=none:=by
  cases hf:find N (next+1) with
  | none=>rfl
  | some e =>
   obtain⟨e1,e2⟩:=Q0b hf;have:=ok.rng e e1;omega
 have Uu:0<=par/\par<=next:=by
  rcases hp with rfl|⟨p,hp⟩
  ·omega
  ·obtain⟨e1,e2⟩:=Q0b hp;have:=ok.rng p e1;omega
 have C2:∀id,find (addN N par (next+1) b sp sl) id=if id=next+1 then some ⟨next+1,b,⟨sp,sl,par,[]⟩⟩ else(find N id).map fun c=>{c with q:=if c.id=par then {c.q with ks:=c.q.ks++[next+1]} else c.q}:=fun id=>by
  unfold addN;rw[Q8p,Q1v];by_cases h:id=next+1
  ·subst h;rw[Ct];simp
  ·cases hf:find N id with
   | none=>simp[h]
   | some e=>simp[h]
 have Az:∀{x},x∈addN N par (next+1) b sp sl->(∃e∈N,x={e with q:=if e.id=par then {e.q with ks:=e.q.ks++[next+1]} else e.q})∨x=⟨next+1,b,⟨sp,sl,par,[]⟩⟩:=fun {x} hx=>by
  rcases J3Q.1 hx with hx|hx
  ·exact .inl (Q1w hx)
  ·exact .inr (J5j.1 hx)
 refine⟨?_,?_,by omega,fun x hx=>?_,fun x hx=>?_,fun x hx=>?_,fun x hx k hk=>?_,fun x hx=>?_,fun x hx=>?_⟩
 ·unfold addN;rw[J3P];refine⟨Q2k (fun a b h=>h) ok.ids,by simp,fun x hx y hy=>?_⟩;obtain⟨e,he,rfl⟩:=Q1w hx;rw[J5j] at hy;subst hy;have:=ok.rng e he;show e.id≠next+1;omega
 ·unfold addN;rw[J3P];refine⟨Q2k (fun a b h=>?_) ok.spots,by simp,fun x hx y hy=>?_⟩
  ·have e1:∀c:En Nd,(if c.id=par then({c.q with ks:=c.q.ks++[next+1]}:Nd) else c.q).sp=c.q.sp/\(if c.id=par then({c.q with ks:=c.q.ks++[next+1]}:Nd) else c.q).sl=c.q.sl:=fun c=>by split <;> exact⟨rfl,rfl⟩
   show((if a.id=par then({a.q with ks:=a.q.ks++[next+1]}:Nd) else a.q).sp,_)≠_;rw[(e1 a).1,(e1 a).2,(e1 b).1,(e1 b).2];exact h
  ·obtain⟨e,he,rfl⟩:=Q1w hx;rw[J5j] at hy;subst hy;have:=Aq e he;show((if e.id=par then({e.q with ks:=e.q.ks++[next+1]}:Nd) else e.q).sp,(if e.id=par then({e.q with ks:=e.q.ks++[next+1]}:Nd) else e.q).sl)≠_;split <;> exact this
 ·rcases Az hx with ⟨e,he,rfl⟩|rfl
  ·have:=ok.rng e he;exact⟨this.1,by show e.id<=_;omega⟩
  ·exact⟨by show 1<=next+1;omega,J7h _⟩
 ·rcases Az hx with ⟨e,he,rfl⟩|rfl
  ·have:=ok.sm e he;simp only;split <;> exact this
  ·exact⟨h1,h2,h3,h4⟩
 ·have key:∀e∈N,∀pr:Int,pr=e.q.par->0<=pr/\(pr≠0->∃p,find (addN N par (next+1) b sp sl) pr=some p/\e.id∈p.q.ks):=fun e he pr hpr'=>by
   subst hpr';obtain⟨q1,q2⟩:=ok.par e he;refine⟨q1,fun h0=>?_⟩;obtain⟨p,hp,hk⟩:=q2 h0;obtain⟨p1,p2⟩:=Q0b hp;have:=ok.rng p p1;refine⟨_,by rw[C2,if_neg (by omega),hp];rfl,?_⟩;simp only;split
   ·exact J3X _ hk
   ·exact hk
  rcases Az hx with ⟨e,he,rfl⟩|rfl
  ·exact key e he _ (by simp only;split <;> rfl)
  ·refine⟨Uu.1,fun h0=>?_⟩;have Dj:par≠0:=h0;obtain⟨p,hp⟩:=hp.resolve_left Dj;obtain⟨p1,p2⟩:=Q0b hp;refine⟨_,by rw[C2,if_neg (by show par≠_;omega)];show(find N par).map _=_;rw[hp];rfl,?_⟩;simp only[p2,if_true];exact J3W _ (by simp)
 ·have old:∀e∈N,∀k∈e.q.ks,∃c,find (addN N par (next+1) b sp sl) k=some c/\c.q.par=e.id:=fun e he k hk=>by
   obtain⟨c,hc,G5⟩:=ok.kids e he k hk;obtain⟨c1,c2⟩:=Q0b hc;have:=ok.rng c c1;refine⟨_,by rw[C2,if_neg (by omega),hc];rfl,?_⟩;simp only;split <;> exact G5
  rcases Az hx with ⟨e,he,rfl⟩|rfl
  ·by_cases O6:e.id=par
   ·have Bt:k∈e.q.ks++[next+1]:=by
     have:=hk;simp only[O6,if_true] at this;exact this
    rcases J3Q.1 Bt with Bt|Bt
    ·exact old e he k Bt
    ·rw[J5j] at Bt;subst Bt;exact⟨_,by rw[C2,if_pos rfl],O6.symm⟩
   ·have Bt:k∈e.q.ks:=by
     have:=hk;simp only[O6,if_false] at this;exact this
    exact old e he k Bt
  ·cases hk
 ·rcases Az hx with ⟨e,he,rfl⟩|rfl
  ·have AO:=ok.nd e he;simp only;split
   ·show(e.q.ks++[next+1]).Nodup;rw[J3V];refine⟨AO,by simp,fun a ha b' Al=>?_⟩;rw[J5j] at Al;subst Al;obtain⟨c,hc,_⟩:=ok.kids e he a ha;obtain⟨c1,c2⟩:=Q0b hc;have:=ok.rng c c1;omega
   ·exact AO
  ·exact J7g
 ·rcases Az hx with ⟨e,he,rfl⟩|rfl
  ·have:=ok.rise e he;simp only;split <;> exact this
  ·show par<next+1;omega
def Q0t(e:En Nd)(j:Nat)(c:En Nd):Nd:=
 {c.q with par:=if c.id∈e.q.ks.take j then e.q.par else c.q.par,ks:=if c.id=e.q.par then c.q.ks.filter (fun k=>decide (k≠e.id))++e.q.ks.take j else c.q.ks}
def Q0B(N:List (En Nd))(e:En Nd)(j:Nat):List (En Nd):=mapE (Q0t e j) (rem N e.id)
theorem NOk.rem_find{N:List (En Nd)}{next:Int}(ok:NOk N next)(e:En Nd)(id:Int):find (rem N e.id) id=if id=e.id then none else find N id:=Q2r ok.ids e.id id
theorem NOk.lift{N:List (En Nd)}{next:Int}(ok:NOk N next){e:En Nd}(he:find N e.id=some e):NOk (Q0B N e e.q.ks.length) next:=by
 obtain⟨Ca,_⟩:=Q0b he;have IR:=ok.rng e Ca;have Qk:=ok.rise e Ca;have Bo:=ok.par e Ca;have AW:e.q.ks.take e.q.ks.length=e.q.ks:=J7m;have hL:∀c,Q0t e e.q.ks.length c={c.q with par:=if c.id∈e.q.ks then e.q.par else c.q.par,ks:=if c.id=e.q.par then c.q.ks.filter (fun k=>decide (k≠e.id))++e.q.ks else c.q.ks}:=fun c=>by unfold Q0t;rw[AW]
 have C2:∀id,find (Q0B N e e.q.ks.length) id=if id=e.id then none else(find N id).map fun c=>{c with q:=Q0t e e.q.ks.length c}:=fun id=>by
  unfold Q0B;rw[Q1v,ok.rem_find];split <;> rfl
 have Az:∀{x},x∈Q0B N e e.q.ks.length->∃c∈N,c.id≠e.id/\x={c with q:=Q0t e e.q.ks.length c}:=fun {x} hx=>by
  obtain⟨c,hc,rfl⟩:=Q1w hx;obtain⟨h1,h2⟩:=(Q2K ok.ids e.id c).1 hc;exact⟨c,h1,h2,rfl⟩
 -- whose child is whose
 have Km:∀c∈N,(c.id∈e.q.ks↔c.q.par=e.id):=fun c hc=>by
  constructor
  ·intro h;obtain⟨d,hd,EE⟩:=ok.kids e Ca c.id h;rw[Q0k ok.ids hc] at hd;cases hd;exact EE
  ·intro h;obtain⟨p,hp,hk⟩:=(ok.par c hc).2 (by omega);rw[h,he] at hp;cases hp;exact hk
 have BN:(rem N e.id).Sublist N:=Q1G N e.id;refine⟨Q2k (fun a b h=>h) (ok.ids.sublist BN),Q2k (fun a b h=>h) (ok.spots.sublist BN),ok.next0,fun x hx=>?_,fun x hx=>?_,fun x hx=>?_,fun x hx k hk=>?_,fun x hx=>?_,fun x hx=>?_⟩
 ·obtain⟨c,hc,_,rfl⟩:=Az hx;exact ok.rng c hc
 ·obtain⟨c,hc,_,rfl⟩:=Az hx;exact ok.sm c hc
 ·obtain⟨c,hc,Aa,rfl⟩:=Az hx;show 0<=(Q0t e e.q.ks.length c).par/\((Q0t e e.q.ks.length c).par≠0->_);rw[hL];simp only;by_cases FU:c.id∈e.q.ks
  ·rw[if_pos FU];refine⟨Bo.1,fun h0=>?_⟩;obtain⟨p,hp,hk⟩:=Bo.2 h0;obtain⟨p1,p2⟩:=Q0b hp;refine⟨_,by rw[C2,if_neg (by omega),hp];rfl,?_⟩;show c.id∈(Q0t e e.q.ks.length p).ks;rw[hL];simp only[p2,if_true];exact J3W _ FU
  ·rw[if_neg FU];obtain⟨q1,q2⟩:=ok.par c hc;refine⟨q1,fun h0=>?_⟩;obtain⟨p,hp,hk⟩:=q2 h0;have Ij:c.q.par≠e.id:=fun h=>FU ((Km c hc).2 h)
   refine⟨_,by rw[C2,if_neg Ij,hp];rfl,?_⟩;show c.id∈(Q0t e e.q.ks.length p).ks;rw[hL];simp only;split
   ·exact J3X _ (J3w.2 ⟨hk,by simpa using Aa⟩)
   ·exact hk
 ·obtain⟨c,hc,Aa,rfl⟩:=Az hx;have Bt:k∈(Q0t e e.q.ks.length c).ks:=hk;rw[hL] at Bt;simp only at Bt;have fromC:k∈c.q.ks->k≠e.id->∃d,find (Q0B N e e.q.ks.length) k=some d/\d.q.par=c.id:=fun h1 h2=>by
   obtain⟨d,hd,EE⟩:=ok.kids c hc k h1;obtain⟨d1,d2⟩:=Q0b hd;refine⟨_,by rw[C2,if_neg h2,hd];rfl,?_⟩;show(Q0t e e.q.ks.length d).par=c.id;rw[hL];simp only;rw[if_neg (fun h=>Aa (by rw[<- EE];exact(Km d d1).1 h))];exact EE
  split at Bt
  ·rename_i G5;rcases J3Q.1 Bt with Bt|Bt
   ·obtain⟨h1,h2⟩:=J3w.1 Bt;exact fromC h1 (by simpa using h2)
   ·obtain⟨d,hd,EE⟩:=ok.kids e Ca k Bt;obtain⟨d1,d2⟩:=Q0b hd;have:=ok.rise d d1;refine⟨_,by rw[C2,if_neg (by omega),hd];rfl,?_⟩;show(Q0t e e.q.ks.length d).par=c.id;rw[hL];simp only;rw[if_pos (by rw[d2];exact Bt),G5]
  ·refine fromC Bt fun h=>?_
   rename_i G5;obtain⟨d,hd,EE⟩:=ok.kids c hc k Bt;rw[h,he] at hd;cases hd;exact G5 EE.symm
 ·obtain⟨c,hc,Aa,rfl⟩:=Az hx;show(Q0t e e.q.ks.length c).ks.Nodup;rw[hL];simp only;split
  ·rw[J3V];refine⟨(ok.nd c hc).filter _,ok.nd e Ca,fun a ha b hb Cp=>?_⟩;subst Cp;obtain⟨d,hd,EE⟩:=ok.kids c hc a (J3w.1 ha).1;obtain⟨d',E6,Uw⟩:=ok.kids e Ca a hb;rw[hd] at E6;cases E6;omega
  ·exact ok.nd c hc
 ·obtain⟨c,hc,Aa,rfl⟩:=Az hx;show(Q0t e e.q.ks.length c).par<c.id;rw[hL];simp only;split
  ·rename_i h;have:=(Km c hc).1 h;have:=ok.rise c hc;omega
  ·exact ok.rise c hc
def Q0f(l:List Pl)(tb:Nat->TB)(h s:Nat):Option Ent:=match pget l 1 h with
 | some p=>if p.kind=2/\s<256 then(tb (h%256)).en s else none
 | none=>none
theorem Q3M{l:List Pl}{tb:Nat->TB}{h s:Nat}{e:Ent}(x:Q0f l tb h s=some e):∃p,pget l 1 h=some p/\p.kind=2/\s<256/\(tb (h%256)).en s=some e:=by
 unfold Q0f at x;cases hp:pget l 1 h with
 | none=>rw[hp] at x;cases x
 | some p =>
  rw[hp] at x;simp only at x;split at x
  ·rename_i hc;exact⟨p,rfl,hc.1,hc.2,x⟩
  ·cases x
theorem Q0g{l:List Pl}{tb:Nat->TB}{h s:Nat}{p:Pl}(hp:pget l 1 h=some p)(hk:p.kind=2)(hs:s<256):Q0f l tb h s=(tb (h%256)).en s:=by
 unfold Q0f;rw[hp];simp only;rw[if_pos ⟨hk,hs⟩]
structure Q7a(l:List Pl)(s:Nat)(e:Ent):Prop where
 live:∃q,pget l 1 e.h=some q/\(q.kind=8↔128<=s)
 r:1<=e.r/\e.r<=15
def Q0O(l:List Pl)(tb:Nat->TB)(n:En Nd):Option Ent:=Q0f l tb n.q.sp.toNat n.q.sl.toNat
structure FPI(l:List Pl)(tb:Nat->TB)(N:List (En Nd)):Prop where
 cap:∀h s e,Q0f l tb h s=some e->Q7a l s e
 has:∀h s e,Q0f l tb h s=some e->∃n∈N,n.q.sp=(h:Int)/\n.q.sl=(s:Int)
 is:∀n∈N,∃e,Q0O l tb n=some e
 up:∀n∈N,∀m,find N n.q.par=some m->∀e e',Q0O l tb n=some e->Q0O l tb m=some e'->e.h=e'.h/\e.r&&&e'.r=e.r
theorem Q3N{l:List Pl}{tb:Nat->TB}{h s:Nat}{p:Pl}(hp:pget l 1 h=some p)(hk:p.kind=2)(hs:s<256){t':TB}{o:Option Ent}(ht:∀x,t'.en x=if x=s then o else(tb (h%256)).en x)(h' s':Nat) :
  Q0f l (updT tb (h%256) t') h' s'=if h'=h/\s'=s then o else Q0f l tb h' s':=by
 unfold Q0f;cases BH:pget l 1 h' with
 | none =>
  simp only;rw[if_neg];rintro⟨rfl,_⟩;rw[hp] at BH;cases BH
 | some q =>
  simp only;by_cases e:h'%256=h%256
  ·obtain⟨e1,e2,_⟩:=Q0S BH hp e;subst e1;subst e2;rw[updT_same];by_cases hc:q.kind=2/\s'<256
   ·rw[if_pos hc,if_pos hc,ht];by_cases es:s'=s
    ·rw[if_pos es,if_pos ⟨rfl,es⟩]
    ·rw[if_neg es,if_neg (fun h=>es h.2)]
   ·rw[if_neg hc,if_neg hc,if_neg];rintro⟨_,rfl⟩;exact hc ⟨hk,hs⟩
  ·have hn:¬(h'=h/\s'=s):=fun x=>e (by rw[x.1])
   rw[Q0K e,if_neg hn]
theorem Q7D{l l':List Pl}{s:Nat}{e:Ent}(c:Q7a l s e)(h:∀q,pget l 1 e.h=some q->∃q',pget l' 1 e.h=some q'/\q'.kind=q.kind):Q7a l' s e:=by
 obtain⟨q,h1,h2⟩:=c.live;obtain⟨q',h3,h4⟩:=h q h1;exact⟨⟨q',h3,by rw[h4];exact h2⟩,c.r⟩
theorem FPI.same{l l':List Pl}{tb:Nat->TB}{N:List (En Nd)}(f:FPI l tb N)(he:∀h s,Q0f l' tb h s=Q0f l tb h s)(hl:∀h s e,Q0f l tb h s=some e->∀q,pget l 1 e.h=some q->∃q',pget l' 1 e.h=some q'/\q'.kind=q.kind):FPI l' tb N:=by
 have ho:∀n,Q0O l' tb n=Q0O l tb n:=fun n=>he _ _
 refine⟨fun h s e x=>?_,fun h s e x=>?_,fun n hn=>?_,fun n hn m hm e e' x y=>?_⟩
 ·rw[he] at x;exact Q7D (f.cap h s e x) (hl h s e x)
 ·rw[he] at x;exact f.has h s e x
 ·rw[ho];exact f.is n hn
 ·rw[ho] at x y;exact f.up n hn m hm e e' x y
theorem FPI.made{l:List Pl}{tb:Nat->TB}{N:List (En Nd)}(f:FPI l tb N){i:Nat}{p q:Pl}(hi:l[i]?=some p)(hp:p.st=0)(hn:(tb i).Nil):FPI (l.set i q) tb N:=by
 have DT:∀x r,pget l 1 x=some r->pget (l.set i q) 1 x=some r:=fun x r hr=>by
  obtain⟨a,b,c⟩:=pget_some.1 hr;rw[Q0A q hi,if_neg]
  ·exact hr
  ·intro e;rw[e,hi] at a;cases a;omega
 refine f.same (fun h s=>?_) (fun h s e x r hr=>⟨r,DT _ _ hr,rfl⟩);by_cases e:h%256=i
 ·have z:∀l',Q0f l' tb h s=none:=fun l'=>by
   unfold Q0f;split
   ·split
    ·rename_i hc;rw[e];exact hn.2 s hc.2
    ·rfl
   ·rfl
  rw[z,z]
 ·unfold Q0f;rw[Q0A q hi,if_neg e]
theorem FPI.doomed{l:List Pl}{tb:Nat->TB}{N:List (En Nd)}(f:FPI l tb N){h:Nat}{p:Pl}(hp:pget l 1 h=some p)(hn:(tb (h%256)).Nil)(Aq:∀h' s e,Q0f l tb h' s=some e->e.h≠h):FPI (l.set (h%256) {p with st:=2}) tb N:=by
 obtain⟨hi,KE,_⟩:=pget_some.1 hp;refine f.same (fun h' s=>?_) (fun h' s e x r hr=>⟨r,?_,rfl⟩)
 ·by_cases e:h'%256=h%256
  ·have z:∀l',Q0f l' tb h' s=none:=fun l'=>by
    unfold Q0f;split
    ·split
     ·rename_i hc;rw[e];exact hn.2 s hc.2
     ·rfl
    ·rfl
   rw[z,z]
  ·unfold Q0f;rw[Q0A _ hi,if_neg e]
 ·have Aa:=Aq h' s e x;rw[Q0A _ hi,if_neg]
  ·exact hr
  ·intro e1;exact Aa (Q0S hr hp e1).1
theorem FPI.live{l l':List Pl}{tb:Nat->TB}{N:List (En Nd)}(f:FPI l tb N)(h:∀x,pget l' 1 x=pget l 1 x):FPI l' tb N:=
 f.same (fun h' s=>by unfold Q0f;rw[h]) (fun _ _ e _ q hq=>⟨q,by rw[h];exact hq,rfl⟩)
section
variable {l:List Pl} {tb:Nat->TB} {N:List (En Nd)} {next:Int} {h s:Nat} {p:Pl}
theorem Q4G{par sp sl:Int}{b:Nat}(ok:NOk N next)(id:Int):find (addN N par (next+1) b sp sl) id=if id=next+1 then some ⟨next+1,b,⟨sp,sl,par,[]⟩⟩ else(find N id).map fun c=>{c with q:=if c.id=par then {c.q with ks:=c.q.ks++[next+1]} else c.q}:=by
 have Ct:find N (next+1)=none:=by
  cases hf:find N (next+1) with
  | none=>rfl
  | some e =>
   obtain⟨e1,e2⟩:=Q0b hf;have:=ok.rng e e1;omega
 unfold addN;rw[Q8p,Q1v];by_cases h:id=next+1
 ·subst h;rw[Ct];simp
 ·cases hf:find N id with
  | none=>simp[h]
  | some e=>simp[h]
theorem Z3e{l:List Pl}{tb:Nat->TB}(n m:En Nd)(h1:n.q.sp=m.q.sp)(h2:n.q.sl=m.q.sl):Q0O l tb n=Q0O l tb m:=by unfold Q0O;rw[h1,h2]
theorem Z6f(e:En Nd)(par k:Int):(if e.id=par then({e.q with ks:=e.q.ks++[k]}:Nd) else e.q).sp=e.q.sp/\(if e.id=par then({e.q with ks:=e.q.ks++[k]}:Nd) else e.q).sl=e.q.sl/\(if e.id=par then({e.q with ks:=e.q.ks++[k]}:Nd) else e.q).par=e.q.par:=by
 split <;> exact⟨rfl,rfl,rfl⟩
theorem FPI.add(f:FPI l tb N)(ok:NOk N next)(hp:pget l 1 h=some p)(hk:p.kind=2)(hs:s<256)(h0:Q0f l tb h s=none){t':TB}{e:Ent}(ht:∀x,t'.en x=if x=s then some e else(tb (h%256)).en x)(hc:Q7a l s e){par:Int}(b:Nat)
  (Bo:par=0∨∃m em,find N par=some m/\Q0O l tb m=some em/\e.h=em.h/\e.r&&&em.r=e.r):FPI l (updT tb (h%256) t') (addN N par (next+1) b (h:Int) (s:Int)):=by
 have ha:=Q3N hp hk hs ht;have Aa:∀n∈N,¬(n.q.sp.toNat=h/\n.q.sl.toNat=s):=fun n hn ⟨h1,h2⟩=>by
  obtain⟨e1,Fz⟩:=f.is n hn;unfold Q0O at Fz;rw[h1,h2,h0] at Fz;cases Fz
 have Cc:∀n∈N,Q0O l (updT tb (h%256) t') n=Q0O l tb n:=fun n hn=>by
  unfold Q0O;rw[ha,if_neg (Aa n hn)]
 have Az:∀{x},x∈addN N par (next+1) b (h:Int) (s:Int)->(∃n∈N,x={n with q:=if n.id=par then {n.q with ks:=n.q.ks++[next+1]} else n.q})∨x=⟨next+1,b,⟨(h:Int),(s:Int),par,[]⟩⟩:=fun {x} hx=>by
  rcases J3Q.1 hx with hx|hx
  ·exact .inl (Q1w hx)
  ·exact .inr (J5j.1 hx)
 have Oe:∀n∈N,Q0O l (updT tb (h%256) t') {n with q:=if n.id=par then {n.q with ks:=n.q.ks++[next+1]} else n.q}=Q0O l tb n:=fun n hn=>by
  rw[<- Cc n hn];obtain⟨q1,q2,_⟩:=Z6f n par (next+1);exact Z3e _ _ q1 q2
 have Ct:Q0O l (updT tb (h%256) t') ⟨next+1,b,⟨(h:Int),(s:Int),par,[]⟩⟩=some e:=by
  unfold Q0O;rw[ha,if_pos ⟨by simp,by simp⟩]
 refine⟨fun h' s' x hx=>?_,fun h' s' x hx=>?_,fun n hn=>?_,fun n hn m hm x y hx hy=>?_⟩
 ·rw[ha] at hx;split at hx
  ·rename_i Bj;cases hx;rw[Bj.2];exact hc
  ·exact f.cap h' s' x hx
 ·rw[ha] at hx;split at hx
  ·rename_i Bj;exact⟨_,J3W _ (J5j.2 rfl),by rw[Bj.1],by rw[Bj.2]⟩
  ·obtain⟨n,hn,h1,h2⟩:=f.has h' s' x hx;obtain⟨q1,q2,_⟩:=Z6f n par (next+1);exact⟨_,J3X _ (J3h.2 ⟨n,hn,rfl⟩),q1.trans h1,q2.trans h2⟩
 ·rcases Az hn with ⟨c,Bj,rfl⟩|rfl
  ·rw[Oe c Bj];exact f.is c Bj
  ·exact⟨e,Ct⟩
 ·-- the parent,in the old row
  have old:∀c,find N c.id=some c->∀m,find (addN N par (next+1) b (h:Int) (s:Int)) c.q.par=some m->find N c.q.par=none->False:=fun c Nc m hm Ec=>by
   rw[Q4G ok] at hm;split at hm
   ·rename_i e1;obtain⟨c1,_⟩:=Q0b Nc;have:=ok.rise c c1;have:=ok.rng c c1;omega
   ·rw[Ec] at hm;cases hm
  rcases Az hn with ⟨c,Bj,rfl⟩|rfl
  ·obtain⟨_,_,q3⟩:=Z6f c par (next+1);have Cf:find (addN N par (next+1) b (h:Int) (s:Int)) c.q.par=some m:=by rw[<- q3];exact hm
   rw[Oe c Bj] at hx;have RU:=ok.rng c Bj;have B4:=ok.rise c Bj;rw[Q4G ok,if_neg (by omega)] at Cf;obtain⟨m0,F7,rfl⟩:=J7a.1 Cf;rw[Oe m0 (Q0b F7).1] at hy;exact f.up c Bj m0 F7 x y hx hy
  ·rw[Ct] at hx;cases hx;have Cf:find (addN N par (next+1) b (h:Int) (s:Int)) par=some m:=hm;rcases Bo with rfl|⟨m1,em,g1,g2,g3,g4⟩
   ·rw[Q4G ok,if_neg (by have:=ok.next0;omega),ok.zero] at Cf;cases Cf
   ·have:=ok.rng m1 (Q0b g1).1;have e2:=(Q0b g1).2;rw[Q4G ok,if_neg (by omega),g1] at Cf;cases Cf;rw[Oe m1 (Q0b g1).1,g2] at hy;cases hy;exact⟨g3,g4⟩
theorem FPI.weak(f:FPI l tb N)(ok:NOk N next)(hp:pget l 1 h=some p)(hk:p.kind=2)(hs:s<256){e e2:Ent}(h0:Q0f l tb h s=some e){t':TB}(ht:∀x,t'.en x=if x=s then some e2 else(tb (h%256)).en x)(hh:e2.h=e.h)(hr:1<=e2.r/\e2.r<=15)(BN:e2.r&&&e.r=e2.r)
  (CZ:∀n∈N,∀m,find N n.q.par=some m->m.q.sp=(h:Int)->m.q.sl=(s:Int)->∀x,Q0O l tb n=some x->x.r&&&e2.r=x.r):FPI l (updT tb (h%256) t') N:=by
 have ha:=Q3N hp hk hs ht;have spot:∀n∈N,n.q.sp.toNat=h->n.q.sl.toNat=s->n.q.sp=(h:Int)/\n.q.sl=(s:Int):=fun n hn h1 h2=>by
  have:=ok.sm n hn;omega
 refine⟨fun h' s' x hx=>?_,fun h' s' x hx=>?_,fun n hn=>?_,fun n hn m hm x y hx hy=>?_⟩
 ·rw[ha] at hx;split at hx
  ·rename_i Bj;cases hx;have:=f.cap h s e h0;rw[Bj.2];exact⟨by rw[hh];exact this.live,hr⟩
  ·exact f.cap h' s' x hx
 ·rw[ha] at hx;split at hx
  ·rename_i Bj;rw[Bj.1,Bj.2];exact f.has h s e h0
  ·exact f.has h' s' x hx
 ·unfold Q0O;rw[ha];split
  ·exact⟨e2,rfl⟩
  ·exact f.is n hn
 ·unfold Q0O at hx hy;rw[ha] at hx hy;split at hx
  ·rename_i c1;cases hx;split at hy
   ·rename_i c2
    -- a node of its own parent: the same spot
    exfalso;obtain⟨n1,n2⟩:=spot n hn c1.1 c1.2;obtain⟨m1,m2⟩:=spot m (Q0b hm).1 c2.1 c2.2;have i1:=Q4i ok hn (Q0b hm).1 (n1.trans m1.symm) (n2.trans m2.symm);have:=ok.rise n hn;have:=(Q0b hm).2;subst i1;omega
   ·obtain⟨q1,q2⟩:=f.up n hn m hm e y (by unfold Q0O;rw[c1.1,c1.2];exact h0) (by unfold Q0O;exact hy);refine⟨hh.trans q1,?_⟩;rw[<- BN,Nat.and_assoc,q2]
  ·split at hy
   ·rename_i c2;cases hy;obtain⟨q1,q2⟩:=f.up n hn m hm x e (by unfold Q0O;exact hx) (by unfold Q0O;rw[c2.1,c2.2];exact h0);obtain⟨m1,m2⟩:=spot m (Q0b hm).1 c2.1 c2.2;exact⟨q1.trans hh.symm,CZ n hn m hm m1 m2 x (by unfold Q0O;exact hx)⟩
   ·exact f.up n hn m hm x y (by unfold Q0O;exact hx) (by unfold Q0O;exact hy)
theorem FPI.lift(f:FPI l tb N)(ok:NOk N next)(hp:pget l 1 h=some p)(hk:p.kind=2)(hs:s<256){t':TB}(ht:∀x,t'.en x=if x=s then none else(tb (h%256)).en x){e:En Nd}(he:find N e.id=some e)(h1:e.q.sp=(h:Int))(h2:e.q.sl=(s:Int)):FPI l (updT tb (h%256) t') (Q0B N e e.q.ks.length):=by
 have ha:=Q3N hp hk hs ht;have Ca:=(Q0b he).1;have AW:e.q.ks.take e.q.ks.length=e.q.ks:=J7m;have JO:∀c,(Q0t e e.q.ks.length c).sp=c.q.sp/\(Q0t e e.q.ks.length c).sl=c.q.sl:=fun c=>⟨rfl,rfl⟩
 have Az:∀{x},x∈Q0B N e e.q.ks.length->∃c∈N,c.id≠e.id/\x={c with q:=Q0t e e.q.ks.length c}:=fun {x} hx=>by
  obtain⟨c,hc,rfl⟩:=Q1w hx;obtain⟨g1,g2⟩:=(Q2K ok.ids e.id c).1 hc;exact⟨c,g1,g2,rfl⟩
 have Aa:∀c∈N,c.id≠e.id->¬(c.q.sp.toNat=h/\c.q.sl.toNat=s):=fun c hc hid ⟨g1,g2⟩=>by
  have:=ok.sm c hc;have:=Q4i ok hc Ca (by omega) (by omega);subst this;exact hid rfl
 have Cc:∀c∈N,c.id≠e.id->Q0O l (updT tb (h%256) t') {c with q:=Q0t e e.q.ks.length c}=Q0O l tb c:=fun c hc hid=>by
  unfold Q0O;show Q0f l _ c.q.sp.toNat c.q.sl.toNat=_;rw[ha,if_neg (Aa c hc hid)]
 refine⟨fun h' s' x hx=>?_,fun h' s' x hx=>?_,fun n hn=>?_,fun n hn m hm x y hx hy=>?_⟩
 ·rw[ha] at hx;split at hx
  ·cases hx
  ·exact f.cap h' s' x hx
 ·rw[ha] at hx;split at hx
  ·cases hx
  ·rename_i Bj;obtain⟨n,hn,g1,g2⟩:=f.has h' s' x hx;have hid:n.id≠e.id:=fun e1=>by
    rw[e1.symm,Q0k ok.ids hn] at he;cases he;exact Bj ⟨by omega,by omega⟩
   exact⟨_,J3h.2 ⟨n,(Q2K ok.ids e.id n).2 ⟨hn,hid⟩,rfl⟩,g1,g2⟩
 ·obtain⟨c,hc,hid,rfl⟩:=Az hn;rw[Cc c hc hid];exact f.is c hc
 ·obtain⟨c,hc,hid,rfl⟩:=Az hn;rw[Cc c hc hid] at hx;have Cf:find (Q0B N e e.q.ks.length) (Q0t e e.q.ks.length c).par=some m:=hm;unfold Q0B at Cf;rw[Q1v,ok.rem_find] at Cf;split at Cf
  ·cases Cf
  ·rename_i Ij;obtain⟨m0,F7,rfl⟩:=J7a.1 Cf;have Qu:=(Q0b F7).1;have EX:m0.id≠e.id:=by rw[(Q0b F7).2];exact Ij
   rw[Cc m0 Qu EX] at hy;have Bo:(Q0t e e.q.ks.length c).par=if c.id∈e.q.ks then e.q.par else c.q.par:=by unfold Q0t;rw[AW]
   rw[Bo] at F7;by_cases FU:c.id∈e.q.ks
   ·rw[if_pos FU] at F7;obtain⟨d,hd,EE⟩:=ok.kids e Ca c.id FU;rw[Q0k ok.ids hc] at hd;cases hd;obtain⟨z,hz⟩:=f.is e Ca;obtain⟨a1,a2⟩:=f.up c hc e (by rw[EE];exact he) x z hx hz;obtain⟨b1,b2⟩:=f.up e Ca m0 F7 z y hz hy;refine⟨a1.trans b1,?_⟩;rw[<- a2,Nat.and_assoc,b2]
   ·rw[if_neg FU] at F7;exact f.up c hc m0 F7 x y hx hy
end
end Go.Proofs.YtfidemmgofcnmaaGreatDoor
