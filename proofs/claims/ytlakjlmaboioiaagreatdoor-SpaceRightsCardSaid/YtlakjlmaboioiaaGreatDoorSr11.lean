/- SpaceRights returns true at every input. No condition. Part of its proof. -/
import Derived.Test.YtlakjlmaboioiaaGreatDoorSr01
import Derived.Test.YtlakjlmaboioiaaGreatDoorSr10
import Derived.Test.YtlakjlmaboioiaaGreatDoorSr03
import Derived.DeepKeys3
import Derived.Test.YtlakjlmaboioiaaGreatDoorSr02
set_option linter.unusedVariables false
namespace Go.Proofs.YtlakjlmaboioiaaGreatDoor
open Go.RowKit Go.Proofs.Tryz
def CO.paid (S:CO) (P':PL) (own:Int) (d:Int):CO:={S with P:=P',xc:=fun id=>if id=own then S.xc id+d else S.xc id}
theorem TreI.pay {E:List (En Fa)} {l:List Pl} {xc:Int->Int} (t:TreI E l xc) (hids:E.Pairwise (fun a b=>a.id≠b.id)) {own:Int} {e:En Fa} (hf:find E own=some e) (d:Int):TreI (upd E own {e.q with charged:=e.q.charged+d}) l (fun id=>if id=own then xc id+d else xc id):=by
 have hgs:∀a,Q1M (upd E own {e.q with charged:=e.q.charged+d}) a=Q1M E a:=fun a=>Q1J hids hf _ _ rfl
 have hkc:∀a,Q1N (upd E own {e.q with charged:=e.q.charged+d}) a=Q1N E a:=fun a=>Q1J hids hf _ _ rfl
 refine⟨by rw [Q1n];exact t.ids,fun p hp his=>?_,fun p hp his hk x hx=>?_,fun id x hx=>?_,fun id x hx=>?_⟩
 ·obtain⟨y,hy⟩:=t.fac p hp his;exact Q0Z _ hy
 ·obtain⟨y,hy,h1,h2⟩:=Q0q _ hf hx;have:=t.par p hp his hk y hy;by_cases hid:(p.own:Int)=own
  ·obtain⟨rfl,e2⟩:=h1 hid;rw [e2];exact this
  ·rw [h2 hid];exact this
 ·obtain⟨y,hy,h1,h2⟩:=Q0q _ hf hx;have:=t.charged id y hy;by_cases hid:id=own
  ·obtain⟨rfl,e2⟩:=h1 hid;rw [e2,if_pos hid];show y.q.charged+d=_;omega
  ·rw [h2 hid,if_neg hid];exact this
 ·obtain⟨y,hy,h1,h2⟩:=Q0q _ hf hx;have:=t.given id y hy;rw [hgs,hkc];by_cases hid:id=own
  ·obtain⟨rfl,e2⟩:=h1 hid;rw [e2];exact this
  ·rw [h2 hid];exact this
theorem CO.Ok.paid {S:CO} {fr:List Nat} {N K:Nat} (ok:S.Ok fr N K) {P':PL} {own:Int} {e:En Fa} {d:Int} (hok:P'.Ok fr) (he:find S.P.q.E own=some e) (hE:P'.q={S.P.q with E:=upd S.P.q.E own {e.q with charged:=e.q.charged+d}}) (hu:∀j,1<=j->j<=5->P'.usedOf j=S.P.usedOf j) (hw:∀b∈S.P.usedOf 1,Q0u P'.a.mem b=Q0u S.P.a.mem b)
  (hnn:0<=S.xc own+d) (hlive:S.xc own+d≠0->∃p∈S.l,p.st=1/\(p.fac:Int)=own):(S.paid P' own d).Ok fr N K:=by
 have v:=ok.inv;refine⟨⟨v.len,v.st,v.mem.same hok hu hw,?_,?_⟩,ok.per,ok.due,ok.ord,ok.ov,?_,ok.now,ok.age⟩
 ·show TreI P'.q.E S.l _;rw [hE];exact v.tre.pay v.mem.pool.q.ids he d
 ·refine⟨v.que.root,v.que.live,fun id=>?_,v.que.nd,v.que.has,v.que.ord⟩;show 0<=(if id=own then S.xc id+d else S.xc id)/\((if id=own then S.xc id+d else S.xc id)≠0->_);split
  ·rename_i h;subst h;exact⟨hnn,hlive⟩
  ·exact v.que.xc id
 ·show P'.q.next<=N;rw [hE];exact ok.next
theorem CO.Ok.stored {S:CO} {fr:List Nat} {N K:Nat} (ok:S.Ok fr N K) {m:List Nat} (hl:m.length=S.P.a.mem.length) (hb:∀b∈m,b<256) (hw:∀b∈S.P.usedOf 1,Q0u m b=Q0u S.P.a.mem b):(S.setP (S.P.setA m)).Ok fr N K:=by
 have v:=ok.inv;exact⟨⟨v.len,v.st,v.mem.same (PL.ok_setA v.mem.pool hl hb) (fun _ _ _=>rfl) hw,v.tre,v.que⟩,ok.per,ok.due,ok.ord,ok.ov,ok.next,ok.now,ok.age⟩
structure TPX (S:CO) (tb:Nat->TB) (own:Int) (xl xn:List Nat):Prop where
 tin:∀(i:Nat) (p:Pl),S.l[i]?=some p->p.st=1->p.kind=2->(tb i).In S.P.a.mem p.at_
 nil:∀(i:Nat) (p:Pl),S.l[i]?=some p->¬(p.st=1/\p.kind=2)->(tb i).Nil
 lvs:(xl++Q3e tb).Perm (S.P.usedOf 7)
 nds:(xn++Q3Z tb).Perm (S.P.usedOf 6)
 xc:∀id,S.xc id=xcOf S.l tb id+if id=own then 256*(xl.length:Int)+48*(xn.length:Int) else 0
theorem TPI.x {S:CO} {tb:Nat->TB} (t:TPI S tb) (own:Int):TPX S tb own [] []:=⟨t.tin,t.nil,t.lvs,t.nds,fun id=>by rw [t.xc];simp⟩
theorem TPX.done {S:CO} {tb:Nat->TB} {own:Int} (t:TPX S tb own [] []) (hf:∀i,i<256->(tb i).Full):TPI S tb:=⟨t.tin,hf,t.nil,t.lvs,t.nds,fun id=>by rw [t.xc];simp⟩
theorem TPX.leaf {S:CO} {tb:Nat->TB} {own:Int} {xl xn:List Nat} (t:TPX S tb own xl xn) {i k:Nat} (hi:i<256) (hk:k<16) (h:(tb i).lf k≠0):(tb i).lf k∈S.P.usedOf 7:=
 t.lvs.mem_iff.1 (J2r _ (J1X.2 ⟨i,J1N.2 hi,mem_lvs.2 ⟨k,hk,rfl,h⟩⟩))
theorem TPX.tin_kept {S:CO} {tb:Nat->TB} {own:Int} {xl xn:List Nat} (hl:S.l.length=256) (t:TPX S tb own xl xn) {m:List Nat} (k1:∀(i:Nat) (p:Pl),S.l[i]?=some p->p.st=1->p.kind=2->Kept S.P.a.mem m p.at_ 128) (k2:∀a,a∈S.P.usedOf 7->Kept S.P.a.mem m a 256) {i:Nat} {p:Pl} (hi:S.l[i]?=some p) (h1:p.st=1) (h2:p.kind=2):(tb i).In m p.at_:=
 (t.tin i p hi h1 h2).kept (k1 i p hi h1 h2) fun k hk hne=>k2 _ (t.leaf (Q1o hl hi) hk hne)
theorem Q1G {S:CO} {fr:List Nat} {N K:Nat} (ok:S.Ok fr N K) {i:Nat} {p:Pl} (hi:S.l[i]?=some p) (h1:p.st=1) (h2:p.kind=2):p.at_∈S.P.usedOf 2:=by
 have:=ok.inv.mem.used (J3L hi) (Pl.is_iff.2 (.inl h1)) (by omega)
 rwa [h2] at this
theorem GotM.kept {P P':PL} {fr fr':List Nat} {own:Int} {k a:Nat} (g:GotM P fr own k a P' fr') (ok:P.Ok fr) {j b:Nat} (hb:b∈P.usedOf j):Kept P.a.mem P'.a.mem b (Q0c j):=by
 have:=(g.apart ok).1 j b hb;rw [g.mem];exact Q1A (by rw [J1H];exact g.room.1) (by rw [J1H];omega)
theorem Z8S:∀{l:List Int},(∀x∈l,0<=x)->0<=l.sum
 | [],_=>J5B _
 | x::r,h=>by
  have:=Z8S (l:=r) fun y hy=>h y (by simp [hy])
  have:=h x (by simp);rw [J5j];omega
theorem Z0a (l:List Pl) (tb:Nat->TB) (id:Int):0<=xcOf l tb id:=by
 refine Z8S fun x hx=>?_
 obtain⟨i,_,rfl⟩:=J1D.1 hx;unfold xcP;split
 ·split
  ·exact TB.cost_nn _
  ·exact J5B _
 ·exact J5B _
section
variable {S:CO} {fr:List Nat} {N K:Nat} {tb:Nat->TB} {own:Int} {xl xn:List Nat}
theorem TPX.got {n a:Nat} {P':PL} (ok:S.Ok fr N K) (t:TPX S tb own xl xn) (hn:n=6∨n=7) (g:GetOk S.P fr own n a P') (hown:∃p∈S.l,p.st=1/\(p.fac:Int)=own) :
  (S.paid P' own ((Q0c n:Nat):Int)).Ok fr N K/\TPX (S.paid P' own ((Q0c n:Nat):Int)) tb own (if n=7 then a::xl else xl) (if n=6 then a::xn else xn):=by
 have gm:=g.gotM ok.inv.mem.pool;have hck:costK n=Q0c n:=Q1O (by omega);obtain⟨e,q1,q2,q3⟩:=g.q;have hxn:=(ok.inv.que.xc own).1;refine⟨ok.paid g.ok q1 q3 (fun j h1 h5=>g.other j (by omega)) (fun b hb=>?_) (by omega) (fun _=>hown),?_,t.nil,?_,?_,fun id=>?_⟩
 ·have:=gm.kept ok.inv.mem.pool hb;exact (this.sub (b:=b) (k:=8) (J1x _) (by show b+8<=b+64;omega)).word
 ·intro i p hi h1 h2;refine t.tin_kept ok.inv.len (fun j q hj q1 q2=>?_) (fun b hb=>gm.kept ok.inv.mem.pool hb) hi h1 h2;exact gm.kept ok.inv.mem.pool (Q1G ok hj q1 q2)
 ·show (_++Q3e tb).Perm (P'.usedOf 7);by_cases h7:n=7
  ·subst h7;rw [if_pos rfl];exact (List.Perm.cons a t.lvs).trans (gm.used (by omega)).symm
  ·rw [if_neg h7,g.other 7 (by omega)];exact t.lvs
 ·show (_++Q3Z tb).Perm (P'.usedOf 6);by_cases h6:n=6
  ·subst h6;rw [if_pos rfl];exact (List.Perm.cons a t.nds).trans (gm.used (by omega)).symm
  ·rw [if_neg h6,g.other 6 (by omega)];exact t.nds
 ·show (if id=own then S.xc id+_ else S.xc id)=xcOf S.l tb id+_;by_cases hid:id=own
  ·subst hid;rw [if_pos rfl,t.xc,if_pos rfl,if_pos rfl];rcases hn with rfl|rfl
   ·simp [Q4X];omega
   ·simp [Q2N];omega
  ·rw [if_neg hid,t.xc,if_neg hid,if_neg hid]
theorem TPX.put {n a:Nat} {P':PL} (ok:S.Ok fr N K) (hn:n=6∨n=7) (t:TPX S tb own (if n=7 then a::xl else xl) (if n=6 then a::xn else xn)) (g:PutOk S.P fr own n a P') (hown:∃p∈S.l,p.st=1/\(p.fac:Int)=own) :
  (S.paid P' own (-((Q0c n:Nat):Int))).Ok fr N K/\TPX (S.paid P' own (-((Q0c n:Nat):Int))) tb own xl xn:=by
 have bm:=g.backM ok.inv.mem.pool;obtain⟨e,q1,q2,q3⟩:=g.q;have hmem:P'.a.mem=S.P.a.mem:=by rw [g.aa]
 have hq3:P'.q={S.P.q with E:=upd S.P.q.E own {e.q with charged:=e.q.charged + -((Q0c n:Nat):Int)}}:=by rw [q3,Int.sub_eq_add_neg]
 have hxn:=Z0a S.l tb own;have hxo:=t.xc own;rw [if_pos rfl] at hxo;refine⟨ok.paid g.ok q1 hq3 (fun j h1 h5=>g.other j (by omega)) (fun b hb=>by rw [hmem]) ?_ (fun _=>hown),?_,t.nil,?_,?_,fun id=>?_⟩
 ·rcases hn with rfl|rfl
  ·simp [Q4X] at hxo ⊢;omega
  ·simp [Q2N] at hxo ⊢;omega
 ·intro i p hi h1 h2;show (tb i).In P'.a.mem p.at_;rw [hmem];exact t.tin i p hi h1 h2
 ·show (xl++Q3e tb).Perm (P'.usedOf 7);by_cases h7:n=7
  ·subst h7;have h1:=t.lvs;rw [if_pos rfl] at h1;exact J5k (h1.trans (bm.used (by omega)))
  ·have h1:=t.lvs;rw [if_neg h7] at h1;rw [g.other 7 (by omega)];exact h1
 ·show (xn++Q3Z tb).Perm (P'.usedOf 6);by_cases h6:n=6
  ·subst h6;have h1:=t.nds;rw [if_pos rfl] at h1;exact J5k (h1.trans (bm.used (by omega)))
  ·have h1:=t.nds;rw [if_neg h6] at h1;rw [g.other 6 (by omega)];exact h1
 ·show (if id=own then S.xc id+_ else S.xc id)=xcOf S.l tb id+_;have hx:=t.xc id;by_cases hid:id=own
  ·subst hid;rw [if_pos rfl] at hx ⊢;rw [hx,if_pos rfl];rcases hn with rfl|rfl
   ·simp [Q4X];omega
   ·simp [Q2N];omega
  ·rw [if_neg hid] at hx ⊢;rw [hx,if_neg hid]
end
def updT (tb:Nat->TB) (i:Nat) (t:TB):Nat->TB:=fun j=>if j=i then t else tb j
theorem updT_same (tb:Nat->TB) (i:Nat) (t:TB):updT tb i t i=t:=by unfold updT;rw [if_pos rfl]
theorem Q0V {tb:Nat->TB} {i j:Nat} {t:TB} (h:j≠i):updT tb i t j=tb j:=by unfold updT;rw [if_neg h]
theorem Z1q (i:Nat) (hi:i<256):∃A B,List.range 256=A++i::B/\(∀j∈A,j≠i)/\∀j∈B,j≠i:=by
 have hm:i∈List.range 256:=J1N.2 hi;obtain⟨A,B,e⟩:=J5C hm;have hnd:(List.range 256).Nodup:=J5r;rw [e] at hnd;obtain⟨h1,h2,h3⟩:=J2q.1 hnd;exact⟨A,B,e,fun j hj=>h3 j hj i (by simp),fun j hj h=>(J2t.1 h2).1 (h ▸ hj)⟩
theorem Q4x (f:TB->List Nat) (tb:Nat->TB) {i:Nat} (hi:i<256) (t:TB):∃A B,(List.range 256).flatMap (fun j=>f (tb j))=A++f (tb i)++B/\(List.range 256).flatMap (fun j=>f (updT tb i t j))=A++f t++B:=by
 obtain⟨A,B,e,h1,h2⟩:=Z1q i hi;refine⟨A.flatMap fun j=>f (tb j),B.flatMap fun j=>f (tb j),by rw [e];simp,?_⟩;have g1:A.flatMap (fun j=>f (updT tb i t j))=A.flatMap fun j=>f (tb j):=by
  rw [J5D,J5D];congr 1;exact J3G fun j hj=>by rw [Q0V (h1 j hj)]
 have g2:B.flatMap (fun j=>f (updT tb i t j))=B.flatMap fun j=>f (tb j):=by
  rw [J5D,J5D];congr 1;exact J3G fun j hj=>by rw [Q0V (h2 j hj)]
 rw [e,J2f,J1U,g1,g2,updT_same];simp
theorem Q8E {l:List Pl} {tb:Nat->TB} {i:Nat} (hi:i<256) {p:Pl} (hp:l[i]?=some p) (t:TB) (id:Int):xcOf l (updT tb i t) id=xcOf l tb id+if (p.fac:Int)=id then t.cost-(tb i).cost else 0:=by
 obtain⟨A,B,e,h1,h2⟩:=Z1q i hi;unfold xcOf;rw [e];simp only [J5a,J1A,J5l,J5j];have g1:A.map (fun j=>xcP (updT tb i t) id j l[j]?)=A.map fun j=>xcP tb id j l[j]?:=J3G fun j hj=>by unfold xcP;rw [Q0V (h1 j hj)]
 have g2:B.map (fun j=>xcP (updT tb i t) id j l[j]?)=B.map fun j=>xcP tb id j l[j]?:=J3G fun j hj=>by unfold xcP;rw [Q0V (h2 j hj)]
 rw [g1,g2];have e1:∀tb',xcP tb' id i l[i]?=if (p.fac:Int)=id then (tb' i).cost else 0:=fun tb'=>by unfold xcP;rw [hp]
 rw [e1,e1,updT_same];split <;> omega
end Go.Proofs.YtlakjlmaboioiaaGreatDoor
namespace Go.Proofs.YtlakjlmaboioiaaGreatDoor
open Go.Proofs.Tryz
structure Fst3 (kd:Int->List Int) (rk:Int->Nat):Prop where
 dn:∀h x,x∈kd h->rk x<rk h
 one:∀a b x,x∈kd a->x∈kd b->a=b
 nd:∀h,(kd h).Nodup
def preG (kd:Int->List Int):Nat->Int->List Int
 | 0,h=>[h]
 | n+1,h=>h::(kd h).reverse.flatMap (preG kd n)
section
variable {kd:Int->List Int} {rk:Int->Nat}
theorem Q5U {f g:Int->List Int}:∀{L:List Int},(∀x∈L,f x=g x)->L.flatMap f=L.flatMap g
 | [],_=>rfl
 | x::r,h=>by rw [J1U,J1U,h x (by simp),Q5U (L:=r) fun y hy=>h y (by simp [hy])]
theorem Fst3.leaf (t:Fst3 kd rk) {h:Int} (hr:rk h=0):kd h=[]:=by
 cases hk:kd h with
 | nil=>rfl
 | cons x r =>
  have:=t.dn h x (by rw [hk];simp);omega
theorem Q5V (t:Fst3 kd rk):∀n m h,rk h<=n->rk h<=m->preG kd n h=preG kd m h:=by
 intro n
 induction n with
 | zero =>
  intro m h h1 h2;have hk:=t.leaf (J1V.1 h1);cases m with
  | zero=>rfl
  | succ m=>simp [preG,hk]
 | succ n ih =>
  intro m h h1 h2;cases m with
  | zero =>
   have hk:=t.leaf (J1V.1 h2);simp [preG,hk]
  | succ m =>
   simp only [preG];congr 1;refine Q5U fun x hx=>?_
   have:=t.dn h x (J1W.1 hx);exact ih m x (by omega) (by omega)
def preT (kd:Int->List Int) (rk:Int->Nat) (h:Int):List Int:=preG kd (rk h) h
theorem Z0b (t:Fst3 kd rk) (h:Int):preT kd rk h=h::(kd h).reverse.flatMap (preT kd rk):=by
 have:preT kd rk h=preG kd (rk h+1) h:=Q5V t _ _ h (J1x _) (by omega);rw [this];simp only [preG];congr 1;refine Q5U fun x hx=>?_
 have:=t.dn h x (J1W.1 hx);exact Q5V t _ _ x (by omega) (J1x _)
def Q0G (kd:Int->List Int) (rk:Int->Nat) (h:Int):List Int:=(preT kd rk h).tail.reverse
theorem Q3B (t:Fst3 kd rk) (h:Int):preT kd rk h=h::(Q0G kd rk h).reverse:=by
 unfold Q0G;rw [J2j,Z0b t h];rfl
inductive Dn (kd:Int->List Int):Int->Int->Prop where
 | here (h:Int):Dn kd h h
 | down (h k x:Int):k∈kd h->Dn kd k x->Dn kd h x
theorem Dn.trans {h k x:Int} (a:Dn kd h k) (b:Dn kd k x):Dn kd h x:=by
 induction a with
 | here=>exact b
 | down h k y hk _ ih=>exact .down h k x hk (ih b)
theorem Dn.rank (t:Fst3 kd rk) {h x:Int} (a:Dn kd h x):rk x<=rk h/\(x=h∨rk x<rk h):=by
 induction a with
 | here=>exact⟨J1x _,.inl rfl⟩
 | down h k y hk _ ih =>
  have:=t.dn h k hk;have:=ih.1;exact⟨by omega,.inr (by omega)⟩
theorem Q5y (t:Fst3 kd rk):∀n h x,rk h<=n->(x∈preG kd n h↔Dn kd h x):=by
 intro n
 induction n with
 | zero =>
  intro h x hn;have hk:=t.leaf (J1V.1 hn);simp only [preG,J3E]
  constructor
  ·rintro rfl;exact .here _
  ·intro d;cases d with
   | here=>rfl
   | down _ k _ hm _=>rw [hk] at hm;cases hm
 | succ n ih =>
  intro h x hn;simp only [preG,J1C,J1X,J1W]
  constructor
  ·rintro (rfl|⟨k,hk,hx⟩)
   ·exact .here _
   ·have:=t.dn h k hk;exact .down h k x hk ((ih k x (by omega)).1 hx)
  ·intro d;cases d with
   | here=>exact .inl rfl
   | down _ k _ hm hd =>
    have:=t.dn h k hm;exact .inr ⟨k,hm,(ih k x (by omega)).2 hd⟩
theorem Z1r (t:Fst3 kd rk) {h x:Int}:x∈preT kd rk h↔Dn kd h x:=Q5y t _ h x (J1x _)
theorem Dn.line (t:Fst3 kd rk) {a x:Int} (h:Dn kd a x):∀{b:Int},Dn kd b x->Dn kd a b∨Dn kd b a:=by
 -- the last step down to x
 have last:∀{a x:Int},Dn kd a x->x=a∨∃z,Dn kd a z/\x∈kd z:=by
  intro a x h
  induction h with
  | here=>exact .inl rfl
  | down h k y hk _ ih =>
   rcases ih with rfl|⟨z,h1,h2⟩
   ·exact .inr ⟨h,.here _,hk⟩
   ·exact .inr ⟨z,.down h k z hk h1,h2⟩
 have key:∀n a b x,rk a-rk x<=n->Dn kd a x->Dn kd b x->Dn kd a b∨Dn kd b a:=by
  intro n
  induction n with
  | zero =>
   intro a b x hn h k;rcases (h.rank t).2 with rfl|hlt
   ·exact .inr k
   ·omega
  | succ n ih =>
   intro a b x hn h k;rcases last h with rfl|⟨z,h1,h2⟩
   ·exact .inr k
   ·rcases last k with rfl|⟨z',k1,k2⟩
    ·exact .inl h
    ·have:z=z':=t.one z z' x h2 k2;subst this;have:=t.dn z x h2;have:=(h1.rank t).1;exact ih a b z (by omega) h1 k1
 intro b k;exact key _ a b x (J1x _) h k
theorem Dn.last {a x:Int} (h:Dn kd a x):x=a∨∃z,Dn kd a z/\x∈kd z:=by
 induction h with
 | here=>exact .inl rfl
 | down h k y hk _ ih =>
  rcases ih with rfl|⟨z,h1,h2⟩
  ·exact .inr ⟨h,.here _,hk⟩
  ·exact .inr ⟨z,.down h k z hk h1,h2⟩
theorem Q7c (t:Fst3 kd rk) {h a b x:Int} (ha:a∈kd h) (hb:b∈kd h) (hne:a≠b) (h1:Dn kd a x) (h2:Dn kd b x):False:=by
 have no:∀{a b:Int},a∈kd h->b∈kd h->a≠b->¬Dn kd a b:=by
  intro a b ha hb hne d;rcases d.last with e|⟨z,d1,d2⟩
  ·exact hne e.symm
  ·have:z=h:=t.one z h b d2 hb;subst this;have:=(d1.rank t).1;have:=t.dn z a ha;omega
 rcases h1.line t h2 with h|h
 ·exact no ha hb hne h
 ·exact no hb ha hne.symm h
theorem Z5k (t:Fst3 kd rk):∀n h,rk h<=n->(preG kd n h).Pairwise (fun a b=>a≠b/\¬Dn kd b a):=by
 intro n
 induction n with
 | zero=>intro h _;simp [preG]
 | succ n ih =>
  intro h hn;simp only [preG,J1Y,J1Z];refine⟨fun b hb=>?_,fun x hx=>?_,?_⟩
  ·obtain⟨k,hk,hb'⟩:=J1X.1 hb;have hk:=J1W.1 hk;have h1:=t.dn h k hk;have hd:=(Q5y t n k b (by omega)).1 hb';have h2:=(hd.rank t).1;refine⟨fun e=>by subst e;omega,fun d=>?_⟩;have:=(d.rank t).1;omega
  ·have:=t.dn h x (J1W.1 hx);exact ih x (by omega)
  ·rw [J2a];refine (t.nd h).imp_of_mem ?_;intro x1 x2 m1 m2 hne a ha b hb;have r1:=t.dn h x1 m1;have r2:=t.dn h x2 m2;have d1:=(Q5y t n x2 a (by omega)).1 ha;have d2:=(Q5y t n x1 b (by omega)).1 hb;refine⟨?_,fun d=>?_⟩
   ·rintro rfl;exact Q7c t m1 m2 hne d2 d1
   ·exact Q7c t m1 m2 hne (d2.trans d) d1
theorem Q5W (t:Fst3 kd rk) (h:Int):(preT kd rk h).Pairwise (fun a b=>a≠b/\¬Dn kd b a):=Z5k t _ h (J1x _)
theorem Q7d (t:Fst3 kd rk) {h x:Int}:x∈Q0G kd rk h↔Dn kd h x/\x≠h:=by
 have e:=Q3B t h;have hp:=Q5W t h;rw [e] at hp;obtain⟨h1,_⟩:=J1Y.1 hp;have hm:x∈preT kd rk h↔x=h∨x∈Q0G kd rk h:=by rw [e];simp
 rw [<- Z1r t,hm]
 constructor
 ·intro hx;exact⟨.inr hx,fun e=>(h1 x (by simpa using hx)).1 e.symm⟩
 ·rintro⟨h|h,hne⟩
  ·exact absurd h hne
  ·exact h
theorem Z2o (t:Fst3 kd rk) (h:Int):(Q0G kd rk h).Pairwise (fun a b=>a≠b/\¬Dn kd a b):=by
 have hp:=Q5W t h;rw [Q3B t h] at hp;have:=(J1Y.1 hp).2;rw [J2a] at this;exact this.imp fun ⟨h1,h2⟩=>⟨h1.symm,h2⟩
def Q8F (kd:Int->List Int) (rk:Int->Nat) (ws:List Int):List Int:=ws.reverse.flatMap (preT kd rk)
theorem Z2p (t:Fst3 kd rk) (ws:List Int) (x:Int):Q8F kd rk (ws++[x])=x::Q8F kd rk (ws++kd x):=by
 unfold Q8F;rw [J2d,J2d,J2e,J2f,J2f,J2g,Z0b t x];rfl
theorem Z5l (kd:Int->List Int) (rk:Int->Nat) (t:Fst3 kd rk) (ws:List Int):ws.length<=(Q8F kd rk ws).length:=by
 unfold Q8F;have:∀w:List Int,w.length<=(w.flatMap (preT kd rk)).length:=by
  intro w
  induction w with
  | nil=>simp
  | cons x r ih =>
   rw [J1U,J2h,J2i];have:0<(preT kd rk x).length:=by rw [Z0b t x];simp
   omega
 simpa using this ws.reverse
end
open Go.RowKit
abbrev SKV:=List ((Int×Int)×Value)
def Q2r (p:Int×Int):Value:=.agg #[.int .i64 p.1,.int .i64 p.2]
def Q3N (kv:SKV) (p:Int×Int):Option Value:=(kv.find? fun q=>decide (q.1=p)).map Prod.snd
def delS (kv:SKV) (p:Int×Int):SKV:=kv.filter fun q=>decide (q.1≠p)
def Q3g (w:World) (m:Nat) (kv:SKV):Prop:=MapIs w m (kv.map fun q=>(Q2r q.1,q.2))
def Q1H (P:Program) (K:TypeId) (p:Int×Int):Prop:=∃l,keyOf P K (Q2r p)=some l
theorem Z5m {p q:Int×Int} (h:Q2r p=Q2r q):p=q:=by
 unfold Q2r at h;simp at h;exact Prod.ext h.1 h.2
theorem Z5n:∀{kv:SKV} {p:Int×Int} {v:Value} {j:Nat},kv.Pairwise (fun a b=>a.1≠b.1)->kv[j]?=some (p,v)->Q3N kv p=some v/\kv.eraseIdx j=delS kv p
 | [],_,_,_,_,h=>by simp at h
 | q::r,p,v,0,hn,h=>by
  simp at h;subst h;obtain⟨h1,_⟩:=J1Y.1 hn;refine⟨by simp [Q3N],?_⟩;unfold delS;rw [J3K (by simp)]
  symm
  rw [List.eraseIdx_zero,List.tail_cons,J5E];intro a ha;have:=h1 a ha;simp;exact fun e=>this e.symm
 | q::r,p,v,j+1,hn,h=>by
  rw [J4J] at h;obtain⟨h1,h2⟩:=J1Y.1 hn;obtain⟨i1,i2⟩:=Z5n h2 h;have hne:q.1≠p:=h1 _ (J3L h);refine⟨?_,?_⟩
  ·unfold Q3N at i1 ⊢;rw [List.find?_cons_of_neg (by simpa using hne)];exact i1
  ·unfold delS at i2 ⊢;rw [J3J (by simpa using hne),J5F,i2]
theorem map_erase {α β:Type} (f:α->β):∀(l:List α) (j:Nat),(l.eraseIdx j).map f=(l.map f).eraseIdx j
 | [],_=>by simp
 | _::_,0=>rfl
 | x::r,j+1=>by rw [J5F,J1A,J1A,J5F,map_erase f r j]
theorem Q8G {kv:SKV} {p:Int×Int} (h:∀q∈kv,q.1≠p):Q3N kv p=none/\delS kv p=kv:=by
 refine⟨?_,?_⟩
 ·unfold Q3N;rw [J3q.2 (fun q hq=>by simpa using h q hq)];rfl
 ·unfold delS;rw [J5E];intro q hq
  simpa using h q hq
section
variable {P:Program} {K V:TypeId} {T:TypeId}
theorem Q5X (law:WideMaps.KeyLaw P K) (w:World) {es:List MapEntry} {kv:SKV} (hr:es.map (fun e=>(e.key,e.val))=kv.map fun q=>(Q2r q.1,q.2)) (hn:kv.Pairwise (fun a b=>a.1≠b.1)) (hk:∀q∈kv,Q1H P K q.1) {p:Int×Int} (hp:Q1H P K p) :
  ((Instr.findKey K (Q2r p) es).run P w=.ok none w/\Q3N kv p=none/\delS kv p=kv/\∀e∈es,e.key≠Q2r p) ∨
  ∃j v,(Instr.findKey K (Q2r p) es).run P w=.ok (some (j,v)) w/\Q3N kv p=some v/\j<es.length/\(es.eraseIdx j).map (fun e=>(e.key,e.val))=(delS kv p).map fun q=>(Q2r q.1,q.2):=by
 obtain⟨l,hl⟩:=hp;have hall:∀e∈es,∃l,keyOf P K e.key=some l:=fun e he=>by
  have hm:(e.key,e.val)∈kv.map fun q=>(Q2r q.1,q.2):=by rw [<- hr];exact J1D.2 ⟨e,he,rfl⟩
  obtain⟨q,hq,e1⟩:=J1D.1 hm;have:Q2r q.1=e.key:=((Prod.mk.injEq _ _ _ _).mp e1).1;rw [<- this];exact hk q hq
 rcases law.find w hl es hall with ⟨h1,h2⟩|⟨j,e,h1,h2,h3⟩
 ·left;have hno:∀q∈kv,q.1≠p:=fun q hq e=>by
   have hm:(Q2r q.1,q.2)∈es.map fun e=>(e.key,e.val):=by rw [hr];exact J1D.2 ⟨q,hq,rfl⟩
   obtain⟨x,hx,e1⟩:=J1D.1 hm;exact h2 x hx (by rw [((Prod.mk.injEq _ _ _ _).mp e1).1,e])
  exact⟨h1,(Q8G hno).1,(Q8G hno).2,h2⟩
 ·right;have hj:j<es.length:=(J1O.1 h2).1;have hkj:(kv.map fun q=>(Q2r q.1,q.2))[j]?=some (e.key,e.val):=by rw [<- hr,J3i,h2];rfl
  rw [J3i] at hkj;obtain⟨q,hq,e1⟩:=J5u.1 hkj;obtain⟨e2,e3⟩:=(Prod.mk.injEq _ _ _ _).mp e1;have hqp:q.1=p:=Z5m (e2.trans h3);have hq2:kv[j]?=some (p,e.val):=by rw [hq,<- hqp,<- e3]
  obtain⟨f1,f2⟩:=Z5n hn hq2;refine⟨j,e.val,h1,f1,hj,?_⟩;rw [<- f2,map_erase,map_erase,hr]
theorem Q5Y {w:World} {m:Nat} {kv:SKV} (h:Q3g w m kv) (law:WideMaps.KeyLaw P K) (hn:kv.Pairwise (fun a b=>a.1≠b.1)) (hk:∀q∈kv,Q1H P K q.1) {p:Int×Int} (hp:Q1H P K p) (ok:Bool) (z:Value) (hT:P.underlying T=some (.map K V)) (hz:(zeroValue V).run P w=.ok z w) :
  (Instr.lookup T (.map (some m)) (Q2r p) ok).run P w=.ok (if ok then .tuple #[(Q3N kv p).getD z,.bool (Q3N kv p).isSome] else (Q3N kv p).getD z) w:=by
 obtain⟨es,clock,hb,hs,hr⟩:=h;have hc:=fun em=>law.check w em hp.choose_spec
 unfold Instr.lookup;rcases Q5X law w hr hn hk hp with ⟨hf,hl,_,_⟩|⟨j,v,hf,hl,_,_⟩
 ·cases ok <;> simp [run_underlying hT,Result.andThen,Go.MapKept.run_getObj_map hb,hc,hf,hl,hz]
 ·cases ok <;> simp [run_underlying hT,Result.andThen,Go.MapKept.run_getObj_map hb,hc,hf,hl]
theorem Q4y {w:World} {m:Nat} {kv:SKV} (h:Q3g w m kv) (law:WideMaps.KeyLaw P K) (hn:kv.Pairwise (fun a b=>a.1≠b.1)) (hk:∀q∈kv,Q1H P K q.1) {p:Int×Int} (hp:Q1H P K p) (u:Value) (hno:Q3N kv p=none) (hT:P.underlying T=some (.map K V)) :
  ∃w',(Instr.mapUpdate T (.map (some m)) (Q2r p) u).run P w=.ok () w'/\Q3g w' m (kv++[(p,u)])/\w.grownBy w' (some m):=by
 obtain⟨es,clock,hb,hs,hr⟩:=h;have hc:=fun em=>law.check w em hp.choose_spec
 have hgr:∀o,w.grownBy {w with heap:=w.heap.setIfInBounds m o} (some m):=fun o=>⟨rfl,rfl,rfl,by simp,fun k _ hne=>by
  have:m≠k:=fun e=>hne (by rw [e])
  simp [this]⟩
 have hlt:=lt_of_block hb;unfold Instr.mapUpdate;rcases Q5X law w hr hn hk hp with ⟨hf,hl,_,hne⟩|⟨j,v,hf,hl,_,_⟩
 ·refine⟨{w with heap:=w.heap.setIfInBounds m (.map (es.push {key:=Q2r p,val:=u,born:=clock}) (clock+1))},?_,?_,hgr _⟩
  ·simp [run_underlying hT,Result.andThen,Go.MapKept.run_getObj_map hb,hc,hf,Go.MapKept.run_setObj_map _ hb]
  ·refine⟨es.push {key:=Q2r p,val:=u,born:=clock},clock+1,by simp [hlt],Go.MapKept.stamped_push hs (fun x hx=>hne x (by simpa using hx)),?_⟩;simp [hr]
 ·rw [hno] at hl;cases hl
theorem Q5Z {w:World} {m:Nat} {kv:SKV} (h:Q3g w m kv) (law:WideMaps.KeyLaw P K) (hn:kv.Pairwise (fun a b=>a.1≠b.1)) (hk:∀q∈kv,Q1H P K q.1) {p:Int×Int} (hp:Q1H P K p) (t1 t2:TypeId) (hT:P.underlying T=some (.map K V)) :
  ∃w',(Builtin.delete_ #[T,t1] t2 #[.map (some m),Q2r p]).run P w=.ok (.tuple #[]) w'/\Q3g w' m (delS kv p)/\w.grownBy w' (some m):=by
 obtain⟨es,clock,hb,hs,hr⟩:=h;have hc:=fun em=>law.check w em hp.choose_spec
 have hgr:∀o,w.grownBy {w with heap:=w.heap.setIfInBounds m o} (some m):=fun o=>⟨rfl,rfl,rfl,by simp,fun k _ hne=>by
  have:m≠k:=fun e=>hne (by rw [e])
  simp [this]⟩
 have hlt:=lt_of_block hb;unfold Builtin.delete_;rcases Q5X law w hr hn hk hp with ⟨hf,hl,hd,hne⟩|⟨j,v,hf,hl,hj,hd⟩
 ·refine⟨{w with heap:=w.heap.setIfInBounds m (.map es clock)},?_,?_,hgr _⟩
  ·simp [run_underlying hT,Result.andThen,Go.MapKept.run_getObj_map hb,hc,hf,Go.MapKept.run_setObj_map _ hb]
  ·refine⟨_,_,by simp [hlt],hs,?_⟩;rw [hd];exact hr
 ·refine⟨{w with heap:=w.heap.setIfInBounds m (.map (es.eraseIdxIfInBounds j) clock)},?_,?_,hgr _⟩
  ·simp [run_underlying hT,Result.andThen,Go.MapKept.run_getObj_map hb,hc,hf,Go.MapKept.run_setObj_map _ hb]
  ·refine⟨es.eraseIdxIfInBounds j,clock,by simp [hlt],Go.MapKept.stamped_erase hs _,?_⟩;rw [<- hd];have:j<es.size:=by simpa using hj
   simp [Array.eraseIdxIfInBounds,this]
end
structure Nd where
 sp:Int
 sl:Int
 par:Int
 ks:List Int
def mapE (f:En Nd->Nd) (N:List (En Nd)):List (En Nd):=N.map fun e=>{e with q:=f e}
theorem Q1p (f:En Nd->Nd) (N:List (En Nd)) (id:Int):find (mapE f N) id=(find N id).map fun e=>{e with q:=f e}:=by
 induction N with
 | nil=>rfl
 | cons x r ih =>
  by_cases h:id=x.id
  ·simp [mapE,find,h]
  ·have ih':find (r.map fun e=>{e with q:=f e}) id=_:=ih;simp [mapE,find,h,ih']
theorem Q1q {f:En Nd->Nd} {N:List (En Nd)} {x:En Nd} (h:x∈mapE f N):∃e∈N,x={e with q:=f e}:=by
 obtain⟨e,he,rfl⟩:=J1D.1 h;exact⟨e,he,rfl⟩
theorem Z0c {f:En Nd->Nd} {N:List (En Nd)} (h:∀e∈N,f e=e.q):mapE f N=N:=by
 unfold mapE
 conv=>rhs;rw [<- List.map_id N]
 exact J3G fun e he=>by rw [h e he];rfl
theorem Q6a (f g:En Nd->Nd) (N:List (En Nd)):mapE g (mapE f N)=mapE (fun e=>g {e with q:=f e}) N:=by
 unfold mapE;rw [J3F];rfl
theorem Q4Y {f g:En Nd->Nd} {N:List (En Nd)} (h:∀e∈N,f e=g e):mapE f N=mapE g N:=by
 unfold mapE;exact J3G fun e he=>by rw [h e he]
theorem Q2a {f:En Nd->Nd} {N:List (En Nd)} {R:En Nd->En Nd->Prop} (h:∀a b,R a b->R {a with q:=f a} {b with q:=f b}) (hp:N.Pairwise R):(mapE f N).Pairwise R:=by
 unfold mapE;rw [J2c];exact hp.imp fun {a b} hab=>h a b hab
theorem Q2C {N:List (En Nd)} (hids:N.Pairwise (fun a b=>a.id≠b.id)) (id:Int):∀x,x∈rem N id↔x∈N/\x.id≠id:=by
 induction N with
 | nil=>simp [rem]
 | cons y r ih =>
  obtain⟨h1,h2⟩:=J1Y.1 hids;intro x;by_cases hk:id=y.id
  ·subst hk;simp only [rem,if_true,J1C]
   constructor
   ·intro hx;exact⟨.inr hx,fun e=>h1 x hx e.symm⟩
   ·rintro⟨rfl|hx,hne⟩
    ·exact absurd rfl hne
    ·exact hx
  ·simp only [rem,hk,if_false,J1C];rw [ih h2 x]
   constructor
   ·rintro (rfl|⟨hx,hne⟩)
    ·exact⟨.inl rfl,fun e=>hk e.symm⟩
    ·exact⟨.inr hx,hne⟩
   ·rintro⟨rfl|hx,hne⟩
    ·exact .inl rfl
    ·exact .inr ⟨hx,hne⟩
structure NOk (N:List (En Nd)) (next:Int):Prop where
 ids:N.Pairwise (fun a b=>a.id≠b.id)
 spots:N.Pairwise (fun a b=>(a.q.sp,a.q.sl)≠(b.q.sp,b.q.sl))
 next0:0<=next
 rng:∀e∈N,1<=e.id/\e.id<=next
 sm:∀e∈N,0<=e.q.sp/\e.q.sp<4294967296/\0<=e.q.sl/\e.q.sl<256
 par:∀e∈N,0<=e.q.par/\(e.q.par≠0->∃p,find N e.q.par=some p/\e.id∈p.q.ks)
 kids:∀p∈N,∀k∈p.q.ks,∃e,find N k=some e/\e.q.par=p.id
 nd:∀p∈N,p.q.ks.Nodup
 rise:∀e∈N,e.q.par<e.id
theorem Q0j {N:List (En Nd)} (hids:N.Pairwise (fun a b=>a.id≠b.id)) {e:En Nd} (h:e∈N):find N e.id=some e:=by
 induction N with
 | nil=>cases h
 | cons x r ih =>
  obtain⟨h1,h2⟩:=J1Y.1 hids;rcases J1C.1 h with rfl|h
  ·simp [find]
  ·have hne:¬e.id=x.id:=fun e'=>h1 e h e'.symm
   simp only [find,hne,if_false];exact ih h2 h
theorem Q4a {N:List (En Nd)} {next:Int} (ok:NOk N next) {a b:En Nd} (ha:a∈N) (hb:b∈N) (h1:a.q.sp=b.q.sp) (h2:a.q.sl=b.q.sl):a=b:=by
 obtain⟨i,hi⟩:=J4l.1 ha;obtain⟨j,hj⟩:=J4l.1 hb;obtain⟨i1,i2⟩:=J1O.1 hi;obtain⟨j1,j2⟩:=J1O.1 hj;rcases J4y i j with h|h|h
 ·have:=J4z.1 ok.spots i j i1 j1 h;rw [i2,j2] at this;exact absurd (Prod.ext h1 h2) this
 ·subst h;rw [<- i2,<- j2]
 ·have:=J4z.1 ok.spots j i j1 i1 h;rw [i2,j2] at this;exact absurd (Prod.ext h1.symm h2.symm) this
def kdF (N:List (En Nd)) (id:Int):List Int:=match find N id with
 | some e=>e.q.ks
 | none=>[]
def rkF (next:Int) (id:Int):Nat:=(next+1-id).toNat
theorem NOk.tree {N:List (En Nd)} {next:Int} (ok:NOk N next):Fst3 (kdF N) (rkF next):=by
 have get:∀{h x},x∈kdF N h->∃p e,find N h=some p/\x∈p.q.ks/\find N x=some e/\e.q.par=p.id/\p.id=h:=by
  intro h x hx;unfold kdF at hx;cases hf:find N h with
  | none=>rw [hf] at hx;cases hx
  | some p =>
   rw [hf] at hx;obtain⟨e,h1,h2⟩:=ok.kids p (Q0b hf).1 x hx;exact⟨p,e,rfl,hx,h1,h2,(Q0b hf).2⟩
 refine⟨fun h x hx=>?_,fun a b x ha hb=>?_,fun h=>?_⟩
 ·obtain⟨p,e,h1,h2,h3,h4,h5⟩:=get hx;obtain⟨e1,e2⟩:=Q0b h3;have:=ok.rise e e1;have:=ok.rng e e1;unfold rkF;omega
 ·obtain⟨p,e,h1,h2,h3,h4,h5⟩:=get ha;obtain⟨p',e',h1',h2',h3',h4',h5'⟩:=get hb;rw [h3] at h3';cases h3';omega
 ·unfold kdF;cases hf:find N h with
  | none=>simp
  | some p=>exact ok.nd p (Q0b hf).1
theorem NOk.zero {N:List (En Nd)} {next:Int} (ok:NOk N next):find N 0=none:=by
 cases hf:find N 0 with
 | none=>rfl
 | some e =>
  obtain⟨h1,h2⟩:=Q0b hf;have:=ok.rng e h1;omega
def addN (N:List (En Nd)) (par:Int) (k:Int) (b:Nat) (sp sl:Int):List (En Nd):=mapE (fun c=>if c.id=par then {c.q with ks:=c.q.ks++[k]} else c.q) N++[⟨k,b,⟨sp,sl,par,[]⟩⟩]
theorem Q7R (N:List (En Nd)) (x:En Nd) (id:Int):find (N++[x]) id=(find N id).or (if id=x.id then some x else none):=by
 rw [Q1W];cases find N id <;> rfl
theorem NOk.add {N:List (En Nd)} {next:Int} (ok:NOk N next) {par sp sl:Int} (b:Nat) (hp:par=0∨∃p,find N par=some p) (hno:∀e∈N,(e.q.sp,e.q.sl)≠(sp,sl)) (h1:0<=sp) (h2:sp<4294967296) (h3:0<=sl) (h4:sl<256):NOk (addN N par (next+1) b sp sl) (next+1):=by
 have hn0:=ok.next0;have hnew:find N (next+1)=none:=by
  cases hf:find N (next+1) with
  | none=>rfl
  | some e =>
   obtain⟨e1,e2⟩:=Q0b hf;have:=ok.rng e e1;omega
 have hpr:0<=par/\par<=next:=by
  rcases hp with rfl|⟨p,hp⟩
  ·omega
  ·obtain⟨e1,e2⟩:=Q0b hp;have:=ok.rng p e1;omega
 have hfind:∀id,find (addN N par (next+1) b sp sl) id=if id=next+1 then some ⟨next+1,b,⟨sp,sl,par,[]⟩⟩ else (find N id).map fun c=>{c with q:=if c.id=par then {c.q with ks:=c.q.ks++[next+1]} else c.q}:=fun id=>by
  unfold addN;rw [Q7R,Q1p];by_cases h:id=next+1
  ·subst h;rw [hnew];simp
  ·cases hf:find N id with
   | none=>simp [h]
   | some e=>simp [h]
 have hmem:∀{x},x∈addN N par (next+1) b sp sl->(∃e∈N,x={e with q:=if e.id=par then {e.q with ks:=e.q.ks++[next+1]} else e.q})∨x=⟨next+1,b,⟨sp,sl,par,[]⟩⟩:=fun {x} hx=>by
  rcases J2l.1 hx with hx|hx
  ·exact .inl (Q1q hx)
  ·exact .inr (J3E.1 hx)
 refine⟨?_,?_,by omega,fun x hx=>?_,fun x hx=>?_,fun x hx=>?_,fun x hx k hk=>?_,fun x hx=>?_,fun x hx=>?_⟩
 ·unfold addN;rw [J2k];refine⟨Q2a (fun a b h=>h) ok.ids,by simp,fun x hx y hy=>?_⟩;obtain⟨e,he,rfl⟩:=Q1q hx;rw [J3E] at hy;subst hy;have:=ok.rng e he;show e.id≠next+1;omega
 ·unfold addN;rw [J2k];refine⟨Q2a (fun a b h=>?_) ok.spots,by simp,fun x hx y hy=>?_⟩
  ·have e1:∀c:En Nd,(if c.id=par then ({c.q with ks:=c.q.ks++[next+1]}:Nd) else c.q).sp=c.q.sp/\(if c.id=par then ({c.q with ks:=c.q.ks++[next+1]}:Nd) else c.q).sl=c.q.sl:=fun c=>by split <;> exact⟨rfl,rfl⟩
   show ((if a.id=par then ({a.q with ks:=a.q.ks++[next+1]}:Nd) else a.q).sp,_)≠_;rw [(e1 a).1,(e1 a).2,(e1 b).1,(e1 b).2];exact h
  ·obtain⟨e,he,rfl⟩:=Q1q hx;rw [J3E] at hy;subst hy;have:=hno e he;show ((if e.id=par then ({e.q with ks:=e.q.ks++[next+1]}:Nd) else e.q).sp,(if e.id=par then ({e.q with ks:=e.q.ks++[next+1]}:Nd) else e.q).sl)≠_;split <;> exact this
 ·rcases hmem hx with ⟨e,he,rfl⟩|rfl
  ·have:=ok.rng e he;exact⟨this.1,by show e.id<=_;omega⟩
  ·exact⟨by show 1<=next+1;omega,J5B _⟩
 ·rcases hmem hx with ⟨e,he,rfl⟩|rfl
  ·have:=ok.sm e he;simp only;split <;> exact this
  ·exact⟨h1,h2,h3,h4⟩
 ·have key:∀e∈N,∀pr:Int,pr=e.q.par->0<=pr/\(pr≠0->∃p,find (addN N par (next+1) b sp sl) pr=some p/\e.id∈p.q.ks):=fun e he pr hpr'=>by
   subst hpr';obtain⟨q1,q2⟩:=ok.par e he;refine⟨q1,fun h0=>?_⟩;obtain⟨p,hp,hk⟩:=q2 h0;obtain⟨p1,p2⟩:=Q0b hp;have:=ok.rng p p1;refine⟨_,by rw [hfind,if_neg (by omega),hp];rfl,?_⟩;simp only;split
   ·exact J2s _ hk
   ·exact hk
  rcases hmem hx with ⟨e,he,rfl⟩|rfl
  ·exact key e he _ (by simp only;split <;> rfl)
  ·refine⟨hpr.1,fun h0=>?_⟩;have h0':par≠0:=h0;obtain⟨p,hp⟩:=hp.resolve_left h0';obtain⟨p1,p2⟩:=Q0b hp;refine⟨_,by rw [hfind,if_neg (by show par≠_;omega)];show (find N par).map _=_;rw [hp];rfl,?_⟩;simp only [p2,if_true];exact J2r _ (by simp)
 ·have old:∀e∈N,∀k∈e.q.ks,∃c,find (addN N par (next+1) b sp sl) k=some c/\c.q.par=e.id:=fun e he k hk=>by
   obtain⟨c,hc,hcp⟩:=ok.kids e he k hk;obtain⟨c1,c2⟩:=Q0b hc;have:=ok.rng c c1;refine⟨_,by rw [hfind,if_neg (by omega),hc];rfl,?_⟩;simp only;split <;> exact hcp
  rcases hmem hx with ⟨e,he,rfl⟩|rfl
  ·by_cases hep:e.id=par
   ·have hk':k∈e.q.ks++[next+1]:=by
     have:=hk;simp only [hep,if_true] at this;exact this
    rcases J2l.1 hk' with hk'|hk'
    ·exact old e he k hk'
    ·rw [J3E] at hk';subst hk';exact⟨_,by rw [hfind,if_pos rfl],hep.symm⟩
   ·have hk':k∈e.q.ks:=by
     have:=hk;simp only [hep,if_false] at this;exact this
    exact old e he k hk'
  ·cases hk
 ·rcases hmem hx with ⟨e,he,rfl⟩|rfl
  ·have hnd:=ok.nd e he;simp only;split
   ·show (e.q.ks++[next+1]).Nodup;rw [J2q];refine⟨hnd,by simp,fun a ha b' hb'=>?_⟩;rw [J3E] at hb';subst hb';obtain⟨c,hc,_⟩:=ok.kids e he a ha;obtain⟨c1,c2⟩:=Q0b hc;have:=ok.rng c c1;omega
   ·exact hnd
  ·exact J5A
 ·rcases hmem hx with ⟨e,he,rfl⟩|rfl
  ·have:=ok.rise e he;simp only;split <;> exact this
  ·show par<next+1;omega
def Q0t (e:En Nd) (j:Nat) (c:En Nd):Nd:=
 {c.q with par:=if c.id∈e.q.ks.take j then e.q.par else c.q.par,ks:=if c.id=e.q.par then c.q.ks.filter (fun k=>decide (k≠e.id))++e.q.ks.take j else c.q.ks}
def Q0B (N:List (En Nd)) (e:En Nd) (j:Nat):List (En Nd):=mapE (Q0t e j) (rem N e.id)
theorem NOk.rem_find {N:List (En Nd)} {next:Int} (ok:NOk N next) (e:En Nd) (id:Int):find (rem N e.id) id=if id=e.id then none else find N id:=Q2i ok.ids e.id id
theorem NOk.lift {N:List (En Nd)} {next:Int} (ok:NOk N next) {e:En Nd} (he:find N e.id=some e):NOk (Q0B N e e.q.ks.length) next:=by
 obtain⟨hem,_⟩:=Q0b he;have herng:=ok.rng e hem;have herise:=ok.rise e hem;have hpar:=ok.par e hem;have htk:e.q.ks.take e.q.ks.length=e.q.ks:=J5G;have hL:∀c,Q0t e e.q.ks.length c={c.q with par:=if c.id∈e.q.ks then e.q.par else c.q.par,ks:=if c.id=e.q.par then c.q.ks.filter (fun k=>decide (k≠e.id))++e.q.ks else c.q.ks}:=fun c=>by unfold Q0t;rw [htk]
 have hfind:∀id,find (Q0B N e e.q.ks.length) id=if id=e.id then none else (find N id).map fun c=>{c with q:=Q0t e e.q.ks.length c}:=fun id=>by
  unfold Q0B;rw [Q1p,ok.rem_find];split <;> rfl
 have hmem:∀{x},x∈Q0B N e e.q.ks.length->∃c∈N,c.id≠e.id/\x={c with q:=Q0t e e.q.ks.length c}:=fun {x} hx=>by
  obtain⟨c,hc,rfl⟩:=Q1q hx;obtain⟨h1,h2⟩:=(Q2C ok.ids e.id c).1 hc;exact⟨c,h1,h2,rfl⟩
 -- whose child is whose
 have hkid:∀c∈N,(c.id∈e.q.ks↔c.q.par=e.id):=fun c hc=>by
  constructor
  ·intro h;obtain⟨d,hd,hdp⟩:=ok.kids e hem c.id h;rw [Q0j ok.ids hc] at hd;cases hd;exact hdp
  ·intro h;obtain⟨p,hp,hk⟩:=(ok.par c hc).2 (by omega);rw [h,he] at hp;cases hp;exact hk
 have hsub:(rem N e.id).Sublist N:=Q1y N e.id;refine⟨Q2a (fun a b h=>h) (ok.ids.sublist hsub),Q2a (fun a b h=>h) (ok.spots.sublist hsub),ok.next0,fun x hx=>?_,fun x hx=>?_,fun x hx=>?_,fun x hx k hk=>?_,fun x hx=>?_,fun x hx=>?_⟩
 ·obtain⟨c,hc,_,rfl⟩:=hmem hx;exact ok.rng c hc
 ·obtain⟨c,hc,_,rfl⟩:=hmem hx;exact ok.sm c hc
 ·obtain⟨c,hc,hne,rfl⟩:=hmem hx;show 0<=(Q0t e e.q.ks.length c).par/\((Q0t e e.q.ks.length c).par≠0->_);rw [hL];simp only;by_cases hce:c.id∈e.q.ks
  ·rw [if_pos hce];refine⟨hpar.1,fun h0=>?_⟩;obtain⟨p,hp,hk⟩:=hpar.2 h0;obtain⟨p1,p2⟩:=Q0b hp;refine⟨_,by rw [hfind,if_neg (by omega),hp];rfl,?_⟩;show c.id∈(Q0t e e.q.ks.length p).ks;rw [hL];simp only [p2,if_true];exact J2r _ hce
  ·rw [if_neg hce];obtain⟨q1,q2⟩:=ok.par c hc;refine⟨q1,fun h0=>?_⟩;obtain⟨p,hp,hk⟩:=q2 h0;have hpe:c.q.par≠e.id:=fun h=>hce ((hkid c hc).2 h)
   refine⟨_,by rw [hfind,if_neg hpe,hp];rfl,?_⟩;show c.id∈(Q0t e e.q.ks.length p).ks;rw [hL];simp only;split
   ·exact J2s _ (J1R.2 ⟨hk,by simpa using hne⟩)
   ·exact hk
 ·obtain⟨c,hc,hne,rfl⟩:=hmem hx;have hk':k∈(Q0t e e.q.ks.length c).ks:=hk;rw [hL] at hk';simp only at hk';have fromC:k∈c.q.ks->k≠e.id->∃d,find (Q0B N e e.q.ks.length) k=some d/\d.q.par=c.id:=fun h1 h2=>by
   obtain⟨d,hd,hdp⟩:=ok.kids c hc k h1;obtain⟨d1,d2⟩:=Q0b hd;refine⟨_,by rw [hfind,if_neg h2,hd];rfl,?_⟩;show (Q0t e e.q.ks.length d).par=c.id;rw [hL];simp only;rw [if_neg (fun h=>hne (by rw [<- hdp];exact (hkid d d1).1 h))];exact hdp
  split at hk'
  ·rename_i hcp;rcases J2l.1 hk' with hk'|hk'
   ·obtain⟨h1,h2⟩:=J1R.1 hk';exact fromC h1 (by simpa using h2)
   ·obtain⟨d,hd,hdp⟩:=ok.kids e hem k hk';obtain⟨d1,d2⟩:=Q0b hd;have:=ok.rise d d1;refine⟨_,by rw [hfind,if_neg (by omega),hd];rfl,?_⟩;show (Q0t e e.q.ks.length d).par=c.id;rw [hL];simp only;rw [if_pos (by rw [d2];exact hk'),hcp]
  ·refine fromC hk' fun h=>?_
   rename_i hcp;obtain⟨d,hd,hdp⟩:=ok.kids c hc k hk';rw [h,he] at hd;cases hd;exact hcp hdp.symm
 ·obtain⟨c,hc,hne,rfl⟩:=hmem hx;show (Q0t e e.q.ks.length c).ks.Nodup;rw [hL];simp only;split
  ·rw [J2q];refine⟨(ok.nd c hc).filter _,ok.nd e hem,fun a ha b hb hab=>?_⟩;subst hab;obtain⟨d,hd,hdp⟩:=ok.kids c hc a (J1R.1 ha).1;obtain⟨d',hd',hdp'⟩:=ok.kids e hem a hb;rw [hd] at hd';cases hd';omega
  ·exact ok.nd c hc
 ·obtain⟨c,hc,hne,rfl⟩:=hmem hx;show (Q0t e e.q.ks.length c).par<c.id;rw [hL];simp only;split
  ·rename_i h;have:=(hkid c hc).1 h;have:=ok.rise c hc;omega
  ·exact ok.rise c hc
def Q0f (l:List Pl) (tb:Nat->TB) (h s:Nat):Option Ent:=match pget l 1 h with
 | some p=>if p.kind=2/\s<256 then (tb (h%256)).en s else none
 | none=>none
theorem Q1T {l:List Pl} {tb:Nat->TB} {h s:Nat} {e:Ent} (x:Q0f l tb h s=some e):∃p,pget l 1 h=some p/\p.kind=2/\s<256/\(tb (h%256)).en s=some e:=by
 unfold Q0f at x;cases hp:pget l 1 h with
 | none=>rw [hp] at x;cases x
 | some p =>
  rw [hp] at x;simp only at x;split at x
  ·rename_i hc;exact⟨p,rfl,hc.1,hc.2,x⟩
  ·cases x
theorem Q0g {l:List Pl} {tb:Nat->TB} {h s:Nat} {p:Pl} (hp:pget l 1 h=some p) (hk:p.kind=2) (hs:s<256):Q0f l tb h s=(tb (h%256)).en s:=by
 unfold Q0f;rw [hp];simp only;rw [if_pos ⟨hk,hs⟩]
structure Q6E (l:List Pl) (s:Nat) (e:Ent):Prop where
 live:∃q,pget l 1 e.h=some q/\(q.kind=8↔128<=s)
 r:1<=e.r/\e.r<=15
def Q0H (l:List Pl) (tb:Nat->TB) (n:En Nd):Option Ent:=Q0f l tb n.q.sp.toNat n.q.sl.toNat
structure FPI (l:List Pl) (tb:Nat->TB) (N:List (En Nd)):Prop where
 cap:∀h s e,Q0f l tb h s=some e->Q6E l s e
 has:∀h s e,Q0f l tb h s=some e->∃n∈N,n.q.sp=(h:Int)/\n.q.sl=(s:Int)
 is:∀n∈N,∃e,Q0H l tb n=some e
 up:∀n∈N,∀m,find N n.q.par=some m->∀e e',Q0H l tb n=some e->Q0H l tb m=some e'->e.h=e'.h/\e.r&&&e'.r=e.r
theorem Q3C {l:List Pl} {tb:Nat->TB} {h s:Nat} {p:Pl} (hp:pget l 1 h=some p) (hk:p.kind=2) (hs:s<256) {t':TB} {o:Option Ent} (ht:∀x,t'.en x=if x=s then o else (tb (h%256)).en x) (h' s':Nat) :
  Q0f l (updT tb (h%256) t') h' s'=if h'=h/\s'=s then o else Q0f l tb h' s':=by
 unfold Q0f;cases hp':pget l 1 h' with
 | none =>
  simp only;rw [if_neg];rintro⟨rfl,_⟩;rw [hp] at hp';cases hp'
 | some q =>
  simp only;by_cases e:h'%256=h%256
  ·obtain⟨e1,e2,_⟩:=Q0P hp' hp e;subst e1;subst e2;rw [updT_same];by_cases hc:q.kind=2/\s'<256
   ·rw [if_pos hc,if_pos hc,ht];by_cases es:s'=s
    ·rw [if_pos es,if_pos ⟨rfl,es⟩]
    ·rw [if_neg es,if_neg (fun h=>es h.2)]
   ·rw [if_neg hc,if_neg hc,if_neg];rintro⟨_,rfl⟩;exact hc ⟨hk,hs⟩
  ·have hn:¬(h'=h/\s'=s):=fun x=>e (by rw [x.1])
   rw [Q0V e,if_neg hn]
theorem Q7e {l l':List Pl} {s:Nat} {e:Ent} (c:Q6E l s e) (h:∀q,pget l 1 e.h=some q->∃q',pget l' 1 e.h=some q'/\q'.kind=q.kind):Q6E l' s e:=by
 obtain⟨q,h1,h2⟩:=c.live;obtain⟨q',h3,h4⟩:=h q h1;exact⟨⟨q',h3,by rw [h4];exact h2⟩,c.r⟩
theorem FPI.same {l l':List Pl} {tb:Nat->TB} {N:List (En Nd)} (f:FPI l tb N) (he:∀h s,Q0f l' tb h s=Q0f l tb h s) (hl:∀h s e,Q0f l tb h s=some e->∀q,pget l 1 e.h=some q->∃q',pget l' 1 e.h=some q'/\q'.kind=q.kind):FPI l' tb N:=by
 have ho:∀n,Q0H l' tb n=Q0H l tb n:=fun n=>he _ _
 refine⟨fun h s e x=>?_,fun h s e x=>?_,fun n hn=>?_,fun n hn m hm e e' x y=>?_⟩
 ·rw [he] at x;exact Q7e (f.cap h s e x) (hl h s e x)
 ·rw [he] at x;exact f.has h s e x
 ·rw [ho];exact f.is n hn
 ·rw [ho] at x y;exact f.up n hn m hm e e' x y
theorem FPI.made {l:List Pl} {tb:Nat->TB} {N:List (En Nd)} (f:FPI l tb N) {i:Nat} {p q:Pl} (hi:l[i]?=some p) (hp:p.st=0) (hn:(tb i).Nil):FPI (l.set i q) tb N:=by
 have hpg:∀x r,pget l 1 x=some r->pget (l.set i q) 1 x=some r:=fun x r hr=>by
  obtain⟨a,b,c⟩:=pget_some.1 hr;rw [Q0z q hi,if_neg]
  ·exact hr
  ·intro e;rw [e,hi] at a;cases a;omega
 refine f.same (fun h s=>?_) (fun h s e x r hr=>⟨r,hpg _ _ hr,rfl⟩);by_cases e:h%256=i
 ·have z:∀l',Q0f l' tb h s=none:=fun l'=>by
   unfold Q0f;split
   ·split
    ·rename_i hc;rw [e];exact hn.2 s hc.2
    ·rfl
   ·rfl
  rw [z,z]
 ·unfold Q0f;rw [Q0z q hi,if_neg e]
theorem FPI.doomed {l:List Pl} {tb:Nat->TB} {N:List (En Nd)} (f:FPI l tb N) {h:Nat} {p:Pl} (hp:pget l 1 h=some p) (hn:(tb (h%256)).Nil) (hno:∀h' s e,Q0f l tb h' s=some e->e.h≠h):FPI (l.set (h%256) {p with st:=2}) tb N:=by
 obtain⟨hi,hnm,_⟩:=pget_some.1 hp;refine f.same (fun h' s=>?_) (fun h' s e x r hr=>⟨r,?_,rfl⟩)
 ·by_cases e:h'%256=h%256
  ·have z:∀l',Q0f l' tb h' s=none:=fun l'=>by
    unfold Q0f;split
    ·split
     ·rename_i hc;rw [e];exact hn.2 s hc.2
     ·rfl
    ·rfl
   rw [z,z]
  ·unfold Q0f;rw [Q0z _ hi,if_neg e]
 ·have hne:=hno h' s e x;rw [Q0z _ hi,if_neg]
  ·exact hr
  ·intro e1;exact hne (Q0P hr hp e1).1
theorem FPI.live {l l':List Pl} {tb:Nat->TB} {N:List (En Nd)} (f:FPI l tb N) (h:∀x,pget l' 1 x=pget l 1 x):FPI l' tb N:=
 f.same (fun h' s=>by unfold Q0f;rw [h]) (fun _ _ e _ q hq=>⟨q,by rw [h];exact hq,rfl⟩)
section
variable {l:List Pl} {tb:Nat->TB} {N:List (En Nd)} {next:Int} {h s:Nat} {p:Pl}
theorem Q4z {par sp sl:Int} {b:Nat} (ok:NOk N next) (id:Int):find (addN N par (next+1) b sp sl) id=if id=next+1 then some ⟨next+1,b,⟨sp,sl,par,[]⟩⟩ else (find N id).map fun c=>{c with q:=if c.id=par then {c.q with ks:=c.q.ks++[next+1]} else c.q}:=by
 have hnew:find N (next+1)=none:=by
  cases hf:find N (next+1) with
  | none=>rfl
  | some e =>
   obtain⟨e1,e2⟩:=Q0b hf;have:=ok.rng e e1;omega
 unfold addN;rw [Q7R,Q1p];by_cases h:id=next+1
 ·subst h;rw [hnew];simp
 ·cases hf:find N id with
  | none=>simp [h]
  | some e=>simp [h]
theorem Z2q {l:List Pl} {tb:Nat->TB} (n m:En Nd) (h1:n.q.sp=m.q.sp) (h2:n.q.sl=m.q.sl):Q0H l tb n=Q0H l tb m:=by unfold Q0H;rw [h1,h2]
theorem Z5o (e:En Nd) (par k:Int):(if e.id=par then ({e.q with ks:=e.q.ks++[k]}:Nd) else e.q).sp=e.q.sp/\(if e.id=par then ({e.q with ks:=e.q.ks++[k]}:Nd) else e.q).sl=e.q.sl/\(if e.id=par then ({e.q with ks:=e.q.ks++[k]}:Nd) else e.q).par=e.q.par:=by
 split <;> exact⟨rfl,rfl,rfl⟩
theorem FPI.add (f:FPI l tb N) (ok:NOk N next) (hp:pget l 1 h=some p) (hk:p.kind=2) (hs:s<256) (h0:Q0f l tb h s=none) {t':TB} {e:Ent} (ht:∀x,t'.en x=if x=s then some e else (tb (h%256)).en x) (hc:Q6E l s e) {par:Int} (b:Nat)
  (hpar:par=0∨∃m em,find N par=some m/\Q0H l tb m=some em/\e.h=em.h/\e.r&&&em.r=e.r):FPI l (updT tb (h%256) t') (addN N par (next+1) b (h:Int) (s:Int)):=by
 have ha:=Q3C hp hk hs ht;have hne:∀n∈N,¬(n.q.sp.toNat=h/\n.q.sl.toNat=s):=fun n hn ⟨h1,h2⟩=>by
  obtain⟨e1,he1⟩:=f.is n hn;unfold Q0H at he1;rw [h1,h2,h0] at he1;cases he1
 have hold:∀n∈N,Q0H l (updT tb (h%256) t') n=Q0H l tb n:=fun n hn=>by
  unfold Q0H;rw [ha,if_neg (hne n hn)]
 have hmem:∀{x},x∈addN N par (next+1) b (h:Int) (s:Int)->(∃n∈N,x={n with q:=if n.id=par then {n.q with ks:=n.q.ks++[next+1]} else n.q})∨x=⟨next+1,b,⟨(h:Int),(s:Int),par,[]⟩⟩:=fun {x} hx=>by
  rcases J2l.1 hx with hx|hx
  ·exact .inl (Q1q hx)
  ·exact .inr (J3E.1 hx)
 have hoq:∀n∈N,Q0H l (updT tb (h%256) t') {n with q:=if n.id=par then {n.q with ks:=n.q.ks++[next+1]} else n.q}=Q0H l tb n:=fun n hn=>by
  rw [<- hold n hn];obtain⟨q1,q2,_⟩:=Z5o n par (next+1);exact Z2q _ _ q1 q2
 have hnew:Q0H l (updT tb (h%256) t') ⟨next+1,b,⟨(h:Int),(s:Int),par,[]⟩⟩=some e:=by
  unfold Q0H;rw [ha,if_pos ⟨by simp,by simp⟩]
 refine⟨fun h' s' x hx=>?_,fun h' s' x hx=>?_,fun n hn=>?_,fun n hn m hm x y hx hy=>?_⟩
 ·rw [ha] at hx;split at hx
  ·rename_i hc';cases hx;rw [hc'.2];exact hc
  ·exact f.cap h' s' x hx
 ·rw [ha] at hx;split at hx
  ·rename_i hc';exact⟨_,J2r _ (J3E.2 rfl),by rw [hc'.1],by rw [hc'.2]⟩
  ·obtain⟨n,hn,h1,h2⟩:=f.has h' s' x hx;obtain⟨q1,q2,_⟩:=Z5o n par (next+1);exact⟨_,J2s _ (J1D.2 ⟨n,hn,rfl⟩),q1.trans h1,q2.trans h2⟩
 ·rcases hmem hn with ⟨c,hc',rfl⟩|rfl
  ·rw [hoq c hc'];exact f.is c hc'
  ·exact⟨e,hnew⟩
 ·-- the parent,in the old row
  have old:∀c,find N c.id=some c->∀m,find (addN N par (next+1) b (h:Int) (s:Int)) c.q.par=some m->find N c.q.par=none->False:=fun c hcf m hm hnn=>by
   rw [Q4z ok] at hm;split at hm
   ·rename_i e1;obtain⟨c1,_⟩:=Q0b hcf;have:=ok.rise c c1;have:=ok.rng c c1;omega
   ·rw [hnn] at hm;cases hm
  rcases hmem hn with ⟨c,hc',rfl⟩|rfl
  ·obtain⟨_,_,q3⟩:=Z5o c par (next+1);have hm':find (addN N par (next+1) b (h:Int) (s:Int)) c.q.par=some m:=by rw [<- q3];exact hm
   rw [hoq c hc'] at hx;have hcr:=ok.rng c hc';have hcs:=ok.rise c hc';rw [Q4z ok,if_neg (by omega)] at hm';obtain⟨m0,hm0,rfl⟩:=J5u.1 hm';rw [hoq m0 (Q0b hm0).1] at hy;exact f.up c hc' m0 hm0 x y hx hy
  ·rw [hnew] at hx;cases hx;have hm':find (addN N par (next+1) b (h:Int) (s:Int)) par=some m:=hm;rcases hpar with rfl|⟨m1,em,g1,g2,g3,g4⟩
   ·rw [Q4z ok,if_neg (by have:=ok.next0;omega),ok.zero] at hm';cases hm'
   ·have:=ok.rng m1 (Q0b g1).1;have e2:=(Q0b g1).2;rw [Q4z ok,if_neg (by omega),g1] at hm';cases hm';rw [hoq m1 (Q0b g1).1,g2] at hy;cases hy;exact⟨g3,g4⟩
theorem FPI.weak (f:FPI l tb N) (ok:NOk N next) (hp:pget l 1 h=some p) (hk:p.kind=2) (hs:s<256) {e e2:Ent} (h0:Q0f l tb h s=some e) {t':TB} (ht:∀x,t'.en x=if x=s then some e2 else (tb (h%256)).en x) (hh:e2.h=e.h) (hr:1<=e2.r/\e2.r<=15) (hsub:e2.r&&&e.r=e2.r)
  (hch:∀n∈N,∀m,find N n.q.par=some m->m.q.sp=(h:Int)->m.q.sl=(s:Int)->∀x,Q0H l tb n=some x->x.r&&&e2.r=x.r):FPI l (updT tb (h%256) t') N:=by
 have ha:=Q3C hp hk hs ht;have spot:∀n∈N,n.q.sp.toNat=h->n.q.sl.toNat=s->n.q.sp=(h:Int)/\n.q.sl=(s:Int):=fun n hn h1 h2=>by
  have:=ok.sm n hn;omega
 refine⟨fun h' s' x hx=>?_,fun h' s' x hx=>?_,fun n hn=>?_,fun n hn m hm x y hx hy=>?_⟩
 ·rw [ha] at hx;split at hx
  ·rename_i hc';cases hx;have:=f.cap h s e h0;rw [hc'.2];exact⟨by rw [hh];exact this.live,hr⟩
  ·exact f.cap h' s' x hx
 ·rw [ha] at hx;split at hx
  ·rename_i hc';rw [hc'.1,hc'.2];exact f.has h s e h0
  ·exact f.has h' s' x hx
 ·unfold Q0H;rw [ha];split
  ·exact⟨e2,rfl⟩
  ·exact f.is n hn
 ·unfold Q0H at hx hy;rw [ha] at hx hy;split at hx
  ·rename_i c1;cases hx;split at hy
   ·rename_i c2
    -- a node of its own parent: the same spot
    exfalso;obtain⟨n1,n2⟩:=spot n hn c1.1 c1.2;obtain⟨m1,m2⟩:=spot m (Q0b hm).1 c2.1 c2.2;have i1:=Q4a ok hn (Q0b hm).1 (n1.trans m1.symm) (n2.trans m2.symm);have:=ok.rise n hn;have:=(Q0b hm).2;subst i1;omega
   ·obtain⟨q1,q2⟩:=f.up n hn m hm e y (by unfold Q0H;rw [c1.1,c1.2];exact h0) (by unfold Q0H;exact hy);refine⟨hh.trans q1,?_⟩;rw [<- hsub,Nat.and_assoc,q2]
  ·split at hy
   ·rename_i c2;cases hy;obtain⟨q1,q2⟩:=f.up n hn m hm x e (by unfold Q0H;exact hx) (by unfold Q0H;rw [c2.1,c2.2];exact h0);obtain⟨m1,m2⟩:=spot m (Q0b hm).1 c2.1 c2.2;exact⟨q1.trans hh.symm,hch n hn m hm m1 m2 x (by unfold Q0H;exact hx)⟩
   ·exact f.up n hn m hm x y (by unfold Q0H;exact hx) (by unfold Q0H;exact hy)
theorem FPI.lift (f:FPI l tb N) (ok:NOk N next) (hp:pget l 1 h=some p) (hk:p.kind=2) (hs:s<256) {t':TB} (ht:∀x,t'.en x=if x=s then none else (tb (h%256)).en x) {e:En Nd} (he:find N e.id=some e) (h1:e.q.sp=(h:Int)) (h2:e.q.sl=(s:Int)):FPI l (updT tb (h%256) t') (Q0B N e e.q.ks.length):=by
 have ha:=Q3C hp hk hs ht;have hem:=(Q0b he).1;have htk:e.q.ks.take e.q.ks.length=e.q.ks:=J5G;have hsp:∀c,(Q0t e e.q.ks.length c).sp=c.q.sp/\(Q0t e e.q.ks.length c).sl=c.q.sl:=fun c=>⟨rfl,rfl⟩
 have hmem:∀{x},x∈Q0B N e e.q.ks.length->∃c∈N,c.id≠e.id/\x={c with q:=Q0t e e.q.ks.length c}:=fun {x} hx=>by
  obtain⟨c,hc,rfl⟩:=Q1q hx;obtain⟨g1,g2⟩:=(Q2C ok.ids e.id c).1 hc;exact⟨c,g1,g2,rfl⟩
 have hne:∀c∈N,c.id≠e.id->¬(c.q.sp.toNat=h/\c.q.sl.toNat=s):=fun c hc hid ⟨g1,g2⟩=>by
  have:=ok.sm c hc;have:=Q4a ok hc hem (by omega) (by omega);subst this;exact hid rfl
 have hold:∀c∈N,c.id≠e.id->Q0H l (updT tb (h%256) t') {c with q:=Q0t e e.q.ks.length c}=Q0H l tb c:=fun c hc hid=>by
  unfold Q0H;show Q0f l _ c.q.sp.toNat c.q.sl.toNat=_;rw [ha,if_neg (hne c hc hid)]
 refine⟨fun h' s' x hx=>?_,fun h' s' x hx=>?_,fun n hn=>?_,fun n hn m hm x y hx hy=>?_⟩
 ·rw [ha] at hx;split at hx
  ·cases hx
  ·exact f.cap h' s' x hx
 ·rw [ha] at hx;split at hx
  ·cases hx
  ·rename_i hc';obtain⟨n,hn,g1,g2⟩:=f.has h' s' x hx;have hid:n.id≠e.id:=fun e1=>by
    rw [e1.symm,Q0j ok.ids hn] at he;cases he;exact hc' ⟨by omega,by omega⟩
   exact⟨_,J1D.2 ⟨n,(Q2C ok.ids e.id n).2 ⟨hn,hid⟩,rfl⟩,g1,g2⟩
 ·obtain⟨c,hc,hid,rfl⟩:=hmem hn;rw [hold c hc hid];exact f.is c hc
 ·obtain⟨c,hc,hid,rfl⟩:=hmem hn;rw [hold c hc hid] at hx;have hm':find (Q0B N e e.q.ks.length) (Q0t e e.q.ks.length c).par=some m:=hm;unfold Q0B at hm';rw [Q1p,ok.rem_find] at hm';split at hm'
  ·cases hm'
  ·rename_i hpe;obtain⟨m0,hm0,rfl⟩:=J5u.1 hm';have hm0m:=(Q0b hm0).1;have hmid:m0.id≠e.id:=by rw [(Q0b hm0).2];exact hpe
   rw [hold m0 hm0m hmid] at hy;have hpar:(Q0t e e.q.ks.length c).par=if c.id∈e.q.ks then e.q.par else c.q.par:=by unfold Q0t;rw [htk]
   rw [hpar] at hm0;by_cases hce:c.id∈e.q.ks
   ·rw [if_pos hce] at hm0;obtain⟨d,hd,hdp⟩:=ok.kids e hem c.id hce;rw [Q0j ok.ids hc] at hd;cases hd;obtain⟨z,hz⟩:=f.is e hem;obtain⟨a1,a2⟩:=f.up c hc e (by rw [hdp];exact he) x z hx hz;obtain⟨b1,b2⟩:=f.up e hem m0 hm0 z y hz hy;refine⟨a1.trans b1,?_⟩;rw [<- a2,Nat.and_assoc,b2]
   ·rw [if_neg hce] at hm0;exact f.up c hc m0 hm0 x y hx hy
end
end Go.Proofs.YtlakjlmaboioiaaGreatDoor
