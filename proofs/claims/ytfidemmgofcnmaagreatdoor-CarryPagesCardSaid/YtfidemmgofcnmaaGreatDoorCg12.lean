/- CarryPages returns true at every input. No condition. Part of its proof. -/
import Derived.Test.YtfidemmgofcnmaaGreatDoorCg11
import Derived.DeepKeys3
set_option linter.unusedVariables false
namespace Go.Proofs.YtfidemmgofcnmaaGreatDoor
open Go.RowKit Go.Proofs.Tryz
def xcP(tb:Nat->TB)(id:Int)(i:Nat)(o:Option Pl):Int:=match o with
 | some p=>if (p.fac:Int)=id then(tb i).cost else 0
 | none=>0
def xcOf(l:List Pl)(tb:Nat->TB)(id:Int):Int:=((List.range 256).map fun i=>xcP tb id i l[i]?).sum
def Q2y(tb:Nat->TB):List Nat:=(List.range 256).flatMap fun i=>(tb i).lvs
def Q3n(tb:Nat->TB):List Nat:=(List.range 256).flatMap fun i=>(tb i).nds
structure TPI(S:CO)(tb:Nat->TB):Prop where
 tin:∀(i:Nat) (p:Pl),S.l[i]?=some p->p.st=1->p.kind=2->(tb i).In S.P.a.mem p.at_
 full:∀i,i<256->(tb i).Full
 nil:∀(i:Nat) (p:Pl),S.l[i]?=some p->¬(p.st=1/\p.kind=2)->(tb i).Nil
 lvs:(Q2y tb).Perm (S.P.usedOf 7)
 nds:(Q3n tb).Perm (S.P.usedOf 6)
 xc:∀id,S.xc id=xcOf S.l tb id
theorem Q4V{n:Nat}{f g:Nat->Int}(h:∀i,i<n->f i=g i):((List.range n).map f).sum=((List.range n).map g).sum:=by
 congr 1;exact J1s fun i hi=>h i (Z9I.1 hi)
theorem Z0y{l l':List Pl}{tb tb':Nat->TB}{id:Int}(h:∀i,i<256->xcP tb id i l[i]?=xcP tb' id i l'[i]?):xcOf l tb id=xcOf l' tb' id:=Q4V h
theorem Z5r{l:List Pl}{tb:Nat->TB}{i:Nat}{q:Pl}(hi:i<l.length)(hn:(tb i).Nil)(id:Int):xcOf (l.set i q) tb id=xcOf l tb id:=by
 refine Z0y fun j hj=>?_
 by_cases e:i=j
 ·subst e;have h0:=(TB.Nil.lists hn).2.2;have hp:∀o,xcP tb id i o=0:=fun o=>by
   unfold xcP;cases o with
   | none=>rfl
   | some p=>simp only[h0];split <;> rfl
  rw[hp,hp]
 ·rw[J2M e]
theorem Q2f:Q0d 7=256:=rfl
theorem Q3Y:Q0d 6=48:=rfl
theorem Z2P:costK 2=128:=rfl
theorem TPI.leaf{S:CO}{tb:Nat->TB}(t:TPI S tb){i k:Nat}(hi:i<256)(hk:k<16)(h:(tb i).lf k≠0):(tb i).lf k∈S.P.usedOf 7:=by
 refine t.lvs.mem_iff.1 (Z9P.2 ⟨i,Z9I.2 hi,mem_lvs.2 ⟨k,hk,rfl,h⟩⟩)
theorem Q1B{l:List Pl}(hl:l.length=256){i:Nat}{p:Pl}(h:l[i]?=some p):i<256:=by
 have:=(Z9J.1 h).1;omega
theorem TPI.tin_kept{S:CO}{tb:Nat->TB}(hl:S.l.length=256)(t:TPI S tb){m:List Nat}(k1:∀(i:Nat) (p:Pl),S.l[i]?=some p->p.st=1->p.kind=2->Kept S.P.a.mem m p.at_ 128)(k2:∀a,a∈S.P.usedOf 7->Kept S.P.a.mem m a 256){i:Nat}{p:Pl}(hi:S.l[i]?=some p)(h1:p.st=1)(h2:p.kind=2):(tb i).In m p.at_:=
 (t.tin i p hi h1 h2).kept (k1 i p hi h1 h2) fun k hk Ab=>k2 _ (t.leaf (Q1B hl hi) hk Ab)
theorem TPI.tried{S:CO}{tb:Nat->TB}{fr:List Nat}{N K:Nat}(ok:S.Ok fr N K)(t:TPI S tb){P':PL}(h:Tried S.P fr S.l P'):TPI (S.setP P') tb:=by
 refine⟨fun i p hi h1 h2=>?_,t.full,t.nil,t.lvs.trans (h.used 7).symm,t.nds.trans (h.used 6).symm,t.xc⟩;refine t.tin_kept ok.inv.len (fun j q hj q1 q2=>?_) (fun a ha=>h.memH 7 a (by omega) ha) hi h1 h2;have:=h.mem q (J1x hj) (Pl.is_iff.2 (.inl q1));rw[q2] at this;exact this
theorem TPI.made{S:CO}{tb:Nat->TB}{fr fr':List Nat}{N K:Nat}(ok:S.Ok fr N K)(t:TPI S tb){f p:Pl}{e:En Fa}{n a x i:Nat}{lim:Int}{P':PL}(m:MadeOk S fr f e n a lim x i p P' fr')(hi:S.l[i]?=some p)(hp:p.st=0):TPI (S.made f n a x i p P') tb:=by
 have Ao:=Q1B ok.inv.len hi;have FV:=t.nil i p hi (by omega);have Aa:i<S.l.length:=(Z9J.1 hi).1;refine⟨fun j q hj q1 q2=>?_,t.full,fun j q hj hq=>?_,t.lvs.trans (m.high 7 (by omega)).symm,t.nds.trans (m.high 6 (by omega)).symm,fun id=>?_⟩
 ·have By:(S.l.set i ⟨n,a,f.own,1,p.age,x⟩)[j]?=some q:=hj;by_cases e:i=j
  ·subst e;rw[J2U Aa] at By;cases By;have Pu:n=2:=q2;refine FV.new fun y h1 h2=>m.zero (by omega) y h1 ?_
   rw[Pu,Z2P];exact h2
  ·rw[J2M e] at By;refine t.tin_kept ok.inv.len (fun k r hk r1 r2=>?_) (fun b hb=>m.memH 7 b (by omega) hb) By q1 q2;have:=m.kept r (J1x hk) (Pl.is_iff.2 (.inl r1));rw[r2] at this;exact this
 ·have By:(S.l.set i ⟨n,a,f.own,1,p.age,x⟩)[j]?=some q:=hj;by_cases e:i=j
  ·subst e;exact FV
  ·rw[J2M e] at By;exact t.nil j q By hq
 ·show S.xc id=xcOf (S.l.set i _) tb id;rw[Z5r Aa FV,t.xc]
def CO.paid(S:CO)(P':PL)(own:Int)(d:Int):CO:={S with P:=P',xc:=fun id=>if id=own then S.xc id+d else S.xc id}
theorem TreI.pay{E:List (En Fa)}{l:List Pl}{xc:Int->Int}(t:TreI E l xc)(Ag:E.Pairwise (fun a b=>a.id≠b.id)){own:Int}{e:En Fa}(hf:find E own=some e)(d:Int):TreI (upd E own {e.q with charged:=e.q.charged+d}) l (fun id=>if id=own then xc id+d else xc id):=by
 have Ku:∀a,Q3g (upd E own {e.q with charged:=e.q.charged+d}) a=Q3g E a:=fun a=>Q3U Ag hf _ _ rfl
 have GQ:∀a,Q3h (upd E own {e.q with charged:=e.q.charged+d}) a=Q3h E a:=fun a=>Q3U Ag hf _ _ rfl
 refine⟨by rw[Q1W];exact t.ids,fun p hp A4=>?_,fun p hp A4 hk x hx=>?_,fun id x hx=>?_,fun id x hx=>?_⟩
 ·obtain⟨y,hy⟩:=t.fac p hp A4;exact Q1M _ hy
 ·obtain⟨y,hy,h1,h2⟩:=Q0D _ hf hx;have:=t.par p hp A4 hk y hy;by_cases hid:(p.own:Int)=own
  ·obtain⟨rfl,e2⟩:=h1 hid;rw[e2];exact this
  ·rw[h2 hid];exact this
 ·obtain⟨y,hy,h1,h2⟩:=Q0D _ hf hx;have:=t.charged id y hy;by_cases hid:id=own
  ·obtain⟨rfl,e2⟩:=h1 hid;rw[e2,if_pos hid];show y.q.charged+d=_;omega
  ·rw[h2 hid,if_neg hid];exact this
 ·obtain⟨y,hy,h1,h2⟩:=Q0D _ hf hx;have:=t.given id y hy;rw[Ku,GQ];by_cases hid:id=own
  ·obtain⟨rfl,e2⟩:=h1 hid;rw[e2];exact this
  ·rw[h2 hid];exact this
theorem CO.Ok.paid{S:CO}{fr:List Nat}{N K:Nat}(ok:S.Ok fr N K){P':PL}{own:Int}{e:En Fa}{d:Int}(Bf:P'.Ok fr)(he:find S.P.q.E own=some e)(hE:P'.q={S.P.q with E:=upd S.P.q.E own {e.q with charged:=e.q.charged+d}})(hu:∀j,1<=j->j<=5->P'.usedOf j=S.P.usedOf j)(hw:∀b∈S.P.usedOf 1,Q0j P'.a.mem b=Q0j S.P.a.mem b)
  (EK:0<=S.xc own+d) (hlive:S.xc own+d≠0->∃p∈S.l,p.st=1/\(p.fac:Int)=own):(S.paid P' own d).Ok fr N K:=by
 have v:=ok.inv;refine⟨⟨v.len,v.st,v.mem.same Bf hu hw,?_,?_⟩,ok.per,ok.due,ok.ord,ok.ov,?_,ok.now,ok.age⟩
 ·show TreI P'.q.E S.l _;rw[hE];exact v.tre.pay v.mem.pool.q.ids he d
 ·refine⟨v.que.root,v.que.live,fun id=>?_,v.que.nd,v.que.has,v.que.ord⟩;show 0<=(if id=own then S.xc id+d else S.xc id)/\((if id=own then S.xc id+d else S.xc id)≠0->_);split
  ·rename_i h;subst h;exact⟨EK,hlive⟩
  ·exact v.que.xc id
 ·show P'.q.next<=N;rw[hE];exact ok.next
theorem CO.Ok.stored{S:CO}{fr:List Nat}{N K:Nat}(ok:S.Ok fr N K){m:List Nat}(hl:m.length=S.P.a.mem.length)(hb:∀b∈m,b<256)(hw:∀b∈S.P.usedOf 1,Q0j m b=Q0j S.P.a.mem b):(S.setP (S.P.setA m)).Ok fr N K:=by
 have v:=ok.inv;exact⟨⟨v.len,v.st,v.mem.same (PL.ok_setA v.mem.pool hl hb) (fun _ _ _=>rfl) hw,v.tre,v.que⟩,ok.per,ok.due,ok.ord,ok.ov,ok.next,ok.now,ok.age⟩
structure TPX(S:CO)(tb:Nat->TB)(own:Int)(xl xn:List Nat):Prop where
 tin:∀(i:Nat) (p:Pl),S.l[i]?=some p->p.st=1->p.kind=2->(tb i).In S.P.a.mem p.at_
 nil:∀(i:Nat) (p:Pl),S.l[i]?=some p->¬(p.st=1/\p.kind=2)->(tb i).Nil
 lvs:(xl++Q2y tb).Perm (S.P.usedOf 7)
 nds:(xn++Q3n tb).Perm (S.P.usedOf 6)
 xc:∀id,S.xc id=xcOf S.l tb id+if id=own then 256*(xl.length:Int)+48*(xn.length:Int) else 0
theorem TPI.x{S:CO}{tb:Nat->TB}(t:TPI S tb)(own:Int):TPX S tb own [] []:=⟨t.tin,t.nil,t.lvs,t.nds,fun id=>by rw[t.xc];simp⟩
theorem TPX.done{S:CO}{tb:Nat->TB}{own:Int}(t:TPX S tb own [] [])(hf:∀i,i<256->(tb i).Full):TPI S tb:=⟨t.tin,hf,t.nil,t.lvs,t.nds,fun id=>by rw[t.xc];simp⟩
theorem TPX.leaf{S:CO}{tb:Nat->TB}{own:Int}{xl xn:List Nat}(t:TPX S tb own xl xn){i k:Nat}(hi:i<256)(hk:k<16)(h:(tb i).lf k≠0):(tb i).lf k∈S.P.usedOf 7:=
 t.lvs.mem_iff.1 (J0d _ (Z9P.2 ⟨i,Z9I.2 hi,mem_lvs.2 ⟨k,hk,rfl,h⟩⟩))
theorem TPX.tin_kept{S:CO}{tb:Nat->TB}{own:Int}{xl xn:List Nat}(hl:S.l.length=256)(t:TPX S tb own xl xn){m:List Nat}(k1:∀(i:Nat) (p:Pl),S.l[i]?=some p->p.st=1->p.kind=2->Kept S.P.a.mem m p.at_ 128)(k2:∀a,a∈S.P.usedOf 7->Kept S.P.a.mem m a 256){i:Nat}{p:Pl}(hi:S.l[i]?=some p)(h1:p.st=1)(h2:p.kind=2):(tb i).In m p.at_:=
 (t.tin i p hi h1 h2).kept (k1 i p hi h1 h2) fun k hk Ab=>k2 _ (t.leaf (Q1B hl hi) hk Ab)
theorem Q1a{S:CO}{fr:List Nat}{N K:Nat}(ok:S.Ok fr N K){i:Nat}{p:Pl}(hi:S.l[i]?=some p)(h1:p.st=1)(h2:p.kind=2):p.at_∈S.P.usedOf 2:=by
 have:=ok.inv.mem.used (J1x hi) (Pl.is_iff.2 (.inl h1)) (by omega)
 rwa [h2] at this
theorem GotM.kept{P P':PL}{fr fr':List Nat}{own:Int}{k a:Nat}(g:GotM P fr own k a P' fr')(ok:P.Ok fr){j b:Nat}(hb:b∈P.usedOf j):Kept P.a.mem P'.a.mem b (Q0d j):=by
 have:=(g.apart ok).1 j b hb;rw[g.mem];exact Q1j (by rw[Z9C];exact g.room.1) (by rw[Z9C];omega)
theorem Z6D:∀{l:List Int},(∀x∈l,0<=x)->0<=l.sum
 | [],_=>J3g _
 | x::r,h=>by
  have:=Z6D (l:=r) fun y hy=>h y (by simp[hy])
  have:=h x (by simp);rw[J2R];omega
theorem Z2Q(l:List Pl)(tb:Nat->TB)(id:Int):0<=xcOf l tb id:=by
 refine Z6D fun x hx=>?_
 obtain⟨i,_,rfl⟩:=Z9y.1 hx;unfold xcP;split
 ·split
  ·exact TB.cost_nn _
  ·exact J3g _
 ·exact J3g _
section
variable {S:CO} {fr:List Nat} {N K:Nat} {tb:Nat->TB} {own:Int} {xl xn:List Nat}
theorem TPX.got{n a:Nat}{P':PL}(ok:S.Ok fr N K)(t:TPX S tb own xl xn)(hn:n=6∨n=7)(g:GetOk S.P fr own n a P')(Am:∃p∈S.l,p.st=1/\(p.fac:Int)=own) :
  (S.paid P' own ((Q0d n:Nat):Int)).Ok fr N K/\TPX (S.paid P' own ((Q0d n:Nat):Int)) tb own (if n=7 then a::xl else xl) (if n=6 then a::xn else xn):=by
 have gm:=g.gotM ok.inv.mem.pool;have CR:costK n=Q0d n:=Q0Z (by omega);obtain⟨e,q1,q2,q3⟩:=g.q;have P5:=(ok.inv.que.xc own).1;refine⟨ok.paid g.ok q1 q3 (fun j h1 h5=>g.other j (by omega)) (fun b hb=>?_) (by omega) (fun _=>Am),?_,t.nil,?_,?_,fun id=>?_⟩
 ·have:=gm.kept ok.inv.mem.pool hb;exact(this.sub (b:=b) (k:=8) (Z9s _) (by show b+8<=b+64;omega)).word
 ·intro i p hi h1 h2;refine t.tin_kept ok.inv.len (fun j q hj q1 q2=>?_) (fun b hb=>gm.kept ok.inv.mem.pool hb) hi h1 h2;exact gm.kept ok.inv.mem.pool (Q1a ok hj q1 q2)
 ·show(_++Q2y tb).Perm (P'.usedOf 7);by_cases h7:n=7
  ·subst h7;rw[if_pos rfl];exact(List.Perm.cons a t.lvs).trans (gm.used (by omega)).symm
  ·rw[if_neg h7,g.other 7 (by omega)];exact t.lvs
 ·show(_++Q3n tb).Perm (P'.usedOf 6);by_cases h6:n=6
  ·subst h6;rw[if_pos rfl];exact(List.Perm.cons a t.nds).trans (gm.used (by omega)).symm
  ·rw[if_neg h6,g.other 6 (by omega)];exact t.nds
 ·show(if id=own then S.xc id+_ else S.xc id)=xcOf S.l tb id+_;by_cases hid:id=own
  ·subst hid;rw[if_pos rfl,t.xc,if_pos rfl,if_pos rfl];rcases hn with rfl|rfl
   ·simp[Q3Y];omega
   ·simp[Q2f];omega
  ·rw[if_neg hid,t.xc,if_neg hid,if_neg hid]
theorem TPX.put{n a:Nat}{P':PL}(ok:S.Ok fr N K)(hn:n=6∨n=7)(t:TPX S tb own (if n=7 then a::xl else xl) (if n=6 then a::xn else xn))(g:PutOk S.P fr own n a P')(Am:∃p∈S.l,p.st=1/\(p.fac:Int)=own) :
  (S.paid P' own (-((Q0d n:Nat):Int))).Ok fr N K/\TPX (S.paid P' own (-((Q0d n:Nat):Int))) tb own xl xn:=by
 have bm:=g.backM ok.inv.mem.pool;obtain⟨e,q1,q2,q3⟩:=g.q;have A2:P'.a.mem=S.P.a.mem:=by rw[g.aa]
 have JX:P'.q={S.P.q with E:=upd S.P.q.E own {e.q with charged:=e.q.charged + -((Q0d n:Nat):Int)}}:=by rw[q3,Int.sub_eq_add_neg]
 have P5:=Z2Q S.l tb own;have LQ:=t.xc own;rw[if_pos rfl] at LQ;refine⟨ok.paid g.ok q1 JX (fun j h1 h5=>g.other j (by omega)) (fun b hb=>by rw[A2]) ?_ (fun _=>Am),?_,t.nil,?_,?_,fun id=>?_⟩
 ·rcases hn with rfl|rfl
  ·simp[Q3Y] at LQ ⊢;omega
  ·simp[Q2f] at LQ ⊢;omega
 ·intro i p hi h1 h2;show(tb i).In P'.a.mem p.at_;rw[A2];exact t.tin i p hi h1 h2
 ·show(xl++Q2y tb).Perm (P'.usedOf 7);by_cases h7:n=7
  ·subst h7;have h1:=t.lvs;rw[if_pos rfl] at h1;exact J2S (h1.trans (bm.used (by omega)))
  ·have h1:=t.lvs;rw[if_neg h7] at h1;rw[g.other 7 (by omega)];exact h1
 ·show(xn++Q3n tb).Perm (P'.usedOf 6);by_cases h6:n=6
  ·subst h6;have h1:=t.nds;rw[if_pos rfl] at h1;exact J2S (h1.trans (bm.used (by omega)))
  ·have h1:=t.nds;rw[if_neg h6] at h1;rw[g.other 6 (by omega)];exact h1
 ·show(if id=own then S.xc id+_ else S.xc id)=xcOf S.l tb id+_;have hx:=t.xc id;by_cases hid:id=own
  ·subst hid;rw[if_pos rfl] at hx ⊢;rw[hx,if_pos rfl];rcases hn with rfl|rfl
   ·simp[Q3Y];omega
   ·simp[Q2f];omega
  ·rw[if_neg hid] at hx ⊢;rw[hx,if_neg hid]
end
def updT(tb:Nat->TB)(i:Nat)(t:TB):Nat->TB:=fun j=>if j=i then t else tb j
theorem updT_same(tb:Nat->TB)(i:Nat)(t:TB):updT tb i t i=t:=by unfold updT;rw[if_pos rfl]
theorem Q0K{tb:Nat->TB}{i j:Nat}{t:TB}(h:j≠i):updT tb i t j=tb j:=by unfold updT;rw[if_neg h]
theorem Q9q(i:Nat)(hi:i<256):∃A B,List.range 256=A++i::B/\(∀j∈A,j≠i)/\∀j∈B,j≠i:=by
 have hm:i∈List.range 256:=Z9I.2 hi;obtain⟨A,B,e⟩:=List.append_of_mem hm;have AE:(List.range 256).Nodup:=J2Y;rw[e] at AE;obtain⟨h1,h2,h3⟩:=J0c.1 AE;exact⟨A,B,e,fun j hj=>h3 j hj i (by simp),fun j hj h=>(J0f.1 h2).1 (h ▸ hj)⟩
theorem Q3G(f:TB->List Nat)(tb:Nat->TB){i:Nat}(hi:i<256)(t:TB):∃A B,(List.range 256).flatMap (fun j=>f (tb j))=A++f (tb i)++B/\(List.range 256).flatMap (fun j=>f (updT tb i t j))=A++f t++B:=by
 obtain⟨A,B,e,h1,h2⟩:=Q9q i hi;refine⟨A.flatMap fun j=>f (tb j),B.flatMap fun j=>f (tb j),by rw[e];simp,?_⟩;have g1:A.flatMap (fun j=>f (updT tb i t j))=A.flatMap fun j=>f (tb j):=by
  rw[J3h,J3h];congr 1;exact J1s fun j hj=>by rw[Q0K (h1 j hj)]
 have g2:B.flatMap (fun j=>f (updT tb i t j))=B.flatMap fun j=>f (tb j):=by
  rw[J3h,J3h];congr 1;exact J1s fun j hj=>by rw[Q0K (h2 j hj)]
 rw[e,Z9U,Z9O,g1,g2,updT_same];simp
theorem Q7t{l:List Pl}{tb:Nat->TB}{i:Nat}(hi:i<256){p:Pl}(hp:l[i]?=some p)(t:TB)(id:Int):xcOf l (updT tb i t) id=xcOf l tb id+if (p.fac:Int)=id then t.cost-(tb i).cost else 0:=by
 obtain⟨A,B,e,h1,h2⟩:=Q9q i hi;unfold xcOf;rw[e];simp only[J2J,Z9v,J2T,J2R];have g1:A.map (fun j=>xcP (updT tb i t) id j l[j]?)=A.map fun j=>xcP tb id j l[j]?:=J1s fun j hj=>by unfold xcP;rw[Q0K (h1 j hj)]
 have g2:B.map (fun j=>xcP (updT tb i t) id j l[j]?)=B.map fun j=>xcP tb id j l[j]?:=J1s fun j hj=>by unfold xcP;rw[Q0K (h2 j hj)]
 rw[g1,g2];have e1:∀tb',xcP tb' id i l[i]?=if (p.fac:Int)=id then(tb' i).cost else 0:=fun tb'=>by unfold xcP;rw[hp]
 rw[e1,e1,updT_same];split <;> omega
end Go.Proofs.YtfidemmgofcnmaaGreatDoor
namespace Go.Proofs.YtfidemmgofcnmaaGreatDoor
open Go.Proofs.Tryz
section
variable {kd:Int->List Int} {rk:Int->Nat}
end
open Go.RowKit
abbrev SKV:=List ((Int×Int)×Value)
def Q1Q(p:Int×Int):Value:=.agg #[.int .i64 p.1,.int .i64 p.2]
def Q3a(kv:SKV)(p:Int×Int):Option Value:=(kv.find? fun q=>decide (q.1=p)).map Prod.snd
def delS(kv:SKV)(p:Int×Int):SKV:=kv.filter fun q=>decide (q.1≠p)
def Q2z(w:World)(m:Nat)(kv:SKV):Prop:=MapIs w m (kv.map fun q=>(Q1Q q.1,q.2))
def Q1o(P:Program)(K:TypeId)(p:Int×Int):Prop:=∃l,keyOf P K (Q1Q p)=some l
theorem Z2R{p q:Int×Int}(h:Q1Q p=Q1Q q):p=q:=by
 unfold Q1Q at h;simp at h;exact Prod.ext h.1 h.2
theorem Z2S:∀{kv:SKV} {p:Int×Int} {v:Value} {j:Nat},kv.Pairwise (fun a b=>a.1≠b.1)->kv[j]?=some (p,v)->Q3a kv p=some v/\kv.eraseIdx j=delS kv p
 | [],_,_,_,_,h=>by simp at h
 | q::r,p,v,0,hn,h=>by
  simp at h;subst h;obtain⟨h1,_⟩:=Z9Q.1 hn;refine⟨by simp[Q3a],?_⟩;unfold delS;rw[J1w (by simp)]
  symm
  rw[List.eraseIdx_zero,List.tail_cons,J3i];intro a ha;have:=h1 a ha;simp;exact fun e=>this e.symm
 | q::r,p,v,j+1,hn,h=>by
  rw[J2t] at h;obtain⟨h1,h2⟩:=Z9Q.1 hn;obtain⟨i1,i2⟩:=Z2S h2 h;have Ab:q.1≠p:=h1 _ (J1x h);refine⟨?_,?_⟩
  ·unfold Q3a at i1 ⊢;rw[List.find?_cons_of_neg (by simpa using Ab)];exact i1
  ·unfold delS at i2 ⊢;rw[J1v (by simpa using Ab),J3j,i2]
theorem map_erase{α β:Type}(f:α->β):∀(l:List α) (j:Nat),(l.eraseIdx j).map f=(l.map f).eraseIdx j
 | [],_=>by simp
 | _::_,0=>rfl
 | x::r,j+1=>by rw[J3j,Z9v,Z9v,J3j,map_erase f r j]
theorem Q7u{kv:SKV}{p:Int×Int}(h:∀q∈kv,q.1≠p):Q3a kv p=none/\delS kv p=kv:=by
 refine⟨?_,?_⟩
 ·unfold Q3a;rw[J1c.2 (fun q hq=>by simpa using h q hq)];rfl
 ·unfold delS;rw[J3i];intro q hq
  simpa using h q hq
section
variable {P:Program} {K V:TypeId} {T:TypeId}
theorem Q4W(law:WideMaps.KeyLaw P K)(w:World){es:List MapEntry}{kv:SKV}(hr:es.map (fun e=>(e.key,e.val))=kv.map fun q=>(Q1Q q.1,q.2))(hn:kv.Pairwise (fun a b=>a.1≠b.1))(hk:∀q∈kv,Q1o P K q.1){p:Int×Int}(hp:Q1o P K p) :
  ((Instr.findKey K (Q1Q p) es).run P w=.ok none w/\Q3a kv p=none/\delS kv p=kv/\∀e∈es,e.key≠Q1Q p) ∨
  ∃j v,(Instr.findKey K (Q1Q p) es).run P w=.ok (some (j,v)) w/\Q3a kv p=some v/\j<es.length/\(es.eraseIdx j).map (fun e=>(e.key,e.val))=(delS kv p).map fun q=>(Q1Q q.1,q.2):=by
 obtain⟨l,hl⟩:=hp;have A8:∀e∈es,∃l,keyOf P K e.key=some l:=fun e he=>by
  have hm:(e.key,e.val)∈kv.map fun q=>(Q1Q q.1,q.2):=by rw[<- hr];exact Z9y.2 ⟨e,he,rfl⟩
  obtain⟨q,hq,e1⟩:=Z9y.1 hm;have:Q1Q q.1=e.key:=((Prod.mk.injEq _ _ _ _).mp e1).1;rw[<- this];exact hk q hq
 rcases law.find w hl es A8 with ⟨h1,h2⟩|⟨j,e,h1,h2,h3⟩
 ·left;have Aq:∀q∈kv,q.1≠p:=fun q hq e=>by
   have hm:(Q1Q q.1,q.2)∈es.map fun e=>(e.key,e.val):=by rw[hr];exact Z9y.2 ⟨q,hq,rfl⟩
   obtain⟨x,hx,e1⟩:=Z9y.1 hm;exact h2 x hx (by rw[((Prod.mk.injEq _ _ _ _).mp e1).1,e])
  exact⟨h1,(Q7u Aq).1,(Q7u Aq).2,h2⟩
 ·right;have hj:j<es.length:=(Z9J.1 h2).1;have Kv:(kv.map fun q=>(Q1Q q.1,q.2))[j]?=some (e.key,e.val):=by rw[<- hr,J0U,h2];rfl
  rw[J0U] at Kv;obtain⟨q,hq,e1⟩:=J2Z.1 Kv;obtain⟨e2,e3⟩:=(Prod.mk.injEq _ _ _ _).mp e1;have Jn:q.1=p:=Z2R (e2.trans h3);have M0:kv[j]?=some (p,e.val):=by rw[hq,<- Jn,<- e3]
  obtain⟨f1,f2⟩:=Z2S hn M0;refine⟨j,e.val,h1,f1,hj,?_⟩;rw[<- f2,map_erase,map_erase,hr]
theorem Q4X{w:World}{m:Nat}{kv:SKV}(h:Q2z w m kv)(law:WideMaps.KeyLaw P K)(hn:kv.Pairwise (fun a b=>a.1≠b.1))(hk:∀q∈kv,Q1o P K q.1){p:Int×Int}(hp:Q1o P K p)(ok:Bool)(z:Value)(hT:P.underlying T=some (.map K V))(hz:(zeroValue V).run P w=.ok z w) :
  (Instr.lookup T (.map (some m)) (Q1Q p) ok).run P w=.ok (if ok then .tuple #[(Q3a kv p).getD z,.bool (Q3a kv p).isSome] else(Q3a kv p).getD z) w:=by
 obtain⟨es,Af,hb,hs,hr⟩:=h;have hc:=fun em=>law.check w em hp.choose_spec
 unfold Instr.lookup;rcases Q4W law w hr hn hk hp with ⟨hf,hl,_,_⟩|⟨j,v,hf,hl,_,_⟩
 ·cases ok <;> simp[run_underlying hT,Result.andThen,Go.MapKept.run_getObj_map hb,hc,hf,hl,hz]
 ·cases ok <;> simp[run_underlying hT,Result.andThen,Go.MapKept.run_getObj_map hb,hc,hf,hl]
theorem Q3H{w:World}{m:Nat}{kv:SKV}(h:Q2z w m kv)(law:WideMaps.KeyLaw P K)(hn:kv.Pairwise (fun a b=>a.1≠b.1))(hk:∀q∈kv,Q1o P K q.1){p:Int×Int}(hp:Q1o P K p)(u:Value)(Aq:Q3a kv p=none)(hT:P.underlying T=some (.map K V)) :
  ∃w',(Instr.mapUpdate T (.map (some m)) (Q1Q p) u).run P w=.ok () w'/\Q2z w' m (kv++[(p,u)])/\w.grownBy w' (some m):=by
 obtain⟨es,Af,hb,hs,hr⟩:=h;have hc:=fun em=>law.check w em hp.choose_spec
 have Dr:∀o,w.grownBy {w with heap:=w.heap.setIfInBounds m o} (some m):=fun o=>⟨rfl,rfl,rfl,by simp,fun k _ Ab=>by
  have:m≠k:=fun e=>Ab (by rw[e])
  simp[this]⟩
 have Aa:=lt_of_block hb;unfold Instr.mapUpdate;rcases Q4W law w hr hn hk hp with ⟨hf,hl,_,Ab⟩|⟨j,v,hf,hl,_,_⟩
 ·refine⟨{w with heap:=w.heap.setIfInBounds m (.map (es.push {key:=Q1Q p,val:=u,born:=Af}) (Af+1))},?_,?_,Dr _⟩
  ·simp[run_underlying hT,Result.andThen,Go.MapKept.run_getObj_map hb,hc,hf,Go.MapKept.run_setObj_map _ hb]
  ·refine⟨es.push {key:=Q1Q p,val:=u,born:=Af},Af+1,by simp[Aa],Go.MapKept.stamped_push hs (fun x hx=>Ab x (by simpa using hx)),?_⟩;simp[hr]
 ·rw[Aq] at hl;cases hl
theorem Q4Y{w:World}{m:Nat}{kv:SKV}(h:Q2z w m kv)(law:WideMaps.KeyLaw P K)(hn:kv.Pairwise (fun a b=>a.1≠b.1))(hk:∀q∈kv,Q1o P K q.1){p:Int×Int}(hp:Q1o P K p)(t1 t2:TypeId)(hT:P.underlying T=some (.map K V)) :
  ∃w',(Builtin.delete_ #[T,t1] t2 #[.map (some m),Q1Q p]).run P w=.ok (.tuple #[]) w'/\Q2z w' m (delS kv p)/\w.grownBy w' (some m):=by
 obtain⟨es,Af,hb,hs,hr⟩:=h;have hc:=fun em=>law.check w em hp.choose_spec
 have Dr:∀o,w.grownBy {w with heap:=w.heap.setIfInBounds m o} (some m):=fun o=>⟨rfl,rfl,rfl,by simp,fun k _ Ab=>by
  have:m≠k:=fun e=>Ab (by rw[e])
  simp[this]⟩
 have Aa:=lt_of_block hb;unfold Builtin.delete_;rcases Q4W law w hr hn hk hp with ⟨hf,hl,hd,Ab⟩|⟨j,v,hf,hl,hj,hd⟩
 ·refine⟨{w with heap:=w.heap.setIfInBounds m (.map es Af)},?_,?_,Dr _⟩
  ·simp[run_underlying hT,Result.andThen,Go.MapKept.run_getObj_map hb,hc,hf,Go.MapKept.run_setObj_map _ hb]
  ·refine⟨_,_,by simp[Aa],hs,?_⟩;rw[hd];exact hr
 ·refine⟨{w with heap:=w.heap.setIfInBounds m (.map (es.eraseIdxIfInBounds j) Af)},?_,?_,Dr _⟩
  ·simp[run_underlying hT,Result.andThen,Go.MapKept.run_getObj_map hb,hc,hf,Go.MapKept.run_setObj_map _ hb]
  ·refine⟨es.eraseIdxIfInBounds j,Af,by simp[Aa],Go.MapKept.stamped_erase hs _,?_⟩;rw[<- hd];have:j<es.size:=by simpa using hj
   simp[Array.eraseIdxIfInBounds,this]
end
structure Nd where
 sp:Int
 sl:Int
 par:Int
 ks:List Int
def mapE(f:En Nd->Nd)(N:List (En Nd)):List (En Nd):=N.map fun e=>{e with q:=f e}
theorem Q1p(f:En Nd->Nd)(N:List (En Nd))(id:Int):find (mapE f N) id=(find N id).map fun e=>{e with q:=f e}:=by
 induction N with
 | nil=>rfl
 | cons x r ih =>
  by_cases h:id=x.id
  ·simp[mapE,find,h]
  ·have ih':find (r.map fun e=>{e with q:=f e}) id=_:=ih;simp[mapE,find,h,ih']
theorem Q1k{f:En Nd->Nd}{N:List (En Nd)}{x:En Nd}(h:x∈mapE f N):∃e∈N,x={e with q:=f e}:=by
 obtain⟨e,he,rfl⟩:=Z9y.1 h;exact⟨e,he,rfl⟩
theorem Q8r{f:En Nd->Nd}{N:List (En Nd)}(h:∀e∈N,f e=e.q):mapE f N=N:=by
 unfold mapE
 conv=>rhs;rw[<- List.map_id N]
 exact J1s fun e he=>by rw[h e he];rfl
theorem Q4Z(f g:En Nd->Nd)(N:List (En Nd)):mapE g (mapE f N)=mapE (fun e=>g {e with q:=f e}) N:=by
 unfold mapE;rw[J1r];rfl
theorem Q3Z{f g:En Nd->Nd}{N:List (En Nd)}(h:∀e∈N,f e=g e):mapE f N=mapE g N:=by
 unfold mapE;exact J1s fun e he=>by rw[h e he]
theorem Q1C{f:En Nd->Nd}{N:List (En Nd)}{R:En Nd->En Nd->Prop}(h:∀a b,R a b->R {a with q:=f a} {b with q:=f b})(hp:N.Pairwise R):(mapE f N).Pairwise R:=by
 unfold mapE;rw[Z9T];exact hp.imp fun {a b} DI=>h a b DI
theorem Q4a{N:List (En Nd)}(Ag:N.Pairwise (fun a b=>a.id≠b.id))(id:Int):∀x,x∈rem N id↔x∈N/\x.id≠id:=by
 induction N with
 | nil=>simp[rem]
 | cons y r ih =>
  obtain⟨h1,h2⟩:=Z9Q.1 Ag;intro x;by_cases hk:id=y.id
  ·subst hk;simp only[rem,if_true,Z9x]
   constructor
   ·intro hx;exact⟨.inr hx,fun e=>h1 x hx e.symm⟩
   ·rintro⟨rfl|hx,Ab⟩
    ·exact absurd rfl Ab
    ·exact hx
  ·simp only[rem,hk,if_false,Z9x];rw[ih h2 x]
   constructor
   ·rintro(rfl|⟨hx,Ab⟩)
    ·exact⟨.inl rfl,fun e=>hk e.symm⟩
    ·exact⟨.inr hx,Ab⟩
   ·rintro⟨rfl|hx,Ab⟩
    ·exact .inl rfl
    ·exact .inr ⟨hx,Ab⟩
structure NOk(N:List (En Nd))(next:Int):Prop where
 ids:N.Pairwise (fun a b=>a.id≠b.id)
 spots:N.Pairwise (fun a b=>(a.q.sp,a.q.sl)≠(b.q.sp,b.q.sl))
 next0:0<=next
 rng:∀e∈N,1<=e.id/\e.id<=next
 sm:∀e∈N,0<=e.q.sp/\e.q.sp<4294967296/\0<=e.q.sl/\e.q.sl<256
 par:∀e∈N,0<=e.q.par/\(e.q.par≠0->∃p,find N e.q.par=some p/\e.id∈p.q.ks)
 kids:∀p∈N,∀k∈p.q.ks,∃e,find N k=some e/\e.q.par=p.id
 nd:∀p∈N,p.q.ks.Nodup
 rise:∀e∈N,e.q.par<e.id
theorem Q0s{N:List (En Nd)}(Ag:N.Pairwise (fun a b=>a.id≠b.id)){e:En Nd}(h:e∈N):find N e.id=some e:=by
 induction N with
 | nil=>cases h
 | cons x r ih =>
  obtain⟨h1,h2⟩:=Z9Q.1 Ag;rcases Z9x.1 h with rfl|h
  ·simp[find]
  ·have Ab:¬e.id=x.id:=fun e'=>h1 e h e'.symm
   simp only[find,Ab,if_false];exact ih h2 h
theorem Q8s{N:List (En Nd)}{next:Int}(ok:NOk N next){a b:En Nd}(ha:a∈N)(hb:b∈N)(h1:a.q.sp=b.q.sp)(h2:a.q.sl=b.q.sl):a=b:=by
 obtain⟨i,hi⟩:=J1Y.1 ha;obtain⟨j,hj⟩:=J1Y.1 hb;obtain⟨i1,i2⟩:=Z9J.1 hi;obtain⟨j1,j2⟩:=Z9J.1 hj;rcases J2j i j with h|h|h
 ·have:=J2k.1 ok.spots i j i1 j1 h;rw[i2,j2] at this;exact absurd (Prod.ext h1 h2) this
 ·subst h;rw[<- i2,<- j2]
 ·have:=J2k.1 ok.spots j i j1 i1 h;rw[i2,j2] at this;exact absurd (Prod.ext h1.symm h2.symm) this
theorem NOk.zero{N:List (En Nd)}{next:Int}(ok:NOk N next):find N 0=none:=by
 cases hf:find N 0 with
 | none=>rfl
 | some e =>
  obtain⟨h1,h2⟩:=Q0e hf;have:=ok.rng e h1;omega
def addN(N:List (En Nd))(par:Int)(k:Int)(b:Nat)(sp sl:Int):List (En Nd):=mapE (fun c=>if c.id=par then {c.q with ks:=c.q.ks++[k]} else c.q) N++[⟨k,b,⟨sp,sl,par,[]⟩⟩]
theorem Q6D(N:List (En Nd))(x:En Nd)(id:Int):find (N++[x]) id=(find N id).or (if id=x.id then some x else none):=by
 rw[Q1z];cases find N id <;> rfl
theorem NOk.add{N:List (En Nd)}{next:Int}(ok:NOk N next){par sp sl:Int}(b:Nat)(hp:par=0∨∃p,find N par=some p)(Aq:∀e∈N,(e.q.sp,e.q.sl)≠(sp,sl))(h1:0<=sp)(h2:sp<4294967296)(h3:0<=sl)(h4:sl<256):NOk (addN N par (next+1) b sp sl) (next+1):=by
 have Ev:=ok.next0;have Em:find N (next+1)=none:=by
  cases hf:find N (next+1) with
  | none=>rfl
  | some e =>
   obtain⟨e1,e2⟩:=Q0e hf;have:=ok.rng e e1;omega
 have Qy:0<=par/\par<=next:=by
  rcases hp with rfl|⟨p,hp⟩
  ·omega
  ·obtain⟨e1,e2⟩:=Q0e hp;have:=ok.rng p e1;omega
 have BG:∀id,find (addN N par (next+1) b sp sl) id=if id=next+1 then some ⟨next+1,b,⟨sp,sl,par,[]⟩⟩ else(find N id).map fun c=>{c with q:=if c.id=par then {c.q with ks:=c.q.ks++[next+1]} else c.q}:=fun id=>by
  unfold addN;rw[Q6D,Q1p];by_cases h:id=next+1
  ·subst h;rw[Em];simp
  ·cases hf:find N id with
   | none=>simp[h]
   | some e=>simp[h]
 have A2:∀{x},x∈addN N par (next+1) b sp sl->(∃e∈N,x={e with q:=if e.id=par then {e.q with ks:=e.q.ks++[next+1]} else e.q})∨x=⟨next+1,b,⟨sp,sl,par,[]⟩⟩:=fun {x} hx=>by
  rcases Z9Y.1 hx with hx|hx
  ·exact .inl (Q1k hx)
  ·exact .inr (J1q.1 hx)
 refine⟨?_,?_,by omega,fun x hx=>?_,fun x hx=>?_,fun x hx=>?_,fun x hx k hk=>?_,fun x hx=>?_,fun x hx=>?_⟩
 ·unfold addN;rw[Z9X];refine⟨Q1C (fun a b h=>h) ok.ids,by simp,fun x hx y hy=>?_⟩;obtain⟨e,he,rfl⟩:=Q1k hx;rw[J1q] at hy;subst hy;have:=ok.rng e he;show e.id≠next+1;omega
 ·unfold addN;rw[Z9X];refine⟨Q1C (fun a b h=>?_) ok.spots,by simp,fun x hx y hy=>?_⟩
  ·have e1:∀c:En Nd,(if c.id=par then({c.q with ks:=c.q.ks++[next+1]}:Nd) else c.q).sp=c.q.sp/\(if c.id=par then({c.q with ks:=c.q.ks++[next+1]}:Nd) else c.q).sl=c.q.sl:=fun c=>by split <;> exact⟨rfl,rfl⟩
   show((if a.id=par then({a.q with ks:=a.q.ks++[next+1]}:Nd) else a.q).sp,_)≠_;rw[(e1 a).1,(e1 a).2,(e1 b).1,(e1 b).2];exact h
  ·obtain⟨e,he,rfl⟩:=Q1k hx;rw[J1q] at hy;subst hy;have:=Aq e he;show((if e.id=par then({e.q with ks:=e.q.ks++[next+1]}:Nd) else e.q).sp,(if e.id=par then({e.q with ks:=e.q.ks++[next+1]}:Nd) else e.q).sl)≠_;split <;> exact this
 ·rcases A2 hx with ⟨e,he,rfl⟩|rfl
  ·have:=ok.rng e he;exact⟨this.1,by show e.id<=_;omega⟩
  ·exact⟨by show 1<=next+1;omega,J3g _⟩
 ·rcases A2 hx with ⟨e,he,rfl⟩|rfl
  ·have:=ok.sm e he;simp only;split <;> exact this
  ·exact⟨h1,h2,h3,h4⟩
 ·have key:∀e∈N,∀pr:Int,pr=e.q.par->0<=pr/\(pr≠0->∃p,find (addN N par (next+1) b sp sl) pr=some p/\e.id∈p.q.ks):=fun e he pr hpr'=>by
   subst hpr';obtain⟨q1,q2⟩:=ok.par e he;refine⟨q1,fun h0=>?_⟩;obtain⟨p,hp,hk⟩:=q2 h0;obtain⟨p1,p2⟩:=Q0e hp;have:=ok.rng p p1;refine⟨_,by rw[BG,if_neg (by omega),hp];rfl,?_⟩;simp only;split
   ·exact J0e _ hk
   ·exact hk
  rcases A2 hx with ⟨e,he,rfl⟩|rfl
  ·exact key e he _ (by simp only;split <;> rfl)
  ·refine⟨Qy.1,fun h0=>?_⟩;have Dd:par≠0:=h0;obtain⟨p,hp⟩:=hp.resolve_left Dd;obtain⟨p1,p2⟩:=Q0e hp;refine⟨_,by rw[BG,if_neg (by show par≠_;omega)];show(find N par).map _=_;rw[hp];rfl,?_⟩;simp only[p2,if_true];exact J0d _ (by simp)
 ·have old:∀e∈N,∀k∈e.q.ks,∃c,find (addN N par (next+1) b sp sl) k=some c/\c.q.par=e.id:=fun e he k hk=>by
   obtain⟨c,hc,DJ⟩:=ok.kids e he k hk;obtain⟨c1,c2⟩:=Q0e hc;have:=ok.rng c c1;refine⟨_,by rw[BG,if_neg (by omega),hc];rfl,?_⟩;simp only;split <;> exact DJ
  rcases A2 hx with ⟨e,he,rfl⟩|rfl
  ·by_cases L5:e.id=par
   ·have Bj:k∈e.q.ks++[next+1]:=by
     have:=hk;simp only[L5,if_true] at this;exact this
    rcases Z9Y.1 Bj with Bj|Bj
    ·exact old e he k Bj
    ·rw[J1q] at Bj;subst Bj;exact⟨_,by rw[BG,if_pos rfl],L5.symm⟩
   ·have Bj:k∈e.q.ks:=by
     have:=hk;simp only[L5,if_false] at this;exact this
    exact old e he k Bj
  ·cases hk
 ·rcases A2 hx with ⟨e,he,rfl⟩|rfl
  ·have AE:=ok.nd e he;simp only;split
   ·show(e.q.ks++[next+1]).Nodup;rw[J0c];refine⟨AE,by simp,fun a ha b' Al=>?_⟩;rw[J1q] at Al;subst Al;obtain⟨c,hc,_⟩:=ok.kids e he a ha;obtain⟨c1,c2⟩:=Q0e hc;have:=ok.rng c c1;omega
   ·exact AE
  ·exact List.nodup_nil
 ·rcases A2 hx with ⟨e,he,rfl⟩|rfl
  ·have:=ok.rise e he;simp only;split <;> exact this
  ·show par<next+1;omega
def Q0t(e:En Nd)(j:Nat)(c:En Nd):Nd:=
 {c.q with par:=if c.id∈e.q.ks.take j then e.q.par else c.q.par,ks:=if c.id=e.q.par then c.q.ks.filter (fun k=>decide (k≠e.id))++e.q.ks.take j else c.q.ks}
def Q0N(N:List (En Nd))(e:En Nd)(j:Nat):List (En Nd):=mapE (Q0t e j) (rem N e.id)
theorem NOk.rem_find{N:List (En Nd)}{next:Int}(ok:NOk N next)(e:En Nd)(id:Int):find (rem N e.id) id=if id=e.id then none else find N id:=Q8U ok.ids e.id id
theorem NOk.lift{N:List (En Nd)}{next:Int}(ok:NOk N next){e:En Nd}(he:find N e.id=some e):NOk (Q0N N e e.q.ks.length) next:=by
 obtain⟨B5,_⟩:=Q0e he;have G3:=ok.rng e B5;have Lk:=ok.rise e B5;have Bm:=ok.par e B5;have AY:e.q.ks.take e.q.ks.length=e.q.ks:=J3k;have hL:∀c,Q0t e e.q.ks.length c={c.q with par:=if c.id∈e.q.ks then e.q.par else c.q.par,ks:=if c.id=e.q.par then c.q.ks.filter (fun k=>decide (k≠e.id))++e.q.ks else c.q.ks}:=fun c=>by unfold Q0t;rw[AY]
 have BG:∀id,find (Q0N N e e.q.ks.length) id=if id=e.id then none else(find N id).map fun c=>{c with q:=Q0t e e.q.ks.length c}:=fun id=>by
  unfold Q0N;rw[Q1p,ok.rem_find];split <;> rfl
 have A2:∀{x},x∈Q0N N e e.q.ks.length->∃c∈N,c.id≠e.id/\x={c with q:=Q0t e e.q.ks.length c}:=fun {x} hx=>by
  obtain⟨c,hc,rfl⟩:=Q1k hx;obtain⟨h1,h2⟩:=(Q4a ok.ids e.id c).1 hc;exact⟨c,h1,h2,rfl⟩
 -- whose child is whose
 have Ha:∀c∈N,(c.id∈e.q.ks↔c.q.par=e.id):=fun c hc=>by
  constructor
  ·intro h;obtain⟨d,hd,D0⟩:=ok.kids e B5 c.id h;rw[Q0s ok.ids hc] at hd;cases hd;exact D0
  ·intro h;obtain⟨p,hp,hk⟩:=(ok.par c hc).2 (by omega);rw[h,he] at hp;cases hp;exact hk
 have BE:(rem N e.id).Sublist N:=Q3l N e.id;refine⟨Q1C (fun a b h=>h) (ok.ids.sublist BE),Q1C (fun a b h=>h) (ok.spots.sublist BE),ok.next0,fun x hx=>?_,fun x hx=>?_,fun x hx=>?_,fun x hx k hk=>?_,fun x hx=>?_,fun x hx=>?_⟩
 ·obtain⟨c,hc,_,rfl⟩:=A2 hx;exact ok.rng c hc
 ·obtain⟨c,hc,_,rfl⟩:=A2 hx;exact ok.sm c hc
 ·obtain⟨c,hc,Ab,rfl⟩:=A2 hx;show 0<=(Q0t e e.q.ks.length c).par/\((Q0t e e.q.ks.length c).par≠0->_);rw[hL];simp only;by_cases Ez:c.id∈e.q.ks
  ·rw[if_pos Ez];refine⟨Bm.1,fun h0=>?_⟩;obtain⟨p,hp,hk⟩:=Bm.2 h0;obtain⟨p1,p2⟩:=Q0e hp;refine⟨_,by rw[BG,if_neg (by omega),hp];rfl,?_⟩;show c.id∈(Q0t e e.q.ks.length p).ks;rw[hL];simp only[p2,if_true];exact J0d _ Ez
  ·rw[if_neg Ez];obtain⟨q1,q2⟩:=ok.par c hc;refine⟨q1,fun h0=>?_⟩;obtain⟨p,hp,hk⟩:=q2 h0;have Fe:c.q.par≠e.id:=fun h=>Ez ((Ha c hc).2 h)
   refine⟨_,by rw[BG,if_neg Fe,hp];rfl,?_⟩;show c.id∈(Q0t e e.q.ks.length p).ks;rw[hL];simp only;split
   ·exact J0e _ (Z9L.2 ⟨hk,by simpa using Ab⟩)
   ·exact hk
 ·obtain⟨c,hc,Ab,rfl⟩:=A2 hx;have Bj:k∈(Q0t e e.q.ks.length c).ks:=hk;rw[hL] at Bj;simp only at Bj;have fromC:k∈c.q.ks->k≠e.id->∃d,find (Q0N N e e.q.ks.length) k=some d/\d.q.par=c.id:=fun h1 h2=>by
   obtain⟨d,hd,D0⟩:=ok.kids c hc k h1;obtain⟨d1,d2⟩:=Q0e hd;refine⟨_,by rw[BG,if_neg h2,hd];rfl,?_⟩;show(Q0t e e.q.ks.length d).par=c.id;rw[hL];simp only;rw[if_neg (fun h=>Ab (by rw[<- D0];exact(Ha d d1).1 h))];exact D0
  split at Bj
  ·rename_i DJ;rcases Z9Y.1 Bj with Bj|Bj
   ·obtain⟨h1,h2⟩:=Z9L.1 Bj;exact fromC h1 (by simpa using h2)
   ·obtain⟨d,hd,D0⟩:=ok.kids e B5 k Bj;obtain⟨d1,d2⟩:=Q0e hd;have:=ok.rise d d1;refine⟨_,by rw[BG,if_neg (by omega),hd];rfl,?_⟩;show(Q0t e e.q.ks.length d).par=c.id;rw[hL];simp only;rw[if_pos (by rw[d2];exact Bj),DJ]
  ·refine fromC Bj fun h=>?_
   rename_i DJ;obtain⟨d,hd,D0⟩:=ok.kids c hc k Bj;rw[h,he] at hd;cases hd;exact DJ D0.symm
 ·obtain⟨c,hc,Ab,rfl⟩:=A2 hx;show(Q0t e e.q.ks.length c).ks.Nodup;rw[hL];simp only;split
  ·rw[J0c];refine⟨(ok.nd c hc).filter _,ok.nd e B5,fun a ha b hb DI=>?_⟩;subst DI;obtain⟨d,hd,D0⟩:=ok.kids c hc a (Z9L.1 ha).1;obtain⟨d',OQ,QF⟩:=ok.kids e B5 a hb;rw[hd] at OQ;cases OQ;omega
  ·exact ok.nd c hc
 ·obtain⟨c,hc,Ab,rfl⟩:=A2 hx;show(Q0t e e.q.ks.length c).par<c.id;rw[hL];simp only;split
  ·rename_i h;have:=(Ha c hc).1 h;have:=ok.rise c hc;omega
  ·exact ok.rise c hc
def Q0k(l:List Pl)(tb:Nat->TB)(h s:Nat):Option Ent:=match pget l 1 h with
 | some p=>if p.kind=2/\s<256 then(tb (h%256)).en s else none
 | none=>none
theorem Z0z{l:List Pl}{tb:Nat->TB}{h s:Nat}{e:Ent}(x:Q0k l tb h s=some e):∃p,pget l 1 h=some p/\p.kind=2/\s<256/\(tb (h%256)).en s=some e:=by
 unfold Q0k at x;cases hp:pget l 1 h with
 | none=>rw[hp] at x;cases x
 | some p =>
  rw[hp] at x;simp only at x;split at x
  ·rename_i hc;exact⟨p,rfl,hc.1,hc.2,x⟩
  ·cases x
theorem Q0m{l:List Pl}{tb:Nat->TB}{h s:Nat}{p:Pl}(hp:pget l 1 h=some p)(hk:p.kind=2)(hs:s<256):Q0k l tb h s=(tb (h%256)).en s:=by
 unfold Q0k;rw[hp];simp only;rw[if_pos ⟨hk,hs⟩]
structure Q7v(l:List Pl)(s:Nat)(e:Ent):Prop where
 live:∃q,pget l 1 e.h=some q/\(q.kind=8↔128<=s)
 r:1<=e.r/\e.r<=15
def Q1q(l:List Pl)(tb:Nat->TB)(n:En Nd):Option Ent:=Q0k l tb n.q.sp.toNat n.q.sl.toNat
structure FPI(l:List Pl)(tb:Nat->TB)(N:List (En Nd)):Prop where
 cap:∀h s e,Q0k l tb h s=some e->Q7v l s e
 has:∀h s e,Q0k l tb h s=some e->∃n∈N,n.q.sp=(h:Int)/\n.q.sl=(s:Int)
 is:∀n∈N,∃e,Q1q l tb n=some e
 up:∀n∈N,∀m,find N n.q.par=some m->∀e e',Q1q l tb n=some e->Q1q l tb m=some e'->e.h=e'.h/\e.r&&&e'.r=e.r
theorem Q4b{l:List Pl}{tb:Nat->TB}{h s:Nat}{p:Pl}(hp:pget l 1 h=some p)(hk:p.kind=2)(hs:s<256){t':TB}{o:Option Ent}(ht:∀x,t'.en x=if x=s then o else(tb (h%256)).en x)(h' s':Nat) :
  Q0k l (updT tb (h%256) t') h' s'=if h'=h/\s'=s then o else Q0k l tb h' s':=by
 unfold Q0k;cases AC:pget l 1 h' with
 | none =>
  simp only;rw[if_neg];rintro⟨rfl,_⟩;rw[hp] at AC;cases AC
 | some q =>
  simp only;by_cases e:h'%256=h%256
  ·obtain⟨e1,e2,_⟩:=Q4D AC hp e;subst e1;subst e2;rw[updT_same];by_cases hc:q.kind=2/\s'<256
   ·rw[if_pos hc,if_pos hc,ht];by_cases es:s'=s
    ·rw[if_pos es,if_pos ⟨rfl,es⟩]
    ·rw[if_neg es,if_neg (fun h=>es h.2)]
   ·rw[if_neg hc,if_neg hc,if_neg];rintro⟨_,rfl⟩;exact hc ⟨hk,hs⟩
  ·have hn:¬(h'=h/\s'=s):=fun x=>e (by rw[x.1])
   rw[Q0K e,if_neg hn]
theorem Z0A{l l':List Pl}{s:Nat}{e:Ent}(c:Q7v l s e)(h:∀q,pget l 1 e.h=some q->∃q',pget l' 1 e.h=some q'/\q'.kind=q.kind):Q7v l' s e:=by
 obtain⟨q,h1,h2⟩:=c.live;obtain⟨q',h3,h4⟩:=h q h1;exact⟨⟨q',h3,by rw[h4];exact h2⟩,c.r⟩
section
variable {l:List Pl} {tb:Nat->TB} {N:List (En Nd)} {next:Int} {h s:Nat} {p:Pl}
theorem Q3I{par sp sl:Int}{b:Nat}(ok:NOk N next)(id:Int):find (addN N par (next+1) b sp sl) id=if id=next+1 then some ⟨next+1,b,⟨sp,sl,par,[]⟩⟩ else(find N id).map fun c=>{c with q:=if c.id=par then {c.q with ks:=c.q.ks++[next+1]} else c.q}:=by
 have Em:find N (next+1)=none:=by
  cases hf:find N (next+1) with
  | none=>rfl
  | some e =>
   obtain⟨e1,e2⟩:=Q0e hf;have:=ok.rng e e1;omega
 unfold addN;rw[Q6D,Q1p];by_cases h:id=next+1
 ·subst h;rw[Em];simp
 ·cases hf:find N id with
  | none=>simp[h]
  | some e=>simp[h]
theorem Z0B{l:List Pl}{tb:Nat->TB}(n m:En Nd)(h1:n.q.sp=m.q.sp)(h2:n.q.sl=m.q.sl):Q1q l tb n=Q1q l tb m:=by unfold Q1q;rw[h1,h2]
theorem Z2T(e:En Nd)(par k:Int):(if e.id=par then({e.q with ks:=e.q.ks++[k]}:Nd) else e.q).sp=e.q.sp/\(if e.id=par then({e.q with ks:=e.q.ks++[k]}:Nd) else e.q).sl=e.q.sl/\(if e.id=par then({e.q with ks:=e.q.ks++[k]}:Nd) else e.q).par=e.q.par:=by
 split <;> exact⟨rfl,rfl,rfl⟩
theorem FPI.add(f:FPI l tb N)(ok:NOk N next)(hp:pget l 1 h=some p)(hk:p.kind=2)(hs:s<256)(h0:Q0k l tb h s=none){t':TB}{e:Ent}(ht:∀x,t'.en x=if x=s then some e else(tb (h%256)).en x)(hc:Q7v l s e){par:Int}(b:Nat)
  (Bm:par=0∨∃m em,find N par=some m/\Q1q l tb m=some em/\e.h=em.h/\e.r&&&em.r=e.r):FPI l (updT tb (h%256) t') (addN N par (next+1) b (h:Int) (s:Int)):=by
 have ha:=Q4b hp hk hs ht;have Ab:∀n∈N,¬(n.q.sp.toNat=h/\n.q.sl.toNat=s):=fun n hn ⟨h1,h2⟩=>by
  obtain⟨e1,DP⟩:=f.is n hn;unfold Q1q at DP;rw[h1,h2,h0] at DP;cases DP
 have BH:∀n∈N,Q1q l (updT tb (h%256) t') n=Q1q l tb n:=fun n hn=>by
  unfold Q1q;rw[ha,if_neg (Ab n hn)]
 have A2:∀{x},x∈addN N par (next+1) b (h:Int) (s:Int)->(∃n∈N,x={n with q:=if n.id=par then {n.q with ks:=n.q.ks++[next+1]} else n.q})∨x=⟨next+1,b,⟨(h:Int),(s:Int),par,[]⟩⟩:=fun {x} hx=>by
  rcases Z9Y.1 hx with hx|hx
  ·exact .inl (Q1k hx)
  ·exact .inr (J1q.1 hx)
 have KL:∀n∈N,Q1q l (updT tb (h%256) t') {n with q:=if n.id=par then {n.q with ks:=n.q.ks++[next+1]} else n.q}=Q1q l tb n:=fun n hn=>by
  rw[<- BH n hn];obtain⟨q1,q2,_⟩:=Z2T n par (next+1);exact Z0B _ _ q1 q2
 have Em:Q1q l (updT tb (h%256) t') ⟨next+1,b,⟨(h:Int),(s:Int),par,[]⟩⟩=some e:=by
  unfold Q1q;rw[ha,if_pos ⟨by simp,by simp⟩]
 refine⟨fun h' s' x hx=>?_,fun h' s' x hx=>?_,fun n hn=>?_,fun n hn m hm x y hx hy=>?_⟩
 ·rw[ha] at hx;split at hx
  ·rename_i BJ;cases hx;rw[BJ.2];exact hc
  ·exact f.cap h' s' x hx
 ·rw[ha] at hx;split at hx
  ·rename_i BJ;exact⟨_,J0d _ (J1q.2 rfl),by rw[BJ.1],by rw[BJ.2]⟩
  ·obtain⟨n,hn,h1,h2⟩:=f.has h' s' x hx;obtain⟨q1,q2,_⟩:=Z2T n par (next+1);exact⟨_,J0e _ (Z9y.2 ⟨n,hn,rfl⟩),q1.trans h1,q2.trans h2⟩
 ·rcases A2 hn with ⟨c,BJ,rfl⟩|rfl
  ·rw[KL c BJ];exact f.is c BJ
  ·exact⟨e,Em⟩
 ·-- the parent,in the old row
  have old:∀c,find N c.id=some c->∀m,find (addN N par (next+1) b (h:Int) (s:Int)) c.q.par=some m->find N c.q.par=none->False:=fun c hcf m hm EK=>by
   rw[Q3I ok] at hm;split at hm
   ·rename_i e1;obtain⟨c1,_⟩:=Q0e hcf;have:=ok.rise c c1;have:=ok.rng c c1;omega
   ·rw[EK] at hm;cases hm
  rcases A2 hn with ⟨c,BJ,rfl⟩|rfl
  ·obtain⟨_,_,q3⟩:=Z2T c par (next+1);have Bz:find (addN N par (next+1) b (h:Int) (s:Int)) c.q.par=some m:=by rw[<- q3];exact hm
   rw[KL c BJ] at hx;have IC:=ok.rng c BJ;have Bu:=ok.rise c BJ;rw[Q3I ok,if_neg (by omega)] at Bz;obtain⟨m0,Ej,rfl⟩:=J2Z.1 Bz;rw[KL m0 (Q0e Ej).1] at hy;exact f.up c BJ m0 Ej x y hx hy
  ·rw[Em] at hx;cases hx;have Bz:find (addN N par (next+1) b (h:Int) (s:Int)) par=some m:=hm;rcases Bm with rfl|⟨m1,em,g1,g2,g3,g4⟩
   ·rw[Q3I ok,if_neg (by have:=ok.next0;omega),ok.zero] at Bz;cases Bz
   ·have:=ok.rng m1 (Q0e g1).1;have e2:=(Q0e g1).2;rw[Q3I ok,if_neg (by omega),g1] at Bz;cases Bz;rw[KL m1 (Q0e g1).1,g2] at hy;cases hy;exact⟨g3,g4⟩
theorem FPI.lift(f:FPI l tb N)(ok:NOk N next)(hp:pget l 1 h=some p)(hk:p.kind=2)(hs:s<256){t':TB}(ht:∀x,t'.en x=if x=s then none else(tb (h%256)).en x){e:En Nd}(he:find N e.id=some e)(h1:e.q.sp=(h:Int))(h2:e.q.sl=(s:Int)):FPI l (updT tb (h%256) t') (Q0N N e e.q.ks.length):=by
 have ha:=Q4b hp hk hs ht;have B5:=(Q0e he).1;have AY:e.q.ks.take e.q.ks.length=e.q.ks:=J3k;have L9:∀c,(Q0t e e.q.ks.length c).sp=c.q.sp/\(Q0t e e.q.ks.length c).sl=c.q.sl:=fun c=>⟨rfl,rfl⟩
 have A2:∀{x},x∈Q0N N e e.q.ks.length->∃c∈N,c.id≠e.id/\x={c with q:=Q0t e e.q.ks.length c}:=fun {x} hx=>by
  obtain⟨c,hc,rfl⟩:=Q1k hx;obtain⟨g1,g2⟩:=(Q4a ok.ids e.id c).1 hc;exact⟨c,g1,g2,rfl⟩
 have Ab:∀c∈N,c.id≠e.id->¬(c.q.sp.toNat=h/\c.q.sl.toNat=s):=fun c hc hid ⟨g1,g2⟩=>by
  have:=ok.sm c hc;have:=Q8s ok hc B5 (by omega) (by omega);subst this;exact hid rfl
 have BH:∀c∈N,c.id≠e.id->Q1q l (updT tb (h%256) t') {c with q:=Q0t e e.q.ks.length c}=Q1q l tb c:=fun c hc hid=>by
  unfold Q1q;show Q0k l _ c.q.sp.toNat c.q.sl.toNat=_;rw[ha,if_neg (Ab c hc hid)]
 refine⟨fun h' s' x hx=>?_,fun h' s' x hx=>?_,fun n hn=>?_,fun n hn m hm x y hx hy=>?_⟩
 ·rw[ha] at hx;split at hx
  ·cases hx
  ·exact f.cap h' s' x hx
 ·rw[ha] at hx;split at hx
  ·cases hx
  ·rename_i BJ;obtain⟨n,hn,g1,g2⟩:=f.has h' s' x hx;have hid:n.id≠e.id:=fun e1=>by
    rw[e1.symm,Q0s ok.ids hn] at he;cases he;exact BJ ⟨by omega,by omega⟩
   exact⟨_,Z9y.2 ⟨n,(Q4a ok.ids e.id n).2 ⟨hn,hid⟩,rfl⟩,g1,g2⟩
 ·obtain⟨c,hc,hid,rfl⟩:=A2 hn;rw[BH c hc hid];exact f.is c hc
 ·obtain⟨c,hc,hid,rfl⟩:=A2 hn;rw[BH c hc hid] at hx;have Bz:find (Q0N N e e.q.ks.length) (Q0t e e.q.ks.length c).par=some m:=hm;unfold Q0N at Bz;rw[Q1p,ok.rem_find] at Bz;split at Bz
  ·cases Bz
  ·rename_i Fe;obtain⟨m0,Ej,rfl⟩:=J2Z.1 Bz;have Mn:=(Q0e Ej).1;have Mi:m0.id≠e.id:=by rw[(Q0e Ej).2];exact Fe
   rw[BH m0 Mn Mi] at hy;have Bm:(Q0t e e.q.ks.length c).par=if c.id∈e.q.ks then e.q.par else c.q.par:=by unfold Q0t;rw[AY]
   rw[Bm] at Ej;by_cases Ez:c.id∈e.q.ks
   ·rw[if_pos Ez] at Ej;obtain⟨d,hd,D0⟩:=ok.kids e B5 c.id Ez;rw[Q0s ok.ids hc] at hd;cases hd;obtain⟨z,hz⟩:=f.is e B5;obtain⟨a1,a2⟩:=f.up c hc e (by rw[D0];exact he) x z hx hz;obtain⟨b1,b2⟩:=f.up e B5 m0 Ej z y hz hy;refine⟨a1.trans b1,?_⟩;rw[<- a2,Nat.and_assoc,b2]
   ·rw[if_neg Ez] at Ej;exact f.up c hc m0 Ej x y hx hy
end
def Ent.c(e:Ent):Nat×Nat:=(e.h,e.r)
structure AV where
 en:Nat->Nat->Option (Nat×Nat)
 N:List (En Nd)
def avOf(l:List Pl)(tb:Nat->TB)(N:List (En Nd)):AV:=⟨fun h s=>(Q0k l tb h s).map Ent.c,N⟩
def setA(en:Nat->Nat->Option (Nat×Nat))(h s:Nat)(o:Option (Nat×Nat)):Nat->Nat->Option (Nat×Nat):=fun h' s'=>if h'=h/\s'=s then o else en h' s'
theorem Z7I{en:Nat->Nat->Option (Nat×Nat)}{h s h' s':Nat}{o:Option (Nat×Nat)}(Ab:¬(h'=h/\s'=s)):setA en h s o h' s'=en h' s':=by unfold setA;rw[if_neg Ab]
def less(r m:Nat):Nat:=r-(r&&&m)
theorem Q9r:∀r,r<16->less r 15=0:=by decide
def Z5s(m:Nat)(a:AV)(id:Int):AV×Bool:=match find a.N id with
 | none=>(a,false)
 | some n=>match a.en n.q.sp.toNat n.q.sl.toNat with
  | none=>(a,false)
  | some c=>if less c.2 m=0 then(⟨setA a.en n.q.sp.toNat n.q.sl.toNat none,Q0N a.N n n.q.ks.length⟩,true) else(⟨setA a.en n.q.sp.toNat n.q.sl.toNat (some (c.1,less c.2 m)),a.N⟩,false)
theorem Q2g{S:CO}{fr:List Nat}{N K:Nat}(ok:S.Ok fr N K){i j:Nat}{p r:Pl}(hi:S.l[i]?=some p)(hj:S.l[j]?=some r)(DQ:i≠j)(hp:p.st=1)(hr:r.st=1):p.at_+costK p.kind<=r.at_∨r.at_+costK r.kind<=p.at_:=by
 have m:=ok.inv.mem;have Kk:p.is=true:=Pl.is_iff.2 (.inl hp);have Iy:r.is=true:=Pl.is_iff.2 (.inl hr);have Fl:=J1x hi;have KD:=J1x hj;by_cases DB:p.kind=8
 ·obtain⟨g,hg,eg⟩:=m.frame Fl Kk DB;by_cases Ei:r.kind=8
  ·obtain⟨g',Df,eg'⟩:=m.frame KD Iy Ei;have AE:(Q1I S.l 8).Nodup:=by
    refine m.frs.nodup_iff.2 ?_;unfold List.Nodup;rw[Z9T];exact(Q2w m.pool).1.imp fun h e=>h (by omega)
   have:g≠g':=fun e=>DQ (Z2f (atsF 8) AE hi hj (b:=p.at_) (by rw[<- DB];exact Q1n Kk) (by rw[<- Ei,Q1n Iy,eg',<- e,eg]))
   rw[DB,Ei,costK_8];omega
  ·have:=Q1w m.pool hg (m.used KD Iy Ei);rw[DB,costK_8,Q0Z Ei];omega
 ·have hu:=m.used Fl Kk DB;by_cases Ei:r.kind=8
  ·obtain⟨g',Df,eg'⟩:=m.frame KD Iy Ei;have:=Q1w m.pool Df hu;rw[Ei,costK_8,Q0Z DB];omega
  ·have hv:=m.used KD Iy Ei;rw[Q0Z DB,Q0Z Ei];refine Q2R m.pool hu hv fun e=>?_
   obtain⟨k1,k5⟩:=(m.kind p Fl Kk).resolve_left DB;exact DQ (Z2f (atsF p.kind) (m.at_nd p.kind k1 k5) hi hj (b:=p.at_) (Q1n Kk) (by rw[e.1,Q1n Iy,e.2]))
end Go.Proofs.YtfidemmgofcnmaaGreatDoor
