/- What the laws of spaces share is proved. No condition. Part of a proof. -/
import Derived.Test.YtfidemmgofcnmaaGreatDoorBz09
set_option maxHeartbeats 4000000
set_option maxRecDepth 100000
set_option linter.unusedVariables false
namespace Go.Proofs.YtfidemmgofcnmaaGreatDoor
open Go.RowKit Go.Proofs.Tryz
theorem Z5F{w:World}{h:HT}(s:Sep w h.hl)(ok:LOk h.l):Calls prog 86 #[.pointer (some ⟨h.t,0,none⟩)] w (NewHs w (allL h.l 1)):=by
 have hA:Calls prog 167 #[.pointer (some ⟨h.t,0,none⟩),.int .i64 1] w (NewHs w (allL h.l 1)):=Q7X s ok 1 (by omega);clear s ok;go_enter func86,ntmps86;go_wp2_with (go_at_call 167;refine hA.mono ?_;rintro e w'⟨v,rfl,h1,h2⟩)
 (try go_ret);exact⟨v,rfl,h1,h2⟩
theorem Q8W{w:World}{h:HT}(s:Sep w h.hl)(ok:LOk h.l):Calls prog 87 #[.pointer (some ⟨h.t,0,none⟩)] w (NewHs w (allL h.l 2)):=by
 have hA:Calls prog 167 #[.pointer (some ⟨h.t,0,none⟩),.int .i64 2] w (NewHs w (allL h.l 2)):=Q7X s ok 2 (by omega);clear s ok;go_enter func87,ntmps87;go_wp2_with (go_at_call 167;refine hA.mono ?_;rintro e w'⟨v,rfl,h1,h2⟩)
 (try go_ret);exact⟨v,rfl,h1,h2⟩
theorem Q5L{w:World}{h:HT}(s:Sep w h.hl)(ok:LOk h.l):Calls prog 204 #[.pointer (some ⟨h.t,0,none⟩)] w (Told w (.int .i64 ((allL h.l 0).length:Nat))):=by
 have hA:Calls prog 167 #[.pointer (some ⟨h.t,0,none⟩),.int .i64 0] w (NewHs w (allL h.l 0)):=Q7X s ok 0 (by omega);clear s ok;generalize allL h.l 0=L at *
 go_enter func204,ntmps204;go_wp2_with (go_at_call 167;refine hA.mono ?_;intro e w' hx;obtain⟨a,cap,rfl,hb,-⟩:=hx.shape;have HB:=Q0a hb;clear hx hb)
 (try go_ret);exact⟨rfl,HB.out⟩
theorem empty_iff{l:List Pl}:allL l 0=[]↔∀p∈l,p.st≠0:=by
 constructor
 ·intro h p hp hs;obtain⟨i,hi⟩:=J5Q.1 hp;have Aa:=(J3y.1 hi).1;have:nm i p∈allL l 0:=mem_allTo.2 ⟨i,p,Aa,hi,hs,rfl⟩;rw[h] at this;cases this
 ·intro h;cases hc:allL l 0 with
  | nil=>rfl
  | cons x r =>
   exfalso;have:x∈allL l 0:=by rw[hc];simp
   obtain⟨i,p,_,hi,hs,_⟩:=mem_allTo.1 this;exact h p (J5p hi) hs
def Fst(l:List Pl)(i:Nat)(p:Pl):Prop:=l[i]?=some p/\p.st=0/\∀j q,j<i->l[j]?=some q->q.st≠0
theorem Z8B(l:List Pl):(∀p∈l,p.st≠0)∨∃i p,Fst l i p:=by
 induction l with
 | nil=>left;simp
 | cons x r ih =>
  by_cases hx:x.st=0
  ·right;exact⟨0,x,rfl,hx,fun j q hj=>absurd hj (J6D _)⟩
  ·rcases ih with h|⟨i,p,h1,h2,h3⟩
   ·left;intro p hp;rcases J3m.1 hp with rfl|hp
    ·exact hx
    ·exact h p hp
   ·right;refine⟨i+1,p,h1,h2,fun j q hj hq=>?_⟩;cases j with
    | zero=>cases hq;exact hx
    | succ j=>exact h3 j q (by omega) hq
theorem Z5G{w:World}(p:Pl):Calls prog 201 #[.agg p.cells.toArray] w (Told w (.bool (((p.st:Nat):Int)==0))):=by
 have hc:=Cells.new w 271 p.cells;have c3:(w.alloc (.cells p.cells.toArray 271)).cell? ⟨w.heap.size,3,none⟩=some (.int .i64 (p.st:Int)):=hc.cell 3 _ rfl;unfold Pl.cells at *
 clear hc;go_enter func201,ntmps201
 go_wp2
 go_ret;exact⟨rfl,(Below.refl _ _).alloc (J3h _) _⟩
def FstI(l:List Pl)(z:Int):Prop:=(z = -1/\∀p∈l,p.st≠0)∨∃(i:Nat) (p:Pl),z=(i:Int)/\Fst l i p
theorem Z2R{w:World}{h:HT}(s:Sep w h.hl)(ok:LOk h.l):Calls prog 200 #[.slice (some ⟨h.t,0,none⟩) 256 256,.func (.func 201) #[] #[]] w fun r w'=>(∃z,r=.returned (.int .i64 z)/\FstI h.l z)/\Below w.heap.size w w':=by
 have J2:=ok.1;have HS:=Q0a s;clear s ok;go_enter func200,ntmps200;go_wp2_with fail
 go_loopg [5,8] 256 (fun gk _ iv wr=>∃k:Nat,iv=.int .i64 k/\k+gk=256/\(∀j q,j<k->h.l[j]?=some q->q.st≠0)/\Below w.heap.size w wr)
 case atStart=>exact⟨0,rfl,rfl,fun j q hj=>absurd hj (J6D _),Below.refl _ _⟩
 case round =>
  obtain⟨k,rfl,BR,A1,hb⟩:=hrel;have Dz:=Q0a BR;have Ho:=Q0a A1;have HB:=Q0a hb;clear A1;by_cases Aa:k<256
  ·obtain⟨p,hp⟩:∃p,h.l[k]?=some p:=⟨h.l[k]'(by omega),J5s (by omega)⟩
   obtain⟨c0,c1,c2,c3,c4,-⟩:=HT.cell ((HS.out.grown hb).sep) hp;have HP:=Q0a hp;have B7:Calls prog 201 #[.agg #[.int .i64 (p.kind:Int),.int .i64 (p.at_:Int),.int .i64 (p.fac:Int),.int .i64 (p.st:Int),.int .u32 (p.age:Int)]] wr (Told wr (.bool (((p.st:Nat):Int)==0))):=Z5G p;clear hp hb;by_cases hs:p.st=0
   ·have CH:=Q0a hs;have Hq:(((p.st:Nat):Int)==0)=true:=by simp[hs]
    rw[Hq] at B7;clear hs Hq;go_wp2_with (go_at_call 201;refine B7.mono ?_;rintro e w1⟨rfl,Aq⟩;have BN:=Q0a Aq;clear Aq);have HR:Hid ((∃z,Ending.returned (.int .i64 k)=.returned (.int .i64 z)/\FstI h.l z)/\Below w.heap.size w w1):=⟨⟨_,rfl,.inr ⟨k,p,rfl,HP.out,CH.out,Ho.out⟩⟩,HB.out.trans (BN.out.mono HB.out.size)⟩
    (try go_ret);exact HR.out
   ·have CH:=Q0a hs;have Hq:(((p.st:Nat):Int)==0)=false:=by simp;omega
    rw[Hq] at B7;clear hs Hq;go_wp2_with (go_at_call 201;refine B7.mono ?_;rintro e w1⟨rfl,Aq⟩;have BN:=Q0a Aq;clear Aq);go_roundg (256-(k+1))
    case measure=>have:=Dz.out;omega
    case rel =>
     refine⟨k+1,by go_num,by omega,fun j q hj hq=>?_,HB.out.trans (BN.out.mono HB.out.size)⟩;by_cases e:j=k
     ·subst e;have:=HP.out;rw[this] at hq;cases hq;exact CH.out
     ·exact Ho.out j q (by omega) hq
  ·have HR:Hid ((∃z,Ending.returned (.int .i64 (-1))=.returned (.int .i64 z)/\FstI h.l z)/\Below w.heap.size w wr):=⟨⟨_,rfl,.inl ⟨rfl,fun p hp=>by
    obtain⟨i,hi⟩:=J5Q.1 hp;have:=(J3y.1 hi).1;exact Ho.out i p (by omega) hi⟩⟩,HB.out⟩
   go_wp2_with fail
   (try go_ret);exact HR.out
def PutT(h:HT)(q:Pl)(i:Nat)(w:World)(r:Ending)(w':World):Prop:=r=.returned (.tuple #[.int .u32 ((nm i q:Nat):Int),.int .i64 0])/\Step h.hl ({h with l:=h.l.set i q}:HT).hl w w'
theorem Z5H{w:World}{h:HT}(s:Sep w h.hl)(ok:LOk h.l){i:Nat}{p:Pl}(hf:Fst h.l i p)(k a f x:Nat):Calls prog 149 #[.pointer (some ⟨h.t,0,none⟩),.agg #[.int .i64 k,.int .i64 a,.int .i64 f]] w (PutT h ⟨k,a,f,1,p.age,x⟩ i w):=by
 have Ar:i<256:=by have:=(J3y.1 hf.1).1;have:=ok.1;omega
 have Me:=(ok.2 p (J5p hf.1)).2;have NU:Calls prog 200 #[.slice (some ⟨h.t,0,none⟩) 256 256,.func (.func 201) #[] #[]] (w.alloc (.cells #[.int .i64 k,.int .i64 a,.int .i64 f] 54)) fun r w'=>r=.returned (.int .i64 i)/\w'.cell? ⟨w.heap.size,0,none⟩=some (.int .i64 k)/\w'.cell? ⟨w.heap.size,1,none⟩=some (.int .i64 a)/\w'.cell? ⟨w.heap.size,2,none⟩=some (.int .i64 f) /\
   (∃v,w'.cell? ⟨h.t,i*5,none⟩=some v)/\(∃v,w'.cell? ⟨h.t,i*5+1,none⟩=some v)/\(∃v,w'.cell? ⟨h.t,i*5+2,none⟩=some v)/\(∃v,w'.cell? ⟨h.t,i*5+3,none⟩=some v)/\(∀j,w'.frozen? ⟨h.t,j,none⟩=false) /\
   Calls prog 202 #[.pointer (some ⟨h.t,0,none⟩),.int .i64 i] ((((w'.setCell ⟨h.t,i*5,none⟩ (.int .i64 k)).setCell ⟨h.t,i*5+1,none⟩ (.int .i64 a)).setCell ⟨h.t,i*5+2,none⟩ (.int .i64 f)).setCell ⟨h.t,i*5+3,none⟩ (.int .i64 1)).drew
    fun r w2=>r=.returned (.int .u32 ((nm i p:Nat):Int))/\PutT h ⟨k,a,f,1,p.age,x⟩ i w (.returned (.tuple #[.int .u32 ((nm i p:Nat):Int),.int .i64 0])) w2:=by
  refine(Z2R (s.alloc _) ok).mono ?_;rintro r w'⟨⟨z,rfl,hz⟩,hb⟩;have D5:Below w.heap.size w w':=((Below.refl _ _).alloc (J3h _) _).trans (hb.mono (by simp));have s1:=s.grown D5;have hc:=(Cells.new w 54 [.int .i64 k,.int .i64 a,.int .i64 f]).same (hb.block w.heap.size (by simp));obtain⟨c0,c1,c2,c3,c4,cf⟩:=HT.cell s1.sep hf.1;have Wq:z=(i:Int):=by
   rcases hz with ⟨_,h0⟩|⟨j,q,rfl,h1,h2,h3⟩
   ·exact absurd hf.2.1 (h0 p (J5p hf.1))
   ·rcases J6c i j with e|e|e
    ·exact absurd hf.2.1 (h3 i p e hf.1)
    ·rw[e]
    ·exact absurd h2 (hf.2.2 j q e h1)
  refine⟨by rw[Wq],hc.cell 0 _ rfl,hc.cell 1 _ rfl,hc.cell 2 _ rfl,⟨_,c0⟩,⟨_,c1⟩,⟨_,c2⟩,⟨_,c3⟩,cf,?_⟩;have g:∀(r:Pl),(h.l.set i r)[i]?=some r:=fun r=>by rw[J6P (J3y.1 hf.1).1]
  have t0:Step h.hl (⟨h.t,h.l.set i ⟨k,p.at_,p.fac,p.st,p.age,x⟩⟩:HT).hl w' _:=HT.set s1.sep hf.1 0 (.int .i64 k) (by omega) (q:=⟨k,p.at_,p.fac,p.st,p.age,x⟩) rfl;have t1:=HT.set (h:=⟨h.t,h.l.set i ⟨k,p.at_,p.fac,p.st,p.age,x⟩⟩) t0.sep (g _) 1 (.int .i64 a) (by omega) (q:=⟨k,a,p.fac,p.st,p.age,x⟩) rfl;simp only[J5U] at t1;have t2:=HT.set (h:=⟨h.t,h.l.set i ⟨k,a,p.fac,p.st,p.age,x⟩⟩) t1.sep (g _) 2 (.int .i64 f) (by omega) (q:=⟨k,a,f,p.st,p.age,x⟩) rfl;simp only[J5U] at t2;have t3:=HT.set (h:=⟨h.t,h.l.set i ⟨k,a,f,p.st,p.age,x⟩⟩) t2.sep (g _) 3 (.int .i64 1) (by omega) (q:=⟨k,a,f,1,p.age,x⟩) rfl
  simp only[J5U] at t3;have tt:=(s1.trans (((t0.trans t1).trans t2).trans t3)).drew;have hn:=Q4g (h:=⟨h.t,h.l.set i ⟨k,a,f,1,p.age,x⟩⟩) tt.sep (g _) Ar (by exact Me);refine hn.mono ?_;rintro r w2⟨rfl,rfl⟩;exact⟨rfl,rfl,tt⟩
 have Ac:h.t≠w.heap.size:=by have:=(HT.cells s).lt;omega
 have Bp:w.heap.size≠h.t:=fun e=>Ac e.symm
 have hw:IntKind.i64.wrap (i:Int)=(i:Int):=Go.IntWalk.i64_in _ (by omega);clear s ok hf Me;generalize PutT h ⟨k,a,f,1,p.age,x⟩ i w=Q at *
 generalize nm i p=n at *
 go_enter func149,ntmps149;go_wp2_with (go_at_call 200;refine NU.mono ?_;rintro e w1⟨rfl,o0,o1,o2,⟨v0,c0⟩,⟨v1,c1⟩,⟨v2,c2⟩,⟨v3,c3⟩,cf,JG⟩;have f0:=cf (i*5);have f1:=cf (i*5+1);have f2:=cf (i*5+2);have f3:=cf (i*5+3);have HN:=Q0a JG;clear JG cf);go_region;go_wp2_with fail;refine HN.out.mono ?_;rintro r w2⟨rfl,hq⟩;go_wp2_with fail
 (try go_ret2);exact hq
theorem Z5I(x:Nat):∀y∈Q0c x,y<256:=by
 intro y hy;unfold Q0c at hy;simp only[J3m,J3D,or_false] at hy;rcases hy with rfl|rfl|rfl|rfl|rfl|rfl|rfl|rfl <;> exact J6h _ (by omega)
def one(e:Int):Ending:=.returned (.int .i64 e)
def at2(a:Nat)(e:Int):Ending:=.returned (.tuple #[.int .i64 a,.int .i64 e])
def GetC(S:CO)(fr:List Nat)(own n:Nat)(e:En Fa)(w:World)(r:Ending)(w':World):Prop:=
 (Q0u e<((costK n:Nat):Int)/\r=at2 0 5/\Step S.hl S.hl w w') ∨
 (((costK n:Nat):Int)<=Q0u e/\NoPage S.P/\r=at2 0 4/\Step S.hl S.hl w w') ∨
 ∃a P' fr',((costK n:Nat):Int)<=Q0u e/\GotM S.P fr own n a P' fr'/\r=at2 a 0/\Step S.hl (S.setP P').hl w w'
theorem J1m{S:CO}{fr:List Nat}{w w':World}{r:Ending}(h:Sep w S.hl)(ok:S.P.Ok fr){own n:Nat}{e:En Fa}(hf:find S.P.q.E own=some e)(h1:1<=n)(h7:n<=7)(hr:GetP S.P fr own n w r w'):GetC S fr own n e w r w':=by
 have hc:Q1a (n:Int)=Q0e n:=by unfold Q1a;rw[if_pos (by omega),J4g]
 have E5:=costN_pos.2 ⟨h1,h7⟩;have Ec:costK n=Q0e n:=Q1d (by omega);rcases hr with ⟨h0,_⟩|⟨_,hn,_⟩|⟨_,⟨e',AD,hq⟩,rfl,st⟩|⟨m,e',hm,_,_,AD,hq,hr⟩
 ·omega
 ·rw[hf] at hn;cases hn
 ·rw[hf] at AD;cases AD;exact .inl ⟨by unfold Q0u;rw[Ec,<- hc];exact hq,rfl,CO.stepP h S.P rfl st⟩
 ·have:m=n:=by omega
  subst this;rw[hf] at AD;cases AD;have C5:((costK m:Nat):Int)<=Q0u e:=by unfold Q0u;rw[Ec];exact hq
  rcases hr with ⟨a,P',rfl,g,st⟩|⟨hn,rfl,st⟩
  ·exact .inr (.inr ⟨a,P',fr,C5,g.gotM ok,rfl,CO.stepP h P' g.p st⟩)
  ·exact .inr (.inl ⟨C5,hn.page,rfl,CO.stepP h S.P rfl st⟩)
def PutC(S:CO)(fr:List Nat)(own n a:Nat)(w:World)(r:Ending)(w':World):Prop:=
 r=.returned (.tuple #[])/\∃P' fr',Z5l S.P fr own n a P' fr'/\Step S.hl (S.setP P').hl w w'
structure Held(P:PL)(fr:List Nat)(own n a:Nat)(e:En Fa):Prop where
 acc:find P.q.E own=some e
 paid:((costK n:Nat):Int)<=e.q.charged
 at':n≠8->a∈P.usedOf n
 frame:n=8->∃g∈fr,a=1024*g
theorem J1n{S:CO}{fr:List Nat}{w w':World}{r:Ending}(h:Sep w S.hl)(ok:S.P.Ok fr){own n a:Nat}(hr:PutR S.P fr own n a w r w'):∃P' fr',Z5l S.P fr own n a P' fr'/\Step S.hl (S.setP P').hl w w':=by
 obtain⟨_,P',g,st⟩:=hr;exact⟨P',fr,g.backM ok,CO.stepP h P' g.p st⟩
theorem Z8C{m:List Nat}{a n:Nat}(hn:8<=n)(hl:a+n<=m.length):put_ (put_ m a (List.replicate n 0)) a (Q0c 0)=put_ m a (List.replicate n 0):=by
 have D7:(put_ m a (List.replicate n 0)).length=m.length:=Q1t _ _ _ (by rw[J3r];exact hl);have h8:(Q0c 0).length=8:=rfl
 apply J4J
 intro i;rw[Q4B _ _ _ (by rw[D7,h8];omega)];by_cases h1:i<a
 ·rw[if_pos h1]
 ·rw[if_neg h1];by_cases h2:i<a+(Q0c 0).length
  ·rw[if_pos h2];have:i=a+(i-a):=by omega
   rw[h8] at h2;rw[this,Q7e (by rw[J3r];exact hl) (by rw[J3r];omega),show a+(i-a)-a=i-a by omega,J5c,if_pos (by omega)];have h3:i-a<8:=by omega
   generalize i-a=j at h3
   match j,h3 with
   | 0,_=>rfl
   | 1,_=>rfl
   | 2,_=>rfl
   | 3,_=>rfl
   | 4,_=>rfl
   | 5,_=>rfl
   | 6,_=>rfl
   | 7,_=>rfl
  ·rw[if_neg h2]
def Q2W(S:CO)(own n a:Nat)(lim:Int)(e:En Fa)(w:World)(r:Ending)(w':World):Prop:=
 ((∀p∈S.l,p.st≠0)/\r=one 11/\Step S.hl S.hl w w') ∨
 ((∃i p,Fst S.l i p)/\n≠1/\r=one 0/\Step S.hl S.hl w w') ∨
 ((∃i p,Fst S.l i p)/\n=1/\(∃er,((er=5/\Q0u e<lim)∨(er=11/\S.P.q.E.length=32))/\r=one er)/\Step S.hl (S.setP (S.P.setA (put_ S.P.a.mem a (Q0c 0)))).hl w w') ∨
 ((∃i p,Fst S.l i p)/\n=1/\lim<=Q0u e/\r=one 0/\∃b,Step S.hl (S.setP ((S.P.setQ (Q3I S.P.q own e b lim)).setA (put_ S.P.a.mem a (Q0c S.P.q.next.toNat)))).hl w w')
theorem GotM.acc{P P':PL}{fr fr':List Nat}{own k a:Nat}{e:En Fa}(g:GotM P fr own k a P' fr')(he:find P.q.E own=some e):find P'.q.E own=some {e with q:={e.q with charged:=e.q.charged+((costK k:Nat):Int)}}/\P'.q.E=upd P.q.E own {e.q with charged:=e.q.charged+((costK k:Nat):Int)}/\P'.q.next=P.q.next/\P'.q.E.length=P.q.E.length:=by
 obtain⟨e',q1,_,q3⟩:=g.q;rw[he] at q1;cases q1;rw[q3];refine⟨Q0n he _,rfl,rfl,?_⟩;show(upd _ _ _).length=_;unfold upd;simp
theorem GotM.held{P P':PL}{fr fr':List Nat}{own k a:Nat}{e:En Fa}(g:GotM P fr own k a P' fr')(ok:P.Ok fr)(he:find P.q.E own=some e):Held P' fr' own k a {e with q:={e.q with charged:=e.q.charged+((costK k:Nat):Int)}}:=by
 have h0:=(ok.q.fa _ e he).1;refine⟨(g.acc he).1,by show _<=e.q.charged+_;omega,fun h=>(g.used h).mem_iff.2 (by simp),fun h=>?_⟩;have hf:=g.frs;rw[if_pos h] at hf;obtain⟨x,rfl,hx⟩:=hf;exact⟨x,by rw[hx];simp,rfl⟩
theorem J2q{S:CO}{fr fr':List Nat}{N K:Nat}(ok:S.Ok fr N K){h n a i:Nat}{f p:Pl}{e:En Fa}{lim:Int}{P':PL}(hf:pget S.l 1 h=some f)(DH:f.kind=1)(hn:n=8∨2<=n/\n<=5)(he:find S.P.q.E f.own=some e)(g:GotM S.P fr f.own n a P' fr')(hi:Fst S.l i p) :
  MadeOk S fr f e n a lim 0 i p P' fr':=by
 obtain⟨_,hE,Bs,_⟩:=g.acc he;refine⟨ok.inv.addN g hi.1 hi.2.1 hn hf DH,g.same,g.keptL ok.inv.mem,by rw[Bs];omega,fun _=>hE,fun h=>by omega,fun _ j h1 h2=>?_,g.few,g.high ok.inv.mem.pool (by omega),g.keptH ok.inv.mem.pool,g.room.1⟩;rw[g.mem];have:j=a+(j-a):=by omega
 rw[this,Q7e (by rw[J3r];exact g.room.1) (by rw[J3r];omega),J5c,if_pos (by omega)]
theorem J2r{S:CO}{fr fr':List Nat}{N K:Nat}(ok:S.Ok fr N K)(hN:N+1<1048576){h a i b:Nat}{f p:Pl}{e:En Fa}{lim:Int}{P':PL}(hf:pget S.l 1 h=some f)(DH:f.kind=1)(he:find S.P.q.E f.own=some e)(h0:0<=lim)(hl:lim<=Q0u e-64)(g:GotM S.P fr f.own 1 a P' fr')(hi:Fst S.l i p) :
  MadeOk S fr f e 1 a lim S.P.q.next.toNat i p ((P'.setQ (Q3I P'.q f.own {e with q:={e.q with charged:=e.q.charged+64}} b lim)).setA (put_ P'.a.mem a (Q0c S.P.q.next.toNat))) fr':=by
 obtain⟨Ea,hE,Bs,_⟩:=g.acc he;have Ee:costK 1=64:=rfl;rw[Ee] at Ea hE;have hr:=g.room.1;rw[Ee] at hr;have Ij:∀x,(Q0c x).length=8:=fun _=>rfl
 have Em:=ok.inv.mem.pool.q.next0;have D8:=ok.next;have Lc:((S.P.q.next.toNat:Nat):Int)=S.P.q.next:=by omega
 have Ab:=g.same.len;have okq:(Q3I P'.q f.own {e with q:={e.q with charged:=e.q.charged+64}} b lim).Ok:=Z5B g.ok.q Ea b h0 (by show lim<=e.q.limit-(e.q.charged+64+e.q.given);unfold Q0u at hl;omega) (by rw[Bs];omega);have OK:(put_ P'.a.mem a (Q0c S.P.q.next.toNat)).length=P'.a.mem.length:=Q1t _ _ _ (by rw[Ij];omega);have OG:∀y∈put_ P'.a.mem a (Q0c S.P.q.next.toNat),y<256:=by
  intro y hy;unfold put_ at hy;simp only[J3Q] at hy;rcases hy with (hy|hy)|hy
  ·exact g.ok.bytes y (J6y hy)
  ·exact Z5I _ y hy
  ·exact g.ok.bytes y (J5E hy)
 have ok2:=PL.ok_setA (PL.ok_setQ g.ok okq) (m:=put_ P'.a.mem a (Q0c S.P.q.next.toNat)) OK OG;have hq:(Q3I P'.q f.own {e with q:={e.q with charged:=e.q.charged+64}} b lim).E=upd S.P.q.E f.own {e.q with charged:=e.q.charged+64,given:=e.q.given+lim,kids:=e.q.kids+1}++[⟨(S.P.q.next.toNat:Int),b,⟨lim,0,0,f.own,0⟩⟩]:=by
  unfold Q3I;simp only;rw[hE,upd_upd,Bs,Lc]
 have Ol:KeptL S.P.a.mem (put_ P'.a.mem a (Q0c S.P.q.next.toNat)) S.l:=KeptL.of_apart ok.inv.mem (n:=64) (a:=a) (fun c j h=>by
  have k1:Kept S.P.a.mem P'.a.mem c j:=by
   rw[g.mem];exact Q1w (by rw[J3r,Ee];exact hr) (by rw[J3r,Ee];exact h)
  exact k1.trans (Q1w (by rw[Ij];omega) (by rw[Ij];omega))) (g.apart ok.inv.mem.pool)
 refine⟨?_,⟨g.same.p,g.same.qt,g.same.db,g.same.aa,g.same.amb,g.same.top,OK.trans Ab⟩,Ol,?_,fun h=>absurd rfl h,fun _=>⟨Lc,?_,b,hq⟩,fun h=>absurd rfl h,g.few,g.high ok.inv.mem.pool (by omega),fun j c hj hc=>?_,by rw[Ee];exact hr⟩
 ·exact ok.inv.addF g hi.1 hi.2.1 hf DH Lc he hq rfl (fun j=>rfl) ok2
 ·show P'.q.next+1<=_;rw[Bs];omega
 ·show P'.q.next+1=_;rw[Bs]
 ·have:=(g.apart ok.inv.mem.pool).1 j c hc;rw[Ee] at this;exact(g.keptH ok.inv.mem.pool j c hj hc).trans (Q1w (by rw[Ij];omega) (by rw[Ij];omega))
def NewG(per:Nat)(H:HL)(w:World)(r:Ending)(w':World):Prop:=∃g,r=.returned (.pointer (some ⟨g,0,none⟩))/\Step H (qhl g per 0 none []++H) w w'
theorem Z8D{w:World}{H:HL}(h:Sep w H)(per:Nat)(h1:1<=per)(h2:per<=16):Calls prog 148 #[.int .i64 per] w (NewG per H w):=by
 have HR:Hid (NewG per H w (.returned (.pointer (some ⟨w.heap.size,0,none⟩))) (w.alloc (.cells #[.int .i64 per,.int .i64 0,.slice none 0 0] 305))):=⟨_,rfl,h.new 305 [.int .i64 per,.int .i64 0,.slice none 0 0]⟩
 have Iw:decide ((per:Int)<1)=false:=by rw[decide_eq_false_iff_not];omega
 have D6:decide ((16:Int)<(per:Int))=false:=by rw[decide_eq_false_iff_not];omega
 have A3:(1:Int)<=(per:Int):=by omega
 have Az:(per:Int)<=16:=by omega
 clear h;go_enter func148,ntmps148;go_wp2_with fail
 (try go_ret);exact HR.out
theorem Q8X{w:World}{q:QT}(h:Sep w q.hl)(ok:q.Ok){id:Int}{e:En Fa}(hf:find q.E id=some e)(limit:Int)(h0:0<=limit)(hq:e.q.limit-(e.q.charged+e.q.given)<limit) :
  Calls prog 14 #[ptr q.t,.int .i64 id,.int .i64 limit] w (Told w (.tuple #[.int .i64 0,.int .i64 5])):=by
 have k1:=Q2z h hf;obtain⟨a1,a2,a3,a4,_⟩:=ok.fa id e hf;have k2:=Q2S (QT.fac h hf) a1 a2 a3 a4 limit;have hd:decide (limit<=e.q.limit-(e.q.charged+e.q.given))=false:=by rw[decide_eq_false_iff_not];omega
 rw[hd] at k2;clear h hf ok hd hq;unfold ptr at *
 go_enter func14,ntmps14;go_wp2_with (first|(go_at_call 66;refine k1.mono ?_;rintro e w'⟨rfl,rfl⟩)|(go_at_call 67;refine k2.mono ?_;rintro e w1⟨rfl,hb⟩;have HB:=Q0a hb;clear hb));go_ret2;exact⟨rfl,HB.out⟩
theorem Z2S{P:Program}{w:World}{m:Nat}{kv:List (Value×Value)}(h:MapIs w m kv){t k e:TypeId}(ht:P.underlying t=some (.map k e))(ty:TypeId):(Builtin.len_ #[t] ty #[.map (some m)]).run P w=.ok (.int .i64 ((kv.length:Nat):Int)) w:=by
 obtain⟨es,Ah,ho,_,hr⟩:=h;have:kv.length=es.size:=by rw[<- hr];simp
 rw[this];simp[Builtin.len_,run_underlying ht,MapKept.run_getObj_map ho,goInt,Result.andThen]
theorem QT.len{w:World}{q:QT}(h:Sep w q.hl)(ty:TypeId):(Builtin.len_ #[148] ty #[.map (some q.m)]).run prog w=.ok (.int .i64 ((q.E.length:Nat):Int)) w:=by
 have:=Z2S (QT.map h) underlying148 ty
 simpa[kvs] using this
theorem Z0r{w:World}{q:QT}(h:Sep w q.hl)(ok:q.Ok){id:Int}{e:En Fa}(hf:find q.E id=some e)(limit:Int)(h0:0<=limit)(hq:limit<=e.q.limit-(e.q.charged+e.q.given))(hl:q.E.length=32) :
  Calls prog 14 #[ptr q.t,.int .i64 id,.int .i64 limit] w (Told w (.tuple #[.int .i64 0,.int .i64 11])):=by
 have k1:=Q2z h hf;obtain⟨a1,a2,a3,a4,_⟩:=ok.fa id e hf;have k2:=Q2S (QT.fac h hf) a1 a2 a3 a4 limit;have hd:decide (limit<=e.q.limit-(e.q.charged+e.q.given))=true:=by rw[decide_eq_true_eq];exact hq
 rw[hd] at k2;have HN:Hid (∀w1,Below w.heap.size w w1->w1.cell? ⟨q.t,0,none⟩=some (.map (some q.m))/\∀ty,(Builtin.len_ #[148] ty #[.map (some q.m)]).run prog w1=.ok (.int .i64 32) w1):=fun w1 hb=>by
  have s1:=(h.grown hb).sep;refine⟨QT.c0 s1,fun ty=>?_⟩;have:=QT.len s1 ty;rw[hl] at this;exact this
 clear h hf ok hd hq hl;unfold ptr at *
 go_enter func14,ntmps14;go_wp2_with (first|(go_at_call 66;refine k1.mono ?_;rintro e w'⟨rfl,rfl⟩)|(go_at_call 67;refine k2.mono ?_;rintro e w1⟨rfl,hb⟩;obtain⟨d0,dl⟩:=HN.out w1 hb;have HB:=Q0a hb;clear hb));go_ret2;exact⟨rfl,HB.out⟩
theorem Z5J{w:World}{q:QT}(h:Sep w q.hl)(ok:q.Ok){id:Int}{e:En Fa}(hf:find q.E id=some e)(limit:Int)(h0:0<=limit)(hq:limit<=e.q.limit-(e.q.charged+e.q.given))(hl:q.E.length≠32)(hn:q.next+1<1048576) :
  Calls prog 14 #[ptr q.t,.int .i64 id,.int .i64 limit] w (Z0q w q id e limit):=by
 have k1:=Q2z h hf;obtain⟨a1,a2,a3,a4,a5,a6,_⟩:=ok.fa id e hf;have k2:=Q2S (QT.fac h hf) a1 a2 a3 a4 limit;have hd:decide (limit<=e.q.limit-(e.q.charged+e.q.given))=true:=by rw[decide_eq_true_eq];exact hq
 rw[hd] at k2;have Em:=ok.next0;have HN:Hid (∀w1,Below w.heap.size w w1->w1.cell? ⟨q.t,0,none⟩=some (.map (some q.m))/\w1.cell? ⟨q.t,1,none⟩=some (.int .i64 q.next)/\w1.frozen? ⟨q.t,1,none⟩=false/\(∀ty,(Builtin.len_ #[148] ty #[.map (some q.m)]).run prog w1=.ok (.int .i64 ((q.E.length:Nat):Int)) w1) /\
   Q0H ((w1.setCell ⟨q.t,1,none⟩ (.int .i64 (q.next+1))).alloc (.cells #[.int .i64 limit,.int .i64 0,.int .i64 0,.int .i64 id,.int .i64 0] 147)) q.m (kvs q.E) /\
   ∀w4,Q0H w4 q.m (put (kvs q.E) q.next (.pointer (some ⟨w1.heap.size,0,none⟩)))->((w1.setCell ⟨q.t,1,none⟩ (.int .i64 (q.next+1))).alloc (.cells #[.int .i64 limit,.int .i64 0,.int .i64 0,.int .i64 id,.int .i64 0] 147)).grownBy w4 (some q.m) ->
    w4.cell? ⟨e.b,2,none⟩=some (.int .i64 e.q.given)/\w4.cell? ⟨e.b,4,none⟩=some (.int .i64 e.q.kids)/\(∀i,w4.frozen? ⟨e.b,i,none⟩=false) /\
    Z0q w q id e limit (.returned (.tuple #[.int .i64 q.next,.int .i64 0])) ((w4.setCell ⟨e.b,2,none⟩ (.int .i64 (e.q.given+limit))).setCell ⟨e.b,4,none⟩ (.int .i64 (e.q.kids+1)))):=fun w1 hb=>by
  have s1:=h.grown hb;have hm:Q0H (w1.setCell ⟨q.t,1,none⟩ (.int .i64 (q.next+1))) q.m (kvs q.E):=(QT.map s1.sep).set _ _;refine⟨QT.c0 s1.sep,QT.c1 s1.sep,(s1.sep.cells (T:=150) (cs:=[.map (some q.m),.int .i64 q.next]) (by simp[QT.hl])).free 1,QT.len s1.sep,hm.alloc _,fun w4 PM hg=>?_⟩;obtain⟨c1,c2,c3,st⟩:=QT.carve s1.sep ok hf limit w4 PM hg;exact⟨c1,c2,c3,rfl,_,s1.trans st⟩
 have hw:IntKind.i64.wrap (q.next+1)=q.next+1:=Go.IntWalk.i64_in _ (by omega);have E3:IntKind.i64.wrap (e.q.given+limit)=e.q.given+limit:=Go.IntWalk.i64_in _ (by omega);have FY:IntKind.i64.wrap (e.q.kids+1)=e.q.kids+1:=Go.IntWalk.i64_in _ (by have:=ok.next1;omega);have U4:(((q.E.length:Nat):Int)==32)=false:=by simp;omega
 generalize hQ:Z0q w q id e limit=Q at *
 clear h hf ok hd hq hl hn hQ;unfold ptr at *
 generalize ((q.E.length:Nat):Int)=n32 at *
 go_enter func14,ntmps14;go_wp2_with (first|(go_at_call 66;refine k1.mono ?_;rintro e w'⟨rfl,rfl⟩)|(go_at_call 67;refine k2.mono ?_;rintro e w1⟨rfl,hb⟩;obtain⟨d0,d1,df,dl,hm,B3⟩:=HN.out w1 hb;have HM:=Q0a hm;have HF:=Q0a B3;clear hb hm B3 HN)|(refine Q1G _ rfl _ _ _ 148 3 140 rfl underlying148 underlying3 q.m (kvs q.E) HM.out q.next (.pointer (some ⟨w1.heap.size,0,none⟩)) rfl rfl rfl ?_;intro w4 Eb BS;obtain⟨e2,e4,ef,U2⟩:=HF.out w4 Eb BS;have ef2:=ef 2;have ef4:=ef 4;have JC:=Q0a U2;clear Eb BS ef U2))
 (try go_ret2);exact JC.out
theorem Inv.lok{P:PL}{l:List Pl}{fr:List Nat}{xc:Int->Int}{zs:List Nat}(v:Inv P l fr xc zs):LOk l:=⟨v.len,fun p hp=>⟨by have:=(v.st p hp).1;omega,(v.st p hp).2⟩⟩
theorem new3{w w1:World}{T:TypeId}{a b c:Value}(hb:Below (w.alloc (.cells #[a,b,c] T)).heap.size (w.alloc (.cells #[a,b,c] T)) w1):Below w.heap.size w w1/\w1.cell? ⟨w.heap.size,0,none⟩=some a/\w1.cell? ⟨w.heap.size,1,none⟩=some b/\w1.cell? ⟨w.heap.size,2,none⟩=some c/\(∀i,w1.frozen? ⟨w.heap.size,i,none⟩=false)/\w.heap.size<w1.heap.size:=by
 have hc:=(Cells.new w T [a,b,c]).same (hb.block w.heap.size (by simp));refine⟨((Below.refl _ _).alloc (J3h _) _).trans (hb.mono (by simp)),hc.cell 0 _ rfl,hc.cell 1 _ rfl,hc.cell 2 _ rfl,hc.free,?_⟩;have:=hb.size;simp at this;omega
theorem Q0b{w w1:World}{o:Obj}(hb:Below (w.alloc o).heap.size (w.alloc o) w1):Below w.heap.size w w1:=((Below.refl _ _).alloc (J3h _) _).trans (hb.mono (by simp))
theorem Q8Y{w w1:World}(h:Below w.heap.size w w1)(a b c:Value)(o:Obj):Below w.heap.size w ((((w1.setCell ⟨w.heap.size,0,none⟩ a).setCell ⟨w.heap.size,1,none⟩ b).setCell ⟨w.heap.size,2,none⟩ c).alloc o):=
 (((h.setCell (J3h _) _).setCell (J3h _) _).setCell (J3h _) _).alloc (by have:=h.size;simpa[World.setCell] using this) _
theorem Z5K{w:World}{S:CO}(h:Sep w S.hl){x:Nat}{a b c e kind:Int}(hG:Calls prog 112 #[.pointer (some ⟨S.t,0,none⟩),.int .u32 x] (w.alloc (.cells #[.int .i64 0,.int .i64 0,.int .i64 0] 54)) (Told (w.alloc (.cells #[.int .i64 0,.int .i64 0,.int .i64 0] 54)) (.tuple #[.agg #[.int .i64 a,.int .i64 b,.int .i64 c],.int .i64 e])))
  (hc:e≠0∨kind=0∨a=kind):Calls prog 49 #[.pointer (some ⟨S.c,0,none⟩),.int .u32 x,.int .i64 kind] w (Told w (.tuple #[.agg #[.int .i64 a,.int .i64 b,.int .i64 c],.int .i64 e])):=by
 have c1:=CO.c1 (h.alloc (.cells #[.int .i64 0,.int .i64 0,.int .i64 0] 54));have A7:e≠0∨e=0/\kind=0∨e=0/\kind≠0/\a=kind:=by omega
 clear h hc;rcases A7 with he|⟨rfl,rfl⟩|⟨rfl,hk,rfl⟩
 ·have Aq:(e==0)=false:=by simpa using he
  go_enter func49,ntmps49;go_wp2_with (go_at_call 112;refine hG.mono ?_;rintro r w1⟨rfl,hb⟩;obtain⟨hb,e0,e1,e2,ef,Aa⟩:=new3 hb;have HB:=Q0a hb;have f0:=ef 0;have f1:=ef 1;have f2:=ef 2;clear hb ef);refine bodyPost_ret (v:=.tuple #[.agg #[.int .i64 a,.int .i64 b,.int .i64 c],.int .i64 e]) (by simp[results,results49,go_sem,e0,e1,e2,Aa]) rfl ⟨rfl,Q8Y HB.out _ _ _ _⟩
 ·go_enter func49,ntmps49;go_wp2_with (go_at_call 112;refine hG.mono ?_;rintro r w1⟨rfl,hb⟩;obtain⟨hb,e0,e1,e2,ef,Aa⟩:=new3 hb;have HB:=Q0a hb;have f0:=ef 0;have f1:=ef 1;have f2:=ef 2;clear hb ef);refine bodyPost_ret (v:=.tuple #[.agg #[.int .i64 a,.int .i64 b,.int .i64 c],.int .i64 0]) (by simp[results,results49,go_sem,e0,e1,e2,Aa]) rfl ⟨rfl,Q8Y HB.out _ _ _ _⟩
 ·have Aq:(a==0)=false:=by simpa using hk
  go_enter func49,ntmps49;go_wp2_with (go_at_call 112;refine hG.mono ?_;rintro r w1⟨rfl,hb⟩;obtain⟨hb,e0,e1,e2,ef,Aa⟩:=new3 hb;have HB:=Q0a hb;have f0:=ef 0;have f1:=ef 1;have f2:=ef 2;clear hb ef);refine bodyPost_ret (v:=.tuple #[.agg #[.int .i64 a,.int .i64 b,.int .i64 c],.int .i64 0]) (by simp[results,results49,go_sem,e0,e1,e2,Aa]) rfl ⟨rfl,Q8Y HB.out _ _ _ _⟩
theorem Z8E{w:World}{S:CO}(h:Sep w S.hl){x:Nat}{a b c kind:Int}(hG:Calls prog 112 #[.pointer (some ⟨S.t,0,none⟩),.int .u32 x] (w.alloc (.cells #[.int .i64 0,.int .i64 0,.int .i64 0] 54)) (Told (w.alloc (.cells #[.int .i64 0,.int .i64 0,.int .i64 0] 54)) (.tuple #[.agg #[.int .i64 a,.int .i64 b,.int .i64 c],.int .i64 0])))
  (hk:kind≠0) (ha:a≠kind):Calls prog 49 #[.pointer (some ⟨S.c,0,none⟩),.int .u32 x,.int .i64 kind] w (Told w (.tuple #[.agg #[.int .i64 0,.int .i64 0,.int .i64 0],.int .i64 10])):=by
 have c1:=CO.c1 (h.alloc (.cells #[.int .i64 0,.int .i64 0,.int .i64 0] 54));have Aq:(kind==0)=false:=by simpa using hk
 have Ae:(a==kind)=false:=by simpa using ha
 have Am:(kind != 0)=true:=by simpa using hk
 have Av:(a != kind)=true:=by simpa using ha
 clear h hk ha;go_enter func49,ntmps49;go_wp2_with (go_at_call 112;refine hG.mono ?_;rintro r w1⟨rfl,hb⟩;obtain⟨hb,e0,e1,e2,ef,Aa⟩:=new3 hb;have HB:=Q0a hb;have f0:=ef 0;have f1:=ef 1;have f2:=ef 2;clear hb ef);refine bodyPost_ret (v:=.tuple #[.agg #[.int .i64 0,.int .i64 0,.int .i64 0],.int .i64 10]) (by simp[results,results49,go_sem,e0,e1,e2,Aa]) rfl ⟨rfl,Q8Y HB.out _ _ _ _⟩
section
variable {w:World} {S:CO} {fr:List Nat} {N K:Nat}
theorem Q4h(h:Sep w S.hl)(ok:LOk S.l){x:Nat}(hx:x<4294967296)(kind:Int)(hp:pget S.l 1 x=none):Calls prog 49 #[.pointer (some ⟨S.c,0,none⟩),.int .u32 x,.int .i64 kind] w (Told w (.tuple #[zobj,.int .i64 8])):=
 Z5K h (Q8V (h:=S.ht) (CO.sT (h.alloc _)) ok hx hp) (.inl (by decide))
theorem Q3m(h:Sep w S.hl)(ok:LOk S.l){x:Nat}(hx:x<4294967296)(kind:Int){p:Pl}(hp:pget S.l 1 x=some p)(hk:kind=0∨(p.kind:Int)=kind):Calls prog 49 #[.pointer (some ⟨S.c,0,none⟩),.int .u32 x,.int .i64 kind] w (Told w (.tuple #[p.obj,.int .i64 0])):=
 Z5K h (Q5K (h:=S.ht) (CO.sT (h.alloc _)) ok hx hp) (.inr hk)
theorem Q4i(h:Sep w S.hl)(ok:LOk S.l){x:Nat}(hx:x<4294967296)(kind:Int){p:Pl}(hp:pget S.l 1 x=some p)(h0:kind≠0)(hk:(p.kind:Int)≠kind):Calls prog 49 #[.pointer (some ⟨S.c,0,none⟩),.int .u32 x,.int .i64 kind] w (Told w (.tuple #[zobj,.int .i64 10])):=
 Z8E h (Q5K (h:=S.ht) (CO.sT (h.alloc _)) ok hx hp) h0 hk
end
theorem CO.Ok.wordf{S:CO}{fr:List Nat}{N K:Nat}(ok:S.Ok fr N K){p:Pl}(hp:p∈S.l)(hi:p.is=true)(hk:p.kind=1):Q0m S.P.a.mem p.at_=p.own/\p.at_%8=0/\p.at_+8<=S.P.a.mem.length/\p.own<1048576:=by
 have hu:=ok.inv.mem.used hp hi (by omega);rw[hk] at hu;have h1:=Q0k ok.inv.mem.pool hu;have:Q0e 1=64:=rfl;refine⟨ok.inv.mem.word p hp hi hk,Q2e ok.inv.mem.pool hu,by omega,?_⟩;obtain⟨e,he⟩:=ok.inv.tre.acc hp hi hk;have h2:=ok.inv.mem.pool.q.fa _ e he;have h3:=ok.inv.mem.pool.q.next1;omega
theorem Z5L{w:World}{S:CO}(h:Sep w S.hl)(hb:∀b∈S.P.a.mem,b<256)(hm:S.P.a.mem.length<=1073741824){k a f x:Nat}(ha:a%8=0)(hl:a+8<=S.P.a.mem.length)(hx:Q0m S.P.a.mem a=x)(EZ:x<1048576) :
  Calls prog 203 #[.pointer (some ⟨S.c,0,none⟩),.agg #[.int .i64 k,.int .i64 a,.int .i64 f]] w (Told w (.int .i64 x)):=by
 have s1:=(h.alloc (.cells #[.int .i64 k,.int .i64 a,.int .i64 f] 54)).drew;have k1:=Q0s (CO.sP s1);have k2:=Z0j (PL.sA (CO.sP s1)) hb a ha hl hm;rw[hx] at k2;have c0:=CO.c0 (h.alloc (.cells #[.int .i64 k,.int .i64 a,.int .i64 f] 54));have d0:=CO.c0 s1;have e1:(w.alloc (.cells #[.int .i64 k,.int .i64 a,.int .i64 f] 54)).cell? ⟨w.heap.size,1,none⟩=some (.int .i64 a):=(Cells.new w 54 [.int .i64 k,.int .i64 a,.int .i64 f]).cell 1 _ rfl;have e2:(w.alloc (.cells #[.int .i64 k,.int .i64 a,.int .i64 f] 54)).drew.cell? ⟨w.heap.size,1,none⟩=some (.int .i64 a):=e1;have HB:Hid (Below w.heap.size w (w.alloc (.cells #[.int .i64 k,.int .i64 a,.int .i64 f] 54)).drew):=((Below.refl _ _).alloc (J3h _) _).drew
 have hw:IntKind.i64.wrap (x:Int)=(x:Int):=Go.IntWalk.i64_in _ (by omega);unfold ptr at *
 clear h hb hm ha hl hx s1;go_enter func203,ntmps203;go_wp2_with fail
 go_region_held3 (fun w'=>w'.cell? ⟨S.c,0,none⟩=some (.pointer (some ⟨S.P.p,0,none⟩))/\w'.cell? ⟨w.heap.size,1,none⟩=some (.int .i64 a)) (first|exact⟨c0,e1⟩|exact⟨d0,e2⟩)
  (first|(go_at_call 50;refine k1.mono ?_;rintro e w'⟨rfl,rfl⟩)|(go_at_call 58;refine k2.mono ?_;rintro e w'⟨rfl,rfl⟩))
 go_wp2_with fail
 (try go_ret);exact⟨rfl,HB.out⟩
theorem Z1J{w:World}{S:CO}{x:Nat}{e:Int}(he:e≠0)(hO:Calls prog 49 #[.pointer (some ⟨S.c,0,none⟩),.int .u32 x,.int .i64 1] w (Told w (.tuple #[.agg #[.int .i64 0,.int .i64 0,.int .i64 0],.int .i64 e]))) :
  Calls prog 150 #[.pointer (some ⟨S.c,0,none⟩),.int .u32 x] w (Told w (.tuple #[.int .i64 0,.int .i64 e])):=by
 have Aq:(e==0)=false:=by simpa using he
 go_enter func150,ntmps150;go_wp2_with (go_at_call 49;refine hO.mono ?_;rintro r w1⟨rfl,hb⟩;have HB:=Q0a hb;clear hb);have EE:Hid (∀o,Below w.heap.size w (w1.alloc o)):=fun o=>HB.out.alloc HB.out.size o
 go_ret2;exact⟨rfl,EE.out _⟩
theorem Q8Z{w:World}{S:CO}{fr:List Nat}{N K:Nat}(h:Sep w S.hl)(ok:S.Ok fr N K){x:Nat}(hx:x<4294967296){p:Pl}(hp:pget S.l 1 x=some p)(hk:p.kind=1) :
  Calls prog 150 #[.pointer (some ⟨S.c,0,none⟩),.int .u32 x] w (Told w (.tuple #[.int .i64 (p.own:Int),.int .i64 0])):=by
 have hO:Calls prog 49 #[.pointer (some ⟨S.c,0,none⟩),.int .u32 x,.int .i64 1] w (Told w (.tuple #[.agg #[.int .i64 (p.kind:Int),.int .i64 (p.at_:Int),.int .i64 (p.fac:Int)],.int .i64 0])):=Q3m h ok.inv.lok hx 1 hp (.inr (by omega));obtain⟨w1_eq,w2,w3,w4⟩:=ok.wordf (Q1l hp) (Pl.is_iff.2 (.inl (pget_some.1 hp).2.2)) hk;have HW:Hid (∀w1,Below w.heap.size w w1->∀o,Calls prog 203 #[.pointer (some ⟨S.c,0,none⟩),.agg #[.int .i64 (p.kind:Int),.int .i64 (p.at_:Int),.int .i64 (p.fac:Int)]] (w1.alloc o) fun r w'=>r=.returned (.int .i64 (p.own:Int))/\Below w.heap.size w w'):=fun w1 hb o =>
  (Z5L (k:=p.kind) (a:=p.at_) (f:=p.fac) ((h.grown hb).sep.alloc o) ok.inv.mem.pool.bytes (Q0g ok.inv.mem.pool) w2 w3 w1_eq w4).mono fun r w' ⟨e,Al⟩=>⟨e,(hb.alloc hb.size o).trans (Al.mono (by have:=hb.size;simp;omega))⟩
 clear h ok hp w1_eq w2 w3 w4 hk;generalize p.own=po at *
 generalize p.kind=pk at *
 generalize p.at_=pa at *
 generalize p.fac=pf at *
 go_enter func150,ntmps150;go_wp2_with (first|(go_at_call 49;refine hO.mono ?_;rintro r w1⟨rfl,hb⟩;have HB:=Q0a hb;clear hb)|(go_at_call 203;refine(HW.out _ HB.out _).mono ?_;rintro r w2⟨rfl,hb⟩;have EE:=Q0a hb;clear hb));go_ret2;exact⟨rfl,EE.out⟩
theorem Z5M{w:World}{S:CO}(h:Sep w S.hl)(ok:LOk S.l):Calls prog 28 #[.pointer (some ⟨S.c,0,none⟩)] w (NewHs w (allL S.l 1)):=by
 have c1:=CO.c1 h;have hA:=Z5F (h:=S.ht) (CO.sT h) ok;clear h ok;unfold CO.ht at hA;go_enter func28,ntmps28;go_wp2_with (go_at_call 86;refine hA.mono ?_;rintro e w'⟨v,rfl,h1,h2⟩)
 (try go_ret);exact⟨v,rfl,h1,h2⟩
theorem Q9a{w:World}{S:CO}(h:Sep w S.hl)(ok:LOk S.l):Calls prog 29 #[.pointer (some ⟨S.c,0,none⟩)] w (NewHs w (allL S.l 2)):=by
 have c1:=CO.c1 h;have hA:=Q8W (h:=S.ht) (CO.sT h) ok;clear h ok;unfold CO.ht at hA;go_enter func29,ntmps29;go_wp2_with (go_at_call 87;refine hA.mono ?_;rintro e w'⟨v,rfl,h1,h2⟩)
 (try go_ret);exact⟨v,rfl,h1,h2⟩
theorem Q0S{w:World}{S:CO}(h:Sep w S.hl):Calls prog 27 #[.pointer (some ⟨S.c,0,none⟩)] w fun r w'=>r=.returned (.pointer (some ⟨S.P.p,0,none⟩))/\w=w':=by
 have c0:=CO.c0 h;clear h;go_enter func27,ntmps27
 go_wp2
 go_ret;exact⟨rfl,rfl⟩
theorem Z0s{w:World}{S:CO}{fr:List Nat}(h:Sep w S.hl)(ok:S.P.Ok fr){own:Nat}{e:En Fa}(hf:find S.P.q.E own=some e)(hq:(1024:Int)<=Q0u e) :
  Calls prog 68 #[ptr S.P.q.t,.int .i64 own,.int .i64 1024] w fun r w1=>r=.returned (.int .i64 0)/\w1.cell? ⟨S.c,0,none⟩=some (ptr S.P.p)/\w1.cell? ⟨S.P.p,1,none⟩=some (ptr S.P.d.b) /\
   Calls prog 129 #[ptr S.P.d.b,.int .i64 0] w1 fun r w2 =>
    (∃a:Nat,r=.returned (.tuple #[.int .i64 a,.int .i64 0])/\w2.cell? ⟨S.c,0,none⟩=some (ptr S.P.p) /\
     Calls prog 50 #[ptr S.P.p] w2 (fun r w'=>r=.returned (ptr S.P.a.a)/\w2=w') /\
     Calls prog 71 #[ptr S.P.a.a,.int .i64 a,.int .i64 1024,.int .u8 0] w2 fun r w3=>r=.returned (.int .i64 0)/\GetC S fr own 8 e w (at2 a 0) w3)
    ∨ (r=.returned (.tuple #[.int .i64 0,.int .i64 4])/\w2.cell? ⟨S.c,0,none⟩=some (ptr S.P.p)/\w2.cell? ⟨S.P.p,0,none⟩=some (ptr S.P.q.t) /\
     Calls prog 70 #[ptr S.P.q.t,.int .i64 own,.int .i64 1024] w2 fun r w3=>r=.returned (.int .i64 0)/\GetC S fr own 8 e w (at2 0 4) w3):=by
 obtain⟨f1,f2,f3,f4,f5,f6,f7,f8⟩:=ok.q.fa _ e hf;have Ai:=ok.q.ids;have C5:(1024:Int)<=e.q.limit-(e.q.charged+e.q.given):=hq;refine(Q6V (PL.sQ (CO.sP h)) ok.q hf 1024 (by omega) C5).mono ?_;rintro r w1⟨rfl,st1⟩;have s1:Step S.hl (S.setP (S.P.setQ {S.P.q with E:=upd S.P.q.E own {e.q with charged:=e.q.charged+1024}})).hl w w1:=CO.stepP h _ rfl (PL.stepQ (CO.sP h) {S.P.q with E:=upd S.P.q.E own {e.q with charged:=e.q.charged+1024}} rfl st1);have ok1:=PL.ok_setQ ok (Q2T ok.q hf {e.q with charged:=e.q.charged+1024} ⟨by show 0<=e.q.charged+_;omega,f2,by show e.q.charged+_+e.q.given<=e.q.limit;omega,rfl,rfl⟩)
 have Fs:find (upd S.P.q.E own {e.q with charged:=e.q.charged+1024}) own=some {e with q:={e.q with charged:=e.q.charged+1024}}:=Q0n hf _;have k0:=CO.c0 s1.sep;have k1:=PL.c1 (CO.sP s1.sep);have k2:=PL.c0 (CO.sP s1.sep);refine⟨rfl,k0,k1,?_⟩;rcases Z5q S.P.d with hn|⟨kk,i0,t1,t2,t3⟩
 ·refine(Q6T (PL.sD (CO.sP s1.sep)) ok.d.is hn).mono ?_;rintro r w2⟨rfl,rfl⟩;right;refine⟨rfl,k0,k2,?_⟩;have Lx:=Q3i (PL.sQ (CO.sP s1.sep)) ok1.q (id:=own) (e:={e with q:={e.q with charged:=e.q.charged+1024}}) Fs 1024 (by omega) (by show _<=e.q.charged+_;omega);refine Calls.mono Lx ?_;rintro r w3⟨rfl,st3⟩;have eback:({S.P.q with E:=upd (upd S.P.q.E own {e.q with charged:=e.q.charged+1024}) own {e.q with charged:=e.q.charged+1024-1024}}:QT)=S.P.q:=by
   rw[upd_upd,J6I,Z4v Ai hf]
  have st3':Step (S.P.setQ {S.P.q with E:=upd S.P.q.E own {e.q with charged:=e.q.charged+1024}}).q.hl ({S.P.q with E:=upd (upd S.P.q.E own {e.q with charged:=e.q.charged+1024}) own {e.q with charged:=e.q.charged+1024-1024}}:QT).hl w1 w3:=st3;rw[eback] at st3';have s3:=CO.stepP s1.sep S.P rfl (PL.stepQ (CO.sP s1.sep) S.P.q rfl st3');exact⟨rfl,.inr (.inl ⟨hq,fun p hp=>Q8P hn hp,rfl,s1.trans s3⟩)⟩
 ·refine(Q6U (PL.sD (CO.sP s1.sep)) ok.d kk i0 t1 t2 t3).mono ?_;rintro r w2⟨rfl,d,d1,d2,d3,d4,st2⟩;left;have s2:=CO.stepP s1.sep ((S.P.setQ {S.P.q with E:=upd S.P.q.E own {e.q with charged:=e.q.charged+1024}}).setD d) rfl (PL.stepD (CO.sP s1.sep) d d1 st2);have Mu:=Z5p ok hf C5 d1 d2 d3 d4;have Dt:=Q0g ok;have OK:1024*(i0*2 ^ kk)+1024<=S.P.a.mem.length:=Mu.room.1;have j0:=CO.c0 s2.sep;have j1:=Q0s (CO.sP s2.sep);refine⟨1024*(i0*2 ^ kk),rfl,j0,j1,?_⟩;refine Calls.mono (Z4V (PL.sA (CO.sP s2.sep)) (1024*(i0*2 ^ kk)) 1024 0 (by omega) OK Dt) ?_;rintro r w3⟨rfl,st3⟩;have s3:=CO.stepP s2.sep (((S.P.setQ {S.P.q with E:=upd S.P.q.E own {e.q with charged:=e.q.charged+1024}}).setD d).setA (put_ S.P.a.mem (1024*(i0*2 ^ kk)) (List.replicate 1024 0))) rfl (PL.stepA (CO.sP s2.sep) _ st3)
  exact⟨rfl,.inr (.inr ⟨_,_,_,hq,Mu,rfl,(s1.trans s2).trans s3⟩)⟩
theorem Z2T{w:World}{S:CO}{fr:List Nat}(h:Sep w S.hl)(ok:S.P.Ok fr){own:Nat}{e:En Fa}(hf:find S.P.q.E own=some e)(hq:Q0u e<1024) :
  Calls prog 68 #[ptr S.P.q.t,.int .i64 own,.int .i64 1024] w fun r w1=>r=.returned (.int .i64 5)/\GetC S fr own 8 e w (at2 0 5) w1:=by
 refine(Q4c (PL.sQ (CO.sP h)) ok.q hf 1024 (by omega) hq).mono ?_;rintro r w1⟨rfl,hb⟩;exact⟨rfl,.inl ⟨hq,rfl,h.grown hb⟩⟩
def FrF(S:CO)(bx a own:Nat)(w':World):Prop:=w'.cell? ⟨S.c,0,none⟩=some (.pointer (some ⟨S.P.p,0,none⟩))/\w'.cell? ⟨S.P.p,0,none⟩=some (.pointer (some ⟨S.P.q.t,0,none⟩))/\w'.cell? ⟨S.P.p,1,none⟩=some (.pointer (some ⟨S.P.d.b,0,none⟩))/\w'.cell? ⟨bx,1,none⟩=some (.int .i64 a)/\w'.cell? ⟨bx,2,none⟩=some (.int .i64 own)
theorem Step.box{w w0 w1:World}{H H':HL}(st:Step H H' w0 w1)(h:Sep w H)(h0:w.heap.size<w0.heap.size){i:Nat}{v:Value}(hv:w0.cell? ⟨w.heap.size,i,none⟩=some v):w1.cell? ⟨w.heap.size,i,none⟩=some v:=
 (World.cell?_of_block (w:=w0) (st.chg.block _ h0 (fun hk=>by have:w.heap.size<w.heap.size:=h.lt hk;omega))).trans hv
theorem FrF.base{w w0:World}{S:CO}(h0:Sep w0 S.hl){a own:Nat}(h1:w0.cell? ⟨w.heap.size,1,none⟩=some (.int .i64 a))(h2:w0.cell? ⟨w.heap.size,2,none⟩=some (.int .i64 own)):FrF S w.heap.size a own w0:=
 ⟨CO.c0 h0,PL.c0 (CO.sP h0),PL.c1 (CO.sP h0),h1,h2⟩
theorem FrF.step{w w0 w1:World}{S:CO}{P':PL}(h:Sep w S.hl)(hl:w.heap.size<w0.heap.size){a own:Nat}(f:FrF S w.heap.size a own w0)(st:Step S.hl (S.setP P').hl w0 w1)(hp:P'.p=S.P.p)(hq:P'.q.t=S.P.q.t)(hd:P'.d.b=S.P.d.b):FrF S w.heap.size a own w1:=by
 have c:=CO.c0 st.sep;have p0:=PL.c0 (CO.sP st.sep);have p1:=PL.c1 (CO.sP st.sep);have e:(S.setP P').P=P':=rfl;rw[e,hp] at c p0 p1;rw[hq] at p0;rw[hd] at p1;exact⟨c,p0,p1,st.box h hl f.2.2.2.1,st.box h hl f.2.2.2.2⟩
theorem Q7Y{w w0:World}{S:CO}{fr:List Nat}(h:Sep w S.hl)(s0:Step S.hl S.hl w w0)(hl:w.heap.size<w0.heap.size)(ok:S.P.Ok fr){own a:Nat}{e:En Fa}(hp:Held S.P fr own 8 a e)(f:FrF S w.heap.size a own w0) :
  Calls prog 70 #[.pointer (some ⟨S.P.q.t,0,none⟩),.int .i64 own,.int .i64 1024] w0 fun r w1=>r=.returned (.int .i64 0)/\FrF S w.heap.size a own w1 /\
   Calls prog 145 #[.pointer (some ⟨S.P.d.b,0,none⟩),.int .i64 a] w1.drew fun r w2=>r=.returned (.int .i64 0)/\FrF S w.heap.size a own w2/\PutC S fr own 8 a w (.returned (.tuple #[])) w2:=by
 obtain⟨hf,hq,_,hg⟩:=hp;obtain⟨g,Lw,rfl⟩:=hg rfl;obtain⟨f1,f2,f3,f4,f5,f6,f7,f8⟩:=ok.q.fa _ e hf;have C5:(1024:Int)<=e.q.charged:=hq;refine Calls.mono (Q3i (PL.sQ (CO.sP s0.sep)) ok.q hf 1024 (by omega) C5) ?_;rintro r w1⟨rfl,st1⟩;have s1:Step S.hl (S.setP (S.P.setQ {S.P.q with E:=upd S.P.q.E own {e.q with charged:=e.q.charged-1024}})).hl w0 w1:=CO.stepP s0.sep _ rfl (PL.stepQ (CO.sP s0.sep) {S.P.q with E:=upd S.P.q.E own {e.q with charged:=e.q.charged-1024}} rfl st1);have Nc:g∈S.P.d.ps:=ok.pages.mem_iff.1 (J3W _ Lw);have f1:=f.step h hl s1 rfl rfl rfl;refine⟨rfl,f1,?_⟩;have hx:((1024*g:Nat):Int)=1024*(g:Int):=by omega
 rw[hx];refine Calls.mono (Z1u (PL.sD (CO.sP s1.drew.sep)) ok.d g Nc) ?_;rintro r w2⟨rfl,d,d1,d2,d3,d4,st2⟩;have s2:=s1.drew.trans (CO.stepP s1.drew.sep ((S.P.setQ {S.P.q with E:=upd S.P.q.E own {e.q with charged:=e.q.charged-1024}}).setD d) rfl (PL.stepD (CO.sP s1.drew.sep) d d1 st2));have f2:=f.step h hl (P':=(S.P.setQ {S.P.q with E:=upd S.P.q.E own {e.q with charged:=e.q.charged-1024}}).setD d) s2 rfl rfl d1;exact⟨rfl,f2,rfl,_,_,Z2I ok hf C5 Lw d1 d2 d3 d4,s0.trans s2⟩
theorem Q4G{w w1:World}{S:CO}{P1:PL}(s1:Step S.hl (S.setP P1).hl w w1){a x:Nat}(ha:a%8=0)(hl:a+8<=P1.a.mem.length)(hm:P1.a.mem.length<=1073741824)(hx:x<1048576)(w2:World)(hb:Below w1.heap.size w1 w2) :
  w2.cell? ⟨S.c,0,none⟩=some (ptr P1.p)/\w2.cell? ⟨P1.p,0,none⟩=some (ptr P1.q.t)/\Calls prog 50 #[ptr P1.p] w2 (fun r w'=>r=.returned (ptr P1.a.a)/\w2=w') /\
   ∀g,w2.cell? ⟨g,0,none⟩=some (.int .u64 x)->w1.heap.size<=g->g<w2.heap.size ->
    Calls prog 57 #[ptr P1.a.a,.int .i64 a,.slice (some ⟨g,0,none⟩) 1 1] w2 fun r w3=>r=.returned (.int .i64 0)/\(w3.cell? ⟨S.c,0,none⟩=some (ptr P1.p)/\∀b,b∉keys P1.a.hl->b<w2.heap.size->w3.heap[b]?=w2.heap[b]?)/\Step S.hl (S.setP (P1.setA (put_ P1.a.mem a (Q0c x)))).hl w w3:=by
 have s2:=s1.trans (s1.sep.grown hb);refine⟨CO.c0 s2.sep,PL.c0 (CO.sP s2.sep),Q0s (CO.sP s2.sep),fun g hg BS BB=>?_⟩;have hk:g∉keys P1.a.hl:=fun hk=>by
  have:=(PL.sA (CO.sP s1.sep)).lt hk;omega
 refine Calls.mono (Z1A (PL.sA (CO.sP s2.sep)) a x ha hl hm (by omega) g hg BB hk) ?_;rintro r w3⟨rfl,st⟩;have s3:=CO.stepP s2.sep (P1.setA (put_ P1.a.mem a (Q0c x))) rfl (PL.stepA (CO.sP s2.sep) _ st);exact⟨rfl,⟨CO.c0 s3.sep,fun b hb hl=>st.chg.block b hl hb⟩,s2.trans s3⟩
theorem Z0t{w w0:World}{S:CO}{fr:List Nat}(h:Sep w S.hl)(Bv:Below w.heap.size w w0)(ok:S.P.Ok fr)(AE:∃i p,Fst S.l i p){own a:Nat}{e:En Fa}(hf:find S.P.q.E own=some e){lim:Int}(h0:0<=lim)(D8:S.P.q.next+1<1048576)(ha:a%8=0)(hl:a+8<=S.P.a.mem.length) :
  Calls prog 14 #[ptr S.P.q.t,.int .i64 own,.int .i64 lim] w0 fun r w1=>∃(x:Nat) (er:Int),r=.returned (.tuple #[.int .i64 x,.int .i64 er])/\x<1048576/\w0.heap.size<=w1.heap.size/\(∀b,w.heap.size<=b->b<w0.heap.size->w1.heap[b]?=w0.heap[b]?) /\
   ∀w2,Below w1.heap.size w1 w2->w2.cell? ⟨S.c,0,none⟩=some (ptr S.P.p)/\w2.cell? ⟨S.P.p,0,none⟩=some (ptr S.P.q.t)/\Calls prog 50 #[ptr S.P.p] w2 (fun r w'=>r=.returned (ptr S.P.a.a)/\w2=w') /\
    ∀g,w2.cell? ⟨g,0,none⟩=some (.int .u64 x)->w1.heap.size<=g->g<w2.heap.size ->
     Calls prog 57 #[ptr S.P.a.a,.int .i64 a,.slice (some ⟨g,0,none⟩) 1 1] w2 fun r w3=>r=.returned (.int .i64 0)/\(w3.cell? ⟨S.c,0,none⟩=some (ptr S.P.p)/\∀b,w.heap.size<=b->b<w2.heap.size->w3.heap[b]?=w2.heap[b]?)/\Q2W S own 1 a lim e w (one er) w3:=by
 have s0:=h.grown Bv;have Dt:=Q0g ok;have Em:=ok.q.next0;have QX:∀b,w.heap.size<=b->b∉keys S.P.a.hl:=fun b hb hk=>by
  have:=(PL.sA (CO.sP h)).lt hk;omega
 have told:∀w1,Below w0.heap.size w0 w1->w0.heap.size<=w1.heap.size/\(∀b,w.heap.size<=b->b<w0.heap.size->w1.heap[b]?=w0.heap[b]?)/\Step S.hl (S.setP S.P).hl w w1:=fun w1 hb=>⟨hb.size,fun b _ h2=>hb.block b h2,s0.trans (s0.sep.grown hb)⟩
 by_cases hq:lim<=Q0u e
 ·by_cases RD:S.P.q.E.length=32
  ·refine(Z0r (PL.sQ (CO.sP s0.sep)) ok.q hf lim h0 hq RD).mono ?_;rintro r w1⟨rfl,hb⟩;obtain⟨t1,t2,t3⟩:=told w1 hb;refine⟨0,11,rfl,by omega,t1,t2,fun w2 Ae=>?_⟩;obtain⟨a1,a0,a2,a3⟩:=Q4G t3 (x:=0) ha hl Dt (by omega) w2 Ae;refine⟨a1,a0,a2,fun g g1 g2 g3=>(a3 g g1 g2 g3).mono ?_⟩;rintro r w3⟨rfl,kk,st⟩;exact⟨rfl,⟨kk.1,fun b h1 h2=>kk.2 b (QX b h1) h2⟩,.inr (.inr (.inl ⟨AE,rfl,⟨11,.inr ⟨rfl,RD⟩,rfl⟩,st⟩))⟩
  ·refine(Z5J (PL.sQ (CO.sP s0.sep)) ok.q hf lim h0 hq RD D8).mono ?_;rintro r w1⟨rfl,b,st⟩;have s1:=s0.trans (CO.stepP s0.sep (S.P.setQ (Q3I S.P.q own e b lim)) rfl (PL.stepQ (CO.sP s0.sep) _ rfl st));have hx:((S.P.q.next.toNat:Nat):Int)=S.P.q.next:=by omega
   refine⟨S.P.q.next.toNat,0,by rw[hx],by omega,st.chg.size,fun b' h1 h2=>st.chg.block b' h2 (fun hk=>?_),fun w2 Ae=>?_⟩
   ·have:=(PL.sQ (CO.sP h)).lt hk;omega
   ·obtain⟨a1,a0,a2,a3⟩:=Q4G s1 (x:=S.P.q.next.toNat) ha hl Dt (by omega) w2 Ae;refine⟨a1,a0,a2,fun g g1 g2 g3=>(a3 g g1 g2 g3).mono ?_⟩;rintro r w3⟨rfl,kk,st⟩;exact⟨rfl,⟨kk.1,fun b h1 h2=>kk.2 b (QX b h1) h2⟩,.inr (.inr (.inr ⟨AE,rfl,hq,rfl,b,st⟩))⟩
 ·refine(Q8X (PL.sQ (CO.sP s0.sep)) ok.q hf lim h0 (by unfold Q0u at hq;omega)).mono ?_;rintro r w1⟨rfl,hb⟩;obtain⟨t1,t2,t3⟩:=told w1 hb;refine⟨0,5,rfl,by omega,t1,t2,fun w2 Ae=>?_⟩;obtain⟨a1,a0,a2,a3⟩:=Q4G t3 (x:=0) ha hl Dt (by omega) w2 Ae;refine⟨a1,a0,a2,fun g g1 g2 g3=>(a3 g g1 g2 g3).mono ?_⟩;rintro r w3⟨rfl,kk,st⟩;exact⟨rfl,⟨kk.1,fun b h1 h2=>kk.2 b (QX b h1) h2⟩,.inr (.inr (.inl ⟨AE,rfl,⟨5,.inl ⟨rfl,by omega⟩,rfl⟩,st⟩))⟩
end Go.Proofs.YtfidemmgofcnmaaGreatDoor
