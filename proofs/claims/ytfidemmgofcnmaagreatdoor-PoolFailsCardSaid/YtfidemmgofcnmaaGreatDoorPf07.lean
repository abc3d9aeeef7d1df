/- PoolFails returns true at every input. No condition. Part of its proof. -/
import Derived.Test.YtfidemmgofcnmaaGreatDoorPf06
set_option maxHeartbeats 4000000
set_option maxRecDepth 100000
set_option linter.unusedVariables false
namespace Go.Proofs.YtfidemmgofcnmaaGreatDoor
open Go.RowKit Go.Proofs.Tryz
def Q0c(k:Nat):Nat:=[0,64,128,256,32,32,48,256][k]?.getD 0
def Q0g(k:Int):Nat:=if 0<=k then Q0c k.toNat else 0
structure PL where
 p:Nat
 q:QT
 d:BD
 a:AN
 cs:List CA
def PL.cells(P:PL):List Value:=ptr P.q.t::ptr P.d.b::ptr P.a.a::.pointer none::P.cs.map fun c=>ptr c.c
def PL.hl(P:PL):HL:=(P.p,isC 137 P.cells)::(P.q.hl++(P.d.hl++(P.a.hl++P.cs.flatMap CA.hl)))
def PL.pages(P:PL):List Nat:=P.cs.flatMap fun c=>c.pg.map Prod.snd
structure PL.Ok(P:PL)(fr:List Nat):Prop where
 q:P.q.Ok
 d:P.d.At
 mem:P.a.mem.length=2 ^ (P.d.top+10)
 top:6<=P.d.top
 bytes:∀b∈P.a.mem,b<256
 len:P.cs.length=7
 c:∀k c,P.cs[k]?=some c->c.Ok/\c.size=Q0c (k+1)/\c.bb=P.d.b
 pages:(fr++P.pages).Perm P.d.ps
 busy:∀c∈P.cs,∀x∈c.pg,cntB x.1.bits≠0
theorem Step.lift{w w':World}{H H' X X' R:HL}(hp:H.Perm (X++R))(AW:H'.Perm (X'++R))(h:Sep w H)(s:Step X X' w w'):Step H H' w w':=by
 have:=Step.frame [] R (by simpa using h.perm hp) s;exact Step.perm (by simpa using this) hp.symm AW.symm
theorem Sep.part{w:World}{H X R:HL}(h:Sep w H)(hp:H.Perm (X++R)):Sep w X:=(h.perm hp).left
theorem PL.permQ(P:PL):P.hl.Perm (P.q.hl++((P.p,isC 137 P.cells)::(P.d.hl++(P.a.hl++P.cs.flatMap CA.hl)))):=by
 refine Q0F fun a=>?_
 simp only[PL.hl,hc_append,Q1A];omega
theorem PL.permA(P:PL):P.hl.Perm (P.a.hl++((P.p,isC 137 P.cells)::(P.q.hl++(P.d.hl++P.cs.flatMap CA.hl)))):=by
 refine Q0F fun a=>?_
 simp only[PL.hl,hc_append,Q1A];omega
theorem PL.permD(P:PL):P.hl.Perm (P.d.hl++((P.p,isC 137 P.cells)::(P.q.hl++(P.a.hl++P.cs.flatMap CA.hl)))):=by
 refine Q0F fun a=>?_
 simp only[PL.hl,hc_append,Q1A];omega
def PL.restC(P:PL)(k:Nat):HL:=(P.p,isC 137 P.cells)::(P.q.hl++(P.a.hl++((P.cs.take k).flatMap CA.hl++(P.cs.drop (k+1)).flatMap CA.hl)))
theorem PL.permC(P:PL)(k:Nat)(c:CA)(h:P.cs[k]?=some c):P.hl.Perm ((c.hl++P.d.hl)++P.restC k):=by
 refine Q0F fun a=>?_
 rw[PL.hl,Q4Q CA.hl P.cs k c h];simp only[PL.restC,hc_append,Q1A];omega
def PL.setQ(P:PL)(q:QT):PL:={P with q:=q}
def PL.setA(P:PL)(m:List Nat):PL:={P with a:={P.a with mem:=m}}
def PL.setC(P:PL)(k:Nat)(c:CA)(d:BD):PL:={P with cs:=P.cs.set k c,d:=d}
theorem PL.cells_setC(P:PL)(k:Nat)(c c':CA)(d:BD)(h:P.cs[k]?=some c)(hc:c'.c=c.c)(hd:d.b=P.d.b):(P.setC k c' d).cells=P.cells:=by
 unfold PL.cells PL.setC;simp only[hd];congr 4;exact Q1d _ _ _ _ _ h (by rw[hc])
theorem PL.restC_setC(P:PL)(k:Nat)(c c':CA)(d:BD)(h:P.cs[k]?=some c)(hc:c'.c=c.c)(hd:d.b=P.d.b):(P.setC k c' d).restC k=P.restC k:=by
 have e:=PL.cells_setC P k c c' d h hc hd;unfold PL.restC;rw[e];simp only[PL.setC,Z0G (Q9Y k),Z0H (Nat.lt_succ_self k)]
theorem PL.stepC{w w':World}{P:PL}(h:Sep w P.hl)(k:Nat)(c c':CA)(d:BD)(hc:P.cs[k]?=some c)(ec:c'.c=c.c)(ed:d.b=P.d.b)(s:Step (c.hl++P.d.hl) (c'.hl++d.hl) w w'):Step P.hl (P.setC k c' d).hl w w':=by
 have hk:=(Z0k.1 hc).1;have AW:=PL.permC (P.setC k c' d) k c' (by simp[PL.setC,hk]);rw[PL.restC_setC P k c c' d hc ec ed] at AW;exact Step.lift (PL.permC P k c hc) AW h s
theorem PL.stepQ{w w':World}{P:PL}(h:Sep w P.hl)(q:QT)(et:q.t=P.q.t)(s:Step P.q.hl q.hl w w'):Step P.hl (P.setQ q).hl w w':=by
 have AW:=PL.permQ (P.setQ q);have e:(P.setQ q).cells=P.cells:=by unfold PL.cells PL.setQ;simp only[et]
 rw[e] at AW;exact Step.lift (PL.permQ P) AW h s
theorem PL.stepA{w w':World}{P:PL}(h:Sep w P.hl)(m:List Nat)(s:Step P.a.hl ({P.a with mem:=m}:AN).hl w w'):Step P.hl (P.setA m).hl w w':=
 Step.lift (PL.permA P) (PL.permA (P.setA m)) h s
section
variable {w:World} {P:PL}
theorem PL.sepP(h:Sep w P.hl):Cells w P.p 137 P.cells:=h.cells (by simp[PL.hl])
theorem PL.c0(h:Sep w P.hl):w.cell? ⟨P.p,0,none⟩=some (ptr P.q.t):=(PL.sepP h).cell 0 _ rfl
theorem PL.c1(h:Sep w P.hl):w.cell? ⟨P.p,1,none⟩=some (ptr P.d.b):=(PL.sepP h).cell 1 _ rfl
theorem PL.c2(h:Sep w P.hl):w.cell? ⟨P.p,2,none⟩=some (ptr P.a.a):=(PL.sepP h).cell 2 _ rfl
theorem PL.cc(h:Sep w P.hl)(k:Nat)(c:CA)(hc:P.cs[k]?=some c):w.cell? ⟨P.p,3+(k+1),none⟩=some (ptr c.c):=(PL.sepP h).cell (3+(k+1)) _ (by
 unfold PL.cells;rw[show 3+(k+1)=k+1+1+1+1 by omega];simp[hc])
theorem PL.sQ(h:Sep w P.hl):Sep w P.q.hl:=h.part (PL.permQ P)
theorem PL.sD(h:Sep w P.hl):Sep w P.d.hl:=h.part (PL.permD P)
theorem PL.sA(h:Sep w P.hl):Sep w P.a.hl:=h.part (PL.permA P)
theorem PL.sC(h:Sep w P.hl)(k:Nat)(c:CA)(hc:P.cs[k]?=some c):Sep w (c.hl++P.d.hl):=h.part (PL.permC P k c hc)
end
theorem Q3k{k:Nat}(h:8<=k):Q0c k=0:=by
 unfold Q0c;rw[Z1r (by simpa using h)];rfl
theorem Q3l{k:Nat}(h:k<8):Q5r[k]?=some ((Q0c k:Nat):Int):=by
 have:∀k,k<8->Q5r[k]?=some ((Q0c k:Nat):Int):=by decide
 exact this k h
theorem Q0s{w:World}(h:Env w)(k:Int):Calls prog 20 #[.int .i64 k] w fun r w'=>r=.returned (.int .i64 ((Q0g k:Nat):Int))/\w=w':=by
 unfold Q0g;by_cases h0:k<0
 ·rw[if_neg (by omega)];clear h;go_enter func20,ntmps20
  go_wp2
  go_ret;exact⟨rfl,rfl⟩
 ·obtain⟨n,rfl⟩:=Z1i (by omega:0<=k);rw[if_pos (by omega),Z0K];by_cases h8:n<8
  ·have hc:=h.tabC n _ (Q3l h8);have Ae:(n:Int)<8:=by omega
   clear h;generalize Q0c n=v at *
   go_enter func20,ntmps20
   go_wp2
   go_ret;exact⟨rfl,rfl⟩
  ·rw[Q3k (by omega)];have Eb:(8:Int)<=n:=by omega
   clear h;go_enter func20,ntmps20
   go_wp2
   go_ret;exact⟨rfl,rfl⟩
theorem Q0R{w:World}{P:PL}(h:Sep w P.hl):Calls prog 13 #[.pointer (some ⟨P.p,0,none⟩)] w fun r w'=>r=.returned (ptr P.q.t)/\w=w':=by
 have c0:=PL.c0 h;clear h;unfold ptr at *
 go_enter func13,ntmps13
 go_wp2
 go_ret;exact⟨rfl,rfl⟩
theorem Q1q{w:World}{P:PL}(h:Sep w P.hl):Calls prog 16 #[.pointer (some ⟨P.p,0,none⟩)] w fun r w'=>r=.returned (ptr P.d.b)/\w=w':=by
 have c0:=PL.c1 h;clear h;unfold ptr at *
 go_enter func16,ntmps16
 go_wp2
 go_ret;exact⟨rfl,rfl⟩
theorem Q2w{w:World}{P:PL}(h:Sep w P.hl):Calls prog 50 #[.pointer (some ⟨P.p,0,none⟩)] w fun r w'=>r=.returned (ptr P.a.a)/\w=w':=by
 have c0:=PL.c2 h;clear h;unfold ptr at *
 go_enter func50,ntmps50
 go_wp2
 go_ret;exact⟨rfl,rfl⟩
theorem costN_pos{k:Nat}:0<Q0c k↔1<=k/\k<=7:=by
 by_cases h:k<8
 ·have:∀k,k<8->(0<Q0c k↔1<=k/\k<=7):=by decide
  exact this k h
 ·rw[Q3k (by omega)];omega
theorem Q1w{k:Nat}(h1:1<=k)(h7:k<=7):32<=Q0c k/\Q0c k<=256/\Q0c k%16=0:=by
 have:∀k,k<8->1<=k->32<=Q0c k/\Q0c k<=256/\Q0c k%16=0:=by decide
 exact this k (by omega) h1
def PL.Cls(P:PL)(k:Nat)(c:CA):Prop:=1<=k/\P.cs[k-1]?=some c
theorem PL.cls{P:PL}{fr:List Nat}(ok:P.Ok fr){k:Nat}(h1:1<=k)(h7:k<=7):∃c,P.Cls k c:=
 ⟨P.cs[k-1]'(by rw[ok.len];omega),h1,Z1R _⟩
theorem PL.Cls.facts{P:PL}{fr:List Nat}(ok:P.Ok fr){k:Nat}{c:CA}(h:P.Cls k c):c.Ok/\c.size=Q0c k/\c.bb=P.d.b/\k<=7:=by
 obtain⟨h1,h2⟩:=h;obtain⟨a,b,d⟩:=ok.c _ _ h2;have:=(Z0k.1 h2).1;rw[ok.len] at this;rw[show k-1+1=k by omega] at b;exact⟨a,b,d,by omega⟩
def PL.usedOf(P:PL)(k:Nat):List Nat:=if 1<=k then match P.cs[k-1]? with|some c=>c.used|none=>[] else []
theorem Q0u{P:PL}{k:Nat}{c:CA}(h:P.Cls k c):P.usedOf k=c.used:=by
 unfold PL.usedOf;rw[if_pos h.1,h.2]
theorem Q2x{P:PL}{fr:List Nat}(ok:P.Ok fr){k:Nat}(h:Q0c k=0):P.usedOf k=[]:=by
 unfold PL.usedOf;split
 ·rename_i h1;have:8<=k:=by
   rcases Z2h k 8 with e|e
   ·have:=costN_pos.2 ⟨h1,by omega⟩;omega
   ·exact e
  rw[Z1r (by rw[ok.len];omega)]
 ·rfl
def PL.usedI(P:PL)(k:Int):List Nat:=if 0<=k then P.usedOf k.toNat else []
theorem Q6g{w:World}{P:PL}{fr:List Nat}(h:Sep w P.hl)(ok:P.Ok fr)(k:Int):Calls prog 60 #[.pointer (some ⟨P.p,0,none⟩),.int .i64 k] w (Q1V w (P.usedI k)):=by
 have Af:=Q0s h.env k;by_cases hz:Q0g k=0
 ·have e:P.usedI k=[]:=by
   unfold PL.usedI;split
   ·rename_i h0;unfold Q0g at hz;rw[if_pos h0] at hz;exact Q2x ok hz
   ·rfl
  rw[e];have HR:Hid (Q1V w [] (.returned (.slice none 0 0)) w):=⟨_,rfl,World.ownsRow_nil _ _ _ _,Below.refl _ _⟩
  rw[hz] at Af;clear h ok hz e;go_enter func60,ntmps60;go_wp2_with (go_at_call 20;refine Af.mono ?_;rintro e w'⟨rfl,rfl⟩);go_ret;exact HR.out
 ·have h0:0<=k:=by unfold Q0g at hz;split at hz <;> omega
  obtain⟨n,rfl⟩:=Z1i h0;have hp:0<Q0c n:=by unfold Q0g at hz;rw[if_pos h0,Z0K] at hz;omega
  obtain⟨h1,h7⟩:=costN_pos.1 hp;obtain⟨c,hc⟩:=PL.cls ok h1 h7;have BV:=PL.cc h (n-1) c hc.2;rw[show 3+(n-1+1)=3+n by omega] at BV;have hu:=Q7G (PL.sC h (n-1) c hc.2).left (hc.facts ok).1;have e:P.usedI (n:Int)=c.used:=by unfold PL.usedI;rw[if_pos h0,Z0K,Q0u hc]
  rw[e];have Ao:(((Q0g (n:Int):Nat):Int)==0)=false:=by simpa using hz
  have Fc:(n:Int)<8:=by omega
  clear h ok hz e hc;obtain⟨NI,FE⟩:∃NI:Ending->World->Prop,NI=Q1V w c.used:=⟨_,rfl⟩
  rw[<- FE] at hu ⊢;have HQ:Hid (∀r w',NI r w'->∃v,r=.returned v/\NI (.returned v) w'):=fun r w' hx=>by subst FE;obtain⟨v,e,r1⟩:=hx;exact⟨v,e,v,rfl,r1⟩
  clear FE;unfold ptr at *
  generalize Q0g (n:Int)=cst at *
  go_enter func60,ntmps60;go_wp2_with (go_at_call 20;refine Af.mono ?_;rintro e w'⟨rfl,rfl⟩);refine hu.mono ?_;intro r w' hx;obtain⟨v,rfl,hy⟩:=HQ.out _ _ hx;have HY:=Q0a hy;clear hx hy;go_wp2_with fail
  (try go_ret);exact HY.out
def CA.pgs(c:CA):List Nat:=c.pg.map Prod.snd
theorem Q2y:∀pg:List (BM×Nat),(∀y∈pg,Q1i y=none)∨∃k x i,pg[k]?=some x/\Q1i x=some i/\∀(j:Nat) y,j<k->pg[j]?=some y->Q1i y=none
 | []=>.inl (by simp)
 | x::r=>by
  cases h:Q1i x with
  | some i=>exact .inr ⟨0,x,i,rfl,h,fun j _ hj=>absurd hj (Z2P j)⟩
  | none =>
   rcases Q2y r with h'|⟨k,y,i,h1,h2,h3⟩
   ·left;intro y hy;rcases Z0d.1 hy with rfl|hy
    ·exact h
    ·exact h' y hy
   ·right;refine⟨k+1,y,i,h1,h2,fun j z hj hz=>?_⟩;cases j with
    | zero=>simp at hz;subst hz;exact h
    | succ j=>exact h3 j z (by omega) hz
theorem Q1X(f:Nat->Option Nat):∀n,(∀k,k<n->f k=none)∨∃k i,k<n/\f k=some i/\∀j,j<k->f j=none
 | 0=>.inl (fun k hk=>absurd hk (Z2P k))
 | n+1=>by
  rcases Q1X f n with h|⟨k,i,h1,h2,h3⟩
  ·cases hn:f n with
   | none =>
    left;intro k hk;rcases Z2h k n with e|e
    ·exact h k e
    ·rw[show k=n by omega];exact hn
   | some i=>exact .inr ⟨n,i,by omega,hn,h⟩
  ·exact .inr ⟨k,i,by omega,h2,h3⟩
def Q9y(c:CA)(d:BD)(a:Nat)(ps':List Nat):Prop:=
 (∃(k:Nat) (x:BM×Nat) (i:Nat),c.pg[k]?=some x/\Q1i x=some i/\(∀(j:Nat) y,j<k->c.pg[j]?=some y->Q1i y=none)/\a=addr c.size x.2 i/\ps'=d.ps) ∨
 ((∀y∈c.pg,Q1i y=none)/\∃k0 i0,k0<=d.top/\fstG (fre (uOf d.ps) d.top) d.top k0 0=some i0/\(∀k,k<k0->fstG (fre (uOf d.ps) d.top) d.top k 0=none)/\a=addr c.size (i0*2 ^ k0) 0/\ps'=d.ps++[i0*2 ^ k0])
structure Q6h(c:CA)(d:BD)(a:Nat)(c':CA)(d':BD):Prop where
 ok:c'.Ok
 ec:c'.c=c.c
 size:c'.size=c.size
 bb:c'.bb=c.bb
 b:d'.b=d.b
 top:d'.top=d.top
 at':d'.At
 used:∃A B,c.used=A++B/\c'.used=A++a::B
 which:Q9y c d a d'.ps
 pages:(c'.pgs=c.pgs/\d'.ps=d.ps)∨∃p,p∉d.ps/\c'.pgs.Perm (p::c.pgs)/\d'.ps=d.ps++[p]
 busy:(∀x∈c.pg,cntB x.1.bits≠0)->∀x∈c'.pg,cntB x.1.bits≠0
def Q6i(c:CA)(d:BD):Prop:=(∀y∈c.pg,Q1i y=none)/\∀k,k<=d.top->fstG (fre (uOf d.ps) d.top) d.top k 0=none
def Q9Q(c:CA)(d:BD)(w:World)(r:Ending)(w':World):Prop:=
 (∃a c' d',r=.returned (.tuple #[.int .i64 ((a:Nat):Int),.int .i64 0])/\Q6h c d a c' d'/\Step (c.hl++d.hl) (c'.hl++d'.hl) w w')∨(Q6i c d/\r=.returned (.tuple #[.int .i64 0,.int .i64 4])/\Below w.heap.size w w')
theorem Q2z{c:CA}{k:Nat}{x:BM×Nat}(m:BM)(hx:c.pg[k]?=some x):(c.pageTo k x m).pgs=c.pgs:=by
 unfold CA.pgs CA.pageTo;exact Q1d _ _ _ _ _ hx rfl
theorem Q1B{α:Type}{L:List α}{k:Nat}{y z:α}(h:z∈L.set k y):z=y∨z∈L:=by
 obtain⟨j,hj⟩:=Z2n.1 h;rw[Z1k] at hj;split at hj
 ·split at hj
  ·left;cases hj;rfl
  ·cases hj
 ·right;exact Z1O hj
theorem Q5a(c:CA)(rv':RV)(m:BM)(p:Nat):(c.insert rv' (m,p)).pgs.Perm (p::c.pgs):=by
 unfold CA.pgs CA.insert Q0Y;simp only[Z2Q,Z0b];refine Z2R.trans (List.Perm.cons _ ?_);rw[<- Z2Q,Z0E]
theorem Q1Y{bits:List Bool}{i:Nat}(h:bits[i]?.getD false=true):cntB bits≠0:=by
 intro e;have hi:i<bits.length:=by
  rcases Z2h i bits.length with e|e
  ·exact e
  ·rw[Z1r e] at h;cases h
 have:=cntB_zero.1 e bits[i] (Z2M hi);rw[Z1R hi] at h;simp[this] at h
theorem Q2A:∀(l:List Nat) (lo n:Nat),l.Pairwise (·<·)->(∀x∈l,lo<=x/\x<n)->l.length<=n-lo
 | [],_,_,_,_=>Z1C _
 | x::r,lo,n,hs,hb=>by
  obtain⟨h1,h2⟩:=Z0p.1 hs;have hx:=hb x (by simp);have:=Q2A r (x+1) n h2 (fun y hy=>⟨h1 y hy,(hb y (by simp[hy])).2⟩);simp only[Z0t];omega
theorem Q8W{c:CA}{d:BD}(ok:c.Ok)(AJ:∀x∈c.pg,x.2∈d.ps)(p:Nat)(hp:p∉d.ps)(ha:d.At)(Cd:p<2 ^ d.top):c.pg.length<1048576:=by
 have hs:=Q2s ok.sorted (⟨0,0,[]⟩,p) (fun x hx e=>hp ((show x.2=p from e) ▸ AJ x hx));have hl:=insPg_len c.pg (⟨0,0,[]⟩,p);have h1:=Q2A ((Q0Y c.pg (⟨0,0,[]⟩,p)).map Prod.snd) 0 (2 ^ d.top) (Z0q.2 hs) (by
  intro y hy;obtain⟨x,hx,rfl⟩:=Z0e.1 hy;refine⟨Z1C _,?_⟩;rcases mem_insPg.1 hx with rfl|hx
  ·exact Cd
  ·exact ha.lt _ (AJ x hx))
 have h2:2 ^ d.top<=1048576:=Q9Z (Z0T (by omega) ha.is.top) (by decide);rw[Z1m,hl] at h1;omega
theorem Q6j{w:World}{c:CA}{d:BD}(h:Sep w (c.hl++d.hl))(ok:c.Ok)(ha:d.At)(hbb:c.bb=d.b)(AJ:∀x∈c.pg,x.2∈d.ps) :
  Calls prog 69 #[.pointer (some ⟨c.c,0,none⟩)] w (Q9Q c d w):=by
 rcases Q2y c.pg with A0|⟨k,x,i,hx,hf,As⟩
 ·rcases Q1X (fun k=>fstG (fre (uOf d.ps) d.top) d.top k 0) (d.top+1) with Ar|⟨k0,i0,Br,hf,hp⟩
  ·refine(Q5X h ok A0 hbb ha.is (fun k hk=>Ar k (by omega))).mono ?_;rintro r w'⟨rfl,hb⟩;exact .inr ⟨⟨A0,fun k hk=>Ar k (by omega)⟩,rfl,hb⟩
  ·obtain⟨s1,s2,s3,s4⟩:=Q0t hf;have AU:i0<2 ^ (d.top-k0):=by simpa using s1
   have Az:fre (uOf d.ps) d.top k0 i0=true:=by simpa[AU] using s3
   have Cd:i0*2 ^ k0<2 ^ d.top:=by
    have:i0*2 ^ k0<2 ^ (d.top-k0)*2 ^ k0:=Z2I AU (Z0U _)
    rwa [<- Z1f,show d.top-k0+k0=d.top from by omega] at this
   have Db:i0*2 ^ k0∉d.ps:=by
    have:=Q3a Az (p:=i0*2 ^ k0) (Z2t _ (Z0U k0))
    simpa[uOf] using this
   have h2:2 ^ d.top<=1048576:=Q9Z (Z0T (by omega) ha.is.top) (by decide);have Cu:=ok.s0;have By:=ok.s1;have Ea:0<960/c.size:=Nat.div_pos (by omega) (by omega);refine(Q7C h ok ha A0 hbb (Q8W ok AJ _ Db ha Cd) k0 i0 (by omega) hf hp (fun x hx e=>Db (e ▸ AJ x hx)) (by omega)).mono ?_;rintro r w'⟨rfl,d',m,rv',b1,b2,b3,b4,b5,b6,b7⟩;refine .inl ⟨_,_,d',rfl,⟨b6,rfl,rfl,rfl,b1,b2,b4,Q7m rv' m _ _ Ea b5,.inr ⟨A0,k0,i0,by omega,hf,hp,rfl,b3⟩,.inr ⟨_,Db,Q5a c rv' m _,b3⟩,fun hb y hy=>?_⟩,b7⟩;rcases mem_insPg.1 hy with rfl|hy
   ·show cntB m.bits≠0;rw[b5];exact Q1Y (i:=0) (by simp[Ea])
   ·exact hb y hy
 ·obtain⟨AK,_,EL,_⟩:=Q0t hf;refine(Q7n h.left ok k i x hx hf As).mono ?_;rintro r w'⟨rfl,Ah⟩;have s':Step (c.hl++d.hl) ((c.pageTo k x {x.1 with bits:=x.1.bits.set i true}).hl++d.hl) w w':=by
   have:=Step.frame [] d.hl (by simpa using h) Ah
   simpa using this
  refine .inl ⟨_,_,d,rfl,⟨CA.ok_page ok k x hx _ (by simp),rfl,rfl,rfl,rfl,rfl,ha,Q7k hx AK EL,.inl ⟨k,x,i,hx,hf,As,rfl,rfl⟩,.inl ⟨Q2z _ hx,rfl⟩,fun hb y hy=>?_⟩,s'⟩;rcases Q1B hy with rfl|hy
  ·exact Q1Y (i:=i) (by simp[AK])
  ·exact hb y hy
structure Q6k(c:CA)(d:BD)(a:Nat)(c':CA)(d':BD):Prop where
 ok:c'.Ok
 ec:c'.c=c.c
 size:c'.size=c.size
 bb:c'.bb=c.bb
 b:d'.b=d.b
 top:d'.top=d.top
 at':d'.At
 used:∃A B,c.used=A++a::B/\c'.used=A++B
 pages:(c'.pgs=c.pgs/\d'.ps=d.ps)∨∃p,c.pgs.Perm (p::c'.pgs)/\d'.ps=d.ps.erase p
 busy:(∀x∈c.pg,cntB x.1.bits≠0)->∀x∈c'.pg,cntB x.1.bits≠0
theorem Q7K(c:CA)(k:Nat)(x:BM×Nat)(hx:c.pg[k]?=some x):c.pgs.Perm (x.2::(c.dropPg k).pgs):=by
 have hk:=Z0k.1 hx;unfold CA.pgs CA.dropPg;rw[Z2p];have e:c.pg=c.pg.take k++x::c.pg.drop (k+1):=by
  rw[<- hk.2,Z0D,Z0E]
 conv=>lhs;rw[e]
 simp only[Z2Q,Z0b];exact Z2R
theorem Q6l{w:World}{c:CA}{d:BD}(h:Sep w (c.hl++d.hl))(ok:c.Ok)(ha:d.At)(hbb:c.bb=d.b)(AJ:∀x∈c.pg,x.2∈d.ps)(a:Nat)(hm:a∈c.used)(Cg:a<9223372036854775808) :
  Calls prog 77 #[.pointer (some ⟨c.c,0,none⟩),.int .i64 a] w fun r w'=>r=.returned (.int .i64 0)/\∃c' d',Q6k c d a c' d'/\Step (c.hl++d.hl) (c'.hl++d'.hl) w w':=by
 have Hs:=Q4p ok a;rw[decide_eq_true hm] at Hs;obtain⟨⟨k,i⟩,hs⟩:=Option.isSome_iff_exists.1 Hs;obtain⟨x,hx,hi,rfl⟩:=Q2Z hs;have ED:=Z1O hx;by_cases AQ:cntB (x.1.bits.set i false)=0
 ·refine(Q5T h ok ha hbb _ Cg k i x hs hx hi AQ (AJ x ED)).mono ?_;rintro r w'⟨rfl,d',b1,b2,b3,b4,b5⟩;have hk:=(Z0k.1 hx).1;exact⟨rfl,_,d',⟨CA.ok_drop ok k hk,rfl,rfl,rfl,b1,b2,b4,Q5L hx hi AQ,.inr ⟨x.2,Q7K c k x hx,b3⟩,fun hb y hy=>hb y ((Z2i _ _).subset hy)⟩,b5⟩
 ·refine(Q5H h.left ok _ Cg k i x hs hx hi AQ).mono ?_;rintro r w'⟨rfl,Ah⟩;have s':Step (c.hl++d.hl) ((c.pageTo k x {x.1 with bits:=x.1.bits.set i false}).hl++d.hl) w w':=by
   have:=Step.frame [] d.hl (by simpa using h) Ah
   simpa using this
  refine⟨rfl,_,d,⟨CA.ok_page ok k x hx _ (by simp),rfl,rfl,rfl,rfl,rfl,ha,Q7l hx hi,.inl ⟨Q2z _ hx,rfl⟩,fun hb y hy=>?_⟩,s'⟩;rcases Q1B hy with rfl|hy
  ·exact AQ
  ·exact hb y hy
theorem Q2N(P:PL)(k:Nat)(c:CA)(h:P.cs[k]?=some c):P.pages.Perm (c.pgs++((P.cs.take k).flatMap CA.pgs++(P.cs.drop (k+1)).flatMap CA.pgs)):=by
 have:P.pages=P.cs.flatMap CA.pgs:=rfl;rw[this,Q4Q CA.pgs P.cs k c h,<- Z0F,<- Z0F];exact Z2l _ Z2m
theorem Q2B(P:PL)(k:Nat)(c c':CA)(d:BD)(h:P.cs[k]?=some c):(P.setC k c' d).pages.Perm (c'.pgs++((P.cs.take k).flatMap CA.pgs++(P.cs.drop (k+1)).flatMap CA.pgs)):=by
 have hk:=(Z0k.1 h).1;have:=Q2N (P.setC k c' d) k c' (by simp[PL.setC,hk])
 simpa only[PL.setC,Z0G (Q9Y k),Z0H (Nat.lt_succ_self k)] using this
theorem Q1Z{P:PL}{fr:List Nat}(ok:P.Ok fr){k:Nat}{c:CA}(hc:P.cs[k]?=some c):∀x∈c.pg,x.2∈P.d.ps:=by
 intro x hx;refine ok.pages.mem_iff.1 (Z0A _ ?_);exact Z0o.2 ⟨c,Z1O hc,Z0y hx⟩
theorem PL.ok_setC{P:PL}{fr fr':List Nat}(ok:P.Ok fr){k:Nat}{c c':CA}{d:BD}(hc:P.cs[k]?=some c)(h1:c'.Ok)(h2:c'.size=c.size)(h3:c'.bb=c.bb)(h4:d.b=P.d.b)(h5:d.top=P.d.top)(h6:d.At)(h7:∀x∈c'.pg,cntB x.1.bits≠0)
  (hp:(fr'++(P.setC k c' d).pages).Perm d.ps):(P.setC k c' d).Ok fr':=by
 have hk:=(Z0k.1 hc).1;refine⟨ok.q,h6,?_,?_,ok.bytes,by simp[PL.setC,ok.len],?_,hp,?_⟩
 ·show P.a.mem.length=2 ^ (d.top+10);rw[h5];exact ok.mem
 ·show 6<=d.top;rw[h5];exact ok.top
 ·intro j x hx;simp only[PL.setC] at hx;rw[Z1k] at hx;split at hx
  ·rename_i e;subst e;simp at hx;subst hx;obtain⟨a,b,e⟩:=ok.c k c hc;exact⟨h1,h2.trans b,by rw[h3,e];exact h4.symm⟩
  ·obtain⟨a,b,e⟩:=ok.c j x hx;exact⟨a,b,by rw[e];exact h4.symm⟩
 ·intro x hx;rcases Q1B hx with rfl|hx
  ·exact h7
  ·exact ok.busy x hx
theorem PL.busyC{P:PL}{fr:List Nat}(ok:P.Ok fr){k:Nat}{c:CA}(hc:P.cs[k]?=some c):∀x∈c.pg,cntB x.1.bits≠0:=ok.busy c (Z1O hc)
theorem PL.ok_take{P:PL}{fr:List Nat}(ok:P.Ok fr){k a:Nat}{c c':CA}{d:BD}(hc:P.cs[k]?=some c)(h:Q6h c P.d a c' d):(P.setC k c' d).Ok fr:=by
 refine PL.ok_setC ok hc h.ok h.size h.bb h.b h.top h.at' (h.busy (PL.busyC ok hc)) ?_;have e1:=Q2N P k c hc;have e2:=Q2B P k c c' d hc;rcases h.pages with ⟨p1,p2⟩|⟨p,_,p1,p2⟩
 ·rw[p2];refine(Z2o _ ?_).trans ok.pages;rw[p1] at e2;exact e2.trans e1.symm
 ·rw[p2];have e3:(P.setC k c' d).pages.Perm (p::P.pages):=e2.trans ((Z2l _ p1).trans (List.Perm.cons _ e1.symm));exact(Z2o _ e3).trans (Z2R.trans ((List.Perm.cons _ ok.pages).trans (Z2S _ _).symm))
theorem PL.ok_give{P:PL}{fr:List Nat}(ok:P.Ok fr){k a:Nat}{c c':CA}{d:BD}(hc:P.cs[k]?=some c)(h:Q6k c P.d a c' d):(P.setC k c' d).Ok fr:=by
 refine PL.ok_setC ok hc h.ok h.size h.bb h.b h.top h.at' (h.busy (PL.busyC ok hc)) ?_;have e1:=Q2N P k c hc;have e2:=Q2B P k c c' d hc;rcases h.pages with ⟨p1,p2⟩|⟨p,p1,p2⟩
 ·rw[p2];refine(Z2o _ ?_).trans ok.pages;rw[p1] at e2;exact e2.trans e1.symm
 ·rw[p2];have e3:P.pages.Perm (p::(P.setC k c' d).pages):=e1.trans ((Z2l _ p1).trans (List.Perm.cons _ e2.symm));have e4:(p::(fr++(P.setC k c' d).pages)).Perm P.d.ps:=(Z2R.symm.trans (Z2o _ e3.symm)).trans ok.pages;have:=List.Perm.erase p e4
  rwa [List.erase_cons_head] at this
theorem Q1g(P:PL)(k:Nat)(c c':CA)(d:BD)(hc:P.Cls k c)(j:Nat):(P.setC (k-1) c' d).usedOf j=if j=k then c'.used else P.usedOf j:=by
 have hk:=(Z0k.1 hc.2).1;have h1:=hc.1;unfold PL.usedOf PL.setC;by_cases e:j=k
 ·subst e;simp[h1,hk]
 ·simp only[e,if_false];split
  ·rename_i hj;rw[List.getElem?_set_ne (by omega)]
  ·rfl
theorem PL.ok_setQ{P:PL}{fr:List Nat}(ok:P.Ok fr){q:QT}(hq:q.Ok):(P.setQ q).Ok fr:=⟨hq,ok.d,ok.mem,ok.top,ok.bytes,ok.len,ok.c,ok.pages,ok.busy⟩
theorem PL.ok_setA{P:PL}{fr:List Nat}(ok:P.Ok fr){m:List Nat}(hm:m.length=P.a.mem.length)(hb:∀b∈m,b<256):(P.setA m).Ok fr:=⟨ok.q,ok.d,by show m.length=_;rw[hm];exact ok.mem,ok.top,hb,ok.len,ok.c,ok.pages,ok.busy⟩
theorem Q3m{q:QT}(ok:q.Ok){id:Int}{e:En Fa}(hf:find q.E id=some e)(f:Fa)(h:0<=f.charged/\0<=f.given/\f.charged+f.given<=f.limit/\f.limit=e.q.limit/\f.kids=e.q.kids):({q with E:=upd q.E id f}:QT).Ok:=by
 refine⟨Q1c id f (fun a b a' b' _ h1 _ h2 h=>by rw[<- h1,<- h2];exact h) ok.ids,ok.next0,ok.next1,fun j x hx=>?_⟩;obtain⟨a1,a2,a3,a4,a5,a6,a7,a8⟩:=ok.fa id e hf;by_cases hj:j=id
 ·subst hj;have:=Q0m hf f;rw[this] at hx;cases hx;exact⟨h.1,h.2.1,h.2.2.1,by rw[h.2.2.2.1];exact a4,by rw[h.2.2.2.2];exact a5,by rw[h.2.2.2.2];exact a6,a7,a8⟩
 ·have:find (upd q.E id f) j=find q.E j:=Q1l hj f;rw[this] at hx;exact ok.fa j x hx
theorem Q2a{w:World}{v:Value}{r:Ending}{w':World}(h:Told w.drew v r w'):Told w v r w':=⟨h.1,((Below.refl _ _).drew).trans h.2⟩
theorem Q7L{w:World}{P:PL}(h:Sep w P.hl)(f k:Int)(hk:Q0g k=0):Calls prog 15 #[.pointer (some ⟨P.p,0,none⟩),.int .i64 f,.int .i64 k] w fun r w'=>r=.returned (.tuple #[.int .i64 0,.int .i64 1])/\w=w':=by
 have Af:=Q0s h.env k;rw[hk] at Af;clear h hk;go_enter func15,ntmps15;go_wp2_with (go_at_call 20;refine Af.mono ?_;rintro e w'⟨rfl,rfl⟩);go_ret2;exact⟨rfl,rfl⟩
theorem Q4y{w:World}{P:PL}(h:Sep w P.hl)(f k:Int)(hk:Q0g k≠0)(e0:Int)(he:e0=5∨e0=6)
  (Bv:Calls prog 68 #[ptr P.q.t,.int .i64 f,.int .i64 ((Q0g k:Nat):Int)] w.drew (Told w.drew (.int .i64 e0))) :
  Calls prog 15 #[.pointer (some ⟨P.p,0,none⟩),.int .i64 f,.int .i64 k] w (Told w (.tuple #[.int .i64 0,.int .i64 e0])):=by
 have Af:=Q0s h.env k;have Ba:=Q0s h.drew.env k;have c0:=PL.c0 h;have d0:=PL.c0 h.drew;have HT:Hid (∀r w',Told w.drew (.int .i64 e0) r w'->r=.returned (.int .i64 e0)/\w'.cell? ⟨P.p,0,none⟩=some (ptr P.q.t)/\Told w (.tuple #[.int .i64 0,.int .i64 e0]) (.returned (.tuple #[.int .i64 0,.int .i64 e0])) w'):=fun r w' hx=>⟨(Q2a hx).1,PL.c0 (h.grown (Q2a hx).2).sep,rfl,(Q2a hx).2⟩
 have Ao:(((Q0g k:Nat):Int)==0)=false:=by simpa using hk
 clear h hk;unfold ptr at *
 generalize ((Q0g k:Nat):Int)=cst at *
 rcases he with rfl|rfl
 all_goals
  go_enter func15,ntmps15;go_wp2_with (go_at_call 20;refine Af.mono ?_;rintro e w'⟨rfl,rfl⟩)
  go_region_held3 (fun w'=>w'.cell? ⟨P.p,0,none⟩=some (.pointer (some ⟨P.q.t,0,none⟩))) (first|exact c0|exact d0|exact e1)
   (first|(go_at_call 20;refine Ba.mono ?_;rintro e w'⟨rfl,rfl⟩)|(go_at_call 68;refine Bv.mono ?_;intro r w' hx;obtain⟨rfl,e1,hy⟩:=HT.out _ _ hx;have HY:=Q0a hy;clear hx hy))
  go_wp2_with fail
  (try go_ret2);exact HY.out
structure Q8X(P:PL)(fr:List Nat)(f:Int)(n a:Nat)(P':PL):Prop where
 ok:P'.Ok fr
 p:P'.p=P.p
 qt:P'.q.t=P.q.t
 db:P'.d.b=P.d.b
 aa:P'.a.a=P.a.a
 amb:P'.a.mb=P.a.mb
 top:P'.d.top=P.d.top
 q:∃e,find P.q.E f=some e/\((Q0c n:Nat):Int)<=e.q.limit-(e.q.charged+e.q.given)/\P'.q={P.q with E:=upd P.q.E f {e.q with charged:=e.q.charged+((Q0c n:Nat):Int)}}
 mem:P'.a.mem=put_ P.a.mem a (List.replicate (Q0c n) 0)
 used:∃A B,P.usedOf n=A++B/\P'.usedOf n=A++a::B
 other:∀j,j≠n->P'.usedOf j=P.usedOf j
 which:∃c c',P.Cls n c/\P'.cs=P.cs.set (n-1) c'/\Q6h c P.d a c' P'.d
def Q8k(P:PL)(n:Nat):Prop:=∃c,P.Cls n c/\Q6i c P.d
def GetR(P:PL)(fr:List Nat)(f:Int)(n:Nat)(w:World)(r:Ending)(w':World):Prop:=
 (∃a P',r=.returned (.tuple #[.int .i64 ((a:Nat):Int),.int .i64 0])/\Q8X P fr f n a P'/\Step P.hl P'.hl w w')∨(Q8k P n/\r=.returned (.tuple #[.int .i64 0,.int .i64 4])/\Step P.hl P.hl w w')
theorem Q2b{P:PL}{fr:List Nat}(ok:P.Ok fr){n a:Nat}(ha:a∈P.usedOf n):a+Q0c n<=P.a.mem.length/\64<=a/\1<=n/\n<=7:=by
 unfold PL.usedOf at ha;split at ha
 ·rename_i h1;split at ha
  ·rename_i c hc;obtain⟨k1,k2,k3,k4⟩:=PL.Cls.facts ok ⟨h1,hc⟩;obtain⟨x,hx,l1,l2⟩:=Q5N k1 ha;have hp:=ok.d.lt _ (Q1Z ok hc x hx);rw[k2] at l2;rw[ok.mem,Z1f,show(2:Nat) ^ 10=1024 from rfl];omega
  ·cases ha
 ·cases ha
theorem Q6m{m:List Nat}{a n:Nat}(h:∀b∈m,b<256)(v:Nat)(hv:v<256):∀b∈put_ m a (List.replicate n v),b<256:=by
 intro b hb;unfold put_ at hb;simp only[Z0v] at hb;rcases hb with (hb|hb)|hb
 ·exact h b (Z2L hb)
 ·rw[Z0f hb];exact hv
 ·exact h b (Z2d hb)
theorem Q3n{P:PL}{fr:List Nat}(ok:P.Ok fr):P.a.mem.length<=1073741824:=by
 rw[ok.mem];exact Q9Z (Z0T (by omega) (by have:=ok.d.is.top;omega:P.d.top+10<=30)) (by decide)
theorem Q6n{w:World}{P:PL}{fr:List Nat}(h:Sep w P.hl)(ok:P.Ok fr)(f:Int){e:En Fa}(hf:find P.q.E f=some e)(n:Nat)(hq:((Q0c n:Nat):Int)<=e.q.limit-(e.q.charged+e.q.given))(c:CA)(hc:P.Cls n c) :
  Calls prog 68 #[ptr P.q.t,.int .i64 f,.int .i64 ((Q0c n:Nat):Int)] w.drew fun r w1=>r=.returned (.int .i64 0)/\w1.cell? ⟨P.p,0,none⟩=some (ptr P.q.t)/\w1.cell? ⟨P.p,3+n,none⟩=some (ptr c.c) /\
   Calls prog 69 #[ptr c.c] w1 fun r w2 =>
    (∃a:Nat,r=.returned (.tuple #[.int .i64 a,.int .i64 0])/\Env w2/\w2.cell? ⟨P.p,2,none⟩=some (ptr P.a.a) /\
     Calls prog 71 #[ptr P.a.a,.int .i64 a,.int .i64 ((Q0c n:Nat):Int),.int .u8 0] w2.drew fun r w3=>r=.returned (.int .i64 0)/\w3.cell? ⟨P.p,2,none⟩=some (ptr P.a.a)/\GetR P fr f n w (.returned (.tuple #[.int .i64 a,.int .i64 0])) w3)
    ∨ (r=.returned (.tuple #[.int .i64 0,.int .i64 4])/\Env w2/\w2.cell? ⟨P.p,0,none⟩=some (ptr P.q.t) /\
     Calls prog 70 #[ptr P.q.t,.int .i64 f,.int .i64 ((Q0c n:Nat):Int)] w2.drew fun r w3=>r=.returned (.int .i64 0)/\w3.cell? ⟨P.p,0,none⟩=some (ptr P.q.t)/\GetR P fr f n w (.returned (.tuple #[.int .i64 0,.int .i64 4])) w3):=by
 obtain⟨k1,k2,k3,k4⟩:=PL.Cls.facts ok hc;obtain⟨f1,f2,f3,f4,f5,f6,f7,f8⟩:=ok.q.fa f e hf;have Bx:0<Q0c n:=costN_pos.2 ⟨hc.1,k4⟩;have Dg:(0:Int)<=((Q0c n:Nat):Int):=by omega
 refine(Q4X (PL.sQ h.drew) ok.q hf _ Dg hq).mono ?_;rintro r w1⟨rfl,st1⟩;have s1:Step P.hl (P.setQ {P.q with E:=upd P.q.E f {e.q with charged:=e.q.charged+((Q0c n:Nat):Int)}}).hl w w1:=(PL.stepQ h.drew {P.q with E:=upd P.q.E f {e.q with charged:=e.q.charged+((Q0c n:Nat):Int)}} rfl st1).from_drew;have ok1:=PL.ok_setQ ok (Q3m ok.q hf {e.q with charged:=e.q.charged+((Q0c n:Nat):Int)} ⟨by show 0<=e.q.charged+_;omega,f2,by show e.q.charged+_+e.q.given<=e.q.limit;omega,rfl,rfl⟩);have D5:find (upd P.q.E f {e.q with charged:=e.q.charged+((Q0c n:Nat):Int)}) f=some {e with q:={e.q with charged:=e.q.charged+((Q0c n:Nat):Int)}}:=Q0m hf _
 have A9:=ok.q.ids;obtain⟨q1,Bq⟩:∃q1:QT,q1={P.q with E:=upd P.q.E f {e.q with charged:=e.q.charged+((Q0c n:Nat):Int)}}:=⟨_,rfl⟩
 rw[<- Bq] at s1 ok1;have BB:=PL.cc s1.sep (n-1) c hc.2;rw[show 3+(n-1+1)=3+n by have:=hc.1;omega] at BB;have DB:=PL.c0 s1.sep;have eqt:(P.setQ q1).q.t=P.q.t:=by subst Bq;rfl
 rw[eqt] at DB;refine⟨rfl,DB,BB,?_⟩;refine(Q6j (PL.sC s1.sep (n-1) c hc.2) k1 ok1.d k3 (Q1Z ok1 hc.2)).mono ?_;rintro r w2 (⟨a,c',d',rfl,ht,st2⟩|⟨Ar,rfl,hb⟩)
 ·left;have s2:Step (P.setQ q1).hl ((P.setQ q1).setC (n-1) c' d').hl w1 w2:=PL.stepC s1.sep (n-1) c c' d' hc.2 ht.ec ht.b st2;have ok2:=PL.ok_take ok1 hc.2 ht;have hu:=Q1g (P.setQ q1) n c c' d' hc n;rw[if_pos rfl] at hu;obtain⟨A,B,u1,u2⟩:=ht.used;have Ip:a∈((P.setQ q1).setC (n-1) c' d').usedOf n:=by rw[hu,u2];simp
  have Bg:=Q2b ok2 Ip;have s12:=s1.trans s2;have Fm:=PL.c2 s2.sep;refine⟨a,rfl,s2.sep.env,Fm,?_⟩;have EO:=Q3n ok2;refine(Q8U (PL.sA s2.sep.drew) a (Q0c n) 0 Bx Bg.1 EO).mono ?_;rintro r w3⟨rfl,st3⟩;have s3:=PL.stepA s2.sep.drew _ st3;have Ad:(put_ P.a.mem a (List.replicate (Q0c n) 0)).length=P.a.mem.length:=Q1W _ _ _ (by rw[Z0h];exact Bg.1);have ok3:=PL.ok_setA ok2 (m:=put_ P.a.mem a (List.replicate (Q0c n) 0)) Ad (Q6m ok.bytes 0 (by omega));have EU:=PL.c2 s3.sep;refine⟨rfl,EU,.inl ⟨a,_,rfl,⟨ok3,rfl,eqt,ht.b,rfl,rfl,ht.top,⟨e,hf,hq,Bq⟩,rfl,⟨A,B,?_,?_⟩,?_,⟨c,c',hc,rfl,ht⟩⟩,s12.trans s3.from_drew⟩⟩
  ·rw[Q0u hc];exact u1
  ·show((P.setQ q1).setC (n-1) c' d').usedOf n=_;rw[hu];exact u2
  ·intro j hj;have:=Q1g (P.setQ q1) n c c' d' hc j;rw[if_neg hj] at this;exact this
 ·right;have s2:=s1.sep.grown hb;have D6:=PL.c0 s2.sep;rw[eqt] at D6;refine⟨rfl,s2.sep.env,D6,?_⟩;have GU:=Q2v (PL.sQ s2.sep.drew) ok1.q (id:=f) (e:={e with q:={e.q with charged:=e.q.charged+((Q0c n:Nat):Int)}}) (by subst Bq;exact D5) _ Dg (by show _<=e.q.charged+_;omega);rw[eqt] at GU;refine GU.mono ?_;rintro r w3⟨rfl,st3⟩;have eback:({(P.setQ q1).q with E:=upd (P.setQ q1).q.E f {(({e with q:={e.q with charged:=e.q.charged+((Q0c n:Nat):Int)}}:En Fa)).q with charged:=e.q.charged+((Q0c n:Nat):Int)-((Q0c n:Nat):Int)}}:QT)=P.q:=by
   subst Bq;simp only[PL.setQ,upd_upd,Int.add_sub_cancel];rw[Q9s A9 hf]
  rw[eback] at st3;have s3:=PL.stepQ s2.sep.drew P.q eqt.symm st3;have eP:(P.setQ q1).setQ P.q=P:=rfl;rw[eP] at s3;exact⟨rfl,PL.c0 s3.sep,.inr ⟨⟨c,hc,Ar⟩,rfl,(s1.trans s2).trans s3.from_drew⟩⟩
theorem Q6o{w:World}{P:PL}{fr:List Nat}(h:Sep w P.hl)(ok:P.Ok fr)(f:Int){e:En Fa}(hf:find P.q.E f=some e)(n:Nat)(hq:((Q0c n:Nat):Int)<=e.q.limit-(e.q.charged+e.q.given))(c:CA)(hc:P.Cls n c) :
  Calls prog 15 #[.pointer (some ⟨P.p,0,none⟩),.int .i64 f,.int .i64 n] w (GetR P fr f n w):=by
 have Bv:=Q6n h ok f hf n hq c hc;obtain⟨k1,k2,k3,k4⟩:=PL.Cls.facts ok hc;have Bx:0<Q0c n:=costN_pos.2 ⟨hc.1,k4⟩;have Dx:Q0g (n:Int)=Q0c n:=by unfold Q0g;rw[if_pos (by omega),Z0K]
 have Aq:Hid (∀w1,Env w1->Calls prog 20 #[.int .i64 n] w1 fun r w'=>r=.returned (.int .i64 ((Q0c n:Nat):Int))/\w1=w'):=fun w1 he=>by
  have:=Q0s he (n:Int);rw[Dx] at this;exact this
 have Af:=Aq.out w h.env;have Ba:=Aq.out w.drew h.drew.env;have c0:=PL.c0 h;have d0:=PL.c0 h.drew;have Ao:(((Q0c n:Nat):Int)==0)=false:=by simp;omega
 have Fc:(n:Int)<8:=by omega
 have CQ:(1:Int)<=n:=by have:=hc.1;omega
 have HE:Hid (∀w:World,Env w->Env w.drew):=fun w he=>he.same (fun _ _=>rfl) he.gb
 obtain⟨GR,GA⟩:∃GR:Ending->World->Prop,GR=GetR P fr f n w:=⟨_,rfl⟩
 rw[<- GA] at Bv ⊢;have Iv:=Q0a Bv;clear h ok hf hq hc GA Bv Dx k1 k2 k3 k4 Bx;unfold ptr at *
 generalize ((Q0c n:Nat):Int)=cst at *
 generalize P.p=pp at *
 generalize P.q.t=qt at *
 generalize P.a.a=aa at *
 generalize c.c=cc at *
 go_enter func15,ntmps15;go_wp2_with (go_at_call 20;refine Af.mono ?_;rintro e w'⟨rfl,rfl⟩)
 go_region_held3 (fun w'=>w'.cell? ⟨pp,0,none⟩=some (.pointer (some ⟨qt,0,none⟩))) (first|exact c0|exact d0|exact e1)
  (first|(go_at_call 20;refine Ba.mono ?_;rintro e w'⟨rfl,rfl⟩)|(go_at_call 68;refine Iv.out.mono ?_;rintro r w1⟨rfl,e1,e2,hx⟩;have HT:=Q0a hx;clear hx))
 clear c0 d0 Af Ba;go_wp2_with fail;refine HT.out.mono ?_;rintro r w2 (⟨a,rfl,he,e3,hx⟩|⟨rfl,he,e3,hx⟩)
 ·have HX:=Q0a hx;have Bt:=Aq.out w2.drew (HE.out _ he);have d3:w2.drew.cell? ⟨pp,2,none⟩=some (.pointer (some ⟨aa,0,none⟩)):=e3;clear hx he e1 e2;go_wp2_with fail
  go_region_held3 (fun w'=>w'.cell? ⟨pp,2,none⟩=some (.pointer (some ⟨aa,0,none⟩))) (first|exact e3|exact d3|exact e4)
   (first|(go_at_call 20;refine Bt.mono ?_;rintro e w'⟨rfl,rfl⟩)|(go_at_call 71;refine HX.out.mono ?_;rintro r w3⟨rfl,e4,hy⟩;have HY:=Q0a hy;clear hy))
  go_wp2_with fail
  (try go_ret2);exact HY.out
 ·have HX:=Q0a hx;have Bt:=Aq.out w2.drew (HE.out _ he);have d3:w2.drew.cell? ⟨pp,0,none⟩=some (.pointer (some ⟨qt,0,none⟩)):=e3;clear hx he e1 e2;go_wp2_with fail
  go_region_held3 (fun w'=>w'.cell? ⟨pp,0,none⟩=some (.pointer (some ⟨qt,0,none⟩))) (first|exact e3|exact d3|exact e4)
   (first|(go_at_call 20;refine Bt.mono ?_;rintro e w'⟨rfl,rfl⟩)|(go_at_call 70;refine HX.out.mono ?_;rintro r w3⟨rfl,e4,hy⟩;have HY:=Q0a hy;clear hy))
  go_wp2_with fail
  (try go_ret2);exact HY.out
def GetP(P:PL)(fr:List Nat)(f k:Int)(w:World)(r:Ending)(w':World):Prop:=
 (Q0g k=0/\r=.returned (.tuple #[.int .i64 0,.int .i64 1])/\Step P.hl P.hl w w') ∨
 (Q0g k≠0/\find P.q.E f=none/\r=.returned (.tuple #[.int .i64 0,.int .i64 6])/\Step P.hl P.hl w w') ∨
 (Q0g k≠0/\(∃e,find P.q.E f=some e/\e.q.limit-(e.q.charged+e.q.given)<((Q0g k:Nat):Int))/\r=.returned (.tuple #[.int .i64 0,.int .i64 5])/\Step P.hl P.hl w w') ∨
 (∃n e,k=((n:Nat):Int)/\1<=n/\n<=7/\find P.q.E f=some e/\((Q0c n:Nat):Int)<=e.q.limit-(e.q.charged+e.q.given)/\GetR P fr f n w r w')
theorem Q2c{k:Int}(h:Q0g k≠0):∃n:Nat,k=n/\1<=n/\n<=7/\Q0g k=Q0c n:=by
 have h0:0<=k:=by unfold Q0g at h;split at h <;> omega
 obtain⟨n,rfl⟩:=Z1i h0;have e:Q0g (n:Int)=Q0c n:=by unfold Q0g;rw[if_pos h0,Z0K]
 rw[e] at h;obtain⟨h1,h7⟩:=costN_pos.1 (Nat.pos_of_ne_zero h);exact⟨n,rfl,h1,h7,e⟩
theorem Q1L{w:World}{P:PL}{fr:List Nat}(h:Sep w P.hl)(ok:P.Ok fr)(f k:Int) :
  Calls prog 15 #[.pointer (some ⟨P.p,0,none⟩),.int .i64 f,.int .i64 k] w (GetP P fr f k w):=by
 by_cases hk:Q0g k=0
 ·refine(Q7L h f k hk).mono ?_;rintro r w'⟨rfl,rfl⟩;exact .inl ⟨hk,rfl,Step.refl h⟩
 ·cases hf:find P.q.E f with
  | none =>
   refine(Q4y h f k hk 6 (.inr rfl) ((Q3h (PL.sQ h.drew) hf _).mono fun r w' ⟨e,e'⟩=>⟨e,by rw[<- e'];exact Below.refl _ _⟩)).mono ?_;rintro r w'⟨rfl,hb⟩;exact .inr (.inl ⟨hk,hf,rfl,h.grown hb⟩)
  | some e =>
   by_cases hq:((Q0g k:Nat):Int)<=e.q.limit-(e.q.charged+e.q.given)
   ·obtain⟨n,rfl,h1,h7,hn⟩:=Q2c hk;rw[hn] at hq;obtain⟨c,hc⟩:=PL.cls ok h1 h7;refine(Q6o h ok f hf n hq c hc).mono ?_;intro r w' hr;exact .inr (.inr (.inr ⟨n,e,rfl,h1,h7,hf,hq,hr⟩))
   ·refine(Q4y h f k hk 5 (.inl rfl) (Q2M (PL.sQ h.drew) ok.q hf _ (by omega) (by omega))).mono ?_;rintro r w'⟨rfl,hb⟩;exact .inr (.inr (.inl ⟨hk,⟨e,hf,by omega⟩,rfl,h.grown hb⟩))
theorem Q7M{w:World}(c:CA)(a:Int)(ha:a<0):Calls prog 122 #[.pointer (some ⟨c.c,0,none⟩),.int .i64 a] w (Told w (.bool false)):=by
 have k1:=Q7g (w:=w) c a ha;unfold Q1z at k1;have HB:Hid (Told w (.bool false) (.returned (.bool false)) w):=⟨rfl,Below.refl _ _⟩
 go_enter func122,ntmps122;go_wp2_with (go_at_call 143;refine k1.mono ?_;rintro e w'⟨rfl,rfl⟩);go_ret;exact HB.out
def Q2d(a:Int):Prop:=a<9223372036854775808
theorem Q7N{w:World}{c:CA}(h:Sep w c.hl)(ok:c.Ok)(a:Int)(ha:Q2d a):Calls prog 122 #[.pointer (some ⟨c.c,0,none⟩),.int .i64 a] w (Told w (.bool (decide (0<=a/\a.toNat∈c.used)))):=by
 unfold Q2d at ha;by_cases h0:a<0
 ·have:decide (0<=a/\a.toNat∈c.used)=false:=by rw[decide_eq_false_iff_not];omega
  rw[this];exact Q7M c a h0
 ·obtain⟨n,rfl⟩:=Z1i (by omega:0<=a);have:=Q8C h ok n (by omega);rw[Q4p ok n] at this;have e:decide (n∈c.used)=decide (0<=(n:Int)/\(n:Int).toNat∈c.used):=by
   rw[Z0K];congr 1;apply propext;exact⟨fun h=>⟨by omega,h⟩,fun h=>h.2⟩
  rw[<- e];exact this
def PL.has(P:PL)(k a:Int):Bool:=decide (0<=a/\a.toNat∈P.usedI k)
theorem Q1M{w:World}{P:PL}{fr:List Nat}(h:Sep w P.hl)(ok:P.Ok fr)(k a:Int)(ha:Q2d a):Calls prog 59 #[.pointer (some ⟨P.p,0,none⟩),.int .i64 k,.int .i64 a] w (Told w (.bool (P.has k a))):=by
 have Af:=Q0s h.env k;by_cases hz:Q0g k=0
 ·have e:P.has k a=false:=by
   unfold PL.has PL.usedI;rw[decide_eq_false_iff_not];rintro⟨_,hm⟩;split at hm
   ·rename_i h0;unfold Q0g at hz;rw[if_pos h0] at hz;rw[Q2x ok hz] at hm;cases hm
   ·cases hm
  rw[e,];have HB:Hid (Told w (.bool false) (.returned (.bool false)) w):=⟨rfl,Below.refl _ _⟩
  rw[hz] at Af;clear h ok hz e;go_enter func59,ntmps59;go_wp2_with (go_at_call 20;refine Af.mono ?_;rintro e w'⟨rfl,rfl⟩);go_ret;exact HB.out
 ·obtain⟨n,rfl,h1,h7,hn⟩:=Q2c hz;obtain⟨c,hc⟩:=PL.cls ok h1 h7;have BV:=PL.cc h (n-1) c hc.2;rw[show 3+(n-1+1)=3+n by omega] at BV;have hu:=Q7N (PL.sC h (n-1) c hc.2).left (hc.facts ok).1 a ha;have e:P.has (n:Int) a=decide (0<=a/\a.toNat∈c.used):=by
   unfold PL.has PL.usedI;rw[if_pos (by omega:(0:Int)<=(n:Int)),Z0K,Q0u hc]
  rw[e];have Bx:(0:Int)<((Q0g (n:Int):Nat):Int):=by omega
  have Fc:(n:Int)<8:=by omega
  have Dg:(0:Int)<=n:=by omega
  generalize decide (0<=a/\a.toNat∈c.used)=b at *
  clear h ok hz e hc ha hn;have HQ:Hid (∀r w',Told w (.bool b) r w'->r=.returned (.bool b)/\Told w (.bool b) (.returned (.bool b)) w'):=fun r w' hx=>⟨hx.1,rfl,hx.2⟩
  unfold ptr at *
  generalize ((Q0g (n:Int):Nat):Int)=cst at *
  go_enter func59,ntmps59;go_wp2_with (first|(go_at_call 20;refine Af.mono ?_;rintro e w'⟨rfl,rfl⟩)|(go_at_call 122;refine hu.mono ?_;intro r w' hx;obtain⟨rfl,hy⟩:=HQ.out _ _ hx;have HY:=Q0a hy;clear hx hy))
  (try go_ret);exact HY.out
theorem Q7O{w:World}{P:PL}(h:Sep w P.hl)(f k a:Int)(hk:Q0g k=0):Calls prog 21 #[.pointer (some ⟨P.p,0,none⟩),.int .i64 f,.int .i64 k,.int .i64 a] w fun r w'=>r=.returned (.int .i64 1)/\w=w':=by
 have Af:=Q0s h.env k;rw[hk] at Af;clear h hk;go_enter func21,ntmps21;go_wp2_with (go_at_call 20;refine Af.mono ?_;rintro e w'⟨rfl,rfl⟩);go_ret;exact⟨rfl,rfl⟩
theorem Q6p{w:World}{P:PL}{fr:List Nat}(h:Sep w P.hl)(ok:P.Ok fr)(f k a:Int)(hk:Q0g k≠0)(ha:Q2d a)(Ar:P.has k a=false):Calls prog 21 #[.pointer (some ⟨P.p,0,none⟩),.int .i64 f,.int .i64 k,.int .i64 a] w (Told w (.int .i64 6)):=by
 have Af:=Q0s h.env k;have hh:=Q1M h ok k a ha;rw[Ar] at hh;have Ao:(((Q0g k:Nat):Int)==0)=false:=by simpa using hk
 have HQ:Hid (∀r w',Told w (.bool false) r w'->r=.returned (.bool false)/\Told w (.int .i64 6) (.returned (.int .i64 6)) w'):=fun r w' hx=>⟨hx.1,rfl,hx.2⟩
 clear h ok hk Ar ha;generalize ((Q0g k:Nat):Int)=cst at *
 go_enter func21,ntmps21;go_wp2_with (first|(go_at_call 20;refine Af.mono ?_;rintro e w'⟨rfl,rfl⟩)|(go_at_call 59;refine hh.mono ?_;intro r w' hx;obtain⟨rfl,hy⟩:=HQ.out _ _ hx;have HY:=Q0a hy;clear hx hy))
 (try go_ret);exact HY.out
theorem Q4z{w:World}{P:PL}{fr:List Nat}(h:Sep w P.hl)(ok:P.Ok fr)(f k a:Int)(hk:Q0g k≠0)(ha:Q2d a)(BR:P.has k a=true)(e0:Int)(he:e0=1∨e0=6)
  (Bv:∀w1,Below w.heap.size w w1->Calls prog 70 #[ptr P.q.t,.int .i64 f,.int .i64 ((Q0g k:Nat):Int)] w1.drew fun r w'=>r=.returned (.int .i64 e0)/\w1.drew=w') :
  Calls prog 21 #[.pointer (some ⟨P.p,0,none⟩),.int .i64 f,.int .i64 k,.int .i64 a] w (Told w (.int .i64 e0)):=by
 have Af:=Q0s h.env k;have hh:=Q1M h ok k a ha;rw[BR] at hh;have Ao:(((Q0g k:Nat):Int)==0)=false:=by simpa using hk
 have HQ:Hid (∀r w1,Told w (.bool true) r w1->r=.returned (.bool true)/\w1.cell? ⟨P.p,0,none⟩=some (ptr P.q.t)/\Told w (.int .i64 e0) (.returned (.int .i64 e0)) w1.drew /\
   (Calls prog 20 #[.int .i64 k] w1.drew fun r w'=>r=.returned (.int .i64 ((Q0g k:Nat):Int))/\w1.drew=w') /\
   Calls prog 70 #[ptr P.q.t,.int .i64 f,.int .i64 ((Q0g k:Nat):Int)] w1.drew fun r w'=>r=.returned (.int .i64 e0)/\w1.drew=w'):=fun r w1 hx =>
  ⟨hx.1,PL.c0 (h.grown hx.2).sep,⟨rfl,hx.2.drew⟩,Q0s (h.grown hx.2).sep.drew.env k,Bv w1 hx.2⟩
 clear h ok hk BR ha Bv;unfold ptr at *
 generalize ((Q0g k:Nat):Int)=cst at *
 rcases he with rfl|rfl
 all_goals
  go_enter func21,ntmps21;go_wp2_with (go_at_call 20;refine Af.mono ?_;rintro e w'⟨rfl,rfl⟩);refine hh.mono ?_;intro r w1 hx;obtain⟨rfl,c0,hy,Ay,CJ⟩:=HQ.out _ _ hx;have HY:=Q0a hy;have Em:=Q0a Ay;have DD:=Q0a CJ;have d0:w1.drew.cell? ⟨P.p,0,none⟩=some (.pointer (some ⟨P.q.t,0,none⟩)):=c0;clear hx hy Ay CJ;go_wp2_with fail
  go_region_held3 (fun w'=>w'.cell? ⟨P.p,0,none⟩=some (.pointer (some ⟨P.q.t,0,none⟩))) (first|exact c0|exact d0)
   (first|(go_at_call 20;refine Em.out.mono ?_;rintro e w'⟨rfl,rfl⟩)|(go_at_call 70;refine DD.out.mono ?_;rintro e w'⟨rfl,rfl⟩))
  go_wp2_with fail
  (try go_ret);exact HY.out
structure Q9R(P:PL)(fr:List Nat)(f:Int)(n a:Nat)(P':PL):Prop where
 ok:P'.Ok fr
 p:P'.p=P.p
 qt:P'.q.t=P.q.t
 db:P'.d.b=P.d.b
 aa:P'.a=P.a
 top:P'.d.top=P.d.top
 q:∃e,find P.q.E f=some e/\((Q0c n:Nat):Int)<=e.q.charged/\P'.q={P.q with E:=upd P.q.E f {e.q with charged:=e.q.charged-((Q0c n:Nat):Int)}}
 used:∃A B,P.usedOf n=A++a::B/\P'.usedOf n=A++B
 other:∀j,j≠n->P'.usedOf j=P.usedOf j
 which:∃c c',P.Cls n c/\P'.cs=P.cs.set (n-1) c'/\Q6k c P.d a c' P'.d
def PutR(P:PL)(fr:List Nat)(f:Int)(n a:Nat)(w:World)(r:Ending)(w':World):Prop:=r=.returned (.int .i64 0)/\∃P',Q9R P fr f n a P'/\Step P.hl P'.hl w w'
theorem Q6q{w w1:World}{P:PL}{fr:List Nat}(h:Sep w P.hl)(hb:Below w.heap.size w w1)(ok:P.Ok fr)(f:Int){e:En Fa}(hf:find P.q.E f=some e)(n:Nat)(hq:((Q0c n:Nat):Int)<=e.q.charged)(c:CA)(hc:P.Cls n c)(a:Nat)(hm:a∈c.used)(Cg:a<9223372036854775808) :
  Calls prog 70 #[ptr P.q.t,.int .i64 f,.int .i64 ((Q0c n:Nat):Int)] w1.drew fun r w2=>r=.returned (.int .i64 0)/\w2.cell? ⟨P.p,0,none⟩=some (ptr P.q.t)/\w2.cell? ⟨P.p,3+n,none⟩=some (ptr c.c) /\
   Calls prog 77 #[ptr c.c,.int .i64 a] w2 (PutR P fr f n a w):=by
 have s0:=h.grown hb;obtain⟨k1,k2,k3,k4⟩:=PL.Cls.facts ok hc;obtain⟨f1,f2,f3,f4,f5,f6,f7,f8⟩:=ok.q.fa f e hf;have Dg:(0:Int)<=((Q0c n:Nat):Int):=by omega
 refine(Q2v (PL.sQ s0.sep.drew) ok.q hf _ Dg hq).mono ?_;rintro r w2⟨rfl,st1⟩;have s1:Step P.hl (P.setQ {P.q with E:=upd P.q.E f {e.q with charged:=e.q.charged-((Q0c n:Nat):Int)}}).hl w w2:=s0.trans (PL.stepQ s0.sep.drew {P.q with E:=upd P.q.E f {e.q with charged:=e.q.charged-((Q0c n:Nat):Int)}} rfl st1).from_drew;have ok1:=PL.ok_setQ ok (Q3m ok.q hf {e.q with charged:=e.q.charged-((Q0c n:Nat):Int)} ⟨by show 0<=e.q.charged-_;omega,f2,by show e.q.charged-_+e.q.given<=e.q.limit;omega,rfl,rfl⟩);obtain⟨q1,Bq⟩:∃q1:QT,q1={P.q with E:=upd P.q.E f {e.q with charged:=e.q.charged-((Q0c n:Nat):Int)}}:=⟨_,rfl⟩
 rw[<- Bq] at s1 ok1;have BB:=PL.cc s1.sep (n-1) c hc.2;rw[show 3+(n-1+1)=3+n by have:=hc.1;omega] at BB;have DB:=PL.c0 s1.sep;have eqt:(P.setQ q1).q.t=P.q.t:=by subst Bq;rfl
 rw[eqt] at DB;refine⟨rfl,DB,BB,?_⟩;refine(Q6l (PL.sC s1.sep (n-1) c hc.2) k1 ok1.d k3 (Q1Z ok1 hc.2) a hm Cg).mono ?_;rintro r w3⟨rfl,c',d',hg,st2⟩;have s2:Step (P.setQ q1).hl ((P.setQ q1).setC (n-1) c' d').hl w2 w3:=PL.stepC s1.sep (n-1) c c' d' hc.2 hg.ec hg.b st2;have ok2:=PL.ok_give ok1 hc.2 hg;have hu:=Q1g (P.setQ q1) n c c' d' hc n;rw[if_pos rfl] at hu;obtain⟨A,B,u1,u2⟩:=hg.used;refine⟨rfl,_,⟨ok2,rfl,eqt,hg.b,rfl,hg.top,⟨e,hf,hq,Bq⟩,⟨A,B,?_,?_⟩,?_,⟨c,c',hc,rfl,hg⟩⟩,s1.trans s2⟩
 ·rw[Q0u hc];exact u1
 ·rw[hu];exact u2
 ·intro j hj;have:=Q1g (P.setQ q1) n c c' d' hc j;rw[if_neg hj] at this;exact this
theorem Q6r{w:World}{P:PL}{fr:List Nat}(h:Sep w P.hl)(ok:P.Ok fr)(f:Int){e:En Fa}(hf:find P.q.E f=some e)(n:Nat)(hq:((Q0c n:Nat):Int)<=e.q.charged)(c:CA)(hc:P.Cls n c)(a:Nat)(hm:a∈c.used)(Cg:a<9223372036854775808) :
  Calls prog 21 #[.pointer (some ⟨P.p,0,none⟩),.int .i64 f,.int .i64 n,.int .i64 a] w (PutR P fr f n a w):=by
 obtain⟨k1,k2,k3,k4⟩:=PL.Cls.facts ok hc;have Bx:0<Q0c n:=costN_pos.2 ⟨hc.1,k4⟩;have Dx:Q0g (n:Int)=Q0c n:=by unfold Q0g;rw[if_pos (by omega),Z0K]
 have BR:P.has (n:Int) (a:Int)=true:=by
  unfold PL.has PL.usedI;rw[if_pos (by omega:(0:Int)<=(n:Int)),Z0K,Z0K,Q0u hc,decide_eq_true_eq];exact⟨by omega,hm⟩
 have Af:=Q0s h.env (n:Int);rw[Dx] at Af;have hh:=Q1M h ok (n:Int) (a:Int) (by unfold Q2d;omega);rw[BR] at hh;have Ao:(((Q0c n:Nat):Int)==0)=false:=by simp;omega
 have Fc:(n:Int)<8:=by omega
 have CQ:(1:Int)<=n:=by have:=hc.1;omega
 obtain⟨PR,ES⟩:∃PR:Ending->World->Prop,PR=PutR P fr f n a w:=⟨_,rfl⟩
 have HQ:Hid (∀r w1,Told w (.bool true) r w1->r=.returned (.bool true)/\w1.cell? ⟨P.p,0,none⟩=some (ptr P.q.t) /\
   (Calls prog 20 #[.int .i64 n] w1.drew fun r w'=>r=.returned (.int .i64 ((Q0c n:Nat):Int))/\w1.drew=w') /\
   Calls prog 70 #[ptr P.q.t,.int .i64 f,.int .i64 ((Q0c n:Nat):Int)] w1.drew fun r w2=>r=.returned (.int .i64 0)/\w2.cell? ⟨P.p,0,none⟩=some (ptr P.q.t)/\w2.cell? ⟨P.p,3+n,none⟩=some (ptr c.c) /\
    Calls prog 77 #[ptr c.c,.int .i64 a] w2 PR):=fun r w1 hx=>by
  subst ES;have BB:=Q0s (h.grown hx.2).sep.drew.env (n:Int);rw[Dx] at BB;exact⟨hx.1,PL.c0 (h.grown hx.2).sep,BB,Q6q h hx.2 ok f hf n hq c hc a hm Cg⟩
 have HZ:Hid (∀r w',PR r w'->∃w'',r=.returned (.int .i64 0)/\w'=w''/\PR (.returned (.int .i64 0)) w''):=fun r w' hx=>by subst ES;obtain⟨rfl,hy⟩:=hx;exact⟨w',rfl,rfl,rfl,hy⟩
 rw[<- ES];clear h ok hf hq hc ES Dx k1 k2 k3 k4 Bx BR hm Cg;unfold ptr at *
 generalize ((Q0c n:Nat):Int)=cst at *
 generalize P.p=pp at *
 generalize P.q.t=qt at *
 generalize c.c=cc at *
 go_enter func21,ntmps21;go_wp2_with (go_at_call 20;refine Af.mono ?_;rintro e w'⟨rfl,rfl⟩);refine hh.mono ?_;intro r w1 hx;obtain⟨rfl,c0,Ay,CJ⟩:=HQ.out _ _ hx;have Em:=Q0a Ay;have DD:=Q0a CJ;have d0:w1.drew.cell? ⟨pp,0,none⟩=some (.pointer (some ⟨qt,0,none⟩)):=c0;clear hx Ay CJ;go_wp2_with fail
 go_region_held3 (fun w'=>w'.cell? ⟨pp,0,none⟩=some (.pointer (some ⟨qt,0,none⟩))) (first|exact c0|exact d0|exact e1)
  (first|(go_at_call 20;refine Em.out.mono ?_;rintro e w'⟨rfl,rfl⟩)|(go_at_call 70;refine DD.out.mono ?_;rintro r w2⟨rfl,e1,e2,hx⟩;have HT:=Q0a hx;clear hx))
 clear c0 d0;go_wp2_with fail;refine HT.out.mono ?_;intro r w3 hx;obtain⟨w3',rfl,rfl,hy⟩:=HZ.out _ _ hx;have HY:=Q0a hy;clear hx hy;go_wp2_with fail
 (try go_ret);exact HY.out
def PutP(P:PL)(fr:List Nat)(f k a:Int)(w:World)(r:Ending)(w':World):Prop:=
 (Q0g k=0/\r=.returned (.int .i64 1)/\Step P.hl P.hl w w') ∨
 (Q0g k≠0/\P.has k a=false/\r=.returned (.int .i64 6)/\Step P.hl P.hl w w') ∨
 (Q0g k≠0/\P.has k a=true/\find P.q.E f=none/\r=.returned (.int .i64 6)/\Step P.hl P.hl w w') ∨
 (Q0g k≠0/\P.has k a=true/\(∃e,find P.q.E f=some e/\e.q.charged<((Q0g k:Nat):Int))/\r=.returned (.int .i64 1)/\Step P.hl P.hl w w') ∨
 (∃(n m:Nat) (e:En Fa),k=(n:Int)/\a=(m:Int)/\1<=n/\n<=7/\m∈P.usedOf n/\find P.q.E f=some e/\((Q0c n:Nat):Int)<=e.q.charged/\PutR P fr f n m w r w')
theorem Q2O{w:World}{P:PL}{fr:List Nat}(h:Sep w P.hl)(ok:P.Ok fr)(f k a:Int)(ha:Q2d a) :
  Calls prog 21 #[.pointer (some ⟨P.p,0,none⟩),.int .i64 f,.int .i64 k,.int .i64 a] w (PutP P fr f k a w):=by
 by_cases hk:Q0g k=0
 ·refine(Q7O h f k a hk).mono ?_;rintro r w'⟨rfl,rfl⟩;exact .inl ⟨hk,rfl,Step.refl h⟩
 ·cases hh:P.has k a with
  | false =>
   refine(Q6p h ok f k a hk ha hh).mono ?_;rintro r w'⟨rfl,hb⟩;exact .inr (.inl ⟨hk,hh,rfl,h.grown hb⟩)
  | true =>
   cases hf:find P.q.E f with
   | none =>
    refine(Q4z h ok f k a hk ha hh 6 (.inr rfl) fun w1 hb=>Q3i (PL.sQ (h.grown hb).sep.drew) hf _).mono ?_;rintro r w'⟨rfl,hb⟩;exact .inr (.inr (.inl ⟨hk,hh,hf,rfl,h.grown hb⟩))
   | some e =>
    by_cases hq:((Q0g k:Nat):Int)<=e.q.charged
    ·obtain⟨n,rfl,h1,h7,hn⟩:=Q2c hk;rw[hn] at hq;obtain⟨c,hc⟩:=PL.cls ok h1 h7;have hm:=hh;unfold PL.has PL.usedI at hm;rw[decide_eq_true_eq,if_pos (by omega:(0:Int)<=(n:Int)),Z0K] at hm;obtain⟨h0,hm⟩:=hm;obtain⟨m,rfl⟩:=Z1i h0;rw[Z0K] at hm;have Bs:=hm;rw[Q0u hc] at Bs;refine(Q6r h ok f hf n hq c hc m Bs (by unfold Q2d at ha;omega)).mono ?_;intro r w' hr;exact .inr (.inr (.inr (.inr ⟨n,m,e,rfl,rfl,h1,h7,hm,hf,hq,hr⟩)))
    ·refine(Q4z h ok f k a hk ha hh 1 (.inl rfl) fun w1 hb=>Q3P (PL.sQ (h.grown hb).sep.drew) hf _ (by omega) (by omega)).mono ?_;rintro r w'⟨rfl,hb⟩;exact .inr (.inr (.inr (.inl ⟨hk,hh,⟨e,hf,by omega⟩,rfl,h.grown hb⟩)))
end Go.Proofs.YtfidemmgofcnmaaGreatDoor
