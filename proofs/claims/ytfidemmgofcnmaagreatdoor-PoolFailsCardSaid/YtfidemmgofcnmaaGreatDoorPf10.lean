/- PoolFails returns true at every input. No condition. Part of its proof. -/
import Derived.Test.YtfidemmgofcnmaaGreatDoorPf09
import Derived.Deep.Cut
set_option maxHeartbeats 4000000
set_option maxRecDepth 100000
set_option linter.unusedVariables false
namespace Go.Proofs.YtfidemmgofcnmaaGreatDoor
open Go.RowKit Go.Proofs.Tryz
abbrev encQ(x:Int):Value:=.int .i64 x
theorem Q7V:(prog.info? 3).map (fun i=>(i.zero,i.size,i.bytes))=some (some (.int .i64 0),1,8):=by kernel_rfl
def AsideQ(H:HL)(cs:List Value)(a:Option Addr)(w:World):Prop:=∀(j:Nat) (v:Value),cs[j]?=some v->∃g,a=some ⟨g,0,none⟩/\g∉keys H/\g<w.heap.size/\w.cell? ⟨g,j,none⟩=some v
theorem AsideQ.step{H H':HL}{cs:List Value}{a:Option Addr}{w w':World}(h:AsideQ H cs a w)(st:Step H H' w w'):AsideQ H' cs a w':=fun j x hj=>by
 obtain⟨g,h1,h2,h3,h4⟩:=h j x hj;refine⟨g,h1,fun hk=>?_,Z0a h3 st.chg.size,(World.cell?_of_block (w:=w) (st.chg.block g h3 h2)).trans h4⟩;rcases st.new g hk with h'|h'
 ·exact h2 h'
 ·omega
theorem Q5k{w w':World}{H:HL}{T:TypeId}{size n:Nat}{v:Value}{cs:List Value}(hs:Sep w H)(h:w'.ownsRow w.heap.size T size v n cs):∃(a:Option Addr) (Aa:Nat),v=.slice a n Aa/\AsideQ H cs a w':=by
 obtain⟨hl,h2⟩:=h;rcases h2 with ⟨rfl,h0⟩|⟨g,Aa,Ac,rfl,hg,Bz,hn,hm,AB,A6⟩
 ·refine⟨none,0,by rw[h0],fun j x hj=>?_⟩;have:=(Z0k.1 hj).1;rw[hl,h0,Nat.zero_mul] at this;omega
 ·refine⟨_,Aa,rfl,fun j x hj=>⟨g,rfl,fun hk=>by have:=hs.lt hk;omega,lt_of_block Bz,?_⟩⟩;rw[<- hl] at A6;rw[<- A6,Z1D] at hj;split at hj
  ·simp only[World.cell?,Bz,Z2w,Z2U,if_false];rw[<- Z2a];exact hj
  ·cases hj
def AsideC(H:HL)(L:List (Nat×Nat))(a:Option Addr)(w:World):Prop:=∀(j:Nat) (x:Nat×Nat),L[j]?=some x->∃g,a=some ⟨g,0,none⟩/\g∉keys H/\g<w.heap.size/\w.cell? ⟨g,j*2,none⟩=some (.int .i64 (x.1:Int))/\w.cell? ⟨g,j*2+1,none⟩=some (.int .i64 (x.2:Int))
theorem AsideC.step{H H':HL}{L:List (Nat×Nat)}{a:Option Addr}{w w':World}(h:AsideC H L a w)(st:Step H H' w w'):AsideC H' L a w':=fun j x hj=>by
 obtain⟨g,h1,h2,h3,h4,h5⟩:=h j x hj;have e:=st.chg.block g h3 h2;refine⟨g,h1,fun hk=>?_,Z0a h3 st.chg.size,(World.cell?_of_block (w:=w) e).trans h4,(World.cell?_of_block (w:=w) e).trans h5⟩;rcases st.new g hk with h'|h'
 ·exact h2 h'
 ·omega
theorem AsideC.reads{H:HL}{L:List (Nat×Nat)}{a:Option Addr}{w:World}(h:AsideC H L a w):Q4D w a L:=fun j x hj=>by
 obtain⟨g,h1,_,h3,h4,h5⟩:=h j x hj;exact⟨g,h1,h3,h4,h5⟩
theorem Q7W{w:World}{H:HL}{rv:RV}{l:List Int}(h:Sep w (rowH rv 3 1 (l.map encQ)++H))(AX:rvOk rv l.length)(hl:l.length<=1000)(x:Int)(ty:TypeId) :
  ∃rv' w',(Builtin.append_ #[38,38] ty #[lvOf rv l.length,.slice (some ⟨w.heap.size,0,none⟩) 1 1]).run prog (w.alloc (.cells #[.int .i64 x] 3))=.ok (lvOf rv' (l.length+1)) w'/\rvOk rv' (l.length+1)/\Step (rowH rv 3 1 (l.map encQ)++H) (rowH rv' 3 1 ((l++[x]).map encQ)++H) w w':=by
 obtain⟨i0,hi,AZ,AF,Bd⟩:=info_parts Q7V;have ha:=h.alloc (.cells #[.int .i64 x] 3);have AS:=Q4l ha.left AX (by rw[Z1m,Z0L]);obtain⟨v',w',hr,q1,q2,_,q4⟩:=run_append_own_at (P:=prog) (w.alloc (.cells #[.int .i64 x] 3)) 0 38 ty 3 i0 (.int .i64 0) 1 8 underlying38 hi AZ AF Bd rfl (by decide) (lvOf rv l.length) l.length (l.map encQ) AS ⟨w.heap.size,0,none⟩ 1 1 [.int .i64 x] rfl (by
  intro j u hj;have:=(Cells.new w 3 [.int .i64 x]).cell j u hj;have e:(⟨w.heap.size,0,none⟩:Addr).add j=⟨w.heap.size,j,none⟩:=by unfold Addr.add;split <;> simp_all
  rw[e];exact this) (fun u hu=>by rw[Z1H.1 hu];rfl) (by unfold maxLen;omega) (by omega) (Z1C _)
 obtain⟨rv',rfl,e2,e3⟩:=Q1b (A:=[]) (B:=H) (by simpa using ha) q1 q2 q4;refine⟨rv',w',hr,e2,?_⟩;rw[Z2Q];have e4:Step (rowH rv 3 1 (l.map encQ)++H) (rowH rv' 3 1 (l.map encQ++[encQ x])++H) (w.alloc (.cells #[.int .i64 x] 3)) w':=by simpa using e3
 exact e4.from_alloc
theorem Q2Q{P:PL}{fr:List Nat}(ok:P.Ok fr){k a:Nat}(ha:a∈P.usedOf k):∃g∈P.pages,1024*g+64<=a/\a+Q0c k<=1024*g+1024:=by
 obtain⟨c,hc,ha⟩:=Q2C ha;obtain⟨k1,k2,_,_⟩:=PL.Cls.facts ok hc;obtain⟨x,hx,x1,x2⟩:=Q5N k1 ha;rw[k2] at x2;refine⟨x.2,?_,x1,x2⟩;exact Z0o.2 ⟨c,Z1O hc.2,Z0y hx⟩
theorem Q4b{P:PL}{fr:List Nat}(ok:P.Ok fr){k a:Nat}(ha:a∈P.usedOf k):1<=k/\k<=7:=by
 obtain⟨c,hc,_⟩:=Q2C ha;exact⟨hc.1,(PL.Cls.facts ok hc).2.2.2⟩
theorem Q2k{P:PL}{fr:List Nat}(ok:P.Ok fr)(g:Nat):g∈P.pages↔∃k a,a∈P.usedOf k/\a/1024=g:=by
 constructor
 ·intro hg;obtain⟨c,hc,ET⟩:=Z0o.1 hg;obtain⟨x,hx,rfl⟩:=Z0e.1 ET;obtain⟨k,hk⟩:=Z2n.1 hc;have Cm:P.Cls (k+1) c:=⟨by omega,by simpa using hk⟩
  obtain⟨k1,k2,_,_⟩:=PL.Cls.facts ok Cm;have hb:=ok.busy c hc x hx;obtain⟨i,hi⟩:∃i,i∈Q0L x.1.bits:=by
   cases ht:Q0L x.1.bits with
   | nil =>
    exfalso
    apply hb
    have:cntB x.1.bits=(Q0L x.1.bits).length:=(Q1R _).symm;rw[this,ht];rfl
   | cons i r=>exact⟨i,by simp⟩
  have hu:addr c.size x.2 i∈c.used:=Z0o.2 ⟨x,hx,Z0y hi⟩;refine⟨k+1,addr c.size x.2 i,by rw[Q0u Cm];exact hu,?_⟩;have AK:i<x.1.bits.length:=by
   have:=mem_trues.1 hi;rcases Z2h i x.1.bits.length with e|e
   ·exact e
   ·rw[Z1r e] at this;cases this
  have Cu:=k1.s0;have hp:=Q2J (s:=c.size) (by omega) AK (k1.many x hx);unfold addr;omega
 ·rintro⟨k,a,ha,rfl⟩;obtain⟨p,hp,h1,h2⟩:=Q2Q ok ha;have:=Q4b ok ha;have:=Q1w this.1 this.2;have e:a/1024=p:=by omega
  rw[e];exact hp
theorem Q7X{P P':PL}{fr fr':List Nat}(ok:P.Ok fr)(ok':P'.Ok fr')(hu:∀k,(P'.usedOf k).Perm (P.usedOf k))(hf:fr'.Perm fr):P'.d.ps.Perm P.d.ps:=by
 have h1:=(ok.pages.nodup_iff).2 ok.d.nd;have h2:=(ok'.pages.nodup_iff).2 ok'.d.nd;have hp:P'.pages.Perm P.pages:=by
  rw[List.perm_ext_iff_of_nodup (Z0z.1 h2).2.1 (Z0z.1 h1).2.1];intro g;rw[Q2k ok',Q2k ok]
  constructor
  ·rintro⟨k,a,ha,e⟩;exact⟨k,a,(hu k).mem_iff.1 ha,e⟩
  ·rintro⟨k,a,ha,e⟩;exact⟨k,a,(hu k).mem_iff.2 ha,e⟩
 exact ok'.pages.symm.trans ((hf.append hp).trans ok.pages)
theorem Q3y{E:List (En Fa)}(A9:E.Pairwise (fun a b=>a.id≠b.id)){e:En Fa}(h:e∈E):find E e.id=some e:=by
 induction E with
 | nil=>cases h
 | cons x r ih =>
  obtain⟨h1,h2⟩:=Z0p.1 A9;rcases Z0d.1 h with rfl|h
  ·simp[find]
  ·have Ao:¬e.id=x.id:=fun e'=>h1 e h e'.symm
   simp only[find,Ao,if_false];exact ih h2 h
theorem Step.aboveQ{w w':World}{A A' R:HL}(h:Sep w (R++A))(st:Step A A' w w'):Step (R++A) (R++A') w w':=by
 have:=Step.frame R [] (by simpa using h) st
 simpa using this
theorem Q4E{α:Type}(E:List (En α))(id:Int)(q:α):(upd E id q).length=E.length:=by
 unfold upd;rw[Z1m]
structure PfS(P:PL)(R:HL)(ids:List Int)(ia:Option Addr)(F:List (Nat×Nat))(fa:Option Addr)(w wr:World):Prop where
 st:Step [] (R++P.hl) w wr
 ia:AsideQ (R++P.hl) (ids.map encQ) ia wr
 fa:AsideC (R++P.hl) F fa wr
section
variable {P P':PL} {R:HL} {ids:List Int} {ia:Option Addr} {F:List (Nat×Nat)} {fa:Option Addr} {w wr w':World}
theorem PfS.step(h:PfS P R ids ia F fa w wr)(st:Step P.hl P'.hl wr w'):PfS P' R ids ia F fa w w':=
 ⟨h.st.trans (st.aboveQ h.st.sep),h.ia.step (st.aboveQ h.st.sep),h.fa.step (st.aboveQ h.st.sep)⟩
theorem PfS.grown(h:PfS P R ids ia F fa w wr)(hb:Below wr.heap.size wr w'):PfS P R ids ia F fa w w':=
 have st:=h.st.sep.grown hb
 ⟨h.st.trans st,h.ia.step st,h.fa.step st⟩
theorem PfS.sep(h:PfS P R ids ia F fa w wr):Sep wr P.hl:=h.st.sep.right
end
structure PFree(P:PL)(F:List (Nat×Nat)):Prop where
 perm:F.Perm (Q0l (fre (uOf P.d.ps) P.d.top) P.d.top (P.d.top+1))
 sort:F.Pairwise (fun a b=>a.1<=b.1)
 len:F.length<=33554432
theorem PFree.same{P P':PL}{F F':List (Nat×Nat)}(h:PFree P F)(h':PFree P' F')(ht:P'.d.top=P.d.top)(Bf:P'.d.ps.Perm P.d.ps):F'=F:=by
 have hp:=h'.perm;have hs:=h'.sort;rw[ht] at hp;refine Q6I (fun p=>?_) hp h.perm hs h.sort;unfold uOf;simp only[Bf.mem_iff]
theorem Q6L{P:PL}{fr:List Nat}{H:HL}{wr:World}(hs:Sep wr H)(h:Sep wr P.hl)(ok:P.Ok fr):Calls prog 17 #[.pointer (some ⟨P.d.b,0,none⟩)] wr fun r w'=>∃(a:Option Addr) (Aa:Nat) (F:List (Nat×Nat)),r=.returned (.slice a F.length Aa)/\PFree P F/\Below wr.heap.size wr w'/\AsideC H F a w':=by
 refine(Q3v (PL.sD h) ok.d.is).mono ?_;intro r w' hr;obtain⟨a,Aa,L,rfl,hp,A3,hb,C5,hn⟩:=hr.reads;refine⟨a,Aa,L,rfl,⟨hp,A3,?_⟩,hb,fun j x hj=>?_⟩
 ·rw[hp.length_eq];have ht:=ok.d.is.top;have:=Q0S (fre (uOf P.d.ps) P.d.top) P.d.top ht (P.d.top+1);omega
 ·obtain⟨g,h1,h2,h3,h4⟩:=C5 j x hj;refine⟨g,h1,fun hk=>?_,h2,h3,h4⟩;have:wr.heap.size<=g:=hn _ h1;have:=hs.lt hk;omega
def useQ(E:List (En Fa))(id:Int):Int:=match find E id with
 | some e=>e.q.charged+e.q.given
 | none=>0
theorem Q9d{P:PL}{fr:List Nat}{wr:World}(h:Sep wr P.hl)(ok:P.Ok fr)(id:Int):Calls prog 19 #[.pointer (some ⟨P.q.t,0,none⟩),.int .i64 id] wr (Told wr (.int .i64 (useQ P.q.E id))):=by
 unfold useQ;cases hf:find P.q.E id with
 | some e=>exact Q3g (PL.sQ h) ok.q hf
 | none =>
  refine(Q6b (PL.sQ h) hf).mono ?_;rintro r w'⟨rfl,rfl⟩;exact⟨rfl,Below.refl _ _⟩
def idsQ(E:List (En Fa)):List Int:=(E.map (·.id)).mergeSort leI
theorem Q4F(E:List (En Fa)):(idsQ E).length=E.length:=by unfold idsQ;rw[List.length_mergeSort,Z1m]
theorem Q9F{P:PL}{fr:List Nat}{H:HL}{wr:World}(hs:Sep wr H)(h:Sep wr P.hl)(ok:P.Ok fr)(hl:P.q.E.length<=32):Calls prog 18 #[.pointer (some ⟨P.q.t,0,none⟩)] wr fun r w'=>∃(a:Option Addr) (Aa:Nat),r=.returned (.slice a (idsQ P.q.E).length Aa)/\Below wr.heap.size wr w'/\AsideQ H ((idsQ P.q.E).map encQ) a w':=by
 have hq:=ok.q;refine(Q7U (PL.sQ h) (by omega) (fun e he=>?_)).mono ?_
 ·have hf:=Q3y hq.ids he;have:=hq.fa _ _ hf;have:=hq.next1;omega
 ·rintro r w'⟨v,rfl,Ai,hb⟩;obtain⟨a,Aa,rfl,ha⟩:=Q5k hs Ai;rw[Q4F];exact⟨a,Aa,rfl,hb,ha⟩
def PfAt(pp n:Nat)(w wr:World):Prop:=∃P:PL,P.Ok []/\P.p=pp/\P.q.next<=n/\P.q.E.length<=32/\Step [] P.hl w wr
theorem Q9G{pp n:Nat}{w wr:World}(h:PfAt pp n w wr)(f k:Int):Calls prog 15 #[.pointer (some ⟨pp,0,none⟩),.int .i64 f,.int .i64 k] wr fun r w'=>(∃x e:Int,r=.returned (.tuple #[.int .i64 x,.int .i64 e]))/\PfAt pp n w w':=by
 obtain⟨P,ok,rfl,hn,hl,st⟩:=h;refine(Q1L st.sep ok f k).mono ?_;rintro r w' (⟨_,rfl,s⟩|⟨_,_,rfl,s⟩|⟨_,_,rfl,s⟩|⟨m,e,_,_,_,_,_,⟨a,P',rfl,g,s⟩|⟨_,rfl,s⟩⟩)
 ·exact⟨⟨_,_,rfl⟩,P,ok,rfl,hn,hl,st.trans s⟩
 ·exact⟨⟨_,_,rfl⟩,P,ok,rfl,hn,hl,st.trans s⟩
 ·exact⟨⟨_,_,rfl⟩,P,ok,rfl,hn,hl,st.trans s⟩
 ·obtain⟨e',_,_,hq⟩:=g.q;refine⟨⟨_,_,rfl⟩,P',g.ok,g.p,?_,?_,st.trans s⟩
  ·rw[hq];exact hn
  ·rw[hq];show(upd P.q.E f _).length<=32;rw[Q4E];exact hl
 ·exact⟨⟨_,_,rfl⟩,P,ok,rfl,hn,hl,st.trans s⟩
theorem Q7Y{pp n:Nat}{w wr:World}(h:PfAt pp n w wr)(FO:n+1<1048576)(f k:Int):∃t:Nat,(Calls prog 13 #[.pointer (some ⟨pp,0,none⟩)] wr fun r w'=>r=.returned (.pointer (some ⟨t,0,none⟩))/\wr=w') /\
  Calls prog 14 #[.pointer (some ⟨t,0,none⟩),.int .i64 f,.int .i64 k] wr fun r w'=>(∃x e:Int,r=.returned (.tuple #[.int .i64 x,.int .i64 e]))/\PfAt pp (n+1) w w':=by
 obtain⟨P,ok,rfl,hn,hl,st⟩:=h;refine⟨P.q.t,Q0R st.sep,(Q5f (PL.sQ st.sep) ok.q (by omega) f k).mono ?_⟩;rintro r w' (⟨er,_,rfl,s⟩|⟨e,b,hf,h0,hq,Ao,rfl,s⟩)
 ·refine⟨⟨_,_,rfl⟩,P,ok,rfl,by omega,hl,st.trans ?_⟩;have:=PL.stepQ st.sep P.q rfl s;exact this
 ·refine⟨⟨_,_,rfl⟩,P.setQ (Q3q P.q f e b k),PL.ok_setQ ok (Q6A ok.q hf b h0 hq (by omega)),rfl,?_,?_,st.trans (PL.stepQ st.sep _ rfl s)⟩
  ·show P.q.next+1<=((n+1:Nat):Int);omega
  ·show(upd P.q.E f _++[_]).length<=32;rw[Z0s,Q4E];simp;omega
theorem PfAt.grown{pp n:Nat}{w wr w':World}(h:PfAt pp n w wr)(hb:Below wr.heap.size wr w'):PfAt pp n w w':=by
 obtain⟨P,a,b,c,d,st⟩:=h;exact⟨P,a,b,c,d,st.trans (st.sep.grown hb)⟩
theorem PfAt.fresh{pp n:Nat}{w wr:World}(h:PfAt pp n w wr):Below w.heap.size w wr:=by
 obtain⟨P,a,b,c,d,st⟩:=h;exact st.fresh
theorem Q7Z{P:PL}{w wr:World}(ok:P.Ok [])(hl:P.q.E.length<=32)(st:Step [] P.hl w wr):(Calls prog 16 #[.pointer (some ⟨P.p,0,none⟩)] wr fun r w'=>r=.returned (.pointer (some ⟨P.d.b,0,none⟩))/\wr=w') /\
  (Calls prog 17 #[.pointer (some ⟨P.d.b,0,none⟩)] wr fun r w1=>∃(fa:Option Addr) (fc:Nat) (F:List (Nat×Nat)),r=.returned (.slice fa F.length fc)/\PFree P F /\
   (Calls prog 13 #[.pointer (some ⟨P.p,0,none⟩)] w1 fun r w'=>r=.returned (.pointer (some ⟨P.q.t,0,none⟩))/\w1=w') /\
   (Calls prog 18 #[.pointer (some ⟨P.q.t,0,none⟩)] w1 fun r w2=>∃(ia:Option Addr) (ic:Nat),r=.returned (.slice ia (idsQ P.q.E).length ic)/\PfS P [] (idsQ P.q.E) ia F fa w w2)):=by
 refine⟨Q1q st.sep,(Q6L st.sep st.sep ok).mono ?_⟩;rintro r w1⟨fa,fc,F,rfl,hF,B9,IJ⟩;have st1:=st.trans (st.sep.grown B9);refine⟨fa,fc,F,rfl,hF,Q0R st1.sep,(Q9F st1.sep st1.sep ok hl).mono ?_⟩;rintro r w2⟨ia,ic,rfl,AG,J5⟩;exact⟨ia,ic,rfl,by simpa using st1.trans (st1.sep.grown AG),by simpa using J5,by simpa using IJ.step (st1.sep.grown AG)⟩
section
variable {P:PL} {R:HL} {ids:List Int} {ia:Option Addr} {F:List (Nat×Nat)} {fa:Option Addr} {w wr:World}
theorem Q9H{rv:RV}{k:Nat}{E:List (En Fa)}{x:Int}(h:PfS P (rowH rv 3 1 (((ids.take k).map (useQ E)).map encQ)) ids ia F fa w wr)(Am:rvOk rv k)(hx:ids[k]?=some x)(hl:ids.length<=256):∃rv' w',(Builtin.append_ #[38,38] 38 #[lvOf rv k,.slice (some ⟨wr.heap.size,0,none⟩) 1 1]).run prog (wr.alloc (.cells #[.int .i64 (useQ E x)] 3))=.ok (lvOf rv' (k+1)) w'/\rvOk rv' (k+1) /\
  PfS P (rowH rv' 3 1 (((ids.take (k+1)).map (useQ E)).map encQ)) ids ia F fa w w':=by
 have hk:k<ids.length:=(Z0k.1 hx).1;have el:((ids.take k).map (useQ E)).length=k:=by rw[Z1m,Z1T];omega
 obtain⟨rv',w',h1,h2,h3⟩:=Q7W h.st.sep (by rw[el];exact Am) (by rw[el];omega) (useQ E x) 38;rw[el] at h1 h2;refine⟨rv',w',h1,h2,?_⟩;have e:(ids.take (k+1)).map (useQ E)=(ids.take k).map (useQ E)++[useQ E x]:=by rw[Z1x,hx,Z2Q];rfl
 rw[e];exact⟨h.st.trans h3,h.ia.step h3,h.fa.step h3⟩
theorem Q8m(ok:P.Ok [])(h:PfS P R ids ia F fa w wr)(id:Int):Calls prog 19 #[.pointer (some ⟨P.q.t,0,none⟩),.int .i64 id] wr (Told wr (.int .i64 (useQ P.q.E id))):=Q9d h.sep ok id
theorem Q9e(ok:P.Ok [])(h:PfS P R ids ia F fa w wr)(f k:Int):Calls prog 15 #[.pointer (some ⟨P.p,0,none⟩),.int .i64 f,.int .i64 k] wr fun r w' =>
  (∃(a n:Nat) (P':PL),k=(n:Int)/\1<=n/\n<=7/\r=.returned (.tuple #[.int .i64 a,.int .i64 0])/\Q8X P [] f n a P'/\PfS P' R ids ia F fa w w') ∨
  (∃er:Int,er≠0/\r=.returned (.tuple #[.int .i64 0,.int .i64 er])/\PfS P R ids ia F fa w w'):=by
 refine(Q1L h.sep ok f k).mono ?_;rintro r w' (⟨_,rfl,s⟩|⟨_,_,rfl,s⟩|⟨_,_,rfl,s⟩|⟨m,e,hk,h1,h7,_,_,⟨a,P',rfl,g,s⟩|⟨_,rfl,s⟩⟩)
 ·exact .inr ⟨1,by decide,rfl,h.step s⟩
 ·exact .inr ⟨6,by decide,rfl,h.step s⟩
 ·exact .inr ⟨5,by decide,rfl,h.step s⟩
 ·exact .inl ⟨a,m,P',hk,h1,h7,rfl,g,h.step s⟩
 ·exact .inr ⟨4,by decide,rfl,h.step s⟩
theorem Q1x{n:Nat}(h1:1<=n)(h7:n<=7):Q0g (n:Int)=Q0c n/\32<=Q0c n:=by
 have:=Q1w h1 h7;refine⟨?_,this.1⟩;unfold Q0g;rw[if_pos (by omega),Z0K]
theorem Q9f{P':PL}{f:Int}{n a:Nat}(ok:P.Ok [])(h1:1<=n)(h7:n<=7)(g:Q8X P [] f n a P')(h:PfS P' R ids ia F fa w wr):Calls prog 21 #[.pointer (some ⟨P.p,0,none⟩),.int .i64 f,.int .i64 n,.int .i64 a] wr fun r w'=>r=.returned (.int .i64 0) /\
  ∃P2:PL,P2.Ok []/\P2.p=P.p/\P2.d.b=P.d.b/\P2.d.top=P.d.top/\P2.d.ps.Perm P.d.ps/\PfS P2 R ids ia F fa w w':=by
 obtain⟨hc,Fo⟩:=Q1x h1 h7;obtain⟨A,B,u1,u2⟩:=g.used;have G2:a∈P'.usedOf n:=by rw[u2];simp
 obtain⟨CG,_,_,_⟩:=Q2b g.ok G2;have EO:=Q3n g.ok;have hI:P'.usedI (n:Int)=P'.usedOf n:=by
  unfold PL.usedI
  first|rfl|(rw[if_pos (by omega),Z0K])|simp
 have Bm:P'.has (n:Int) (a:Int)=true:=by
  unfold PL.has;rw[hI];simp[G2]
 obtain⟨e,he,BO,hq⟩:=g.q;have Hw:find P'.q.E f=some ⟨e.id,e.b,{e.q with charged:=e.q.charged+((Q0c n:Nat):Int)}⟩:=by
  rw[hq];show find (upd P.q.E f _) f=_;rw[Q0m he]
 have h0:=(ok.q.fa f e he).1;have kp:=Q2O h.sep g.ok f (n:Int) (a:Int) (by unfold Q2d;omega);rw[g.p] at kp;refine kp.mono ?_;rintro r w' (⟨h,_⟩|⟨_,h,_⟩|⟨_,_,h,_⟩|⟨_,_,⟨e2,h,Ae⟩,_⟩|⟨n2,m2,e2,FO,Bs,_,_,hu,Ct,_,rfl,P2,p2,s⟩)
 ·rw[hc] at h;omega
 ·rw[Bm] at h;cases h
 ·rw[Hw] at h;cases h
 ·rw[Hw] at h;cases h;rw[hc] at Ae;dsimp only at Ae;omega
 ·obtain rfl:n2=n:=by omega
  obtain rfl:m2=a:=by omega
  refine⟨rfl,P2,p2.ok,p2.p.trans g.p,p2.db.trans g.db,p2.top.trans g.top,?_,h.step s⟩;refine Q7X ok p2.ok (fun k=>?_) (Z2K _);by_cases hk:k=n2
  ·subst hk;obtain⟨A2,B2,v1,v2⟩:=p2.used;rw[v2,u1];have hp:(A2++m2::B2).Perm (A++m2::B):=by rw[<- v1,u2]
   have:=(Z2R.symm.trans hp).trans Z2R;exact(List.perm_cons m2).1 this
  ·rw[p2.other k hk,g.other k hk]
theorem Q9g(ok:P.Ok [])(h:PfS P R ids ia F fa w wr)(f k a:Int)(ha:a<9223372036854775808):Calls prog 21 #[.pointer (some ⟨P.p,0,none⟩),.int .i64 f,.int .i64 k,.int .i64 a] wr fun r w' =>
  (r=.returned (.int .i64 0)/\Q0g k≠0/\Below w.heap.size w w')∨(∃er:Int,er≠0/\r=.returned (.int .i64 er)/\PfS P R ids ia F fa w w'):=by
 refine(Q2O h.sep ok f k a ha).mono ?_;rintro r w' (⟨_,rfl,s⟩|⟨_,_,rfl,s⟩|⟨_,_,_,rfl,s⟩|⟨_,_,_,rfl,s⟩|⟨n,m,e,rfl,rfl,h1,h7,hu,Ct,_,rfl,P2,p2,s⟩)
 ·exact .inr ⟨1,by decide,rfl,h.step s⟩
 ·exact .inr ⟨6,by decide,rfl,h.step s⟩
 ·exact .inr ⟨6,by decide,rfl,h.step s⟩
 ·exact .inr ⟨1,by decide,rfl,h.step s⟩
 ·refine .inl ⟨rfl,?_,(h.step s).st.fresh⟩;rw[(Q1x h1 h7).1];have:=(Q1x h1 h7).2;omega
theorem Q6M{P2:PL}(ok:P2.Ok [])(hp:P2.p=P.p)(hb:P2.d.b=P.d.b)(ht:P2.d.top=P.d.top)(Bf:P2.d.ps.Perm P.d.ps)(hF:PFree P F)(h:PfS P2 R ids ia F fa w wr):(Calls prog 16 #[.pointer (some ⟨P.p,0,none⟩)] wr fun r w'=>r=.returned (.pointer (some ⟨P.d.b,0,none⟩))/\wr=w') /\
  (Calls prog 17 #[.pointer (some ⟨P.d.b,0,none⟩)] wr fun r w3=>∃(ba:Option Addr) (bc:Nat),r=.returned (.slice ba F.length bc) /\
   ∀fc,Calls prog 22 #[.slice ba F.length bc,.slice fa F.length fc] w3 fun r w4=>r=.returned (.bool true)/\Below w.heap.size w w4):=by
 have e1:=Q1q h.sep;have e2:=Q6L h.st.sep h.sep ok;rw[hp,hb] at e1;rw[hb] at e2;refine⟨e1,e2.mono ?_⟩;rintro r w3⟨ba,bc,F',rfl,GF,D2,IE⟩;have I1:=hF.same GF ht Bf;subst I1;have h3:=h.grown D2;refine⟨ba,bc,rfl,fun fc=>(Q6J w3 ba fa bc fc F' IE.reads h3.fa.reads GF.len).mono ?_⟩;rintro r w4⟨rfl,D8⟩;exact⟨rfl,(h3.grown D8).st.fresh⟩
theorem Q9S{rv:RV}{k:Nat}{E:List (En Fa)}{x:Int}{n:Nat}(h:PfS P (rowH rv 3 1 ((ids.map (useQ E)).map encQ)) ids ia F fa w wr)(Am:rvOk rv n)(hn:ids.length=n)(hx:ids[k]?=some x):∃g Aa,lvOf rv n=.slice (some ⟨g,0,none⟩) n Aa/\n<=Aa/\wr.cell? ⟨g,k,none⟩=some (.int .i64 (useQ E x)):=by
 have hk:k<ids.length:=(Z0k.1 hx).1;cases rv with
 | none =>
  have:n=0:=Am;omega
 | some p =>
  obtain⟨g,Aa⟩:=p;refine⟨g,Aa,rfl,Am.1,?_⟩;exact Q0r h.st.sep.left k _ (by rw[Z1o,Z1o,hx];rfl)
end
theorem Q9I{w w1:World}(AR:Env w)(hb:Below w.heap.size w w1)(li:Nat)(hli:li<65536):Calls prog 12 #[.int .i64 65536,.int .i64 li] w1 fun r w2=>∃pp:Nat,r=.returned (.pointer (some ⟨pp,0,none⟩))/\PfAt pp 1 w w2:=by
 have h2:((2 ^ (6+10):Nat):Int)=65536:=by decide
 have k:=Q4C (Sep.nil (AR.below hb)) 6 (by omega) (by omega) (li:Int) (by omega) (by rw[h2];omega);rw[h2] at k;refine k.mono ?_;rintro r w2⟨P,rfl,Ad,hf,st⟩;have st1:Step [] P.hl w1 w2:=by simpa using st
 obtain⟨t,m,b,hq⟩:=hf.q;refine⟨P.p,rfl,P,hf.ok Ad (by omega) (by omega) (by omega),rfl,?_,?_,((Sep.nil AR).grown hb).trans st1⟩
 ·rw[hq];exact Int.le_refl _
 ·rw[hq];show 1<=32;omega
theorem Q9h{P:PL}{ids:List Int}{ia:Option Addr}{F:List (Nat×Nat)}{fa:Option Addr}{w wr:World}{rv:RV}{n k:Nat}{x:Int}(ok:P.Ok [])(Am:rvOk rv n)(hn:ids.length=n)(hx:ids[k]?=some x)(h:PfS P (rowH rv 3 1 ((ids.map (useQ P.q.E)).map encQ)) ids ia F fa w wr) :
  ∃gi gu cu,ia=some ⟨gi,0,none⟩/\lvOf rv n=.slice (some ⟨gu,0,none⟩) n cu/\n<=cu/\∀V,Below wr.heap.size wr V->(V.cell? ⟨gi,k,none⟩=some (.int .i64 x)/\V.cell? ⟨gu,k,none⟩=some (.int .i64 (useQ P.q.E x))) /\
   (Calls prog 13 #[.pointer (some ⟨P.p,0,none⟩)] V fun r w'=>r=.returned (.pointer (some ⟨P.q.t,0,none⟩))/\V=w') /\
   Calls prog 19 #[.pointer (some ⟨P.q.t,0,none⟩),.int .i64 x] V (Told V (.int .i64 (useQ P.q.E x))):=by
 obtain⟨gi,h1,_,h3,h2⟩:=h.ia k (encQ x) (by rw[Z1o,hx];rfl);obtain⟨gu,cu,e2,e3,c2⟩:=Q9S h Am hn hx;have h4:=World.block_lt_of_cell? wr ⟨gu,k,none⟩ c2;refine⟨gi,gu,cu,h1,e2,e3,fun V hb=>⟨⟨(World.cell?_of_block (w:=wr) (hb.block gi h3)).trans h2,(World.cell?_of_block (w:=wr) (hb.block gu h4)).trans c2⟩,Q0R (h.grown hb).sep,Q8m ok (h.grown hb) x⟩⟩
theorem Q8a{c:CA}(h:c.used=[])(hb:∀x∈c.pg,cntB x.1.bits≠0):c.pg=[]:=by
 cases hp:c.pg with
 | nil=>rfl
 | cons x r =>
  exfalso;have hx:x∈c.pg:=by rw[hp];simp
  have h1:=hb x hx;rw[<- Q1R] at h1;obtain⟨i,hi⟩:=List.exists_mem_of_length_pos (Nat.pos_of_ne_zero h1);have:addr c.size x.2 i∈c.used:=mem_used.2 ⟨x,hx,i,mem_trues.1 hi,rfl⟩;rw[h] at this;cases this
theorem Q4G{P:PL}{fr:List Nat}(ok:P.Ok fr)(h:∀j,P.usedOf j=[]):∀(k:Nat) (c:CA),P.cs[k]?=some c->c.pg=[]:=by
 intro k c hc;have Cm:P.Cls (k+1) c:=⟨by omega,by simpa using hc⟩
 have:=h (k+1);rw[Q0u Cm] at this;exact Q8a this (PL.busyC ok hc)
theorem Q4c{P:PL}{fr:List Nat}(ok:P.Ok fr)(h:∀j,P.usedOf j=[]):P.pages=[]:=by
 unfold PL.pages;rw[Z2X];intro c hc;obtain⟨k,hk⟩:=Z2n.1 hc;rw[Q4G ok h k c hk];rfl
theorem Q8b{P:PL}(ok:P.Ok [])(h:∀j,P.usedOf j=[]):P.d.ps=[]:=by
 have:=ok.pages;rw[Q4c ok h] at this;exact List.nil_perm.1 this
theorem Q2D{P:PL}{top:Nat}{limit:Int}(h:FreshP P top limit)(j:Nat):P.usedOf j=[]:=by
 unfold PL.usedOf;split
 ·split
  ·rename_i c hc;unfold CA.used;rw[(h.cs _ c hc).2.2.2];rfl
  ·rfl
 ·rfl
structure AlS(P:PL)(ch:Int)(us:List Nat):Prop where
 ok:P.Ok []
 top:P.d.top=6
 q:∃e,find P.q.E 0=some e/\e.q.limit=100/\e.q.charged=ch/\e.q.given=0
 one:P.usedOf 1=us
 other:∀j,j≠1->P.usedOf j=[]
theorem fst_new:(∀k,k<6->fstG (fre (uOf []) 6) 6 k 0=none)/\fstG (fre (uOf []) 6) 6 6 0=some 0:=by decide +kernel
theorem Q2R{c:CA}{d:BD}{a:Nat}{ps':List Nat}(Cr:c.pg=[])(Bf:d.ps=[])(ht:d.top=6)(h:Q9y c d a ps'):a=64/\ps'=[0]:=by
 rcases h with ⟨k,x,i,hx,_⟩|⟨_,k0,i0,hk,hf,hp,ha,hq⟩
 ·rw[Cr] at hx;simp at hx
 ·rw[Bf,ht] at hf hp;rw[ht] at hk;obtain⟨f1,f2⟩:=fst_new;have II:k0=6:=by
   rcases Z2h k0 6 with e|e
   ·rw[f1 k0 e] at hf;cases hf
   ·omega
  subst II;rw[f2] at hf;cases hf;rw[Bf] at hq;exact⟨by rw[ha];unfold addr;omega,by rw[hq];rfl⟩
theorem Q5l{P:PL}{n:Nat}(h:∀(k:Nat) (c:CA),P.cs[k]?=some c->c.pg=[])(Bf:P.d.ps=[])(ht:P.d.top=6):¬Q8k P n:=by
 rintro⟨c,hc,_,hn⟩;rw[Bf,ht] at hn;have:=hn 6 (Q9Y _);rw[fst_new.2] at this;cases this
theorem Q5m(m:List Nat)(a n:Nat)(hn:8<=n)(hl:a<=m.length):Q4Y (put_ m a (List.replicate n 0)) a=0:=by
 unfold Q4Y put_;rw[Z0F,Z1W (by rw[Z1T];omega),List.drop_of_length_le (by rw[Z1T];omega),Z1K,Z1U (by simpa using hn),Z2N,Z2O hn];rfl
theorem Q8n{w:World}{P:PL}(h:Sep w P.hl)(al:AlS P 0 []):Calls prog 15 #[.pointer (some ⟨P.p,0,none⟩),.int .i64 0,.int .i64 1] w fun r w'=>r=.returned (.tuple #[.int .i64 64,.int .i64 0]) /\
  ∃P',P'.p=P.p/\P'.q.t=P.q.t/\P'.d.b=P.d.b/\P'.a.a=P.a.a/\AlS P' 64 [64]/\P'.d.ps=[0]/\Q4Y P'.a.mem 64=0/\Step P.hl P'.hl w w':=by
 have A8:∀j,P.usedOf j=[]:=fun j=>by
  by_cases e:j=1
  ·rw[e];exact al.one
  ·exact al.other j e
 have Cr:=Q4G al.ok A8;have Bf:=Q8b al.ok A8;obtain⟨e,hf,q1,q2,q3⟩:=al.q;refine(Q1L h al.ok 0 1).mono ?_;rintro r w' (⟨h0,_⟩|⟨_,h0,_⟩|⟨_,⟨e',h0,h1⟩,_⟩|⟨n,e',hn,_,_,h0,_,hr⟩)
 ·exact absurd h0 (by decide)
 ·rw[hf] at h0;cases h0
 ·rw[hf] at h0;cases h0;rw[q1,q2,q3] at h1;exact absurd h1 (by decide)
 ·have CQ:n=1:=by omega
  subst CQ;rcases hr with ⟨a,P',rfl,g,Ah⟩|⟨Ar,_⟩
  ·obtain⟨c,_,hc,_,ht⟩:=g.which;have hw:=ht.which;obtain⟨rfl,Fl⟩:=Q2R (Cr _ c hc.2) Bf al.top hw;obtain⟨A,B,u1,u2⟩:=g.used;rw[al.one] at u1;obtain⟨rfl,rfl⟩:=Z2q.1 u1.symm;obtain⟨e2,f2,_,hq⟩:=g.q;rw[hf] at f2;cases f2;refine⟨rfl,P',g.p,g.qt,g.db,g.aa,⟨g.ok,by rw[g.top];exact al.top,?_,u2,fun j hj=>by rw[g.other j hj];exact al.other j hj⟩,Fl,?_,Ah⟩
   ·rw[hq];have e1:=Q0m hf {e.q with charged:=e.q.charged+((Q0c 1:Nat):Int)};exact⟨_,e1,q1,by show e.q.charged+_=64;rw[q2];rfl,q3⟩
   ·rw[g.mem];exact Q5m _ _ _ (by decide) (by rw[al.ok.mem,al.top];decide)
  ·exact absurd Ar (Q5l Cr Bf al.top)
theorem Q9T{w:World}{P:PL}(h:Sep w P.hl)(al:AlS P 0 []):Calls prog 15 #[.pointer (some ⟨P.p,0,none⟩),.int .i64 0,.int .i64 2] w fun r w'=>r=.returned (.tuple #[.int .i64 0,.int .i64 5])/\Step P.hl P.hl w w':=by
 obtain⟨e,hf,q1,q2,q3⟩:=al.q;refine(Q1L h al.ok 0 2).mono ?_;rintro r w' (⟨h0,_⟩|⟨_,h0,_⟩|⟨_,⟨e',h0,h1⟩,rfl,Ah⟩|⟨n,e',hn,_,_,h0,h1,hr⟩)
 ·exact absurd h0 (by decide)
 ·rw[hf] at h0;cases h0
 ·exact⟨rfl,Ah⟩
 ·have CQ:n=2:=by omega
  subst CQ;rw[hf] at h0;cases h0;rw[q1,q2,q3] at h1;exact absurd h1 (by decide)
theorem Q9J{w:World}{P:PL}(h:Sep w P.hl)(al:AlS P 64 [64]):Calls prog 21 #[.pointer (some ⟨P.p,0,none⟩),.int .i64 0,.int .i64 1,.int .i64 64] w fun r w'=>r=.returned (.int .i64 0) /\
  ∃P',P'.p=P.p/\P'.q.t=P.q.t/\P'.d.b=P.d.b/\P'.a.a=P.a.a/\AlS P' 0 []/\Step P.hl P'.hl w w':=by
 obtain⟨e,hf,q1,q2,q3⟩:=al.q;have Bm:P.has 1 64=true:=by
  unfold PL.has PL.usedI;rw[if_pos (by decide)];rw[decide_eq_true_eq];show _/\64∈P.usedOf 1;rw[al.one];exact⟨by decide,by simp⟩
 refine(Q2O h al.ok 0 1 64 (by unfold Q2d;decide)).mono ?_;rintro r w' (⟨h0,_⟩|⟨_,h0,_⟩|⟨_,_,h0,_⟩|⟨_,_,⟨e',h0,h1⟩,_⟩|⟨n,m,e',hn,hm,_,_,DR,h0,_,rfl,P',g,Ah⟩)
 ·exact absurd h0 (by decide)
 ·rw[Bm] at h0;cases h0
 ·rw[hf] at h0;cases h0
 ·rw[hf] at h0;cases h0;rw[q2] at h1;exact absurd h1 (by decide)
 ·have CQ:n=1:=by omega
  have CG:m=64:=by omega
  subst CQ CG;obtain⟨A,B,u1,u2⟩:=g.used;rw[al.one] at u1;have CK:A++B=[]:=by
   have:=congrArg List.length u1;simp only[Z0t,Z1Z,Z0s] at this;exact Z1Q (by rw[Z0s];omega)
  obtain⟨e2,f2,_,hq⟩:=g.q;rw[hf] at f2;cases f2;refine⟨rfl,P',g.p,g.qt,g.db,by rw[g.aa],⟨g.ok,by rw[g.top];exact al.top,?_,by rw[u2,CK],fun j hj=>by rw[g.other j hj];exact al.other j hj⟩,Ah⟩;rw[hq];have e1:=Q0m hf {e.q with charged:=e.q.charged-((Q0c 1:Nat):Int)};exact⟨_,e1,q1,by show e.q.charged-_=0;rw[q2];rfl,q3⟩
def sumB(l:List (Nat×Nat)):Nat:=(l.map fun x=>1024*2 ^ x.2).sum
theorem Q6N(l:List (Nat×Nat))(x:Nat×Nat):sumB (l++[x])=sumB l+1024*2 ^ x.2:=by simp[sumB]
theorem Q9i(l:List (Nat×Nat))(h:∀x∈l,x.2<=20):sumB l<=l.length*1073741824:=by
 induction l with
 | nil=>simp[sumB]
 | cons y r ih =>
  have h1:=ih fun x hx=>h x (by simp[hx])
  have h2:2 ^ y.2<=1048576:=Q9Z (Z0T (by omega) (h y (by simp))) (by decide);have e:sumB (y::r)=1024*2 ^ y.2+sumB r:=by simp[sumB]
  rw[e,Z0t];omega
theorem Q5n(G:Nat->Nat->Bool)(top k:Nat):∀x∈Q0l G top k,x.2<k:=by
 intro x hx;unfold Q0l at hx;obtain⟨j,hj,hx⟩:=Z0o.1 hx;obtain⟨i,_,rfl⟩:=Z0e.1 hx;exact Z0j.1 hj
theorem Q3z{l m:List (Nat×Nat)}(h:l.Perm m):sumB l=sumB m:=by
 have e:∀l:List (Nat×Nat),sumB l=l.foldr (fun x s=>1024*2 ^ x.2+s) 0:=by
  intro l
  induction l with
  | nil=>rfl
  | cons y r ih =>
   show(1024*2 ^ y.2+sumB r)=_;rw[ih];rfl
 induction h with
 | nil=>rfl
 | cons x _ ih=>rw[e,e] at *;simp only[List.foldr_cons];omega
 | swap x y l=>rw[e,e];simp only[List.foldr_cons];omega
 | trans _ _ ih1 ih2=>exact ih1.trans ih2
theorem Q8c{w:World}{d:BD}{G:Nat->Nat->Bool}(h:Sep w d.hl)(hi:d.Is G) :
  Calls prog 61 #[.pointer (some ⟨d.b,0,none⟩)] w (Told w (.int .i64 ((sumB (Q0l G d.top (d.top+1)):Nat):Int))):=by
 have Az:=Q3v h hi;have ht:=hi.top;have Ad:=Q0S G d.top ht (d.top+1);have HQ:Hid (∀r w1,NewBlks w (Q0l G d.top (d.top+1)) r w1->∃(a:Option Addr) (Aa:Nat) (L:List (Nat×Nat)),r=.returned (.slice a L.length Aa)/\L.length<=22020096/\(∀x∈L,x.2<=20)/\sumB L=sumB (Q0l G d.top (d.top+1))/\Below w.heap.size w w1 /\
   ∀j x wr,L[j]?=some x->Below w1.heap.size w1 wr->∃g,a=some ⟨g,0,none⟩/\wr.cell? ⟨g,j*2,none⟩=some (.int .i64 (x.1:Int))/\wr.cell? ⟨g,j*2+1,none⟩=some (.int .i64 (x.2:Int))):=by
  rintro r w1⟨v,L,rfl,p1,p2,⟨p3,p4⟩,p5⟩;have e1:L.length<=22020096:=by rw[p1.length_eq];omega
  have e2:∀x∈L,x.2<=20:=fun x hx=>by have:=Q5n G d.top (d.top+1) x (p1.mem_iff.1 hx);omega
  rcases p4 with ⟨rfl,h0⟩|⟨g,Aa,Ac,rfl,hg,Bz,hn,hm,hs,A6⟩
  ·refine⟨none,0,L,by rw[h0],e1,e2,Q3z p1,p5,fun j x wr hj _=>?_⟩;have:=(Z0k.1 hj).1;omega
  ·refine⟨_,Aa,L,rfl,e1,e2,Q3z p1,p5,fun j x wr hj hb=>⟨g,rfl,?_⟩⟩;obtain⟨c1,c2⟩:=Q2g L j x hj;have A5:wr.heap[g]?=some (.cells Ac 161 (0,0)):=(hb.block g (lt_of_block Bz)).trans Bz;have AH:∀t v,(Q0p L)[t]?=some v->wr.cell? ⟨g,t,none⟩=some v:=by
    intro t v hv;rw[<- A6,Z1D] at hv;split at hv
    ·simp only[World.cell?,A5,Z2w,Z2U,if_false];rw[<- Z2a];exact hv
    ·cases hv
   exact⟨AH _ _ c1,AH _ _ c2⟩
 obtain⟨S,hS⟩:∃S,S=sumB (Q0l G d.top (d.top+1)):=⟨_,rfl⟩
 rw[<- hS] at HQ ⊢;clear h hi Ad ht hS;obtain⟨NB,GW⟩:∃NB:Ending->World->Prop,NB=NewBlks w (Q0l G d.top (d.top+1)):=⟨_,rfl⟩
 rw[<- GW] at Az HQ;clear GW;generalize d.b=db at *
 go_enter func61,ntmps61;go_wp2_with fail;refine Az.mono ?_;intro r w1 hx;obtain⟨a,Aa,L,rfl,hl,ho,DL,hb,Ai⟩:=HQ.out _ _ hx;have HO:=Q0a ho;have Gi:=Q0a DL;have C2:=Q0a Ai;have Ji:Hid (L.take L.length=L):=by show _=_;simp
 clear hx ho DL Ai HQ;generalize hll:L.length=ll at *
 have Fs:=Q0a hll;clear hll;go_wp2_with fail
 go_loopw [3,9] (fun nv iv wr=>∃j:Nat,iv=.int .i64 j/\j<=ll/\nv=.int .i64 ((sumB (L.take j):Nat):Int)/\Below w1.heap.size w1 wr) (fun _ iv _=>ll-(intOf iv).toNat)
 case atStart=>exact⟨0,rfl,Z1C _,rfl,Below.refl _ _⟩
 case round =>
  obtain⟨j,rfl,hj,rfl,DE⟩:=hrel;by_cases Ae:j<ll
  ·have hx:L[j]?=some (L[j]'(by rw[Fs.out];exact Ae)):=Z1R _;generalize L[j]'(by rw[Fs.out];exact Ae)=x at hx;obtain⟨g,rfl,c1,c2⟩:=C2.out j x wr hx DE;have Gh:=HO.out x (Z1O hx);have A6:L.take (j+1)=L.take j++[x]:=by rw[Z1x,hx];rfl
   have C1:=Q6N (L.take j) x;have Cf:=Q9i (L.take (j+1)) (fun y hy=>HO.out y (Z2L hy));rw[A6] at Cf;have E3:(L.take j++[x]).length<=ll:=by rw[<- A6,Z1T,Fs.out];omega
   have hN:sumB (L.take j)+1024*2 ^ x.2<=22020096*1073741824:=by rw[<- C1];exact Q9Z Cf (Z2r _ (by omega))
   have B8:Hid (((sumB (L.take j)+1024*2 ^ x.2:Nat):Int)=((sumB (L.take (j+1)):Nat):Int)):=by show _=_;rw[A6,C1]
   have HB:=Q0a (DE.alloc DE.size (.cells #[.int .i64 (x.1:Int),.int .i64 (x.2:Int)] 161));have C7:wrap64 (1024*2 ^ x.2)=((1024*2 ^ x.2:Nat):Int):=by
    have e:(1024:Int)*2 ^ x.2=((1024*2 ^ x.2:Nat):Int):=by rw[Z0J,Z1w];rfl
    rw[e];exact Go.IntWalk.wrap64_in _ (by omega)
   have B9:1024*2 ^ x.2<=1099511627776:=by
    have:2 ^ x.2<=1048576:=Q9Z (Z0T (by omega) Gh) (by decide);omega
   have HX:=Q0a hx;clear hx A6 C1 Cf E3;generalize sumB (L.take j)=s at *
   generalize x.1=x1 at *
   generalize x.2=x2 at *
   have ET:(0:Int)<=x2:=by omega
   have Ii:(x2:Int)<=64:=by omega
   have EQ:s<=22020096*1073741824:=by omega
   have EB:(0:Int)<=j:=by omega
   have Hd:=Q0a C7;have HN:=Q0a hN;clear C7 hN B9;go_upto_region 5 with (fail)
   iterate 14 go_step
   rw[Hd.out];clear Hd;have FO:=HN.out;obtain⟨z,hz⟩:∃z,z=1024*2 ^ x2:=⟨_,rfl⟩
   rw[<- hz] at FO ⊢;have HZ:Hid (((s+z:Nat):Int)=((sumB (L.take (j+1)):Nat):Int)):=by show _=_;rw[hz];exact B8.out
   clear hz HN B8;go_wp2_with fail;go_roundw
   case rel=>exact⟨j+1,by go_num,by omega,by rw[<- HZ.out];go_num,HB.out⟩
   case measure=>simp[intOf];omega
  ·obtain rfl:j=ll:=by omega
   have HR:Hid (Told w (.int .i64 S) (.returned (.int .i64 ((sumB (L.take j):Nat):Int))) wr):=by
    refine⟨?_,hb.trans (DE.mono hb.size)⟩;rw[Ji.out,Gi.out]
   clear DE;go_wp2_with fail
   (try go_ret);exact HR.out
theorem Q8d:sumB (Q0l (fre (uOf [0]) 6) 6 7)=64512:=by decide +kernel
theorem Q6O{w:World}(h:Env w):Calls prog 12 #[.int .i64 65536,.int .i64 65537] w (Told w (.pointer none)):=by
 have k1:=Q4A (Sep.nil h) 65537 (by omega) (by omega);have HQ:Hid (∀r w1,NewQ 65537 [] w r w1->∃t,r=.returned (.pointer (some ⟨t,0,none⟩))/\Calls prog 63 #[.int .i64 65536] w1 fun r w2=>∃d,r=.returned (.pointer (some ⟨d,0,none⟩)) /\
   Calls prog 64 #[.int .i64 65536] w2 fun r w3=>∃a,r=.returned (.pointer (some ⟨a,0,none⟩))/\∀o,Told w (.pointer none) (.returned (.pointer none)) (w3.alloc o)):=by
  rintro r w1⟨t,m,b,rfl,s1⟩;refine⟨t,rfl,(Q3o s1.sep 6 (by omega) (by omega)).mono ?_⟩;rintro r w2⟨d,rfl,_,_,_,s2⟩;refine⟨_,rfl,(Q3j s2.sep 16 (by omega) (by omega)).mono ?_⟩;rintro r w3⟨a,rfl,_,s3⟩;have hb:=((s1.trans s2).trans s3).fresh;exact⟨_,rfl,fun o=>⟨rfl,hb.alloc (by exact hb.size) o⟩⟩
 clear h;go_enter func12,ntmps12;go_wp2_with fail;refine k1.mono ?_;intro r w1 hx;obtain⟨t,rfl,hb⟩:=HQ.out _ _ hx;have HB:=Q0a hb;clear hx hb;go_wp2_with fail;refine HB.out.mono ?_;rintro r w2⟨d,rfl,hy⟩;have HY:=Q0a hy;clear hy;go_wp2_with fail;refine HY.out.mono ?_;rintro r w3⟨a,rfl,hz⟩;have HZ:=Q0a hz;clear hz;go_wp2_with fail
 (try go_ret);exact HZ.out _
theorem Q9j{w:World}{P:PL}(h:Sep w P.hl){ch:Int}{us:List Nat}(al:AlS P ch us):Calls prog 19 #[ptr P.q.t,.int .i64 0] w (Told w (.int .i64 ch)):=by
 obtain⟨e,hf,q1,q2,q3⟩:=al.q;have:=Q3g (PL.sQ h) al.ok.q hf;rw[q2,q3,Int.add_zero] at this;exact this
theorem Q9k{w:World}{P:PL}(h:Sep w P.hl){ch:Int}{a:Nat}(al:AlS P ch [a]):Calls prog 60 #[.pointer (some ⟨P.p,0,none⟩),.int .i64 1] w fun r w'=>∃(g Aa:Nat),r=.returned (.slice (some ⟨g,0,none⟩) 1 Aa)/\Below w.heap.size w w':=by
 have:=Q6g h al.ok 1;have e:P.usedI 1=[a]:=by
  unfold PL.usedI;rw[if_pos (by decide)];exact al.one
 rw[e] at this;refine this.mono ?_;rintro r w'⟨v,rfl,⟨_,h2⟩,hb⟩;rcases h2 with ⟨_,h0⟩|⟨g,Aa,Ac,rfl,_⟩
 ·simp at h0
 ·exact⟨g,Aa,rfl,hb⟩
theorem Q9l{w:World}{P:PL}(h:Sep w P.hl){ch:Int}{us:List Nat}(al:AlS P ch us)(Bf:P.d.ps=[0]):Calls prog 61 #[ptr P.d.b] w (Told w (.int .i64 64512)):=by
 have:=Q8c (PL.sD h) al.ok.d.is;rw[Bf,al.top,Q8d] at this;exact this
theorem Q9K{w:World}{P:PL}(h:Sep w P.hl){ch:Int}(al:AlS P ch [64]):Calls prog 59 #[.pointer (some ⟨P.p,0,none⟩),.int .i64 1,.int .i64 64] w (Told w (.bool true)):=by
 have Bm:P.has 1 64=true:=by
  unfold PL.has PL.usedI;rw[if_pos (by decide)];rw[decide_eq_true_eq];show _/\64∈P.usedOf 1;rw[al.one];exact⟨by decide,by simp⟩
 have:=Q1M h al.ok 1 64 (by unfold Q2d;decide);rw[Bm] at this;exact this
theorem Q6P(x:Nat):∀b∈Q0w x,b<256:=by
 intro b hb;simp only[Q0w,Z0d,List.not_mem_nil,or_false] at hb;rcases hb with rfl|rfl|rfl|rfl|rfl|rfl|rfl|rfl <;> exact Nat.mod_lt _ (by decide)
theorem Q5o{m bs:List Nat}{a:Nat}(h:∀b∈m,b<256)(hb:∀b∈bs,b<256):∀b∈put_ m a bs,b<256:=by
 intro b hx;unfold put_ at hx;simp only[Z0v] at hx;rcases hx with (hx|hx)|hx
 ·exact h b (Z2L hx)
 ·exact hb b hx
 ·exact h b (Z2d hx)
theorem AlS.setA{P:PL}{ch:Int}{us:List Nat}(al:AlS P ch us){m:List Nat}(hm:m.length=P.a.mem.length)(hb:∀b∈m,b<256):AlS (P.setA m) ch us:=⟨PL.ok_setA al.ok hm hb,al.top,al.q,al.one,al.other⟩
theorem Q8e{w:World}{P:PL}(h:Sep w P.hl){ch:Int}{us:List Nat}(al:AlS P ch us):Calls prog 57 #[ptr P.a.a,.int .i64 64,.slice (some ⟨w.heap.size,0,none⟩) 1 1] (w.alloc (.cells #[.int .u64 7] 83)) fun r w'=>r=.returned (.int .i64 0) /\
  ∃P',P'.p=P.p/\P'.a.a=P.a.a/\AlS P' ch us/\Step P.hl P'.hl w w':=by
 have C0:P.a.mem.length=65536:=by rw[al.ok.mem,al.top]
 have ha:=h.alloc (.cells #[.int .u64 7] 83);refine(Q7I (PL.sA ha) 64 7 (by decide) (by omega) (by omega) (by decide) w.heap.size ((Cells.new w 83 [.int .u64 7]).cell 0 _ rfl) (by simp) (fun hm=>by have:=(PL.sA h).lt hm;omega)).mono ?_;rintro r w'⟨rfl,st⟩;have hm:(put_ P.a.mem 64 (Q0w 7)).length=P.a.mem.length:=Q1W _ _ _ (by show 64+8<=_;omega);exact⟨rfl,P.setA (put_ P.a.mem 64 (Q0w 7)),rfl,rfl,al.setA hm (Q5o al.ok.bytes (Q6P 7)),(PL.stepA ha _ st).from_alloc⟩
theorem Q9m{w:World}{P:PL}(h:Sep w P.hl){ch:Int}{us:List Nat}(al:AlS P ch us)(hw:Q4Y P.a.mem 64=0):Calls prog 58 #[ptr P.a.a,.int .i64 64] w fun r w'=>r=.returned (.tuple #[.int .u64 0,.int .i64 0])/\w=w':=by
 have C0:P.a.mem.length=65536:=by rw[al.ok.mem,al.top]
 have:=Q8T (PL.sA h) al.ok.bytes 64 (by decide) (by omega) (by omega);rw[hw] at this;exact this
theorem Q6Q{w:World}(h:Env w):Calls prog 11 #[] w (Told w (.bool true)):=by
 have k1:=Q4C (Sep.nil h) 6 (by omega) (by omega) 100 (by omega) (by decide);have HQ:Hid (∀r w1,Q8Z 6 100 [] w r w1->∃P:PL,r=.returned (.pointer (some ⟨P.p,0,none⟩))/\AlS P 0 []/\Step [] P.hl w w1):=by
  rintro r w1⟨P,rfl,hl,hf,Ah⟩;refine⟨P,rfl,⟨hf.ok hl (by omega) (by omega) (by omega),hf.etop,?_,Q2D hf 1,fun j _=>Q2D hf j⟩,by simpa using Ah⟩;obtain⟨t,m,b,hq⟩:=hf.q;exact⟨⟨0,b,⟨100,0,0,-1,0⟩⟩,by rw[hq];rfl,rfl,rfl,rfl⟩
 clear h;go_enter func11,ntmps11;go_wp2_with fail;refine k1.mono ?_;intro r w1 hx;obtain⟨P,rfl,al,st1⟩:=HQ.out _ _ hx;have hg:=Q9T st1.sep al;have HG:=Q0a hg;have Al:=Q0a al;have S1:=Q0a st1;clear hx al st1 hg HQ;go_wp2_with fail;refine HG.out.mono ?_;rintro r w2⟨rfl,st2⟩;have st12:=S1.out.trans st2;have hg:=Q8n st2.sep Al.out;have GG:=Q0a hg;have S2:=Q0a st12;clear st2 st12 hg HG S1;go_wp2_with fail;refine GG.out.mono ?_;rintro r w3⟨rfl,P3,ep,eq,eb,ea,al3,Fn,EK,st3⟩;have st13:=S2.out.trans st3;have C6:=Q2w st13.sep;have FU:=Q8e st13.sep al3;rw[ep,ea] at C6;rw[ea] at FU;have DU:=Q0a C6
 have H9:=Q0a FU;have EP:=Q0a ep;have EA:=Q0a ea;have S3:=Q0a st13;clear C6 FU ep eq eb ea al3 Fn EK st3 st13 GG S2 Al;unfold ptr at *
 go_wp2_with fail;refine DU.out.mono ?_;rintro r w'⟨rfl,rfl⟩;go_wp2_with fail;refine H9.out.mono ?_;rintro r w4⟨rfl,P4,ep4,ea4,al4,st4⟩;have st14:=S3.out.trans st4;have Fq:=Q9J st14.sep al4;rw[ep4,EP.out] at Fq;have G1:=Q0a Fq;have EP4:=Q0a (ep4.trans EP.out);have EA4:=Q0a ea4;have S4:=Q0a st14;clear Fq ep4 ea4 al4 st4 st14 DU H9 EP EA S3;go_wp2_with fail;refine G1.out.mono ?_;rintro r w5⟨rfl,P5,ep5,-,-,ea5,al5,st5⟩;have st15:=S4.out.trans st5;have Eb:=Q8n st15.sep al5;rw[ep5] at Eb;have Hg:=Q0a Eb;have EP5:=Q0a ep5;have EA5:=Q0a (ea5.trans EA4.out);have S5:=Q0a st15;clear Eb ep5 ea5 al5 st5 st15 G1 EP4 EA4 S4
 go_wp2_with fail;refine Hg.out.mono ?_;rintro r w6⟨rfl,P6,ep6,-,-,ea6,al6,Eu,Gv,st6⟩;have st16:=S5.out.trans st6;have C6:=Q2w st16.sep;have EX:=Q9m st16.sep al6 Gv;have ep6':=ep6;have ea6':=ea6.trans EA5.out;rw[ep6',ea6'] at C6;rw[ea6'] at EX;unfold ptr at C6 EX;have DU:=Q0a C6;have HH:=Q0a EX;have EP6:=Q0a ep6';have Al6:=Q0a al6;have I9:=Q0a Eu;have Af:=Q0s st16.sep.env 3;rw[show Q0g 3=256 from rfl] at Af;have Aq:=Q0a Af;have F8:=Q9K st16.sep al6;rw[ep6'] at F8;have Gy:=Q0a F8;have S6:=Q0a st16;clear C6 EX ep6 ea6 al6 Eu Gv st6 st16 ep6' ea6' Af F8 Hg EP5 EA5 S5
 go_wp2_with fail;refine DU.out.mono ?_;rintro r w'⟨rfl,rfl⟩;go_wp2_with fail;refine HH.out.mono ?_;rintro r w'⟨rfl,rfl⟩;clear DU HH;go_wp2_with fail;refine Aq.out.mono ?_;rintro r w'⟨rfl,rfl⟩;clear Aq;go_wp2_with fail;refine Gy.out.mono ?_;rintro r w7⟨rfl,DW⟩;have st17:=S6.out.trans (S6.out.sep.grown DW);have D0:=Q9k st17.sep Al6.out;rw[EP6.out] at D0;have EG:=Q0a D0;have S7:=Q0a st17;clear D0 DW st17 Gy S6;go_wp2_with fail;refine EG.out.mono ?_;rintro r w8⟨g8,IT,rfl,Ca⟩;have st18:=S7.out.trans (S7.out.sep.grown Ca);have CC:=Q0R st18.sep;have Dp:=Q9j st18.sep Al6.out
 rw[EP6.out] at CC;unfold ptr at CC Dp;have EW:=Q0a CC;have Ey:=Q0a Dp;have S8:=Q0a st18;clear CC Dp Ca st18 EG S7;go_wp2_with fail;refine EW.out.mono ?_;rintro r w'⟨rfl,rfl⟩;go_wp2_with fail;refine Ey.out.mono ?_;rintro r w9⟨rfl,Dy⟩;have st19:=S8.out.trans (S8.out.sep.grown Dy);have Ch:=Q1q st19.sep;have Cf:=Q9l st19.sep Al6.out I9.out;rw[EP6.out] at Ch;unfold ptr at Ch Cf;have EM:=Q0a Ch;have Hu:=Q0a Cf;have S9:=Q0a st19;clear Ch Cf Dy st19 EW Ey S8;go_wp2_with fail;refine EM.out.mono ?_;rintro r w'⟨rfl,rfl⟩;go_wp2_with fail;refine Hu.out.mono ?_;rintro r w10⟨rfl,DF⟩
 have st110:=S9.out.trans (S9.out.sep.grown DF);have Ci:=Q6O st110.sep.env;have Dz:=Q0a Ci;have S10:=Q0a st110;clear Ci DF st110 EM Hu S9;go_wp2_with fail;refine Dz.out.mono ?_;rintro r w11⟨rfl,Bh⟩;have HR:Hid (Told w (.bool true) (.returned (.bool true)) w11):=⟨rfl,(S10.out.trans (S10.out.sep.grown Bh)).fresh⟩
 clear Bh Dz S10;go_wp2_with fail
 (try go_ret);exact HR.out
structure A4 where
 k:Int
 f:Int
 c:Int
 n:Int
def IsA4(w:World)(a0:Option Addr)(len:Nat)(A:Nat->A4):Prop:=∀j,j<len->∃g off,a0=some ⟨g,off,none⟩/\g<w.heap.size/\w.cell? ⟨g,off+j*4,none⟩=some (.int .i64 (A j).k)/\w.cell? ⟨g,off+j*4+1,none⟩=some (.int .i64 (A j).f)/\w.cell? ⟨g,off+j*4+2,none⟩=some (.int .i64 (A j).c)/\w.cell? ⟨g,off+j*4+3,none⟩=some (.int .i64 (A j).n)/\(A j).n<=9223372036854775807
theorem IsA4.below{w w':World}{a0:Option Addr}{len:Nat}{A:Nat->A4}(h:IsA4 w a0 len A)(hb:Below w.heap.size w w'):IsA4 w' a0 len A:=by
 intro j hj;obtain⟨g,off,h1,h2,h3,h4,h5,h6,h7⟩:=h j hj;have e:=hb.block g h2;exact⟨g,off,h1,Z0a h2 hb.size,(Q0h e _).trans h3,(Q0h e _).trans h4,(Q0h e _).trans h5,(Q0h e _).trans h6,h7⟩
end Go.Proofs.YtfidemmgofcnmaaGreatDoor
