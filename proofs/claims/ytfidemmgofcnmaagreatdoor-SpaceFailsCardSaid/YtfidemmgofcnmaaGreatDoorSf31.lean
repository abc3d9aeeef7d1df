/- SpaceFails returns true at every input. No condition. Part of its proof. -/
import Derived.Test.YtfidemmgofcnmaaGreatDoorSf30
set_option linter.unusedVariables false
namespace Go.Proofs.YtfidemmgofcnmaaGreatDoor
open Go.RowKit Go.Proofs.Tryz
structure AlikeZ(Z Z':SP):Prop where
 s:Z'.s=Z.s
 c:Z'.S.c=Z.S.c
 same:SameP Z.S.P Z'.S.P
 ids:Q5z Z'.S.P.q.E=Q5z Z.S.P.q.E
 use:∀id,Q1W Z'.S.P.q.E id=Q1W Z.S.P.q.E id
 ps:Z'.S.P.d.ps.Perm Z.S.P.d.ps
 en:Z'.av.en=Z.av.en
theorem AlikeZ.refl(Z:SP):AlikeZ Z Z:=⟨rfl,rfl,SameP.refl _,rfl,fun _=>rfl,J6w _,rfl⟩
theorem FreeIs.same2{S S':CO}{F F':List (Nat×Nat)}(h:FreeIs S F)(h':FreeIs S' F')(ht:S'.P.d.top=S.P.d.top)(Fk:S'.P.d.ps.Perm S.P.d.ps):F'=F:=by
 have hp:=h'.perm;have hs:=h'.sort;rw[ht] at hp;refine Z6l (fun p=>?_) hp h.perm hs h.sort;unfold uOf;simp only[Fk.mem_iff]
section
variable {S S':CO} {fr:List Nat} {N K N' K':Nat} {tb tb':Nat->TB}
theorem Z9V(ok:S.Ok fr N K)(ok':S'.Ok fr N' K')(hl:S'.l=S.l)(hx:∀id,S'.xc id=S.xc id)(acc:∀id e,find S.P.q.E id=some e->∃e',find S'.P.q.E id=some e'/\e'.q={e.q with charged:=e'.q.charged})(ids:S'.P.q.E.map En.id=S.P.q.E.map En.id)(id:Int):Q1W S'.P.q.E id=Q1W S.P.q.E id:=by
 unfold Q1W;cases h:find S.P.q.E id with
 | none =>
  cases h':find S'.P.q.E id with
  | none=>rfl
  | some e' =>
   obtain⟨hm,he⟩:=Q0b h';have hi:id∈S.P.q.E.map En.id:=by rw[<- ids,<- he];exact J3U hm
   obtain⟨e,CN,EP⟩:=J3h.1 hi;exact absurd EP (Q5V h e CN)
 | some e =>
  obtain⟨e',h1,h2⟩:=acc id e h;rw[h1];have c1:=ok.inv.tre.charged id e h;have c2:=ok'.inv.tre.charged id e' h1;rw[hl,hx,<- c1] at c2;have g:e'.q.given=e.q.given:=by
   have h3:=congrArg Fa.given h2;exact h3
  show e'.q.charged+e'.q.given=e.q.charged+e.q.given;rw[c2,g]
theorem Z7H(ok:S.Ok fr N K)(ok':S'.Ok fr N' K')(t:TPI S tb)(t':TPI S' tb')(hl:S'.l=S.l)(h7:Q2o tb'=Q2o tb)(h6:Q2J tb'=Q2J tb)(k:Nat):(S'.P.usedOf k).Perm (S.P.usedOf k):=by
 by_cases h0:k=0
 ·subst h0;exact J6w _
 by_cases h5:k<=5
 ·have a:=ok'.inv.mem.ats k (by omega) h5;rw[hl] at a;exact a.symm.trans (ok.inv.mem.ats k (by omega) h5)
 by_cases e6:k=6
 ·subst e6;have a:=t'.nds;rw[h6] at a;exact a.symm.trans t.nds
 by_cases e7:k=7
 ·subst e7;have a:=t'.lvs;rw[h7] at a;exact a.symm.trans t.lvs
 have hz:Q0c k=0:=by
  unfold Q0c;rw[J4R (by simp;omega)];rfl
 rw[Q1r ok'.inv.mem.pool hz,Q1r ok.inv.mem.pool hz]
end
theorem Z9W{t t':TB}(h1:∀q,q<16->t'.lf q=t.lf q)(h2:∀s,t'.en s=t.en s):t'.lvs=t.lvs/\t'.nds=t.nds:=by
 constructor
 ·exact Q2G fun k hk=>by rw[h1 k (J3s.1 hk)]
 ·exact Q2G fun s _=>by rw[h2 s]
section
variable {Z:SP} {fr:List Nat} {N K:Nat} {M:Int} {w w':World}
theorem BackZ.alike(ok:Z.Ok fr N K M){y:Nat}{own:Int}(h:BackZ Z fr N K y own w w'):∃Z',Z'.Ok fr N K M/\AlikeZ Z Z'/\Step Z.hl Z'.hl w w':=by
 obtain⟨S',t',h1,h2,h3,h4,h5,h6⟩:=h;have Dh:∀h s,Q0f S'.l (updT Z.tb (y%256) t') h s=Q0f Z.S.l Z.tb h s:=fun h s=>by
  unfold Q0f;rw[h3.l];split
  ·split
   ·by_cases e:h%256=y%256
    ·rw[e,updT_same,h5]
    ·rw[Q0K e]
   ·rfl
  ·rfl
 obtain⟨e1,e2⟩:=Z9W h4 h5;have el:∀i,(updT Z.tb (y%256) t' i).lvs=(Z.tb i).lvs:=fun i=>by
  by_cases e:i=y%256
  ·rw[e,updT_same,e1]
  ·rw[Q0K e]
 have en:∀i,(updT Z.tb (y%256) t' i).nds=(Z.tb i).nds:=fun i=>by
  by_cases e:i=y%256
  ·rw[e,updT_same,e2]
  ·rw[Q0K e]
 have h7:Q2o (updT Z.tb (y%256) t')=Q2o Z.tb:=by unfold Q2o;simp only[el]
 have QW:Q2J (updT Z.tb (y%256) t')=Q2J Z.tb:=by unfold Q2J;simp only[en]
 have GW:∀id,S'.xc id=Z.S.xc id:=fun id=>by
  rw[h2.xc,ok.tpi.xc,h3.l];refine Q5g fun i hi=>?_
  unfold xcP TB.cost;simp only[el,en]
 refine⟨Z.setS S' (updT Z.tb (y%256) t'),⟨h1,h2,?_,ok.fo,ok.next⟩,⟨rfl,h3.c,h3.same,?_,?_,?_,?_⟩,h6⟩
 ·refine ok.fpi.same2 Dh fun h s e he q hq=>⟨q,?_,rfl⟩
  show pget S'.l 1 e.h=some q;rw[h3.l];exact hq
 ·show Q5z S'.P.q.E=_;unfold Q5z;rw[show S'.P.q.E.map (·.id)=Z.S.P.q.E.map (·.id) from h3.ids]
 ·exact Z9V ok.core h1 h3.l GW (fun id e he=>by obtain⟨e',a,b,_⟩:=h3.acc id e he;exact⟨e',a,b⟩) h3.ids
 ·exact Z5E ok.core.inv.mem.pool h1.inv.mem.pool (Z7H ok.core h1 ok.tpi h2 h3.l h7 QW) (J6w _)
 ·show(fun h s=>(Q0f S'.l (updT Z.tb (y%256) t') h s).map Ent.c)=_;unfold SP.av avOf;funext h s;rw[Dh]
theorem MoveR.alike(ok:Z.Ok fr N K M){x y n:Nat}{A:Nat->Mv}{er:Int}(h0:er≠0)(R:MoveR Z fr N K M x y n A w er w'):∃Z',Z'.Ok fr N K M/\AlikeZ Z Z'/\Step Z.hl Z'.hl w w':=by
 rcases R with ⟨_,_,own,h⟩|⟨p1,p2,_,_,_,_,_,⟨e,_⟩|⟨_,_,h⟩⟩
 ·exact h.alike ok
 ·exact absurd e h0
 ·exact h.alike ok
theorem RootR.alike(hs:Sep w Z.hl)(ok:Z.Ok fr N K M){x h:Nat}{z r er:Int}(h0:er≠0)(R:RootR Z fr N K M x z h r w er w'):∃Z',Z'.Ok fr N K M/\AlikeZ Z Z'/\Step Z.hl Z'.hl w w':=by
 rcases R with ⟨_,_,hb⟩|⟨s,rn,p,q,_,_,_,_,_,hp,hk,_,_,_,⟨e,_⟩|⟨_,_,P',tr,st⟩⟩
 ·exact⟨Z,ok,AlikeZ.refl Z,hs.grown hb⟩
 ·exact absurd e h0
 ·refine BackZ.alike (y:=x) (own:=p.fac) ok (LaidP.back (x:=x) (A:=fun _=>⟨0,0,0,false⟩) ok hp hk ((LaidP.start (x:=x) (A:=fun _=>⟨0,0,0,false⟩) ok (p.fac:Int)).tried tr) ?_);rw[Q1d];exact st
theorem MkR.alike(ok:Z.Ok fr N K M){x hh:Nat}{z k er:Int}(h0:er≠0)(R:MkR Z fr N K M x z k w hh er w'):∃Z',Z'.Ok fr N K M/\AlikeZ Z Z'/\Step Z.hl Z'.hl w w':=by
 rcases R with ⟨_,_,own,h⟩|⟨e,_⟩
 ·exact h.alike ok
 ·exact absurd e h0
end
def cpV(o:Option (Nat×Nat)):Nat×Nat:=o.getD (0,0)
theorem Z7I(Z:SP)(x:Nat){n:Nat}(hn:n<256):∃e:Int,Q6F Z.S.l Z.tb x (n:Int)=.tuple #[.agg #[.int .u32 ((cpV (Z.av.en x n)).1:Int),.int .i64 ((cpV (Z.av.en x n)).2:Int)],.int .i64 e]:=by
 cases hp:pget Z.S.l 1 x with
 | none =>
  have h0:Z.av.en x n=none:=by
   show(Q0f Z.S.l Z.tb x n).map Ent.c=none;unfold Q0f;rw[hp];rfl
  refine⟨8,?_⟩;rw[h0];unfold Q6F;rw[hp];rfl
 | some p =>
  by_cases hk:p.kind=2
  ·have:=Z2E (Z:=Z) (x:=x) (z:=(n:Int)) hp hk (by omega);rw[J4h] at this;rw[this];cases Z.av.en x n with
   | none=>exact⟨6,rfl⟩
   | some c=>exact⟨0,rfl⟩
  ·have h0:Z.av.en x n=none:=by
    show(Q0f Z.S.l Z.tb x n).map Ent.c=none;unfold Q0f;rw[hp];simp only;rw[if_neg (fun h=>hk h.1)];rfl
   refine⟨10,?_⟩;rw[h0];unfold Q6F;rw[hp];simp only;rw[if_neg hk];rfl
section
variable {Z:SP} {fr:List Nat} {N K:Nat} {M:Int} {w w':World}
end
def capR(f:Nat->Nat×Nat)(k:Nat):List Value:=(List.range k).flatMap fun j=>[.int .u32 ((f j).1:Int),.int .i64 ((f j).2:Int)]
theorem Q6X(f:Nat->Nat×Nat)(k:Nat):capR f (k+1)=capR f k++[.int .u32 ((f k).1:Int),.int .i64 ((f k).2:Int)]:=by
 unfold capR;rw[J3m,J3K];simp
theorem Q8F(f:Nat->Nat×Nat):∀k,(capR f k).length=k*2
 | 0=>rfl
 | k+1=>by rw[Q6X,J3M,Q8F f k];simp;omega
theorem Z1x(f:Nat->Nat×Nat){j:Nat}:∀{k:Nat},j<k->(capR f k)[j*2]?=some (.int .u32 ((f j).1:Int))/\(capR f k)[j*2+1]?=some (.int .i64 ((f j).2:Int))
 | 0,h=>by omega
 | k+1,h=>by
  have hl:=Q8F f k;rw[Q6X];by_cases e:j=k
  ·subst e;rw[J6r (by omega),J6r (by omega),hl];have e1:j*2-j*2=0:=by omega
   have e2:j*2+1-j*2=1:=by omega
   rw[e1,e2];exact⟨rfl,rfl⟩
  ·rw[J6q (by omega),J6q (by omega)];exact Z1x f (by omega)
theorem Z9X:(prog.info? 72).map (fun i=>(i.zero,i.size,i.bytes))=some (some (.agg #[.int .u32 0,.int .i64 0]),2,16):=by kernel_rfl
theorem J1L{w:World}{H:HL}{rv:RV}{f:Nat->Nat×Nat}{k:Nat}(h:Sep w (rowH rv 72 2 (capR f k)++H))(Bg:rvOk rv k)(hl:k<=1048576)(ty:TypeId) :
  ∃rv' w',(Builtin.append_ #[70,70] ty #[lvOf rv k,.slice (some ⟨w.heap.size,0,none⟩) 1 1]).run prog (w.alloc (.cells #[.int .u32 ((f k).1:Int),.int .i64 ((f k).2:Int)] 72))=.ok (lvOf rv' (k+1)) w'/\rvOk rv' (k+1)/\Step (rowH rv 72 2 (capR f k)++H) (rowH rv' 72 2 (capR f (k+1))++H) w w':=by
 obtain⟨i0,hi,Bx,AX,AU⟩:=info_parts Z9X;have ha:=h.alloc (.cells #[.int .u32 ((f k).1:Int),.int .i64 ((f k).2:Int)] 72);have Af:=Q4t ha.left Bg (Q8F f k);obtain⟨v',w',hr,q1,q2,_,q4⟩:=run_append_own_at (P:=prog) (w.alloc (.cells #[.int .u32 ((f k).1:Int),.int .i64 ((f k).2:Int)] 72)) 0 70 ty 72 i0 (.agg #[.int .u32 0,.int .i64 0]) 2 16 underlying70 hi Bx AX AU rfl (by decide) (lvOf rv k) k (capR f k) Af ⟨w.heap.size,0,none⟩ 1 1 [.int .u32 ((f k).1:Int),.int .i64 ((f k).2:Int)] rfl (by
  intro j u hj;have:=(Cells.new w 72 [.int .u32 ((f k).1:Int),.int .i64 ((f k).2:Int)]).cell j u hj;have e:(⟨w.heap.size,0,none⟩:Addr).add j=⟨w.heap.size,j,none⟩:=by unfold Addr.add;split <;> simp_all
  rw[e];exact this) (fun u hu=>by
   rcases J3g.1 hu with rfl|hu
   ·rfl
   ·rw[J5j.1 hu];rfl) (by unfold maxLen;omega) (by omega) (J5e _)
 obtain⟨rv',rfl,e2,e3⟩:=Q1p (A:=[]) (B:=H) (by simpa using ha) q1 q2 q4;refine⟨rv',w',hr,e2,?_⟩;rw[Q6X];have e4:Step (rowH rv 72 2 (capR f k)++H) (rowH rv' 72 2 (capR f k++[.int .u32 ((f k).1:Int),.int .i64 ((f k).2:Int)])++H) (w.alloc (.cells #[.int .u32 ((f k).1:Int),.int .i64 ((f k).2:Int)] 72)) w':=by simpa using e3
 exact e4.from_alloc
theorem Step.above{w w':World}{A A' R:HL}(h:Sep w (R++A))(st:Step A A' w w'):Step (R++A) (R++A') w w':=by
 have:=Step.frame R [] (by simpa using h) st
 simpa using this
section
variable {Z:SP} {fr:List Nat} {N K:Nat} {M:Int} {R:HL} {T:List Nat} {ta:Option Addr} {ids:List Int} {ia:Option Addr} {F:List (Nat×Nat)} {fa:Option Addr} {w wr:World}
theorem Z9Y(ok:Z.Ok fr N K M)(st:Step [] Z.hl w wr) :
  (Calls prog 26 #[.pointer (some ⟨Z.s,0,none⟩)] wr fun r w'=>r=.returned (.pointer (some ⟨Z.S.c,0,none⟩))/\wr=w') /\
  (Calls prog 27 #[.pointer (some ⟨Z.S.c,0,none⟩)] wr fun r w'=>r=.returned (.pointer (some ⟨Z.S.P.p,0,none⟩))/\wr=w') /\
  (Calls prog 13 #[.pointer (some ⟨Z.S.P.p,0,none⟩)] wr fun r w'=>r=.returned (.pointer (some ⟨Z.S.P.q.t,0,none⟩))/\wr=w') /\
  (Calls prog 16 #[.pointer (some ⟨Z.S.P.p,0,none⟩)] wr fun r w'=>r=.returned (.pointer (some ⟨Z.S.P.d.b,0,none⟩))/\wr=w') /\
  (Calls prog 17 #[.pointer (some ⟨Z.S.P.d.b,0,none⟩)] wr fun r w1=>∃(fa:Option Addr) (fc:Nat) (F:List (Nat×Nat)),r=.returned (.slice fa F.length fc)/\FreeIs Z.S F /\
   (Calls prog 18 #[.pointer (some ⟨Z.S.P.q.t,0,none⟩)] w1 fun r w2=>∃(ia:Option Addr) (ic:Nat),r=.returned (.slice ia (Q5z Z.S.P.q.E).length ic) /\
    (Calls prog 36 #[.pointer (some ⟨Z.s,0,none⟩)] w2 fun r w3=>∃(ta:Option Addr) (tc:Nat),r=.returned (.slice ta (Q1f Z.S.l 2 (allL Z.S.l 1)).length tc)/\FlS Z.hl (Q1f Z.S.l 2 (allL Z.S.l 1)) ta (Q5z Z.S.P.q.E) ia F fa w w3))):=by
 have hs:=st.sep;refine⟨Q1T hs,Q1o (SP.sS hs),Q7r (CO.sP (SP.sS hs)),Q6b (CO.sP (SP.sS hs)),(Z7G hs (SP.sS hs) ok.core).mono ?_⟩;rintro r w1⟨fa,fc,F,rfl,hF,Aw,TL⟩;have st1:=st.trans (st.sep.grown Aw);refine⟨fa,fc,F,rfl,hF,(J2F st1.sep (SP.sS st1.sep) ok.core).mono ?_⟩;rintro r w2⟨ia,ic,rfl,Ai,TZ⟩;have st2:=st1.trans (st1.sep.grown Ai);refine⟨ia,ic,rfl,(Z7t st2.sep ok).mono ?_⟩;intro r w3 hr;obtain⟨ta,tc,rfl,Ar,Kn⟩:=hr.aside st2.sep;exact⟨ta,tc,rfl,st2.trans (st2.sep.grown Ar),Kn,TZ.step (st2.sep.grown Ar),(TL.step (st1.sep.grown Ai)).step (st2.sep.grown Ar)⟩
theorem J1M{w:World}(hs:Sep w Z.hl)(ok:Z.Ok fr N K M){x:Nat}(hx:x<4294967296){n:Nat}(hn:n<256):∃e:Int,Calls prog 37 #[.pointer (some ⟨Z.s,0,none⟩),.int .u32 x,.int .i64 n] w (Told w (.tuple #[.agg #[.int .u32 ((cpV (Z.av.en x n)).1:Int),.int .i64 ((cpV (Z.av.en x n)).2:Int)],.int .i64 e])):=by
 obtain⟨e,he⟩:=Z7I Z x hn;have:=Q6G hs ok hx (n:Int);rw[he] at this;exact⟨e,this⟩
theorem J2G{rv:RV}{k:Nat}{E:List (En Fa)}{x:Int}(h:FlS (rowH rv 3 1 (((ids.take k).map (Q1W E)).map encI)++R) T ta ids ia F fa w wr)(A6:rvOk rv k)(hx:ids[k]?=some x)(hl:ids.length<=256):∃rv' w',(Builtin.append_ #[38,38] 38 #[lvOf rv k,.slice (some ⟨wr.heap.size,0,none⟩) 1 1]).run prog (wr.alloc (.cells #[.int .i64 (Q1W E x)] 3))=.ok (lvOf rv' (k+1)) w'/\rvOk rv' (k+1) /\
  FlS (rowH rv' 3 1 (((ids.take (k+1)).map (Q1W E)).map encI)++R) T ta ids ia F fa w w':=by
 have hk:k<ids.length:=(J3t.1 hx).1;have el:((ids.take k).map (Q1W E)).length=k:=by rw[J4L,J5v];omega
 obtain⟨rv',w',h1,h2,h3⟩:=J1d h.st.sep (by rw[el];exact A6) (by rw[el];omega) (Q1W E x) 38;rw[el] at h1 h2;refine⟨rv',w',h1,h2,?_⟩;have e:(ids.take (k+1)).map (Q1W E)=(ids.take k).map (Q1W E)++[Q1W E x]:=by rw[J4Y,hx,J6G];rfl
 rw[e];exact h.step h3
theorem J2H{rv:RV}{f:Nat->Nat×Nat}{k:Nat}(h:FlS (rowH rv 72 2 (capR f k)++R) T ta ids ia F fa w wr)(A6:rvOk rv k)(hl:k<=1048576):∃rv' w',(Builtin.append_ #[70,70] 70 #[lvOf rv k,.slice (some ⟨wr.heap.size,0,none⟩) 1 1]).run prog (wr.alloc (.cells #[.int .u32 ((f k).1:Int),.int .i64 ((f k).2:Int)] 72))=.ok (lvOf rv' (k+1)) w'/\rvOk rv' (k+1) /\
  FlS (rowH rv' 72 2 (capR f (k+1))++R) T ta ids ia F fa w w':=by
 obtain⟨rv',w',h1,h2,h3⟩:=J1L h.st.sep A6 hl 70;exact⟨rv',w',h1,h2,h.step h3⟩
end
theorem J2W{rv:RV}{k:Nat}{E:List (En Fa)}{ids:List Int}{x:Int}{n:Nat}{wr:World}(h:Sep wr (rowH rv 3 1 ((ids.map (Q1W E)).map encI)))(A6:rvOk rv n)(hn:ids.length=n)(hx:ids[k]?=some x):∃g cap,lvOf rv n=.slice (some ⟨g,0,none⟩) n cap/\n<=cap/\wr.cell? ⟨g,k,none⟩=some (.int .i64 (Q1W E x)):=by
 have hk:k<ids.length:=(J3t.1 hx).1;cases rv with
 | none =>
  have:n=0:=A6;omega
 | some p =>
  obtain⟨g,cap⟩:=p;refine⟨g,cap,rfl,A6.1,?_⟩;exact Q0G h k _ (by rw[J4N,J4N,hx];rfl)
theorem J2I{rv:RV}{f:Nat->Nat×Nat}{j n:Nat}{wr:World}(h:Sep wr (rowH rv 72 2 (capR f n)))(A6:rvOk rv n)(hj:j<n):∃g cap,lvOf rv n=.slice (some ⟨g,0,none⟩) n cap/\n<=cap/\wr.cell? ⟨g,j*2,none⟩=some (.int .u32 ((f j).1:Int))/\wr.cell? ⟨g,j*2+1,none⟩=some (.int .i64 ((f j).2:Int)):=by
 cases rv with
 | none =>
  have:n=0:=A6;omega
 | some p =>
  obtain⟨g,cap⟩:=p;exact⟨g,cap,rfl,A6.1,Q0G h (j*2) _ (Z1x f hj).1,Q0G h (j*2+1) _ (Z1x f hj).2⟩
theorem Z4y{w:World}{Z:SP}{fr:List Nat}{N K:Nat}{M:Int}(hs:Sep w Z.hl)(ok:Z.Ok fr N K M){x:Nat}(hx:x<4294967296)(i:It)(v:Wi)(hi:i.Wf)(hv:v.Wf) :
  Calls prog 38 #[.pointer (some ⟨Z.s,0,none⟩),.int .u32 x,.agg #[.int .i64 i.base,.int .i64 i.order,.int .i64 i.r,.int .i64 i.off,.bool i.g],.agg #[.int .i64 v.base,.int .i64 v.order]] w fun r w'=>∃(u:Value) (er:Int) (L:List Mv),r=.returned (.tuple #[u,.int .i64 er])/\OutM w w' u L/\L.length<=256/\∀m∈L,m.Wf:=by
 cases hp:pget Z.S.l 1 x with
 | none =>
  refine(Q3d hs ok.core hx i v 8 (by decide) (.inl ⟨hp,rfl⟩)).mono ?_;rintro r w'⟨rfl,hb⟩;exact⟨_,8,[],rfl,(OutM.nil w).below hb,by simp,fun m hm=>by cases hm⟩
 | some p =>
  by_cases hk:p.kind=2
  case neg =>
   refine(Q3d hs ok.core hx i v 10 (by decide) (.inr ⟨p,hp,hk,rfl⟩)).mono ?_;rintro r w'⟨rfl,hb⟩;exact⟨_,10,[],rfl,(OutM.nil w).below hb,by simp,fun m hm=>by cases hm⟩
  have Bw:Below w.heap.size w ((w.alloc (.cells #[.int .i64 i.base,.int .i64 i.order,.int .i64 i.r,.int .i64 i.off,.bool i.g] 63)).alloc (.cells #[.int .i64 v.base,.int .i64 v.order] 65)):=((Below.refl w.heap.size w).alloc (J3b _) _).alloc (by simp) _;have s0:=(hs.grown Bw).sep;have PT:=(pget_some.1 hp).1;have Ap:=(pget_some.1 hp).2.2;refine Q6U (fac:=p.fac) (f:=Q4W Z x i) (T:=fun g W=>Sep W Z.hl/\TblZ Z p g W) ?_ ?_ ?_ ?_ ?_
  ·refine(Q0N s0 ok.core hx hp hk).mono ?_;rintro r w'⟨g,rfl,hb,hg⟩;exact⟨g,rfl,hb,(s0.grown hb).sep,hg⟩
  ·rintro g W W'⟨h1,h2⟩ hb;exact⟨(h1.grown hb).sep,h2.grown h1 hb⟩
  ·rintro g W k-⟨h1,h2⟩ Ab DI;have CH:Q1C i.base i.order=true:=by
    unfold Q3B Q6T at DI;simp only[J3x,decide_eq_true_eq] at DI;exact DI.1.1
   obtain⟨q1,q2,q3,q4,q5⟩:=Q1A CH;have T:=(ok.tpi.x (p.fac:Int)).tt ok.core PT Ap hk (SP.sS h1) h2.c;have Qg:0<=i.base+(k:Int)/\i.base+(k:Int)<256:=by omega
   have MO:(i.base+(k:Int)).toNat=i.base.toNat+k:=by omega
   have AA:(Z.tb (x%256)).at' (i.base+(k:Int))=Q0f Z.S.l Z.tb x (i.base.toNat+k):=by
    unfold TB.at';rw[if_pos Qg,MO,Q0g hp hk (by omega)]
   have kc:=Q1m T (x:Int) (p.fac:Int) (i.base+(k:Int)) fun e he=>by
    rw[AA] at he;exact ok.fpi.low ok.core.inv.lok he
   rw[AA] at kc;obtain⟨a,b,Cp⟩:=Q2N (Q0f Z.S.l Z.tb x (i.base.toNat+k));rw[Cp] at kc;refine kc.mono ?_;rintro r w'⟨rfl,hb⟩;exact⟨a,b,rfl,hb⟩
  ·intro er w' he hb;exact⟨_,er,[],rfl,(OutM.nil w).below hb,by simp,fun m hm=>by cases hm⟩
  ·intro ha hf a w' ho;have CH:Q1C i.base i.order=true/\Q1C v.base v.order=true/\1<=i.r/\i.r<=15/\0<=i.off/\i.off<256:=by
    unfold Q3B Q6T at ha;simp only[J3x,decide_eq_true_eq] at ha;exact⟨ha.1.1,ha.2.1,ha.1.2⟩
   obtain⟨q1,q2,q3,q4,q5⟩:=Q1A CH.1;obtain⟨r1,r2,r3,r4,r5⟩:=Q1A CH.2.1;refine⟨a,0,_,rfl,ho,J3c (Q8D _ _ _ _) (by omega),fun m hm=>?_⟩;unfold movV at hm;obtain⟨k,Bt,e⟩:=J3h.1 hm;have A2:=J3s.1 (J3w.1 Bt).1;rw[<- e];unfold itMv;exact⟨⟨by dsimp only;omega,by dsimp only;omega⟩,⟨by dsimp only;omega,by dsimp only;omega⟩,⟨by dsimp only;omega,by dsimp only;omega⟩⟩
theorem OutM.aside{w w':World}{v:Value}{L:List Mv}{H:HL}(hs:Sep w H)(h:OutM w w' v L)(KZ:∀m∈L,m.Wf):∃(a:Option Addr) (cap:Nat),v=.slice a L.length cap/\L.length<=cap/\AsideM H L.length (fun j=>L.getD j noMv) a w':=by
 obtain⟨a0,cap,rfl,Au⟩:=Q5P h.1;have A4:L.length<=cap:=by
  rcases h.1.2 with ⟨e,h0⟩|⟨g,c,Ag,e,_,_,hn,_⟩
  ·rw[h0];exact J5e _
  ·cases e;exact hn
 refine⟨a0,cap,rfl,A4,fun j hj=>?_,fun ad h0 KO DO=>?_⟩
 ·have JI:L[j]?=some L[j]:=J5t hj;have Im:L.getD j noMv=L[j]:=by rw[J7H,JI];rfl
  obtain⟨g,hg,_,Ab,_⟩:=Au (j*4) _ (Q1u _ j 0 _ _ JI rfl);refine⟨g,0,hg,Ab,fun t u hu=>?_,?_⟩
  ·have hu:(L[j]).cells[t]?=some u:=by rw[<- Im];exact hu
   obtain⟨g',EM,_,_,hc⟩:=Au (j*4+t) u (Q1u _ j t _ _ JI hu);rw[hg] at EM;cases EM;rw[J5G];exact hc
  ·show Mv.Wf (L.getD j noMv);rw[Im];exact KZ _ (J6z hj)
 ·subst KO;have Fw:0<L.length:=by omega
  obtain⟨g,hg,Jh,_⟩:=Au (0*4) _ (Q1u _ 0 0 _ _ (J5t Fw) rfl);cases hg;exact absurd (hs.lt DO) (by dsimp only;omega)
def mvL(A:Nat->Mv)(n:Nat):List Mv:=(List.range n).map A
theorem Z7J(A:Nat->Mv)(n:Nat):(mvL A n).length=n:=by simp[mvL]
theorem J2J(A:Nat->Mv){n j:Nat}(h:j<n):(mvL A n)[j]?=some (A j):=by simp[mvL,h]
theorem Q6Y:∀(L:List Mv),∀u∈L.flatMap Mv.cells,u.oneCell'=true
 | [],u,h=>by cases h
 | m::r,u,h=>by
  rw[J3z] at h;rcases J3Q.1 h with h|h
  ·simp only[Mv.cells,J3g,List.mem_nil_iff,or_false] at h;rcases h with rfl|rfl|rfl|rfl <;> rfl
  ·exact Q6Y r u h
theorem Q6Z{w:World}(base:Nat)(t ty e:TypeId)(i:TypeInfo)(size:Nat)(ht:prog.underlying t=some (.slice e))(hi:prog.info? e=some i)
  (v:Value) (n c:Nat) (xs:List Value) (Af:w.ownsRow base e size v n xs):(Builtin.append_ #[t,t] ty #[v,.slice none 0 c]).run prog w=.ok v w:=by
 rcases Af.2 with ⟨rfl,rfl⟩|⟨g,cap,Ag,rfl,_,_,Rm,_⟩
 ·simp[Builtin.append_,run_underlying ht,sizeOf,typeInfo,hi,Builtin.lenOf,Builtin.firstCells]
 ·simp[Builtin.append_,run_underlying ht,sizeOf,typeInfo,hi,Builtin.lenOf,Builtin.firstCells,Rm,storeCells]
theorem OutM.put{w wr:World}{v:Value}{L:List Mv}(h:OutM w wr v L){n cap:Nat}{A:Nat->Mv}{a:Option Addr}(hM:IsMv wr a n A)(hl:L.length+n<=65536)(ty:TypeId) :
  ∃v' w',(Builtin.append_ #[61,61] ty #[v,.slice a n cap]).run prog wr=.ok v' w'/\OutM w w' v' (L++mvL A n)/\(∀b,b<wr.heap.size->v.ownBlock≠some b->w'.heap[b]?=wr.heap[b]?)/\wr.heap.size<=w'.heap.size:=by
 obtain⟨i0,hi,Bx,AX,AU⟩:=info_parts J0k;have GQ:=Z7J A n;by_cases ha:a=none
 ·subst ha;have hn:n=0:=by
   refine Classical.byContradiction fun hc=>?_
   obtain⟨g,off,e,_⟩:=hM 0 (by omega);cases e
  subst hn;refine⟨v,wr,Q6Z w.heap.size 61 ty 90 i0 4 underlying61 hi v _ _ _ h.1,?_,fun _ _ _=>rfl,J3b _⟩;have:mvL A 0=[]:=rfl;rw[this,J5i];exact h
 ·obtain⟨ad,rfl⟩:=J7t.1 ha;obtain⟨v',w',hr,q1,q2,_,q4⟩:=run_append_own_at (P:=prog) wr w.heap.size 61 ty 90 i0 (.agg #[.int .i64 0,.int .i64 0,.int .i64 0,.bool false]) 4 32 underlying61 hi Bx AX AU rfl (by decide) v L.length (L.flatMap Mv.cells) h.1 ad n cap ((mvL A n).flatMap Mv.cells) (by rw[Q3c,GQ]) (by
   intro j u hj;have Qn:j<n*4:=by
    have:=(J3t.1 hj).1
    rwa [Q3c,GQ] at this
   have hd:j/4<n:=by omega
   obtain⟨g,off,e,hg,hc,_⟩:=hM (j/4) hd;cases e;have Nk:j%4<4:=J6i _ (by omega);have AM:(A (j/4)).cells.length=4:=rfl;have Pw:(A (j/4)).cells[j%4]?=some ((A (j/4)).cells[j%4]'(by rw[AM];exact Nk)):=J5t _;have hx:=Q1u (mvL A n) (j/4) (j%4) _ _ (J2J A hd) Pw;rw[show j/4*4+j%4=j by omega,hj] at hx;have hv:=hc (j%4) _ Pw;rw[<- J3Z hx] at hv;have e:(⟨g,off,none⟩:Addr).add j=⟨g,off+j,none⟩:=by unfold Addr.add;split <;> simp_all
   rw[e,show off+j=off+j/4*4+j%4 by omega];exact hv) (Q6Y _) (by unfold maxLen;omega) (by omega) h.2.size
  refine⟨v',w',hr,⟨?_,?_⟩,fun b hb Aa=>q2.block b hb (fun e=>Aa e.symm),q2.size⟩
  ·rw[J3M,GQ,J3K];exact q1
  ·exact(Below.refl _ _).trans (h.2.trans ((Below.refl _ _).mono h.2.size |>.grown q2 h.2.size (fun b hb=>(h.1.lt b hb).1)))
def FlT(Z:SP)(fr:List Nat)(N K:Nat)(M:Int)(R:HL)(T:List Nat)(ta:Option Addr)(ids:List Int)(ia:Option Addr)(F:List (Nat×Nat))(fa:Option Addr)(w0:World)(er:Int)(w':World):Prop:=
 (er=0/\Below w0.heap.size w0 w')∨(er≠0/\∃Z',Z'.Ok fr N K M/\AlikeZ Z Z'/\FlS (R++Z'.hl) T ta ids ia F fa w0 w')
section
variable {Z:SP} {fr:List Nat} {N K:Nat} {M:Int} {R:HL} {T:List Nat} {ta:Option Addr} {ids:List Int} {ia:Option Addr} {F:List (Nat×Nat)} {fa:Option Addr} {w0 wr w':World}
theorem Z7K(h:FlS (R++Z.hl) T ta ids ia F fa w0 wr){er:Int}{N' K':Nat}{M':Int}(hg:GoesZ Z N' K' M' wr w')(ha:er≠0->∃Z',Z'.Ok fr N K M/\AlikeZ Z Z'/\Step Z.hl Z'.hl wr w'):FlT Z fr N K M R T ta ids ia F fa w0 er w':=by
 by_cases h0:er=0
 ·obtain⟨Z',fr',_,_,st⟩:=hg;exact .inl ⟨h0,(h.step (st.above h.st.sep)).st.fresh⟩
 ·obtain⟨Z',a,b,st⟩:=ha h0;exact .inr ⟨h0,Z',a,b,h.step (st.above h.st.sep)⟩
theorem Z7L(ok:Z.Ok fr N K M)(h:FlS (R++Z.hl) T ta ids ia F fa w0 wr){x y n cap:Nat}{A:Nat->Mv}{a0:Option Addr}(hM:M+n<1099511627776)(hx:x<4294967296)(hy:y<4294967296)(hn:n<=4611686018427387904)(A4:n<=cap)(B5:AsideM Z.hl n A a0 wr) :
  Calls prog 39 #[.pointer (some ⟨Z.s,0,none⟩),.int .u32 x,.int .u32 y,.slice a0 n cap] wr fun rv w'=>∃er:Int,rv=.returned (.int .i64 er)/\FlT Z fr N K M R T ta ids ia F fa w0 er w':=by
 refine(Q2P h.st.sep.right ok hM hx hy hn A4 B5).mono ?_;rintro rv w'⟨er,e,R⟩;exact⟨er,e,Z7K h (R.goes ok) fun h0=>R.alike ok h0⟩
theorem J1N(ok:Z.Ok fr N K M)(h:FlS (R++Z.hl) T ta ids ia F fa w0 wr)(hM:M+1<1099511627776){x hh:Nat}(hx:x<4294967296)(hh32:hh<4294967296)(z r:Int) :
  Calls prog 41 #[.pointer (some ⟨Z.s,0,none⟩),.int .u32 x,.int .i64 z,.agg #[.int .u32 hh,.int .i64 r]] wr fun rv w'=>∃er:Int,rv=.returned (.int .i64 er)/\FlT Z fr N K M R T ta ids ia F fa w0 er w':=by
 refine(Q6J h.st.sep.right ok hM hx hh32 z r).mono ?_;rintro rv w'⟨er,e,R⟩;exact⟨er,e,Z7K h (R.goes h.st.sep.right ok) fun h0=>R.alike h.st.sep.right ok h0⟩
theorem J1O(ok:Z.Ok fr N K M)(h:FlS (R++Z.hl) T ta ids ia F fa w0 wr)(hN:N+1<1048576)(hM:M+1<1099511627776){x y:Nat}(hx:x<4294967296)(hy:y<4294967296)(z k lim:Int) :
  Calls prog 40 #[.pointer (some ⟨Z.s,0,none⟩),.int .u32 x,.int .i64 z,.int .u32 y,.int .i64 k,.int .i64 lim] wr fun rv w'=>∃(hh:Nat) (er:Int),rv=.returned (.tuple #[.int .u32 hh,.int .i64 er])/\FlT Z fr N K M R T ta ids ia F fa w0 er w':=by
 refine(Q9W h.st.sep.right ok hN hM hx hy z k lim).mono ?_;rintro rv w'⟨hh,er,e,R⟩;exact⟨hh,er,e,Z7K h (R.goes ok) fun h0=>R.alike ok h0⟩
theorem Z9Z(ok:Z.Ok fr N K M)(h:FlS (R++Z.hl) T ta ids ia F fa w0 wr)(hM:M+400<1099511627776){x y:Nat}(hx:x<4294967296)(hy:y<4294967296)(i:It)(v:Wi)(hi:i.Wf)(hv:v.Wf){la:Option Addr}{ll:Nat}(lc:Nat){A:Nat->Mv}(hll:ll<=20)(B5:AsideM Z.hl ll A la wr) :
  Calls prog 38 #[.pointer (some ⟨Z.s,0,none⟩),.int .u32 x,.agg #[.int .i64 i.base,.int .i64 i.order,.int .i64 i.r,.int .i64 i.off,.bool i.g],.agg #[.int .i64 v.base,.int .i64 v.order]] wr fun r w'=>∃(u:Value) (er:Int),r=.returned (.tuple #[u,.int .i64 er])/\Below wr.heap.size wr w' /\
   ∃u' w2,(Builtin.append_ #[61,61] 61 #[u,.slice la ll lc]).run prog w'=.ok u' w2/\Below wr.heap.size wr w2 /\
    Calls prog 39 #[.pointer (some ⟨Z.s,0,none⟩),.int .u32 x,.int .u32 y,u'] w2 fun rv w3=>∃er:Int,rv=.returned (.int .i64 er)/\FlT Z fr N K M R T ta ids ia F fa w0 er w3:=by
 have hs:=h.st.sep.right;refine(Z4y hs ok hx i v hi hv).mono ?_;rintro r w'⟨u,er,L,rfl,ho,hl,KZ⟩;refine⟨u,er,rfl,ho.2,?_⟩;obtain⟨u',w2,e1,Hl,-,-⟩:=ho.put (B5.1.below ho.2) (cap:=lc) (by omega) 61;have O1:∀m∈L++mvL A ll,m.Wf:=fun m hm=>by
  rcases J3Q.1 hm with hm|hm
  ·exact KZ m hm
  ·obtain⟨j,hj,rfl⟩:=J3h.1 hm;obtain⟨_,_,_,_,_,hw⟩:=B5.1 j (J3s.1 hj);exact hw
 obtain⟨a,cap,rfl,A4,Pc⟩:=Hl.aside hs O1;have Ac:(L++mvL A ll).length<=276:=by rw[J3M,Z7J];omega
 exact⟨_,w2,e1,Hl.2,Z7L ok (h.grown Hl.2) (by omega) hx hy (by omega) A4 Pc⟩
theorem J1P{Z':SP}{N' K':Nat}{M':Int}(ok:Z'.Ok fr N' K' M')(al:AlikeZ Z Z')(hF:FreeIs Z.S F)(h:FlS (R++Z'.hl) T ta ids ia F fa w0 wr) :
  (Calls prog 26 #[.pointer (some ⟨Z.s,0,none⟩)] wr fun r w'=>r=.returned (.pointer (some ⟨Z.S.c,0,none⟩))/\wr=w') /\
  (Calls prog 27 #[.pointer (some ⟨Z.S.c,0,none⟩)] wr fun r w'=>r=.returned (.pointer (some ⟨Z.S.P.p,0,none⟩))/\wr=w') /\
  (Calls prog 16 #[.pointer (some ⟨Z.S.P.p,0,none⟩)] wr fun r w'=>r=.returned (.pointer (some ⟨Z.S.P.d.b,0,none⟩))/\wr=w') /\
  (Calls prog 17 #[.pointer (some ⟨Z.S.P.d.b,0,none⟩)] wr fun r w3=>∃(ba:Option Addr) (bc:Nat),r=.returned (.slice ba F.length bc) /\
   ∀fc,Calls prog 22 #[.slice fa F.length fc,.slice ba F.length bc] w3 fun r w4=>r=.returned (.bool true)/\Below w0.heap.size w0 w4):=by
 have hs:=h.st.sep.right;have e1:=Q1T hs;have e3:=Q1o (SP.sS hs);have e4:=Q6b (CO.sP (SP.sS hs));have e5:=Z7G h.st.sep (SP.sS hs) ok.core;rw[al.s,al.c] at e1;rw[al.c,al.same.p] at e3;rw[al.same.p,al.same.db] at e4;rw[al.same.db] at e5;refine⟨e1,e3,e4,e5.mono ?_⟩;rintro r w3⟨ba,bc,F',rfl,RQ,Ar,L5⟩;have Vf:=hF.same2 RQ al.same.top al.ps;subst Vf;have h3:=h.grown Ar;refine⟨ba,bc,rfl,fun fc=>(Z6m w3 fa ba fc bc F' h3.fa.reads L5.reads RQ.len).mono ?_⟩;rintro r w4⟨rfl,A9⟩;exact⟨rfl,(h3.grown A9).st.fresh⟩
theorem J1Q{Z':SP}{N' K':Nat}{M':Int}(ok:Z'.Ok fr N' K' M')(al:AlikeZ Z Z')(hs:Sep wr Z'.hl)(id:Int):Calls prog 19 #[.pointer (some ⟨Z.S.P.q.t,0,none⟩),.int .i64 id] wr (Told wr (.int .i64 (Q1W Z.S.P.q.E id))):=by
 have:=J0l (SP.sS hs) ok.core id;rw[al.same.qt,al.use] at this;exact this
theorem J0a{Z':SP}{N' K':Nat}{M':Int}(ok:Z'.Ok fr N' K' M')(al:AlikeZ Z Z')(hs:Sep wr Z'.hl){x:Nat}(hx:x<4294967296){n:Nat}(hn:n<256):∃e:Int,Calls prog 37 #[.pointer (some ⟨Z.s,0,none⟩),.int .u32 x,.int .i64 n] wr (Told wr (.tuple #[.agg #[.int .u32 ((cpV (Z.av.en x n)).1:Int),.int .i64 ((cpV (Z.av.en x n)).2:Int)],.int .i64 e])):=by
 obtain⟨e,he⟩:=Z7I Z' x hn;have:=Q6G hs ok hx (n:Int);rw[he,al.s,al.en] at this;exact⟨e,this⟩
end
theorem Z7M{m:Nat}:(64:Int)+(m:Int).tmod 65473=((64+m%65473:Nat):Int)/\(64:Int)+(m:Int)%65473=((64+m%65473:Nat):Int)/\64<=64+m%65473/\64+m%65473<=65536:=by
 refine⟨?_,by omega,by omega,by omega⟩;rw[J4T (by omega)];omega
section
variable {Z:SP} {fr:List Nat} {N K:Nat} {M:Int}
end
end Go.Proofs.YtfidemmgofcnmaaGreatDoor
