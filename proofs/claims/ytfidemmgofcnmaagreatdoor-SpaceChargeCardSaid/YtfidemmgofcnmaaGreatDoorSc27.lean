/- SpaceCharge returns true at every input. No condition. Part of its proof. -/
import Derived.Test.YtfidemmgofcnmaaGreatDoorSc26
import Derived.Great.Ranges
set_option maxHeartbeats 8000000
set_option maxRecDepth 100000
set_option linter.unusedVariables false
namespace Go.Proofs.YtfidemmgofcnmaaGreatDoor
open Go.RowKit Go.Proofs.Tryz
theorem Q4R {α:Type} (f:α->Int) {l:List α} (h:∀x∈l,0<=f x) {a:α} (ha:a∈l):f a<=(l.map f).sum:=by
 have nn:∀l:List α,(∀x∈l,0<=f x)->0<=(l.map f).sum:=by
  intro l
  induction l with
  | nil=>simp
  | cons x r ih =>
   intro h;rw [J2B,J6m];have:=h x (by simp);have:=ih fun y hy=>h y (by simp [hy])
   omega
 induction l with
 | nil=>cases ha
 | cons x r ih =>
  rw [J2B,J6m];have h1:=h x (by simp);have h2:∀y∈r,0<=f y:=fun y hy=>h y (by simp [hy])
  rcases J2D.1 ha with rfl|ha
  ·have:=nn r h2;omega
  ·have:=ih h2 ha;omega
theorem Z8W {q:QT} (ok:q.Ok) {l:List Pl} {xc:Int->Int} (t:TreI q.E l xc) {par id:Int} {e c:En Fa} (he:find q.E par=some e) (hc:find q.E id=some c) (hp:c.q.parent=par):c.q.limit<=e.q.given/\1<=e.q.kids:=by
 obtain⟨g1,g2⟩:=t.given par e he;have hm:c∈q.E:=(Q0b hc).1;have El:∀x∈q.E,0<=x.q.limit:=fun x hx=>by
  have:=ok.fa _ _ (Q1z ok.ids hx);omega
 have k1:givF par c<=(q.E.map (givF par)).sum:=Q4R _ (fun x hx=>by have:=El x hx;unfold givF;split <;> omega) hm;have k2:kidF par c<=(q.E.map (kidF par)).sum:=Q4R _ (fun x _=>by unfold kidF;split <;> omega) hm;unfold Q1v at g1;unfold Q1Q at g2;unfold givF at k1;unfold kidF at k2;rw [if_pos hp] at k1 k2;unfold givF at g1;unfold kidF at g2;omega
theorem Inv.wordf {P:PL} {l:List Pl} {fr:List Nat} {xc:Int->Int} {zs:List Nat} (v:Inv P l fr xc zs) {p:Pl} (hp:p∈l) (hi:p.is=true) (hk:p.kind=1):Q0u P.a.mem p.at_=p.own/\p.at_%8=0/\p.at_+8<=P.a.mem.length/\p.own<1048576:=by
 have hu:=v.mem.used hp hi (by omega);rw [hk] at hu;have h1:=Q0n v.mem.pool hu;have:Q0c 1=64:=rfl;refine⟨v.mem.word p hp hi hk,Q2o v.mem.pool hu,by omega,?_⟩;obtain⟨e,he⟩:=v.tre.acc hp hi hk;have h2:=v.mem.pool.q.fa _ e he;have h3:=v.mem.pool.q.next1;omega
theorem Q3Y {α:Type} (p:α->Bool):∀l:List α,l.drop (l.takeWhile p).length=l.dropWhile p
 | []=>rfl
 | x::r=>by
  rw [List.takeWhile_cons,List.dropWhile_cons];cases h:p x with
  | true=>simpa using Q3Y p r
  | false=>simp
def Z6K (S1:CO) (N K h:Nat) (zs:List Nat) (wr w5:World):Prop:=∃S2 fr2,Mid S2 fr2 N K zs/\Ticked S1 S2 [h]/\Step S1.hl S2.hl wr w5
def TF (S:CO) (bx k a f:Nat) (w':World):Prop:=w'.cell? ⟨S.c,0,none⟩=some (.pointer (some ⟨S.P.p,0,none⟩))/\w'.cell? ⟨S.P.p,0,none⟩=some (.pointer (some ⟨S.P.q.t,0,none⟩))/\w'.cell? ⟨bx,0,none⟩=some (.int .i64 k)/\w'.cell? ⟨bx,1,none⟩=some (.int .i64 a)/\w'.cell? ⟨bx,2,none⟩=some (.int .i64 f)
theorem TF.of {w1 w2:World} {S:CO} {l':List Pl} {P':PL} (h1:Sep w1 (S.setL l').hl) {w0:World} (st:Step (S.setL l').hl ((S.setL l').setP P').hl w0 w2) (hp:P'.p=S.P.p) (hq:P'.q.t=S.P.q.t) (hl:w1.heap.size<w0.heap.size) {k a f:Nat}
  (e0:w0.cell? ⟨w1.heap.size,0,none⟩=some (.int .i64 k)) (e1:w0.cell? ⟨w1.heap.size,1,none⟩=some (.int .i64 a)) (e2:w0.cell? ⟨w1.heap.size,2,none⟩=some (.int .i64 f)):TF S w1.heap.size k a f w2:=by
 have c:=CO.c0 st.sep;have p0:=PL.c0 (CO.sP st.sep);have e:((S.setL l').setP P').P=P':=rfl;rw [e,hp] at c p0;rw [hq] at p0;exact⟨c,p0,st.box h1 hl e0,st.box h1 hl e1,st.box h1 hl e2⟩
theorem Z3L {wr:World} {S1:CO} {fr1:List Nat} {N K h:Nat} {zs:List Nat} (hs:Sep wr S1.hl) (m:Mid S1 fr1 N K (h::zs)) (hK:K<=1048575) :
  ∃p:Pl,pget S1.l 2 h=some p/\h<4294967296/\Calls prog 212 #[.pointer (some ⟨S1.t,0,none⟩),.int .u32 h] wr fun r w1=>r=.returned (.tuple #[.agg #[.int .i64 (p.kind:Int),.int .i64 (p.at_:Int),.int .i64 (p.fac:Int)],.int .i64 0])/\wr.heap.size<=w1.heap.size/\S1.c<w1.heap.size /\
   (p.kind≠1->Calls prog 154 #[.pointer (some ⟨S1.c,0,none⟩),.agg #[.int .i64 (p.kind:Int),.int .i64 (p.at_:Int),.int .i64 (p.fac:Int)]] (w1.alloc (.cells #[.int .i64 (p.kind:Int),.int .i64 (p.at_:Int),.int .i64 (p.fac:Int)] 54)) fun r w5=>r=.returned (.tuple #[])/\Z6K S1 N K h zs wr w5) /\
   (p.kind=1->TF S1 w1.heap.size p.kind p.at_ p.fac (w1.alloc (.cells #[.int .i64 (p.kind:Int),.int .i64 (p.at_:Int),.int .i64 (p.fac:Int)] 54)) /\
    Calls prog 203 #[.pointer (some ⟨S1.c,0,none⟩),.agg #[.int .i64 (p.kind:Int),.int .i64 (p.at_:Int),.int .i64 (p.fac:Int)]] (w1.alloc (.cells #[.int .i64 (p.kind:Int),.int .i64 (p.at_:Int),.int .i64 (p.fac:Int)] 54)).drew fun r w3=>r=.returned (.int .i64 (p.own:Int))/\TF S1 w1.heap.size p.kind p.at_ p.fac w3 /\
     Calls prog 213 #[.pointer (some ⟨S1.P.q.t,0,none⟩),.int .i64 (p.own:Int)] w3 fun r w4=>r=.returned (.int .i64 0)/\TF S1 w1.heap.size p.kind p.at_ p.fac w4 /\
      Calls prog 154 #[.pointer (some ⟨S1.c,0,none⟩),.agg #[.int .i64 (p.kind:Int),.int .i64 (p.at_:Int),.int .i64 (p.fac:Int)]] w4 fun r w5=>r=.returned (.tuple #[])/\Z6K S1 N K h zs wr w5):=by
 obtain⟨p,hp⟩:=(m.inv.que.has h).1 (by simp);obtain⟨hi,JA,Ao⟩:=pget_some.1 hp;have BF:=Q0A hp;have Cn:p.is=true:=Pl.is_iff.2 (.inr Ao);have D2:=(m.age p BF).2 Ao;have EA:=m.now;have Sm:=(m.inv.st p BF).2;have KF:h<4294967296:=by unfold nm at JA;omega
 have Bb:=m.inv.lok;have Bx:=m.inv.mem.pool;obtain⟨e,he⟩:=m.inv.tre.fac p BF Cn;have EU:=m.inv.tre.pays BF Cn (m.inv.que.xc _).1 he;refine⟨p,hp,KF,?_⟩;refine Calls.mono (Z2P (h:=S1.ht) (CO.sT hs) Bb KF hp (by omega)) ?_;rintro r w1 ⟨rfl,st⟩;have s1:Step S1.hl (S1.setL (S1.l.set (h%256) (noPl (p.age+1)))).hl wr w1:=CO.stepL hs _ st;have AJ:S1.c<w1.heap.size:=(CO.cells s1.sep).lt;have hB:=Cells.new w1 54 [.int .i64 (p.kind:Int),.int .i64 (p.at_:Int),.int .i64 (p.fac:Int)];have sA:=s1.sep.grown (((Below.refl _ w1).alloc (J2y _) (.cells #[.int .i64 (p.kind:Int),.int .i64 (p.at_:Int),.int .i64 (p.fac:Int)] 54)))
 refine⟨rfl,s1.chg.size,AJ,fun hk=>?_,fun hk=>?_⟩
 ·have BO:Held S1.P fr1 p.fac p.kind p.at_ e:=⟨he,EU,fun h8=>m.inv.mem.used BF Cn h8,fun h8=>m.inv.mem.frame BF Cn h8⟩
  refine Calls.mono (Q8k (S:=S1.setL (S1.l.set (h%256) (noPl (p.age+1)))) sA.sep Bx BO) ?_;rintro r w5 ⟨rfl,P',fr',bk,st5⟩;have EB:=m.inv.freeN hp hk bk (by omega);obtain⟨e',q1,_,q3⟩:=bk.q;obtain⟨m2,t2⟩:=m.freed hp bk.same bk.mem (by rw [q3];rfl) (bk.high Bx (by have:=m.inv.kind hp (.inr rfl);omega)) bk.few EB;exact⟨rfl,_,fr',m2,t2,(s1.trans sA).trans st5⟩
 ·obtain⟨h0,Aq,c,hc,c1,c2,c3,c4⟩:=m.inv.last hp hk;obtain⟨k1,k2,k3,k4⟩:=m.inv.wordf BF Cn hk;obtain⟨k5,k6⟩:=Z8W Bx.q m.inv.tre he hc c4;have Aa:(p.own:Int)≠p.fac:=by
   have:=(m.inv.tre.par p BF Cn hk c hc).2 h0;omega
  have LY:=Bx.q.fa _ c hc;have Dq:w1.heap.size<(w1.alloc (.cells #[.int .i64 (p.kind:Int),.int .i64 (p.at_:Int),.int .i64 (p.fac:Int)] 54)).heap.size:=by simp
  have F0:TF S1 w1.heap.size p.kind p.at_ p.fac (w1.alloc (.cells #[.int .i64 (p.kind:Int),.int .i64 (p.at_:Int),.int .i64 (p.fac:Int)] 54)):=⟨CO.c0 (S:=S1.setL (S1.l.set (h%256) (noPl (p.age+1)))) sA.sep,PL.c0 (CO.sP (S:=S1.setL (S1.l.set (h%256) (noPl (p.age+1)))) sA.sep),hB.cell 0 _ rfl,hB.cell 1 _ rfl,hB.cell 2 _ rfl⟩
  refine⟨F0,?_⟩;refine Calls.mono (Q9e (k:=p.kind) (f:=p.fac) sA.sep.drew Bx.bytes (Q0p Bx) k2 k3 k1 k4) ?_;rintro r w3 ⟨rfl,hb⟩;have sW:=sA.drew.sep.grown hb;have s3:=sA.drew.trans sW;have VD:=sW.chg.size;have F3:TF S1 w1.heap.size p.kind p.at_ p.fac w3:=TF.of (P':=S1.P) s1.sep sW rfl rfl Dq F0.2.2.1 F0.2.2.2.1 F0.2.2.2.2;refine⟨rfl,F3,?_⟩;have hq:=Z5T (PL.sQ (CO.sP s3.sep)) Bx.q (id:=(p.own:Int)) hc (by omega) c1 c2 c3 (by rw [c4];exact he) k5 (by omega);refine Calls.mono hq ?_;rintro r w4 ⟨rfl,st4⟩;rw [c4] at st4;have s4:=CO.stepP s3.sep (S1.P.setQ (closed S1.P.q p.fac e c p.own)) rfl (PL.stepQ (CO.sP s3.sep) (closed S1.P.q p.fac e c p.own) rfl st4)
  have F4:TF S1 w1.heap.size p.kind p.at_ p.fac w4:=TF.of (P':=S1.P.setQ (closed S1.P.q p.fac e c p.own)) s1.sep s4 rfl rfl (by have:w1.heap.size<(w1.alloc (.cells #[.int .i64 (p.kind:Int),.int .i64 (p.at_:Int),.int .i64 (p.fac:Int)] 54)).drew.heap.size:=Dq;omega) F3.2.2.1 F3.2.2.2.1 F3.2.2.2.2;refine⟨rfl,F4,?_⟩;have okq:=Z5C Bx.q he hc Aa.symm (by omega) (by omega) (by omega);have ok1:=PL.ok_setQ Bx okq;have pw1:(upd S1.P.q.E p.fac {e.q with given:=e.q.given-c.q.limit,kids:=e.q.kids-1}).Pairwise (fun a b=>a.id≠b.id):=Q0O _ _ (fun a b a' b' _ h1 _ h2 h=>by rw [<- h1,<- h2];exact h) Bx.q.ids
  have Fu:find (closed S1.P.q p.fac e c p.own).E p.fac=some {e with q:={e.q with given:=e.q.given-c.q.limit,kids:=e.q.kids-1}}:=by
   show find (rem (upd S1.P.q.E p.fac _) p.own) p.fac=_;rw [Q2l pw1,if_neg (fun h=>Aa h.symm),Q0h he]
  have BO:Held (S1.P.setQ (closed S1.P.q p.fac e c p.own)) fr1 p.fac p.kind p.at_ {e with q:={e.q with given:=e.q.given-c.q.limit,kids:=e.q.kids-1}}:=⟨Fu,EU,fun h8=>m.inv.mem.used BF Cn h8,fun h8=>m.inv.mem.frame BF Cn h8⟩
  refine Calls.mono (Q8k (S:=(S1.setL (S1.l.set (h%256) (noPl (p.age+1)))).setP (S1.P.setQ (closed S1.P.q p.fac e c p.own))) s4.sep ok1 BO) ?_;rintro r w5 ⟨rfl,P',fr',bk,st5⟩;rw [hk] at bk;have EB:=m.inv.freeF hp hk he hc (P1:=S1.P.setQ (closed S1.P.q p.fac e c p.own)) rfl bk (by omega);obtain⟨e',q1,_,q3⟩:=bk.q;obtain⟨m2,t2⟩:=m.freed hp (P':=P') (SameP.trans (P:=S1.P) (P1:=S1.P.setQ (closed S1.P.q p.fac e c p.own)) ⟨rfl,rfl,rfl,rfl,rfl,rfl,rfl⟩ bk.same) (bk.mem.trans rfl) (by rw [q3];rfl) (bk.high ok1 (by omega)) bk.few EB;exact⟨rfl,_,fr',m2,t2,((s1.trans s3).trans s4).trans st5⟩
theorem Q5r {w w1:World} {B size n:Nat} {T:TypeId} {v:Value} {xs:List Value} (h:w.ownsRow B T size v n xs) (hk:∀b,v.ownBlock=some b->w1.heap[b]?=w.heap[b]?):w1.ownsRow B T size v n xs:=by
 refine⟨h.1,?_⟩;rcases h.2 with h|⟨g,cap,Aj,rfl,hB,hg,rest⟩
 ·exact .inl h
 ·exact .inr ⟨g,cap,Aj,rfl,hB,(hk g rfl).trans hg,rest⟩
theorem Step.own {H H':HL} {w w1 w2:World} (st:Step H H' w w1) {v:Value} (hg:w1.grownBy w2 v.ownBlock) (Ah:∀b,v.ownBlock=some b->w.heap.size<=b/\b∉keys H') (Cm:GB<=w.heap.size):Step H H' w w2:=by
 have hk:∀b∈keys H',w2.heap[b]?=w1.heap[b]?:=fun b hb=>hg.block b (st.sep.lt hb) (fun e=>(Ah b e.symm).2 hb)
 refine⟨st.sep.same hk ?_,?_,st.new⟩
 ·exact st.sep.env.same (fun b hb=>hg.block b (J2A hb st.sep.env.gb) (fun e=>by
   have h1:=(Ah b e.symm).1;omega)) (J2z st.sep.env.gb hg.size)
 ·refine⟨hg.os.trans st.chg.os,hg.tape.trans st.chg.tape,hg.output.trans st.chg.output,J2z st.chg.size hg.size,fun k hk hF=>?_⟩;exact (hg.block k (J2A hk st.chg.size) (fun e=>by have:=(Ah k e.symm).1;omega)).trans (st.chg.block k hk hF)
structure TI (w:World) (S1:CO) (gi:Nat) (ids:List Nat) (ov:Value) (D:List Nat) (wr:World):Prop where
 row:wr.ownsRow w.heap.size 58 1 ov D.length (Q1b D)
 off:∀b∈keys S1.hl,ov.ownBlock≠some b
 cell:∀(j y:Nat),ids[j]?=some y->gi<wr.heap.size/\gi∉keys S1.hl/\ov.ownBlock≠some gi/\wr.cell? ⟨gi,j,none⟩=some (.int .i64 y)
theorem TI.step {w wr w1:World} {S1 S2:CO} {gi:Nat} {ids D:List Nat} {ov:Value} (t:TI w S1 gi ids ov D wr) (st:Step S1.hl S2.hl wr w1):TI w S2 gi ids ov D w1:=by
 have Ah:∀b,ov.ownBlock=some b->b<wr.heap.size:=fun b hb=>(t.row.lt b hb).2
 refine⟨Q5r t.row (fun b hb=>st.chg.block b (Ah b hb) (fun hk=>t.off b hk hb)),fun b hb e=>?_,fun j y hj=>?_⟩
 ·rcases st.new b hb with h|h
  ·exact t.off b h e
  ·have:=Ah b e;omega
 ·obtain⟨a1,a2,a3,a4⟩:=t.cell j y hj;refine⟨J2A a1 st.chg.size,fun hk=>?_,a3,(World.cell?_of_block (w:=wr) (st.chg.block _ a1 a2)).trans a4⟩;rcases st.new _ hk with h|h
  ·exact a2 h
  ·omega
theorem TI.app {w wr w1:World} {S1:CO} {gi y:Nat} {ids D:List Nat} {ov v':Value} (t:TI w S1 gi ids ov D wr) (hs:Sep wr S1.hl) (Ah:w1.ownsRow w.heap.size 58 1 v' (D.length+1) (Q1b D++Q1b [y])) (hg:(wr.alloc (.cells #[.int .u32 y] 58)).grownBy w1 ov.ownBlock) (AA:v'.ownBlock=ov.ownBlock∨v'.ownBlock=some (wr.alloc (.cells #[.int .u32 y] 58)).heap.size):TI w S1 gi ids v' (D++[y]) w1:=by
 have Bj:(wr.alloc (.cells #[.int .u32 y] 58)).heap.size=wr.heap.size+1:=by simp
 refine⟨by rw [J3j,hands_app];exact Ah,fun b hb e=>?_,fun j z hj=>?_⟩
 ·rcases AA with h|h
  ·exact t.off b hb (h ▸ e)
  ·rw [h] at e;cases e;have:=hs.lt hb;omega
 ·obtain⟨a1,a2,a3,a4⟩:=t.cell j z hj;have Hc:=hg.size;refine⟨by omega,a2,fun e=>?_,(World.cell?_of_block (w:=wr.alloc _) (hg.block gi (by omega) (fun e=>a3 e.symm))).trans (Q0J a4)⟩;rcases AA with h|h
  ·exact a3 (h ▸ e)
  ·rw [h] at e;have:=J3x e;omega
def TRel (S:CO) (N K:Nat) (rv:OV) (w:World) (gi k gk:Nat) (ov:Value) (wr:World):Prop:=
 ∃(S1:CO) (fr1:List Nat),k+gk=(dueN S).length/\Mid S1 fr1 N (K+1) ((dueN S).drop k)/\Ticked (S.setG (S.now+1) rv (dueT S)) S1 ((dueN S).take k)/\Step S.hl S1.hl w wr/\TI w S1 gi (dueN S) ov ((dueN S).take k) wr
theorem Z8X {S S1 S2:CO} {fr2:List Nat} {N K k y gk:Nat} {rv:OV} {w wr w5:World} {gi:Nat} {ov:Value} (Cm:GB<=w.heap.size) (hy:(dueN S)[k]?=some y) (AH:k+1+gk=(dueN S).length) (hl:(dueN S).length<=256) (AR:Ticked (S.setG (S.now+1) rv (dueT S)) S1 ((dueN S).take k)) (Ao:Step S.hl S1.hl w wr) (hti:TI w S1 gi (dueN S) ov ((dueN S).take k) wr)
  (hm:Mid S2 fr2 N (K+1) ((dueN S).drop (k+1))) (ht:Ticked S1 S2 [y]) (st:Step S1.hl S2.hl wr w5) :
  ∃v' w6,(Builtin.append_ #[51,51] 51 #[ov,.slice (some ⟨w5.heap.size,0,none⟩) 1 1]).run prog (w5.alloc (.cells #[.int .u32 y] 58))=.ok v' w6/\TRel S N K rv w gi (k+1) gk v' w6:=by
 have t5:=hti.step st;have Nm:=Ao.trans st;have hk:k<(dueN S).length:=(J2Q.1 hy).1;have Ax:(w5.alloc (.cells #[.int .u32 y] 58)).ownsRow w.heap.size 58 1 ov ((dueN S).take k).length (Q1b ((dueN S).take k)):=t5.row.alloc _;have Oj:w.heap.size<=(w5.alloc (.cells #[.int .u32 y] 58)).heap.size:=by
  have:=Nm.chg.size;rw [World.size_alloc];omega
 obtain⟨v',w6,e1,e2,e3,e4⟩:=Z6n (ty:=51) (a:=some ⟨w5.heap.size,0,none⟩) (cap:=1) Ax (Z1Y w5 y) (by rw [J4T,J6B];omega) Oj;have CU:(dueN S).take (k+1)=(dueN S).take k++[y]:=by
  rw [J4w,hy];rfl
 refine⟨v',w6,e1,S2,fr2,AH,hm,?_,?_,?_⟩
 ·rw [CU];exact AR.trans ht
 ·have UB:=Nm.trans (Nm.sep.grown ((Below.refl _ w5).alloc (J2y _) (.cells #[.int .u32 y] 58)));refine UB.own e3 (fun b hb=>⟨(Ax.lt b hb).1,fun hk=>t5.off b hk hb⟩) Cm
 ·rw [CU];exact t5.app Nm.sep e2 e3 e4
theorem Z8Y {S:CO} {fr:List Nat} {N K:Nat} (ok:S.Ok fr N K):(dueN S).length<=256:=by
 have:=ok.few;unfold dueN;rw [J4j];exact J2z (List.takeWhile_sublist _).length_le this
theorem Z3M {S:CO} {fr:List Nat} {N K:Nat} {w w1:World} {r:Ending} (h:Sep w S.hl) (ok:S.Ok fr N K) (hg:Z1Z S.g S.period (S.now+1) S.rv S.ts w r w1) :
  ∃(rv:OV) (gi:Nat) (ad:Option Addr) (cap:Nat),r=.returned (.slice ad (dueN S).length cap)/\((dueN S).length≠0->ad=some ⟨gi,0,none⟩)/\ovOk rv (dueT S).length/\TRel S N K rv w gi 0 (dueN S).length (.slice none 0 0) w1:=by
 obtain⟨rv,ro,bx,b0,rfl,o1,o2,st⟩:=hg;have e0:S.now+1-1=S.now:=by omega
 rw [e0] at st;have eT:S.ts.drop (dueK (S.now+1) S.ts)=dueT S:=by
  exact Q3Y _ S.ts
 have eN:(S.ts.take (dueK (S.now+1) S.ts)).map Prod.fst=dueN S:=by rw [Q9Q];rfl
 have eL:dueK (S.now+1) S.ts=(dueN S).length:=by unfold dueK dueN;rw [J4j]
 unfold Q2h at st;rw [eT] at st o1;rw [eN] at st;rw [eL] at st o2 ⊢;have stW:=Step.lift S.permG (J5T _) h st;have st1:=CO.stepG h (S.now+1) rv (dueT S) (st.drop (J3p _ _));have BG:∀b∈keys (S.setG (S.now+1) rv (dueT S)).hl,b∈keys (qhl S.g S.period (S.now+1) rv (dueT S)++(S.head::(S.P.hl++S.ht.hl))):=fun b hb=>((S.setG (S.now+1) rv (dueT S)).permG.map Prod.fst).mem_iff.1 hb
 obtain⟨gi,ad,cap,e1,e2,e3⟩:∃(gi:Nat) (ad:Option Addr) (cap:Nat),lvOf ro (dueN S).length=.slice ad (dueN S).length cap/\((dueN S).length≠0->ad=some ⟨gi,0,none⟩)/\((dueN S).length≠0->ro=some (gi,cap)):=by
  cases ro with
  | none =>
   have h0:(dueN S).length=0:=o2;exact⟨0,none,0,by rw [h0];rfl,fun h=>absurd h0 h,fun h=>absurd h0 h⟩
  | some q=>exact⟨q.1,some ⟨q.1,0,none⟩,q.2,rfl,fun _=>rfl,fun _=>rfl⟩
 refine⟨rv,gi,ad,cap,by rw [e1],e2,o1,_,fr,by omega,?_,?_,st1,⟨World.ownsRow_nil _ _ _ _,fun b _ h=>by simp [Value.ownBlock] at h,fun j y hj=>?_⟩⟩
 ·rw [J6t];exact ok.mid o1
 ·rw [J5Z];exact Ticked.refl _
 ·have Bl:=(J2Q.1 hj).1;have Jx:=e3 (by omega);subst Jx;have sR:Sep w1 (rowH (some (gi,cap)) 3 1 (ints (dueN S))):=st.sep.right.tail.tail;have U8:gi∈keys (rowH (some (gi,cap)) 3 1 (ints (dueN S))):=by simp [rowH]
  refine⟨sR.lt U8,fun hk=>?_,by simp [Value.ownBlock],Q0Y sR j _ (by unfold ints;rw [J4l,hj];rfl)⟩;have A2:=BG gi hk;have AG:=stW.sep.nd;simp only [keys_append,keys_cons,J3A,J4L,rowH,keys_nil] at AG A2;have BW:=List.nodup_iff_count.1 AG gi;simp only [J6a,J6b,List.count_nil,beq_self_eq_true,if_true] at BW;have Ci:0<(keys (qhl S.g S.period (S.now+1) rv (dueT S))++S.head.fst::(keys S.P.hl++keys S.ht.hl)).count gi:=List.count_pos_iff.2 (by simpa using A2);simp only [J6a,J6b] at Ci;omega
theorem Z6L {w:World} {S:CO} {fr:List Nat} {N K:Nat} (h:Sep w S.hl) (ok:S.Ok fr N K) (hK:K<1048575) :
  Calls prog 166 #[.pointer (some ⟨S.c,0,none⟩)] w (TickR S fr N K w):=by
 have Cm:=h.env.gb;have c2:=CO.c2 h;have EA:=ok.now;have I9:=Z6J (CO.sG h) ok.ov ok.few (by omega) ok.ord;have BP:Hid (∀r w1,Z1Z S.g S.period (S.now+1) S.rv S.ts w r w1->∃(rv:OV) (gi:Nat) (ad:Option Addr) (cap:Nat),r=.returned (.slice ad (dueN S).length cap)/\((dueN S).length≠0->ad=some ⟨gi,0,none⟩)/\ovOk rv (dueT S).length/\TRel S N K rv w gi 0 (dueN S).length (.slice none 0 0) w1):=fun r w1 hg=>Z3M h ok hg
 have hl:=Z8Y ok;have AZ:Hid (∀rv gi k gk ov wr,ovOk rv (dueT S).length->¬k<(dueN S).length->TRel S N K rv w gi k gk ov wr->TickR S fr N K w (.returned ov) wr):=fun rv gi k gk ov wr DF hk ⟨S1,fr1,AH,EC,AR,Ao,hti⟩=>by
  have e:k=(dueN S).length:=by omega
  subst e;rw [List.drop_length] at EC;rw [J6J] at AR hti;exact⟨rv,S1,fr1,ov,rfl,hti.row,DF,AR,EC.ok,Ao,hti.off⟩
 have CH:Hid (∀rv gi k gk ov wr,k<(dueN S).length->TRel S N K rv w gi k gk ov wr->∃(y:Nat) (p:Pl) (tt pp qt:Nat),y<4294967296/\wr.cell? ⟨gi,k,none⟩=some (.int .i64 y)/\wr.cell? ⟨S.c,1,none⟩=some (.pointer (some ⟨tt,0,none⟩)) /\
   Calls prog 212 #[.pointer (some ⟨tt,0,none⟩),.int .u32 y] wr fun r w1=>r=.returned (.tuple #[.agg #[.int .i64 (p.kind:Int),.int .i64 (p.at_:Int),.int .i64 (p.fac:Int)],.int .i64 0]) /\
    (p.kind≠1->Calls prog 154 #[.pointer (some ⟨S.c,0,none⟩),.agg #[.int .i64 (p.kind:Int),.int .i64 (p.at_:Int),.int .i64 (p.fac:Int)]] (w1.alloc (.cells #[.int .i64 (p.kind:Int),.int .i64 (p.at_:Int),.int .i64 (p.fac:Int)] 54)) fun r w5=>r=.returned (.tuple #[]) /\
     ∃v' w6,(Builtin.append_ #[51,51] 51 #[ov,.slice (some ⟨w5.heap.size,0,none⟩) 1 1]).run prog (w5.alloc (.cells #[.int .u32 y] 58))=.ok v' w6/\TRel S N K rv w gi (k+1) ((dueN S).length-(k+1)) v' w6) /\
    (p.kind=1->(w1.alloc (.cells #[.int .i64 (p.kind:Int),.int .i64 (p.at_:Int),.int .i64 (p.fac:Int)] 54)).cell? ⟨S.c,0,none⟩=some (.pointer (some ⟨pp,0,none⟩))/\(w1.alloc (.cells #[.int .i64 (p.kind:Int),.int .i64 (p.at_:Int),.int .i64 (p.fac:Int)] 54)).cell? ⟨pp,0,none⟩=some (.pointer (some ⟨qt,0,none⟩)) /\
     Calls prog 203 #[.pointer (some ⟨S.c,0,none⟩),.agg #[.int .i64 (p.kind:Int),.int .i64 (p.at_:Int),.int .i64 (p.fac:Int)]] (w1.alloc (.cells #[.int .i64 (p.kind:Int),.int .i64 (p.at_:Int),.int .i64 (p.fac:Int)] 54)).drew fun r w3=>r=.returned (.int .i64 (p.own:Int)) /\
      (w3.cell? ⟨S.c,0,none⟩=some (.pointer (some ⟨pp,0,none⟩))/\w3.cell? ⟨pp,0,none⟩=some (.pointer (some ⟨qt,0,none⟩))/\w3.cell? ⟨w1.heap.size,0,none⟩=some (.int .i64 (p.kind:Int))/\w3.cell? ⟨w1.heap.size,1,none⟩=some (.int .i64 (p.at_:Int))/\w3.cell? ⟨w1.heap.size,2,none⟩=some (.int .i64 (p.fac:Int))) /\
      Calls prog 213 #[.pointer (some ⟨qt,0,none⟩),.int .i64 (p.own:Int)] w3 fun r w4=>r=.returned (.int .i64 0) /\
       (w4.cell? ⟨S.c,0,none⟩=some (.pointer (some ⟨pp,0,none⟩))/\w4.cell? ⟨pp,0,none⟩=some (.pointer (some ⟨qt,0,none⟩))/\w4.cell? ⟨w1.heap.size,0,none⟩=some (.int .i64 (p.kind:Int))/\w4.cell? ⟨w1.heap.size,1,none⟩=some (.int .i64 (p.at_:Int))/\w4.cell? ⟨w1.heap.size,2,none⟩=some (.int .i64 (p.fac:Int))) /\
       Calls prog 154 #[.pointer (some ⟨S.c,0,none⟩),.agg #[.int .i64 (p.kind:Int),.int .i64 (p.at_:Int),.int .i64 (p.fac:Int)]] w4 fun r w5=>r=.returned (.tuple #[]) /\
        ∃v' w6,(Builtin.append_ #[51,51] 51 #[ov,.slice (some ⟨w5.heap.size,0,none⟩) 1 1]).run prog (w5.alloc (.cells #[.int .u32 y] 58))=.ok v' w6/\TRel S N K rv w gi (k+1) ((dueN S).length-(k+1)) v' w6)):=fun rv gi k gk ov wr hk ⟨S1,fr1,AH,EC,AR,Ao,hti⟩=>by
  obtain⟨y,hy⟩:∃y,(dueN S)[k]?=some y:=⟨_,J4R hk⟩
  have MX:(dueN S).drop k=y::(dueN S).drop (k+1):=by
   rw [J5t hk];rw [J4R hk] at hy;cases hy;rfl
  rw [MX] at EC;have ec:S1.c=S.c:=AR.c;obtain⟨p,hp,CG,Aw⟩:=Z3L Ao.sep EC (by omega);have c1:=CO.c1 Ao.sep;obtain⟨_,_,_,Al⟩:=hti.cell k y hy;have Iq:∀w5,Z6K S1 N (K+1) y ((dueN S).drop (k+1)) wr w5->∃v' w6,(Builtin.append_ #[51,51] 51 #[ov,.slice (some ⟨w5.heap.size,0,none⟩) 1 1]).run prog (w5.alloc (.cells #[.int .u32 y] 58))=.ok v' w6/\TRel S N K rv w gi (k+1) ((dueN S).length-(k+1)) v' w6:=fun w5 ⟨S2,fr2,m2,t2,s2⟩=>Z8X Cm hy (by omega) hl AR Ao hti m2 t2 s2
  unfold TF at Aw;rw [ec] at c1 Aw;refine⟨y,p,S1.t,S1.P.p,S1.P.q.t,CG,Al,c1,Aw.mono ?_⟩;rintro r w1 ⟨rfl,_,_,h1,h2⟩;refine⟨rfl,fun A0=>(h1 A0).mono ?_,fun A0=>?_⟩
  ·rintro r w5 ⟨rfl,hr⟩;exact⟨rfl,Iq w5 hr⟩
  ·obtain⟨⟨f0,f1,_⟩,hw⟩:=h2 A0;refine⟨f0,f1,hw.mono ?_⟩;rintro r w3 ⟨rfl,f3,AJ⟩;refine⟨rfl,f3,AJ.mono ?_⟩;rintro r w4 ⟨rfl,f4,FM⟩;refine⟨rfl,f4,FM.mono ?_⟩;rintro r w5 ⟨rfl,hr⟩;exact⟨rfl,Iq w5 hr⟩
 generalize TickR S fr N K w=Q at *
 generalize (dueN S).length=n at *
 clear h ok EA Cm;go_enter func166,ntmps166;go_wp2_with fail;refine I9.mono ?_;intro r w1 hg;obtain⟨rv,gi,ad,cap,rfl,Nq,DF,DN⟩:=BP.out r w1 hg;have LH:=Q0a DN;have UC:=Q0a Nq;have Ul:=Q0a DF;have HL:=Q0a hl;clear hg DN Nq DF BP I9 hl;go_wp2_with fail
 go_loopg [3,17] n (fun gk ov kv wr=>∃k:Nat,kv=.int .i64 k/\k+gk=n/\TRel S N K rv w gi k gk ov wr)
 case atStart=>exact⟨0,rfl,by omega,LH.out⟩
 case round =>
  obtain⟨k,rfl,AH,hrel⟩:=hrel;have B6:=Q0a AH;clear AH;by_cases Ab:k<n
  ·obtain⟨y,p,tt,pp,qt,CG,Al,c1,Aw⟩:=CH.out _ _ _ _ _ _ Ab hrel;have Qb:=UC.out (by omega);subst Qb;have hw:IntKind.u32.wrap (y:Int)=(y:Int):=Go.IntWalk.u32_in _ (by omega);have HN:Hid (k<=256):=by have:=HL.out;show k<=256;omega
   clear hrel CG CH AZ c2;by_cases A0:p.kind=1
   ·have KS:((p.kind:Nat):Int)=1:=by omega
    have GI:=Q0a A0;go_wp2_with fail;refine Aw.mono ?_;rintro r w2 ⟨rfl,-,hx⟩;obtain⟨f0,f1,OR⟩:=hx GI.out;have UI:=Q0a OR;clear hx OR Aw Al c1;rw [KS] at *
    have b0:=(Cells.new w2 54 [.int .i64 1,.int .i64 (p.at_:Int),.int .i64 (p.fac:Int)]).cell 0 _ rfl;have b1:=(Cells.new w2 54 [.int .i64 1,.int .i64 (p.at_:Int),.int .i64 (p.fac:Int)]).cell 1 _ rfl;have b2:=(Cells.new w2 54 [.int .i64 1,.int .i64 (p.at_:Int),.int .i64 (p.fac:Int)]).cell 2 _ rfl;have D9:Hid (∀(v:World) b i x,v.cell? ⟨b,i,none⟩=some x->v.drew.cell? ⟨b,i,none⟩=some x):=fun v b i x hv=>hv
    have d0:=D9.out _ _ _ _ f0;have d1:=D9.out _ _ _ _ f1;have e0:=D9.out _ _ _ _ b0;have e1:=D9.out _ _ _ _ b1;have e2:=D9.out _ _ _ _ b2;clear A0 KS D9;go_wp2_with fail
    go_region_held3 (fun w'=>w'.cell? ⟨S.c,0,none⟩=some (.pointer (some ⟨pp,0,none⟩))/\w'.cell? ⟨pp,0,none⟩=some (.pointer (some ⟨qt,0,none⟩))/\w'.cell? ⟨w2.heap.size,0,none⟩=some (.int .i64 1)/\w'.cell? ⟨w2.heap.size,1,none⟩=some (.int .i64 (p.at_:Int))/\w'.cell? ⟨w2.heap.size,2,none⟩=some (.int .i64 (p.fac:Int))) (first|exact⟨f0,f1,b0,b1,b2⟩|exact⟨d0,d1,e0,e1,e2⟩|exact F3|exact F4)
     (first|(go_at_call 203;refine UI.out.mono ?_;rintro r w3 ⟨rfl,F3,hx⟩;have HY:=Q0a hx;clear hx)|(go_at_call 213;refine HY.out.mono ?_;rintro r w4 ⟨rfl,F4,hx⟩;have HZ:=Q0a hx;clear hx))
    all_goals
     obtain⟨g0,g1,g2,g3,g4⟩:=F4;clear d0 d1 e0 e1 e2 f0 f1 b0 b1 b2;go_wp2_with fail;refine HZ.out.mono ?_;rintro r w5 ⟨rfl,v',w6,r1,r2⟩;have CX:=Q0a r2;clear r2 g0 g1 g2 g3 g4;go_wp2_with (at_builtin;refine Lib.wpList_append_run _ rfl _ _ _ _ rfl _ _ rfl rfl _ _ r1 ?_);go_roundg (n-(k+1))
     case measure=>have:=B6.out;omega
     case rel =>
      have A2:(k:Int)<=256:=by have:=HN.out;omega
      exact⟨k+1,by rw [Go.IntWalk.wrap64_in _ (by omega)];rfl,by omega,CX.out⟩
   ·have Av:(((p.kind:Nat):Int)==1)=false:=by simp;omega
    have GI:=Q0a A0;go_wp2_with fail;refine Aw.mono ?_;rintro r w2 ⟨rfl,hx,-⟩;have HX:=Q0a (hx GI.out);clear hx Aw Al c1 A0;go_wp2_with fail;refine HX.out.mono ?_;rintro r w5 ⟨rfl,v',w6,r1,r2⟩;have CX:=Q0a r2;clear r2;go_wp2_with (at_builtin;refine Lib.wpList_append_run _ rfl _ _ _ _ rfl _ _ rfl rfl _ _ r1 ?_);go_roundg (n-(k+1))
    case measure=>have:=B6.out;omega
    case rel =>
     have A2:(k:Int)<=256:=by have:=HN.out;omega
     exact⟨k+1,by rw [Go.IntWalk.wrap64_in _ (by omega)];rfl,by omega,CX.out⟩
  ·have HR:=Q0a (AZ.out _ _ _ _ _ _ Ul.out Ab hrel);clear hrel CH AZ;go_wp2_with fail
   first|exact HR.out|(go_ret;exact HR.out)
theorem Q8n {P:Program} {ops:Array Oper} {rest:List Oper} {o:Oper} {a:Act} {w:World} {Q:Exit->Act->World->Prop} (hg:o.guard=none) (t:TypeId) (ho:o.op=.build t #[]) (dst:Option Tmp) (hdst:o.dst=dst) (cells:Array Value)
  (hb:P.built t []=some cells)
  (h:wpList P ops Q rest (a.put dst (.agg cells)) w):wpList P ops Q (o::rest) a w:=by
 subst hdst;have e:(Array.map (fun (x:Nat×Operand)=>match x with|(i,x)=>(i,a.eval x)) #[]).toList=[]:=by simp
 refine wpList_build hg t #[] ho (by rw [e,hb];rfl) ?_;rw [e,hb];exact h
def tabZ:List Value:=(List.replicate 256 (noPl 0)).flatMap Pl.cells
theorem Z3N:prog.built 302 (([]:List (Nat×Value)))=some tabZ.toArray:=by kernel_rfl
theorem Z3O:(Value.agg tabZ.toArray).cells=tabZ.toArray:=by kernel_rfl
def J1S (H:HL) (w:World) (r:Ending) (w':World):Prop:=∃t,r=.returned (.pointer (some ⟨t,0,none⟩))/\Step H ((⟨t,List.replicate 256 (noPl 0)⟩:HT).hl++H) w w'
theorem Z8Z {w:World} {H:HL} (h:Sep w H):Calls prog 147 #[] w (J1S H w):=by
 have HR:Hid (J1S H w (.returned (.pointer (some ⟨w.heap.size,0,none⟩))) (w.alloc (.cells tabZ.toArray 302))):=⟨_,rfl,h.new 302 tabZ⟩
 clear h;have hz:=Z3N;have hc:=Z3O;generalize tabZ.toArray=Z at *
 go_enter func147,ntmps147
 repeat (first|refine Q8n rfl 302 rfl _ rfl Z hz ?_|refine Go.Great.wpList_boxTo rfl 302 _ rfl _ rfl _ rfl Z hc ?_|go_step)
 first|exact HR.out|(go_ret;exact HR.out)
theorem Z6M (top k i:Nat):fre (uOf []) top k i=(k==top):=by
 have hc:∀k i,clr (uOf []) k i=true:=fun k i=>(clr_iff _ _ _).2 fun p _=>by simp [uOf]
 unfold fre;rw [hc,hc];simp
theorem Z2b (top:Nat):(∀k,k<top->fstG (fre (uOf []) top) top k 0=none)/\fstG (fre (uOf []) top) top top 0=some 0:=by
 refine⟨fun k hk=>Q5O fun i _ hi=>?_,Q5N ?_ (J2y _) ?_ fun i h0 h1=>by omega⟩
 ·rw [J4l];have:i<2 ^ (top-k):=by simpa using hi
  rw [J4n this];show (fre (uOf []) top k i)≠true;rw [Z6M];simp;omega
 ·simp
 ·rw [J5R];show ((List.map _ [0])[0]?).getD false=true;show fre (uOf []) top top 0=true;rw [Z6M];simp
theorem Z6N {c:CA} {d:BD} {a:Nat} {ps':List Nat} (DI:c.pg=[]) (FW:d.ps=[]) (h:J1z c d a ps'):a=64/\ps'=[0]:=by
 rcases h with ⟨k,x,i,hx,_⟩|⟨_,k0,i0,hk,hf,hp,ha,hq⟩
 ·rw [DI] at hx;simp at hx
 ·rw [FW] at hf hp;obtain⟨f1,f2⟩:=Z2b d.top;have Uv:k0=d.top:=by
   rcases J5i k0 d.top with e|e
   ·rw [f1 k0 e] at hf;cases hf
   ·omega
  subst Uv;rw [f2] at hf;cases hf;rw [FW] at hq;exact⟨by rw [ha];unfold addr;omega,by rw [hq];simp⟩
theorem Z0W {P:PL} {n:Nat} (FW:P.d.ps=[]):¬NoRoom P n:=by
 rintro⟨c,hc,_,hn⟩;rw [FW] at hn;have:=hn P.d.top (J2y _);rw [(Z2b P.d.top).2] at this;cases this
theorem Z9a {w:World} {P:PL} (h:Sep w P.hl) {top:Nat} {limit:Int} (hf:FreshP P top limit) (hl:P.cs.length=7) (h1:6<=top) (h0:64<=limit) (hm:limit<=1073741824) :
  Calls prog 15 #[.pointer (some ⟨P.p,0,none⟩),.int .i64 0,.int .i64 1] w fun r w'=>r=.returned (.tuple #[.int .i64 64,.int .i64 0])/\∃P',GotM P [] 0 1 64 P' []/\P'.d.ps=[0]/\(∃b,P'.q.E=[⟨0,b,⟨limit,64,0,-1,0⟩⟩])/\P'.q.next=1/\Step P.hl P'.hl w w':=by
 have ok:=hf.ok hl h1 (by omega) hm;have DI:=Z8i ok fun j=>Q7j hf j
 obtain⟨t,m,b,hq⟩:=hf.q;have Hh:find P.q.E 0=some ⟨0,b,⟨limit,0,0,-1,0⟩⟩:=by rw [hq];rfl
 refine (Q5B h ok 0 1).mono ?_;rintro r w' (⟨h0,_⟩|⟨_,h0,_⟩|⟨_,⟨e',h2,h3⟩,_⟩|⟨n,e',hn,_,_,h2,_,hr⟩)
 ·exact absurd h0 (by decide)
 ·rw [Hh] at h0;cases h0
 ·rw [Hh] at h2;cases h2;have:((Q1g 1:Nat):Int)=64:=rfl;rw [this] at h3;simp at h3;omega
 ·have CP:n=1:=by omega
  subst CP;rcases hr with ⟨a,P',rfl,g,Ao⟩|⟨Aq,_⟩
  ·obtain⟨c,_,hc,_,ht⟩:=g.which;obtain⟨rfl,OO⟩:=Z6N (DI _ c hc.2) hf.ps ht.which;have gm:=g.gotM ok;obtain⟨L1,hE,Bq,_⟩:=gm.acc (own:=0) Hh;refine⟨rfl,P',gm,OO,⟨b,?_⟩,?_,Ao⟩
   ·rw [hE,hq];simp [Q2r,upd,costK,Q0c]
   ·rw [Bq,hq];rfl
  ·exact absurd Aq (Z0W hf.ps)
structure Q9R (S:CO) (top:Nat) (limit:Int) (period:Nat):Prop where
 ok:S.Ok [] 1 0
 l:S.l=newL 64
 ts:S.ts=[]
 now:S.now=0
 period:S.period=period
 top:S.P.d.top=top
 next:S.P.q.next=1
 ps:S.P.d.ps=[0]
 q:∃b,S.P.q.E=[⟨0,b,⟨limit,64,0,-1,0⟩⟩]
 xc:S.xc=x0
 high:∀j,2<=j->S.P.usedOf j=[]
def Z6O (top:Nat) (limit:Int) (period:Nat) (H:HL) (w:World) (r:Ending) (w':World):Prop:=∃S:CO,r=.returned (.pointer (some ⟨S.c,0,none⟩))/\Q9R S top limit period/\Step H (S.hl++H) w w'
theorem J0S:LOk (List.replicate 256 (noPl 0)):=⟨J2I,fun p hp=>by rw [J2G hp];exact⟨J4C _,J4C _⟩⟩
theorem Z9b:Fst (List.replicate 256 (noPl 0)) 0 (noPl 0):=⟨rfl,rfl,fun j q h _=>by omega⟩
theorem Z6P {w w1 w2 w3:World} {H:HL} {P:PL} {top period:Nat} {limit:Int} {t g:Nat} (hf:FreshP P top limit) (hl:P.cs.length=7) (h1:6<=top) (h0:64<=limit) (hm:limit<=1073741824) (AY:1<=period) (A4:period<=16)
  (s1:Step H (P.hl++H) w w1) (s2:Step (P.hl++H) ((⟨t,List.replicate 256 (noPl 0)⟩:HT).hl++(P.hl++H)) w1 w2) (s3:Step ((⟨t,List.replicate 256 (noPl 0)⟩:HT).hl++(P.hl++H)) (qhl g period 0 none []++((⟨t,List.replicate 256 (noPl 0)⟩:HT).hl++(P.hl++H))) w2 w3) :
  (w3.alloc (.cells #[.pointer (some ⟨P.p,0,none⟩),.pointer (some ⟨t,0,none⟩),.pointer (some ⟨g,0,none⟩)] 187)).cell? ⟨w3.heap.size,0,none⟩=some (.pointer (some ⟨P.p,0,none⟩)) /\
  (w3.alloc (.cells #[.pointer (some ⟨P.p,0,none⟩),.pointer (some ⟨t,0,none⟩),.pointer (some ⟨g,0,none⟩)] 187)).cell? ⟨w3.heap.size,2,none⟩=some (.pointer (some ⟨g,0,none⟩)) /\
  Calls prog 15 #[.pointer (some ⟨P.p,0,none⟩),.int .i64 0,.int .i64 1] (w3.alloc (.cells #[.pointer (some ⟨P.p,0,none⟩),.pointer (some ⟨t,0,none⟩),.pointer (some ⟨g,0,none⟩)] 187)) fun r w4=>r=.returned (.tuple #[.int .i64 64,.int .i64 0])/\w4.cell? ⟨w3.heap.size,1,none⟩=some (.pointer (some ⟨t,0,none⟩)) /\
   Calls prog 149 #[.pointer (some ⟨t,0,none⟩),.agg #[.int .i64 1,.int .i64 64,.int .i64 0]] w4 fun r w5=>(∃x y:Value,r=.returned (.tuple #[x,y]))/\Z6O top limit period H w (.returned (.pointer (some ⟨w3.heap.size,0,none⟩))) w5:=by
 have s123:=(s1.trans s2).trans s3;have s4:=s123.trans (s123.sep.new 187 [.pointer (some ⟨P.p,0,none⟩),.pointer (some ⟨t,0,none⟩),.pointer (some ⟨g,0,none⟩)]);have hc:=Cells.new w3 187 [.pointer (some ⟨P.p,0,none⟩),.pointer (some ⟨t,0,none⟩),.pointer (some ⟨g,0,none⟩)];obtain⟨S,hS⟩:∃S:CO,S=⟨w3.heap.size,P,t,List.replicate 256 (noPl 0),g,period,0,none,[],x0⟩:=⟨_,rfl⟩
 have B0:((w3.heap.size,isC 187 [.pointer (some ⟨P.p,0,none⟩),.pointer (some ⟨t,0,none⟩),.pointer (some ⟨g,0,none⟩)])::(qhl g period 0 none []++((⟨t,List.replicate 256 (noPl 0)⟩:HT).hl++(P.hl++H)))).Perm (S.hl++H):=by
  refine Q1e fun a=>?_
  rw [hS];simp only [CO.hl,CO.head,CO.ht,CO.qh,hc_append,hc_cons,ptr];omega
 have s5:=s4.perm (J5T _) B0;have sS:Sep (w3.alloc (.cells #[.pointer (some ⟨P.p,0,none⟩),.pointer (some ⟨t,0,none⟩),.pointer (some ⟨g,0,none⟩)] 187)) S.hl:=s5.sep.left;refine⟨hc.cell 0 _ rfl,hc.cell 2 _ rfl,?_⟩;have sP:=CO.sP sS;have eP:S.P=P:=by rw [hS]
 rw [eP] at sP;refine (Z9a sP hf hl h1 h0 hm).mono ?_;rintro r w4 ⟨rfl,P',gm,FW,hq,Bq,st⟩;have st':Step S.hl (S.setP P').hl _ w4:=CO.stepP sS P' (by rw [gm.same.p,hS]) (by rw [hS];exact st);have c1:=CO.c1 st'.sep;have By:=Z5P (h:=(S.setP P').ht) (CO.sT st'.sep) (by rw [hS];exact J0S) (i:=0) (p:=noPl 0) (by rw [hS];exact Z9b) 1 64 0 0;have ect:S.t=t:=by rw [hS]
 have ecc:S.c=w3.heap.size:=by rw [hS]
 have QX:w4.cell? ⟨w3.heap.size,1,none⟩=some (.pointer (some ⟨t,0,none⟩)):=by
  rw [<- ect,<- ecc];exact c1
 refine⟨rfl,QX,?_⟩;have LE:Calls prog 149 #[.pointer (some ⟨t,0,none⟩),.agg #[.int .i64 1,.int .i64 64,.int .i64 0]] w4 (PutT (S.setP P').ht ⟨1,64,0,1,(noPl 0).age,0⟩ 0 w4):=by
  rw [<- ect];exact By
 refine LE.mono ?_;rintro r w5 ⟨rfl,st5⟩;refine⟨⟨_,_,rfl⟩,(S.setP P').setL (newL 64),by show _=Ending.returned (.pointer (some ⟨S.c,0,none⟩));rw [ecc],?_,?_⟩
 ·have EB:=J0x hf hl h1 (by omega) hm gm;refine⟨⟨?_,?_,?_,?_,?_,?_,?_,?_⟩,rfl,?_,?_,?_,?_,Bq,FW,hq,by show S.xc=x0;rw [hS],fun j hj=>?_⟩
  ·show Inv P' (newL 64) [] S.xc (S.ts.map Prod.fst);rw [hS];exact EB
  ·show 1<=S.period/\_;rw [hS];exact⟨AY,A4⟩
  ·show ∀x∈S.ts,_;rw [hS];exact fun x hx=>by cases hx
  ·show S.ts.Pairwise _;rw [hS];exact .nil
  ·show ovOk S.rv S.ts.length;rw [hS];exact rfl
  ·show P'.q.next<=_;rw [Bq];decide
  ·show S.now<=0;rw [hS];exact J2y _
  ·intro p hp;rcases Q2A hp with rfl|rfl <;> exact J4C _
  ·show S.ts=[];rw [hS]
  ·show S.now=0;rw [hS]
  ·show S.period=period;rw [hS]
  ·show P'.d.top=top;rw [gm.same.top,hf.etop]
  ·show P'.usedOf j=[];rw [gm.other j (by omega)];unfold PL.usedOf;split
   ·split
    ·rename_i c hc;unfold CA.used;rw [(hf.cs _ c hc).2.2.2];rfl
    ·rfl
   ·rfl
 ·have e1:(S.setP P').ht.l.set 0 ⟨1,64,0,1,(noPl 0).age,0⟩=newL 64:=by rw [hS];rfl
  have st6:Step (S.setP P').hl ((S.setP P').setL (newL 64)).hl w4 w5:=by
   have:=CO.stepL (S:=S.setP P') st'.sep _ st5;rw [e1] at this;exact this
  have f1:=Step.frame [] H (by simpa using s5.sep) (st'.trans st6);simp only [J4K] at f1;exact s5.trans f1
theorem Z2c {w:World} {H:HL} (h:Sep w H) (top:Nat) (h1:6<=top) (h2:top<=20) (limit:Int) (h0:64<=limit) (hl:limit<=((2 ^ (top+10):Nat):Int)) (period:Nat) (AY:1<=period) (A4:period<=16) :
  Calls prog 78 #[.int .i64 ((2 ^ (top+10):Nat):Int),.int .i64 limit,.int .i64 period] w (Z6O top limit period H w):=by
 have b2:2 ^ (top+10)<=1073741824:=J2z (J3O (by omega) (by omega)) (by decide:2 ^ 30<=1073741824);have k1:=Z8g h top h1 h2 limit (by omega) hl;have HQ:Hid (∀r w1,J0w top limit H w r w1->∃pp,r=.returned (.pointer (some ⟨pp,0,none⟩))/\Calls prog 147 #[] w1 fun r w2=>∃t,r=.returned (.pointer (some ⟨t,0,none⟩)) /\
   Calls prog 148 #[.int .i64 period] w2 fun r w3=>∃g,r=.returned (.pointer (some ⟨g,0,none⟩)) /\
    (w3.alloc (.cells #[.pointer (some ⟨pp,0,none⟩),.pointer (some ⟨t,0,none⟩),.pointer (some ⟨g,0,none⟩)] 187)).cell? ⟨w3.heap.size,0,none⟩=some (.pointer (some ⟨pp,0,none⟩)) /\
    (w3.alloc (.cells #[.pointer (some ⟨pp,0,none⟩),.pointer (some ⟨t,0,none⟩),.pointer (some ⟨g,0,none⟩)] 187)).cell? ⟨w3.heap.size,2,none⟩=some (.pointer (some ⟨g,0,none⟩)) /\
    Calls prog 15 #[.pointer (some ⟨pp,0,none⟩),.int .i64 0,.int .i64 1] (w3.alloc (.cells #[.pointer (some ⟨pp,0,none⟩),.pointer (some ⟨t,0,none⟩),.pointer (some ⟨g,0,none⟩)] 187)) fun r w4=>r=.returned (.tuple #[.int .i64 64,.int .i64 0])/\w4.cell? ⟨w3.heap.size,1,none⟩=some (.pointer (some ⟨t,0,none⟩)) /\
     Calls prog 149 #[.pointer (some ⟨t,0,none⟩),.agg #[.int .i64 1,.int .i64 64,.int .i64 0]] w4 fun r w5=>(∃x y:Value,r=.returned (.tuple #[x,y]))/\Z6O top limit period H w (.returned (.pointer (some ⟨w3.heap.size,0,none⟩))) w5):=by
  rintro r w1 ⟨P,rfl,Ae,hf,s1⟩;refine⟨P.p,rfl,(Z8Z s1.sep).mono ?_⟩;rintro r w2 ⟨t,rfl,s2⟩;refine⟨t,rfl,(Z8s s2.sep period AY A4).mono ?_⟩;rintro r w3 ⟨g,rfl,s3⟩;exact⟨g,rfl,Z6P hf Ae h1 h0 (by omega) AY A4 s1 s2 s3⟩
 generalize Z6O top limit period H w=Q at *
 clear h;go_enter func78,ntmps78;go_wp2_with fail;refine k1.mono ?_;intro r w1 hx;obtain⟨pp,rfl,ht⟩:=HQ.out _ _ hx;have HT:=Q0a ht;clear hx ht HQ k1;go_wp2_with fail;refine HT.out.mono ?_;rintro r w2 ⟨t,rfl,hg⟩;have HG:=Q0a hg;clear hg HT;go_wp2_with fail;refine HG.out.mono ?_;rintro r w3 ⟨g,rfl,c0,c2,Bo⟩;have CZ:=Q0a Bo;clear Bo HG;go_wp2_with fail;refine CZ.out.mono ?_;rintro r w4 ⟨rfl,c1,By⟩;have Lz:=Q0a By;clear By CZ c0 c2;go_wp2_with fail;refine Lz.out.mono ?_;rintro r w5 ⟨⟨x,y,rfl⟩,hq⟩;have HX:=Q0a hq;clear hq Lz c1;go_wp2_with fail
 first|exact HX.out|(go_ret;exact HX.out)
def Aside (H:HL) (L:List Nat) (a:Option Addr) (w:World):Prop:=∀(j x:Nat),L[j]?=some x->∃g,a=some ⟨g,0,none⟩/\g∉keys H/\g<w.heap.size/\w.cell? ⟨g,j,none⟩=some (.int .u32 x)
theorem Aside.step {H H':HL} {L:List Nat} {a:Option Addr} {w w':World} (h:Aside H L a w) (st:Step H H' w w'):Aside H' L a w':=fun j x hj=>by
 obtain⟨g,h1,h2,h3,h4⟩:=h j x hj;refine⟨g,h1,fun hk=>?_,J2A h3 st.chg.size,(World.cell?_of_block (w:=w) (st.chg.block g h3 h2)).trans h4⟩;rcases st.new g hk with h'|h'
 ·exact h2 h'
 ·omega
theorem NewHs.aside {w w':World} {H:HL} {L:List Nat} {r:Ending} (h:NewHs w L r w') (hs:Sep w H):∃(a:Option Addr) (cap:Nat),r=.returned (.slice a L.length cap)/\Below w.heap.size w w'/\Aside H L a w':=by
 obtain⟨a,cap,e,hb,hi⟩:=h.shape;refine⟨a,cap,e,hb,fun j x hj=>?_⟩;obtain⟨g,h1,h2,h3,h4⟩:=hi.at' j x hj;exact⟨g,h1,fun hk=>by have:=hs.lt hk;omega,h3,h4⟩
theorem OutH.app {w wr:World} {v:Value} {L:List Nat} (h:OutH w wr v L) (hl:L.length<=16777216) (x:Nat) (ty:TypeId):∃v' w',(Builtin.append_ #[51,51] ty #[v,.slice (some ⟨wr.heap.size,0,none⟩) 1 1]).run prog (wr.alloc (.cells #[.int .u32 x] 58))=.ok v' w'/\OutH w w' v' (L++[x]):=by
 obtain⟨i0,hi,BH,Bi,Be⟩:=info_parts Q3B;have h2:=h.below ((Below.refl _ _).alloc (J2y _) (.cells #[.int .u32 x] 58));obtain⟨v',w',hr,q1,q2,_,q4⟩:=run_append_own_at (P:=prog) (wr.alloc (.cells #[.int .u32 x] 58)) w.heap.size 51 ty 58 i0 (.int .u32 0) 1 4 underlying51 hi BH Bi Be rfl (by decide) v L.length (Q1b L) h2.1 ⟨wr.heap.size,0,none⟩ 1 1 [.int .u32 x] rfl (by
  intro j u hj;have:=(Cells.new wr 58 [.int .u32 x]).cell j u hj;have e:(⟨wr.heap.size,0,none⟩:Addr).add j=⟨wr.heap.size,j,none⟩:=by unfold Addr.add;split <;> simp_all
  rw [e];exact this) (fun u hu=>by rw [J4H.1 hu];rfl) (by unfold maxLen;omega) (by omega) h2.2.size
 refine⟨v',w',hr,?_,?_⟩
 ·rw [J3j,hands_app];exact q1
 ·exact h2.2.trans ((Below.refl _ _).mono h2.2.size |>.grown q2 h2.2.size (fun b hb=>(h2.1.lt b hb).1))
def Z3P (S:CO) (h:Nat):List Nat:=Q0L S.l S.P.q.next.toNat h++[h]
def KillR (Z:SP) (fr:List Nat) (N K:Nat) (M:Int) (h:Nat) (w:World) (r:Ending) (w':World):Prop:=
 (pget Z.S.l 1 h=none/\r=.returned (.tuple #[.slice none 0 0,.int .i64 8])/\Below w.heap.size w w') ∨
 (h=0/\r=.returned (.tuple #[.slice none 0 0,.int .i64 1])/\Below w.heap.size w w') ∨
 (h≠0/\(∃p,pget Z.S.l 1 h=some p)/\∃(a:Option Addr) (cap:Nat),r=.returned (.tuple #[.slice a (Z3P Z.S h).length cap,.int .i64 0])/\∃Z',KillI Z fr N K M (Z3P Z.S h) Z'/\Step Z.hl Z'.hl w w'/\Aside Z'.hl (Z3P Z.S h) a w')
theorem Z3Q {wr w:World} {Z Z1:SP} {fr:List Nat} {N K:Nat} {M:Int} {A:List Nat} (hK:K<=1048576) (hlz:Z.S.l.length<=256) (I:KillI Z fr N K M A Z1) (st:Step Z.hl Z1.hl w wr) {x:Nat} (hx:x<4294967296) {q:Pl} (hq:pget Z.S.l 1 x=some q) (h0:x≠0) (hA:x∉A) (hk:∀y∈kids Z.S.l x,y∈A) :
  Calls prog 163 #[.pointer (some ⟨Z.s,0,none⟩),.int .u32 x] wr fun r w2=>∃v:Value,r=.returned v /\
   Calls prog 164 #[.pointer (some ⟨Z.s,0,none⟩),.int .u32 x] w2 fun r w3=>∃v:Value,r=.returned v/\w3.cell? ⟨Z.s,0,none⟩=some (.pointer (some ⟨Z.S.c,0,none⟩)) /\
    Calls prog 165 #[.pointer (some ⟨Z.S.c,0,none⟩),.int .u32 x] w3 fun r w4=>∃v:Value,r=.returned v/\∃Z4,KillI Z fr N K M (A++[x]) Z4/\Step Z1.hl Z4.hl wr w4:=by
 have kw:=Q9M st.sep I.ok hx;rw [I.s] at kw;refine kw.mono ?_;rintro r w2 ⟨rfl,Z2,ok2,a2,s2,st2⟩;refine⟨_,rfl,?_⟩;have kp:=Q7B st2.sep ok2 x;rw [s2.s,I.s] at kp;refine kp.mono ?_;rintro r w3 ⟨rfl,Z3,ok3,a3,s3,st3⟩;obtain⟨⟨J3,Jq⟩,BB⟩:=I.next (p:=q) hlz hq h0 hA hk ok2 a2 s2 ok3 a3 s3;have hc:=SP.c0 st3.sep;rw [s3.s,s2.s,I.s,s3.alt.c,s2.alt.c,I.c] at hc;refine⟨_,rfl,hc,?_⟩;have kd:=Z8S (SP.sS st3.sep) ok3.core hK hx J3 h0 Jq;rw [s3.alt.c,s2.alt.c,I.c] at kd;refine kd.mono ?_;rintro r w4 (⟨h1,_⟩|⟨_,h1,_⟩|⟨_,_,h1,_⟩|⟨p,rv,hp,_,_,DF,rfl,st4⟩)
 ·rw [J3] at h1;cases h1
 ·exact absurd h1 h0
 ·exact absurd Jq h1
 ·rw [J3] at hp;cases hp;have I4:=BB J3 DF;refine⟨_,rfl,_,I4,?_⟩;exact (st2.trans st3).trans (SP.stepS st3.sep (Z3.S.doomed x q rv) Z3.tb rfl st4)
theorem Q9S {w:World} {Z:SP} {fr:List Nat} {N K:Nat} {M:Int} (hs:Sep w Z.hl) (ok:Z.Ok fr N K M) (hK:K<=1048576) {h:Nat} (hh:h<4294967296) :
  Calls prog 84 #[.pointer (some ⟨Z.s,0,none⟩),.int .u32 h] w (KillR Z fr N K M h w):=by
 have c0:=SP.c0 hs;cases hp:pget Z.S.l 1 h with
 | none =>
  have ko:=Q4J (SP.sS hs) ok.core.inv.lok hh 0 hp;unfold zobj at ko;have HR:Hid (∀W,Below w.heap.size w W->KillR Z fr N K M h w (.returned (.tuple #[.slice none 0 0,.int .i64 8])) W):=fun W hb=>.inl ⟨hp,rfl,hb⟩
  clear hs ok hp;go_enter func84,ntmps84;go_wp2_with fail;refine ko.mono ?_;rintro r w2 ⟨rfl,Ag⟩;have HQ:=Q0a (HR.out _ (Ag.alloc Ag.size (.cells #[.int .i64 0,.int .i64 0,.int .i64 0] 54)));clear Ag HR ko;go_wp2_with fail
  first|exact HQ.out|(go_ret2;exact HQ.out)
 | some p =>
  have ko:=Q3I (SP.sS hs) ok.core.inv.lok hh 0 hp (.inl rfl);unfold Pl.obj at ko;by_cases h0:h=0
  ·subst h0;have HR:Hid (∀W,Below w.heap.size w W->KillR Z fr N K M 0 w (.returned (.tuple #[.slice none 0 0,.int .i64 1])) W):=fun W hb=>.inr (.inl ⟨rfl,rfl,hb⟩)
   clear hs ok hp;go_enter func84,ntmps84;go_wp2_with fail;refine ko.mono ?_;rintro r w2 ⟨rfl,Ag⟩;have HQ:=Q0a (HR.out _ (Ag.alloc Ag.size (.cells #[.int .i64 (p.kind:Int),.int .i64 (p.at_:Int),.int .i64 (p.fac:Int)] 54)));clear Ag HR ko;go_wp2_with fail
   first|exact HQ.out|(go_ret2;exact HQ.out)
  ·have HS:=Q0a hs;have CC:=Q0a ok;have HK:=Q0a hK;have HP:=Q0a hp;have Up:=Q0a h0;have BI:(((h:Nat):Int)==0)=false:=by simp;omega
   have HU:Hid (∀W,Below w.heap.size w W->W.cell? ⟨Z.s,0,none⟩=some (.pointer (some ⟨Z.S.c,0,none⟩))/\Calls prog 162 #[.pointer (some ⟨Z.S.c,0,none⟩),.int .u32 h] W (NewHs W (Q0L Z.S.l Z.S.P.q.next.toNat h))):=fun W hb=>by
    have s1:=(hs.grown hb).sep;exact⟨SP.c0 s1,Z3J (SP.sS s1) ok.core hh⟩
   have EK:=Q0a (Z6G ok.core.inv.tree hp h0);have Sd:(Q0L Z.S.l Z.S.P.q.next.toNat h++[h]).length<=256:=by
    have h1:=Z4h ok.core.inv.tree h;rw [Q4y ok.core.inv.tree,J3k,J6V] at h1
    simpa using h1
   have Rj:=Q0a Sd;have T6:Hid (Z.S.l.length<=256):=by show Z.S.l.length<=256;rw [ok.core.inv.len];omega
   clear hs ok hp h0 hK;go_enter func84,ntmps84;go_wp2_with fail;refine ko.mono ?_;rintro r w2 ⟨rfl,Ag⟩;have Ar:=Ag.alloc Ag.size (.cells #[.int .i64 (p.kind:Int),.int .i64 (p.at_:Int),.int .i64 (p.fac:Int)] 54);obtain⟨d0,ku⟩:=HU.out _ Ar;have GU:=Q0a Ar;clear Ag Ar ko HU;go_wp2_with fail;refine ku.mono ?_;rintro r w4 ⟨v4,rfl,I1,Ia⟩;have hO:OutH (w2.alloc (.cells #[.int .i64 (p.kind:Int),.int .i64 (p.at_:Int),.int .i64 (p.fac:Int)] 54)) w4 v4 (Q0L Z.S.l Z.S.P.q.next.toNat h):=⟨I1,Ia⟩
   obtain⟨v5,w5,Ba,PF⟩:=hO.app (by have:=Rj.out;rw [J3j] at this;omega) h 51;have Ck:NewHs (w2.alloc (.cells #[.int .i64 (p.kind:Int),.int .i64 (p.at_:Int),.int .i64 (p.fac:Int)] 54)) (Q0L Z.S.l Z.S.P.q.next.toNat h++[h]) (.returned v5) w5:=⟨v5,rfl,PF.1,PF.2⟩
   obtain⟨a,cap,e,AL,has⟩:=Ck.aside (HS.out.grown GU.out).sep;obtain rfl:v5=.slice a (Q0L Z.S.l Z.S.P.q.next.toNat h++[h]).length cap:=by cases e;rfl
   have Kp:Hid (Step Z.hl Z.hl w w5/\Aside Z.hl (Q0L Z.S.l Z.S.P.q.next.toNat h++[h]) a w5):=⟨HS.out.grown (GU.out.trans (AL.mono GU.out.size)),has⟩
   have IZ:Hid (Z3P Z.S h=Q0L Z.S.l Z.S.P.q.next.toNat h++[h]):=rfl;generalize hL:Q0L Z.S.l Z.S.P.q.next.toNat h++[h]=L at *
   generalize hn:L.length=n at *
   have HN:=Q0a hn;clear I1 Ia hO PF Ck AL has e Sd ku d0;go_wp2_with (at_builtin;refine Lib.wpList_append_run _ rfl _ _ _ _ rfl _ _ rfl rfl _ _ Ba ?_);clear Ba;go_wp2_with fail
   go_loopg [40] n (fun gk iv wr=>∃(k:Nat) (Z1:SP),iv=.int .i64 k/\k+gk=n/\KillI Z fr N K M (L.take k) Z1/\Step Z.hl Z1.hl w wr/\Aside Z1.hl L a wr)
   case atStart=>exact⟨0,Z,rfl,by omega,KillI.start CC.out,Kp.out.1,Kp.out.2⟩
   case round =>
    obtain⟨k,Z1,rfl,AH,hI,Ao,has⟩:=hrel;have Cv:=Q0a AH;have HI:=Q0a hI;have BP:=Q0a Ao;have SK:=Q0a has;by_cases Ab:k<n
    ·obtain⟨x,hx⟩:∃x,L[k]?=some x:=⟨_,J4R (by rw [HN.out];exact Ab)⟩
     obtain⟨g,rfl,_,_,GD⟩:=has k x hx;have G5:L=L.take k++x::L.drop (k+1):=by
      obtain⟨I2,hg⟩:=J2Q.1 hx;rw [<- hg,J3y,J3z]
     obtain⟨q,hq,Cl,Nu,IE⟩:=EK.out _ _ _ G5;have Gn:x<4294967296:=by
      obtain⟨a1,a2,_⟩:=pget_some.1 hq;have:=(CC.out.core.inv.lok.2 q (J4O a1)).2;unfold nm at a2;omega
     have kr:=Z3Q HK.out T6.out HI.out BP.out Gn hq Cl Nu IE;have AR:L.take (k+1)=L.take k++[x]:=by rw [J4w,hx];rfl
     rw [<- AR] at kr;have C2:(k:Int)<(n:Int):=by omega
     have Bs:(0:Int)<=(k:Int):=by omega
     have FJ:(k:Int)<=256:=by have:=Rj.out;omega
     clear hI Ao has AH hx G5 hq Cl Nu IE Gn AR Kp;go_wp2_with fail;refine kr.mono ?_;rintro r w6 ⟨v6,rfl,k6⟩;have MO:=Q0a k6;clear k6 kr GD;go_wp2_with fail;refine MO.out.mono ?_;rintro r w7 ⟨v7,rfl,d7,k7⟩;have Q9:=Q0a k7;clear k7 MO;go_wp2_with fail;refine Q9.out.mono ?_;rintro r w8 ⟨v8,rfl,Z4,Qg,JM⟩;have HX:Hid (KillI Z fr N K M (L.take (k+1)) Z4/\Step Z.hl Z4.hl w w8/\Aside Z4.hl L (some ⟨g,0,none⟩) w8):=⟨Qg,BP.out.trans JM,SK.out.step JM⟩
     clear Qg JM Q9 d7;go_wp2_with fail;go_roundg (n-(k+1))
     case measure=>have:=Cv.out;omega
     case rel=>exact⟨k+1,Z4,by go_num,by have:=Cv.out;omega,HX.out⟩
    ·obtain rfl:k=n:=by have:=Cv.out;omega
     have HR:Hid (KillR Z fr N K M h w (.returned (.tuple #[.slice a k cap,.int .i64 0])) wr):=by
      refine .inr (.inr ⟨Up.out,⟨p,HP.out⟩,a,cap,?_,Z1,?_,Ao,?_⟩)
      ·rw [IZ.out,HN.out]
      ·rw [IZ.out,<- J6J (l:=L),HN.out];exact hI
      ·rw [IZ.out];exact has
     clear hI Ao has AH;go_wp2_with fail
     first|exact HR.out|(go_ret2;exact HR.out)
def GoesZ (Z:SP) (N K:Nat) (M:Int) (w w':World):Prop:=∃(Z':SP) (fr':List Nat),Z'.Ok fr' N K M/\GoneZ Z Z'/\Step Z.hl Z'.hl w w'
theorem GoesZ.mono {Z:SP} {N N' K K':Nat} {M M':Int} {w w':World} (h:GoesZ Z N K M w w') (h1:N<=N') (h2:K<=K') (h3:M<=M'):GoesZ Z N' K' M' w w':=by
 obtain⟨Z',fr',a,b,c⟩:=h;exact⟨Z',fr',a.mono h1 h2 h3,b,c⟩
section
variable {Z:SP} {fr:List Nat} {N K:Nat} {M:Int} {w w':World}
theorem GoesZ.of (hs:Sep w Z.hl) (ok:Z.Ok fr N K M) (hb:Below w.heap.size w w'):GoesZ Z N K M w w':=⟨Z,fr,ok,GoneZ.refl Z,hs.grown hb⟩
theorem GoesZ.same {Z':SP} (ok:Z'.Ok fr N K M) (s:SameZ Z Z') (st:Step Z.hl Z'.hl w w'):GoesZ Z N K M w w':=⟨Z',fr,ok,s.toSameN.gone,st⟩
theorem GoesZ.at {w1 w2:World} (hs:Sep w Z.hl) (hb:Below w.heap.size w w1) (h:GoesZ Z N K M w1 w2):GoesZ Z N K M w w2:=by
 obtain⟨Z',fr',a,b,c⟩:=h;exact⟨Z',fr',a,b,(hs.grown hb).trans c⟩
theorem BackZ.goes (ok:Z.Ok fr N K M) {y:Nat} {own:Int} (h:BackZ Z fr N K y own w w'):GoesZ Z N K M w w':=by
 obtain⟨Z',a,_,b,c⟩:=h.ok ok;exact .same a b c
theorem RootR.goes (hs:Sep w Z.hl) (ok:Z.Ok fr N K M) {x h:Nat} {z r er:Int} (R:RootR Z fr N K M x z h r w er w'):GoesZ Z N K (M+1) w w':=by
 rcases R with ⟨_,_,hb⟩|⟨s,rn,p,q,_,_,_,_,_,hp,hk,_,_,_,⟨_,Z',a,b,_,_,_,c⟩|⟨_,_,P',tr,st⟩⟩
 ·exact (GoesZ.of hs ok hb).mono (J2y _) (J2y _) (by omega)
 ·exact⟨Z',fr,a,b.gone,c⟩
 ·refine GoesZ.mono ?_ (J2y _) (J2y _) (show M<=M+1 by omega);refine BackZ.goes (y:=x) (own:=p.fac) ok (LaidP.back (x:=x) (A:=fun _=>⟨0,0,0,false⟩) ok hp hk ((LaidP.start (x:=x) (A:=fun _=>⟨0,0,0,false⟩) ok (p.fac:Int)).tried tr) ?_);rw [Q1k];exact st
theorem MoveR.goes (ok:Z.Ok fr N K M) {x y n:Nat} {A:Nat->Mv} {er:Int} (R:MoveR Z fr N K M x y n A w er w'):GoesZ Z N K (M+n) w w':=by
 rcases R with ⟨_,_,own,h⟩|⟨p1,p2,_,_,_,_,_,⟨_,a,Z',_,_,h1,h2,_,h3⟩|⟨_,_,h⟩⟩
 ·exact (h.goes ok).mono (J2y _) (J2y _) (by omega)
 ·exact⟨Z',fr,h1,h2.gone,h3⟩
 ·exact (h.goes ok).mono (J2y _) (J2y _) (by omega)
theorem RevR.goes (hs:Sep w Z.hl) (ok:Z.Ok fr N K M) {x:Nat} {z mask:Int} {self:Bool} {r:Ending} (R:RevR Z fr N K M x z mask self w r w'):(∃a b:Value,r=.returned (.tuple #[a,b]))/\GoesZ Z N K M w w':=by
 rcases R with ⟨e,rfl,hb,_⟩|⟨s,m,n,en,_,_,_,_,_,_,_,_,_,rfl,Z',a,_,b,c⟩
 ·exact⟨⟨_,_,rfl⟩,.of hs ok hb⟩
 ·exact⟨⟨_,_,rfl⟩,.same a b c⟩
theorem KillI.gone {A:List Nat} {Z1:SP} (I:KillI Z fr N K M A Z1) (h0:0∉A):GoneZ Z Z1:=⟨I.s,I.f,I.c,I.per,I.same,by rw [I.live 0,if_neg h0]⟩
theorem KillR.goes (hs:Sep w Z.hl) (ok:Z.Ok fr N K M) {h:Nat} {r:Ending} (R:KillR Z fr N K M h w r w'):(∃a b:Value,r=.returned (.tuple #[a,b]))/\GoesZ Z N K M w w':=by
 rcases R with ⟨_,rfl,hb⟩|⟨_,rfl,hb⟩|⟨h0,⟨p,hp⟩,a,cap,rfl,Z',I,st,_⟩
 ·exact⟨⟨_,_,rfl⟩,.of hs ok hb⟩
 ·exact⟨⟨_,_,rfl⟩,.of hs ok hb⟩
 ·refine⟨⟨_,_,rfl⟩,Z',fr,I.ok,I.gone fun hm=>?_,st⟩;obtain⟨A,B,e⟩:=J6F hm;obtain⟨_,_,h2,_⟩:=Z6G ok.core.inv.tree hp h0 A 0 B e;exact h2 rfl
theorem MkR.goes (ok:Z.Ok fr N K M) {x hh:Nat} {z k er:Int} (R:MkR Z fr N K M x z k w hh er w'):GoesZ Z (N+1) K (M+1) w w':=by
 rcases R with ⟨_,_,own,h⟩|⟨_,Z',fr',s,i,q,q',_,_,_,_,_,_,_,_,a,b,_,_,c⟩
 ·exact (h.goes ok).mono (J6Q _) (J2y _) (by omega)
 ·exact⟨Z',fr',a,b,c⟩
theorem MakeR.goesZ (hs:Sep w Z.hl) (ok:Z.Ok fr N K M) {y:Nat} {k lim:Int} {r:Ending} (m:MakeR Z.S fr y k lim w r w'):(∃(x:Nat) (er:Int),r=two x er)/\GoesZ Z (N+1) K M w w':=by
 rcases m.cases ok.core with ⟨er,P',_,rfl,tr,st⟩|⟨f,n,e,i,q,a,v,P',fr',hf,Dd,_,hn,he,hi,hq,rfl,mk,st⟩
 ·refine⟨⟨0,er,rfl⟩,Z.setS (Z.S.setP P') Z.tb,fr,?_,(tr.alt (S:=Z.S) 0).gone _,SP.stepS hs _ _ rfl st⟩;exact SP.Ok.mono ⟨ok.core.tried tr,ok.tpi.tried ok.core tr,ok.fpi,ok.fo,ok.next⟩ (J6Q _) (J2y _) (J6E _)
 ·exact⟨⟨nm i q,0,rfl⟩,Z.setS (Z.S.made f n a v i q P') Z.tb,fr',⟨mk.ok ok.core hi,ok.tpi.made ok.core mk hi hq,ok.fpi.made hi hq (ok.tpi.nil i q hi (by omega)),ok.fo,ok.next⟩,(mk.went ok.core hi hq).gone _,SP.stepS hs _ _ rfl st⟩
theorem TickR.goesZ (hs:Sep w Z.hl) (ok:Z.Ok fr N K M) {r:Ending} (m:TickR Z.S fr N K w r w'):(∃v:Value,r=.returned v)/\GoesZ Z N (K+1) M w w':=by
 obtain⟨rv,S',fr',v,rfl,_,_,t,ok',st,_⟩:=m;have wn:Went Z.S S':=t.went;have tz:TPI (Z.S.setG (Z.S.now+1) rv (dueT Z.S)) Z.tb:=⟨ok.tpi.tin,ok.tpi.full,ok.tpi.nil,ok.tpi.lvs,ok.tpi.nds,ok.tpi.xc⟩
 exact⟨⟨v,rfl⟩,Z.setS S' Z.tb,fr',⟨ok',TPI.ticked (D:=[]) (S:=Z.S.setG (Z.S.now+1) rv (dueT Z.S)) ok.core.inv.len ok'.inv.len tz t.live t.mem t.high t.xc,ok.fpi.live t.live,ok.fo,ok.next⟩,wn.gone _,SP.stepS hs _ _ wn.c st⟩
end
end Go.Proofs.YtfidemmgofcnmaaGreatDoor
