/- SpaceRevokes returns true at every input. No condition. Part of its proof. -/
import Derived.Test.YtlakjlmaboioiaaGreatDoorSv13
import Derived.Great.Ranges
set_option maxHeartbeats 8000000
set_option maxRecDepth 100000
set_option linter.unusedVariables false
namespace Go.Proofs.YtlakjlmaboioiaaGreatDoor
open Go.RowKit Go.Proofs.Tryz
theorem Q4C {α:Type} (f:α->Int) {l:List α} (h:∀x∈l,0<=f x) {a:α} (ha:a∈l):f a<=(l.map f).sum:=by
 have nn:∀l:List α,(∀x∈l,0<=f x)->0<=(l.map f).sum:=by
  intro l
  induction l with
  | nil=>simp
  | cons x r ih =>
   intro h;rw [J1O,J5y];have:=h x (by simp);have:=ih fun y hy=>h y (by simp [hy])
   omega
 induction l with
 | nil=>cases ha
 | cons x r ih =>
  rw [J1O,J5y];have h1:=h x (by simp);have h2:∀y∈r,0<=f y:=fun y hy=>h y (by simp [hy])
  rcases J1Q.1 ha with rfl|ha
  ·have:=nn r h2;omega
  ·have:=ih h2 ha;omega
theorem Z8i {q:QT} (ok:q.Ok) {l:List Pl} {xc:Int->Int} (t:TreI q.E l xc) {par id:Int} {e c:En Fa} (he:find q.E par=some e) (hc:find q.E id=some c) (hp:c.q.parent=par):c.q.limit<=e.q.given/\1<=e.q.kids:=by
 obtain⟨g1,g2⟩:=t.given par e he;have hm:c∈q.E:=(Q0b hc).1;have DS:∀x∈q.E,0<=x.q.limit:=fun x hx=>by
  have:=ok.fa _ _ (Q3Z ok.ids hx);omega
 have k1:givF par c<=(q.E.map (givF par)).sum:=Q4C _ (fun x hx=>by have:=DS x hx;unfold givF;split <;> omega) hm;have k2:kidF par c<=(q.E.map (kidF par)).sum:=Q4C _ (fun x _=>by unfold kidF;split <;> omega) hm;unfold Q1P at g1;unfold Q1Q at g2;unfold givF at k1;unfold kidF at k2;rw [if_pos hp] at k1 k2;unfold givF at g1;unfold kidF at g2;omega
theorem Inv.wordf {P:PL} {l:List Pl} {fr:List Nat} {xc:Int->Int} {zs:List Nat} (v:Inv P l fr xc zs) {p:Pl} (hp:p∈l) (hi:p.is=true) (hk:p.kind=1):Q0u P.a.mem p.at_=p.own/\p.at_%8=0/\p.at_+8<=P.a.mem.length/\p.own<1048576:=by
 have hu:=v.mem.used hp hi (by omega);rw [hk] at hu;have h1:=Q0m v.mem.pool hu;have:Q0c 1=64:=rfl;refine⟨v.mem.word p hp hi hk,Q2q v.mem.pool hu,by omega,?_⟩;obtain⟨e,he⟩:=v.tre.acc hp hi hk;have h2:=v.mem.pool.q.fa _ e he;have h3:=v.mem.pool.q.next1;omega
theorem Q3V {α:Type} (p:α->Bool):∀l:List α,l.drop (l.takeWhile p).length=l.dropWhile p
 | []=>rfl
 | x::r=>by
  rw [List.takeWhile_cons,List.dropWhile_cons];cases h:p x with
  | true=>simpa using Q3V p r
  | false=>simp
def Z5Q (S1:CO) (N K h:Nat) (zs:List Nat) (wr w5:World):Prop:=∃S2 fr2,Mid S2 fr2 N K zs/\Ticked S1 S2 [h]/\Step S1.hl S2.hl wr w5
def TF (S:CO) (bx k a f:Nat) (w':World):Prop:=w'.cell? ⟨S.c,0,none⟩=some (.pointer (some ⟨S.P.p,0,none⟩))/\w'.cell? ⟨S.P.p,0,none⟩=some (.pointer (some ⟨S.P.q.t,0,none⟩))/\w'.cell? ⟨bx,0,none⟩=some (.int .i64 k)/\w'.cell? ⟨bx,1,none⟩=some (.int .i64 a)/\w'.cell? ⟨bx,2,none⟩=some (.int .i64 f)
theorem TF.of {w1 w2:World} {S:CO} {l':List Pl} {P':PL} (h1:Sep w1 (S.setL l').hl) {w0:World} (st:Step (S.setL l').hl ((S.setL l').setP P').hl w0 w2) (hp:P'.p=S.P.p) (hq:P'.q.t=S.P.q.t) (hl:w1.heap.size<w0.heap.size) {k a f:Nat}
  (e0:w0.cell? ⟨w1.heap.size,0,none⟩=some (.int .i64 k)) (e1:w0.cell? ⟨w1.heap.size,1,none⟩=some (.int .i64 a)) (e2:w0.cell? ⟨w1.heap.size,2,none⟩=some (.int .i64 f)):TF S w1.heap.size k a f w2:=by
 have c:=CO.c0 st.sep;have p0:=PL.c0 (CO.sP st.sep);have e:((S.setL l').setP P').P=P':=rfl;rw [e,hp] at c p0;rw [hq] at p0;exact⟨c,p0,st.box h1 hl e0,st.box h1 hl e1,st.box h1 hl e2⟩
theorem Z2S {wr:World} {S1:CO} {fr1:List Nat} {N K h:Nat} {zs:List Nat} (hs:Sep wr S1.hl) (m:Mid S1 fr1 N K (h::zs)) (hK:K<=1048575) :
  ∃p:Pl,pget S1.l 2 h=some p/\h<4294967296/\Calls prog 135 #[.pointer (some ⟨S1.t,0,none⟩),.int .u32 h] wr fun r w1=>r=.returned (.tuple #[.agg #[.int .i64 (p.kind:Int),.int .i64 (p.at_:Int),.int .i64 (p.fac:Int)],.int .i64 0])/\wr.heap.size<=w1.heap.size/\S1.c<w1.heap.size /\
   (p.kind≠1->Calls prog 71 #[.pointer (some ⟨S1.c,0,none⟩),.agg #[.int .i64 (p.kind:Int),.int .i64 (p.at_:Int),.int .i64 (p.fac:Int)]] (w1.alloc (.cells #[.int .i64 (p.kind:Int),.int .i64 (p.at_:Int),.int .i64 (p.fac:Int)] 69)) fun r w5=>r=.returned (.tuple #[])/\Z5Q S1 N K h zs wr w5) /\
   (p.kind=1->TF S1 w1.heap.size p.kind p.at_ p.fac (w1.alloc (.cells #[.int .i64 (p.kind:Int),.int .i64 (p.at_:Int),.int .i64 (p.fac:Int)] 69)) /\
    Calls prog 137 #[.pointer (some ⟨S1.c,0,none⟩),.agg #[.int .i64 (p.kind:Int),.int .i64 (p.at_:Int),.int .i64 (p.fac:Int)]] (w1.alloc (.cells #[.int .i64 (p.kind:Int),.int .i64 (p.at_:Int),.int .i64 (p.fac:Int)] 69)).drew fun r w3=>r=.returned (.int .i64 (p.own:Int))/\TF S1 w1.heap.size p.kind p.at_ p.fac w3 /\
     Calls prog 136 #[.pointer (some ⟨S1.P.q.t,0,none⟩),.int .i64 (p.own:Int)] w3 fun r w4=>r=.returned (.int .i64 0)/\TF S1 w1.heap.size p.kind p.at_ p.fac w4 /\
      Calls prog 71 #[.pointer (some ⟨S1.c,0,none⟩),.agg #[.int .i64 (p.kind:Int),.int .i64 (p.at_:Int),.int .i64 (p.fac:Int)]] w4 fun r w5=>r=.returned (.tuple #[])/\Z5Q S1 N K h zs wr w5):=by
 obtain⟨p,hp⟩:=(m.inv.que.has h).1 (by simp);obtain⟨hi,Kk,Ao⟩:=pget_some.1 hp;have BG:=Q0B hp;have Co:p.is=true:=Pl.is_iff.2 (.inr Ao);have DB:=(m.age p BG).2 Ao;have EL:=m.now;have QH:=(m.inv.st p BG).2;have Kv:h<4294967296:=by unfold nm at Kk;omega
 have Ba:=m.inv.lok;have B7:=m.inv.mem.pool;obtain⟨e,he⟩:=m.inv.tre.fac p BG Co;have Ix:=m.inv.tre.pays BG Co (m.inv.que.xc _).1 he;refine⟨p,hp,Kv,?_⟩;refine Calls.mono (Z2C (h:=S1.ht) (CO.sT hs) Ba Kv hp (by omega)) ?_;rintro r w1 ⟨rfl,st⟩;have s1:Step S1.hl (S1.setL (S1.l.set (h%256) (noPl (p.age+1)))).hl wr w1:=CO.stepL hs _ st;have AK:S1.c<w1.heap.size:=(CO.cells s1.sep).lt;have hB:=Cells.new w1 69 [.int .i64 (p.kind:Int),.int .i64 (p.at_:Int),.int .i64 (p.fac:Int)];have sA:=s1.sep.grown (((Below.refl _ w1).alloc (J1L _) (.cells #[.int .i64 (p.kind:Int),.int .i64 (p.at_:Int),.int .i64 (p.fac:Int)] 69)))
 refine⟨rfl,s1.chg.size,AK,fun hk=>?_,fun hk=>?_⟩
 ·have BS:Held S1.P fr1 p.fac p.kind p.at_ e:=⟨he,Ix,fun h8=>m.inv.mem.used BG Co h8,fun h8=>m.inv.mem.frame BG Co h8⟩
  refine Calls.mono (Q7X (S:=S1.setL (S1.l.set (h%256) (noPl (p.age+1)))) sA.sep B7 BS) ?_;rintro r w5 ⟨rfl,P',fr',bk,st5⟩;have EQ:=m.inv.freeN hp hk bk (by omega);obtain⟨e',q1,_,q3⟩:=bk.q;obtain⟨m2,t2⟩:=m.freed hp bk.same bk.mem (by rw [q3];rfl) (bk.high B7 (by have:=m.inv.kind hp (.inr rfl);omega)) bk.few EQ;exact⟨rfl,_,fr',m2,t2,(s1.trans sA).trans st5⟩
 ·obtain⟨h0,Aq,c,hc,c1,c2,c3,c4⟩:=m.inv.last hp hk;obtain⟨k1,k2,k3,k4⟩:=m.inv.wordf BG Co hk;obtain⟨k5,k6⟩:=Z8i B7.q m.inv.tre he hc c4;have Aa:(p.own:Int)≠p.fac:=by
   have:=(m.inv.tre.par p BG Co hk c hc).2 h0;omega
  have KZ:=B7.q.fa _ c hc;have CJ:w1.heap.size<(w1.alloc (.cells #[.int .i64 (p.kind:Int),.int .i64 (p.at_:Int),.int .i64 (p.fac:Int)] 69)).heap.size:=by simp
  have F0:TF S1 w1.heap.size p.kind p.at_ p.fac (w1.alloc (.cells #[.int .i64 (p.kind:Int),.int .i64 (p.at_:Int),.int .i64 (p.fac:Int)] 69)):=⟨CO.c0 (S:=S1.setL (S1.l.set (h%256) (noPl (p.age+1)))) sA.sep,PL.c0 (CO.sP (S:=S1.setL (S1.l.set (h%256) (noPl (p.age+1)))) sA.sep),hB.cell 0 _ rfl,hB.cell 1 _ rfl,hB.cell 2 _ rfl⟩
  refine⟨F0,?_⟩;refine Calls.mono (Q8M (k:=p.kind) (f:=p.fac) sA.sep.drew B7.bytes (Q0o B7) k2 k3 k1 k4) ?_;rintro r w3 ⟨rfl,hb⟩;have sW:=sA.drew.sep.grown hb;have s3:=sA.drew.trans sW;have Vv:=sW.chg.size;have F3:TF S1 w1.heap.size p.kind p.at_ p.fac w3:=TF.of (P':=S1.P) s1.sep sW rfl rfl CJ F0.2.2.1 F0.2.2.2.1 F0.2.2.2.2;refine⟨rfl,F3,?_⟩;have hq:=Z5E (PL.sQ (CO.sP s3.sep)) B7.q (id:=(p.own:Int)) hc (by omega) c1 c2 c3 (by rw [c4];exact he) k5 (by omega);refine Calls.mono hq ?_;rintro r w4 ⟨rfl,st4⟩;rw [c4] at st4;have s4:=CO.stepP s3.sep (S1.P.setQ (closed S1.P.q p.fac e c p.own)) rfl (PL.stepQ (CO.sP s3.sep) (closed S1.P.q p.fac e c p.own) rfl st4)
  have F4:TF S1 w1.heap.size p.kind p.at_ p.fac w4:=TF.of (P':=S1.P.setQ (closed S1.P.q p.fac e c p.own)) s1.sep s4 rfl rfl (by have:w1.heap.size<(w1.alloc (.cells #[.int .i64 (p.kind:Int),.int .i64 (p.at_:Int),.int .i64 (p.fac:Int)] 69)).drew.heap.size:=CJ;omega) F3.2.2.1 F3.2.2.2.1 F3.2.2.2.2;refine⟨rfl,F4,?_⟩;have okq:=Z5u B7.q he hc Aa.symm (by omega) (by omega) (by omega);have ok1:=PL.ok_setQ B7 okq;have pw1:(upd S1.P.q.E p.fac {e.q with given:=e.q.given-c.q.limit,kids:=e.q.kids-1}).Pairwise (fun a b=>a.id≠b.id):=Q0O _ _ (fun a b a' b' _ h1 _ h2 h=>by rw [<- h1,<- h2];exact h) B7.q.ids
  have Fo:find (closed S1.P.q p.fac e c p.own).E p.fac=some {e with q:={e.q with given:=e.q.given-c.q.limit,kids:=e.q.kids-1}}:=by
   show find (rem (upd S1.P.q.E p.fac _) p.own) p.fac=_;rw [Q2m pw1,if_neg (fun h=>Aa h.symm),Q0i he]
  have BS:Held (S1.P.setQ (closed S1.P.q p.fac e c p.own)) fr1 p.fac p.kind p.at_ {e with q:={e.q with given:=e.q.given-c.q.limit,kids:=e.q.kids-1}}:=⟨Fo,Ix,fun h8=>m.inv.mem.used BG Co h8,fun h8=>m.inv.mem.frame BG Co h8⟩
  refine Calls.mono (Q7X (S:=(S1.setL (S1.l.set (h%256) (noPl (p.age+1)))).setP (S1.P.setQ (closed S1.P.q p.fac e c p.own))) s4.sep ok1 BS) ?_;rintro r w5 ⟨rfl,P',fr',bk,st5⟩;rw [hk] at bk;have EQ:=m.inv.freeF hp hk he hc (P1:=S1.P.setQ (closed S1.P.q p.fac e c p.own)) rfl bk (by omega);obtain⟨e',q1,_,q3⟩:=bk.q;obtain⟨m2,t2⟩:=m.freed hp (P':=P') (SameP.trans (P:=S1.P) (P1:=S1.P.setQ (closed S1.P.q p.fac e c p.own)) ⟨rfl,rfl,rfl,rfl,rfl,rfl,rfl⟩ bk.same) (bk.mem.trans rfl) (by rw [q3];rfl) (bk.high ok1 (by omega)) bk.few EQ;exact⟨rfl,_,fr',m2,t2,((s1.trans s3).trans s4).trans st5⟩
theorem Q5s {w w1:World} {B size n:Nat} {T:TypeId} {v:Value} {xs:List Value} (h:w.ownsRow B T size v n xs) (hk:∀b,v.ownBlock=some b->w1.heap[b]?=w.heap[b]?):w1.ownsRow B T size v n xs:=by
 refine⟨h.1,?_⟩;rcases h.2 with h|⟨g,cap,Ah,rfl,hB,hg,rest⟩
 ·exact .inl h
 ·exact .inr ⟨g,cap,Ah,rfl,hB,(hk g rfl).trans hg,rest⟩
theorem Step.own {H H':HL} {w w1 w2:World} (st:Step H H' w w1) {v:Value} (hg:w1.grownBy w2 v.ownBlock) (Ag:∀b,v.ownBlock=some b->w.heap.size<=b/\b∉keys H') (Cn:GB<=w.heap.size):Step H H' w w2:=by
 have hk:∀b∈keys H',w2.heap[b]?=w1.heap[b]?:=fun b hb=>hg.block b (st.sep.lt hb) (fun e=>(Ag b e.symm).2 hb)
 refine⟨st.sep.same hk ?_,?_,st.new⟩
 ·exact st.sep.env.same (fun b hb=>hg.block b (J1N hb st.sep.env.gb) (fun e=>by
   have h1:=(Ag b e.symm).1;omega)) (J1M st.sep.env.gb hg.size)
 ·refine⟨hg.os.trans st.chg.os,hg.tape.trans st.chg.tape,hg.output.trans st.chg.output,J1M st.chg.size hg.size,fun k hk hF=>?_⟩;exact (hg.block k (J1N hk st.chg.size) (fun e=>by have:=(Ag k e.symm).1;omega)).trans (st.chg.block k hk hF)
structure TI (w:World) (S1:CO) (gi:Nat) (ids:List Nat) (ov:Value) (D:List Nat) (wr:World):Prop where
 row:wr.ownsRow w.heap.size 27 1 ov D.length (Q1g D)
 off:∀b∈keys S1.hl,ov.ownBlock≠some b
 cell:∀(j y:Nat),ids[j]?=some y->gi<wr.heap.size/\gi∉keys S1.hl/\ov.ownBlock≠some gi/\wr.cell? ⟨gi,j,none⟩=some (.int .i64 y)
theorem TI.step {w wr w1:World} {S1 S2:CO} {gi:Nat} {ids D:List Nat} {ov:Value} (t:TI w S1 gi ids ov D wr) (st:Step S1.hl S2.hl wr w1):TI w S2 gi ids ov D w1:=by
 have Ag:∀b,ov.ownBlock=some b->b<wr.heap.size:=fun b hb=>(t.row.lt b hb).2
 refine⟨Q5s t.row (fun b hb=>st.chg.block b (Ag b hb) (fun hk=>t.off b hk hb)),fun b hb e=>?_,fun j y hj=>?_⟩
 ·rcases st.new b hb with h|h
  ·exact t.off b h e
  ·have:=Ag b e;omega
 ·obtain⟨a1,a2,a3,a4⟩:=t.cell j y hj;refine⟨J1N a1 st.chg.size,fun hk=>?_,a3,(World.cell?_of_block (w:=wr) (st.chg.block _ a1 a2)).trans a4⟩;rcases st.new _ hk with h|h
  ·exact a2 h
  ·omega
theorem TI.app {w wr w1:World} {S1:CO} {gi y:Nat} {ids D:List Nat} {ov v':Value} (t:TI w S1 gi ids ov D wr) (hs:Sep wr S1.hl) (Ag:w1.ownsRow w.heap.size 27 1 v' (D.length+1) (Q1g D++Q1g [y])) (hg:(wr.alloc (.cells #[.int .u32 y] 27)).grownBy w1 ov.ownBlock) (AB:v'.ownBlock=ov.ownBlock∨v'.ownBlock=some (wr.alloc (.cells #[.int .u32 y] 27)).heap.size):TI w S1 gi ids v' (D++[y]) w1:=by
 have Bv:(wr.alloc (.cells #[.int .u32 y] 27)).heap.size=wr.heap.size+1:=by simp
 refine⟨by rw [J2v,hands_app];exact Ag,fun b hb e=>?_,fun j z hj=>?_⟩
 ·rcases AB with h|h
  ·exact t.off b hb (h ▸ e)
  ·rw [h] at e;cases e;have:=hs.lt hb;omega
 ·obtain⟨a1,a2,a3,a4⟩:=t.cell j z hj;have GS:=hg.size;refine⟨by omega,a2,fun e=>?_,(World.cell?_of_block (w:=wr.alloc _) (hg.block gi (by omega) (fun e=>a3 e.symm))).trans (Q0L a4)⟩;rcases AB with h|h
  ·exact a3 (h ▸ e)
  ·rw [h] at e;have:=J2J e;omega
def TRel (S:CO) (N K:Nat) (rv:OV) (w:World) (gi k gk:Nat) (ov:Value) (wr:World):Prop:=
 ∃(S1:CO) (fr1:List Nat),k+gk=(dueN S).length/\Mid S1 fr1 N (K+1) ((dueN S).drop k)/\Ticked (S.setG (S.now+1) rv (dueT S)) S1 ((dueN S).take k)/\Step S.hl S1.hl w wr/\TI w S1 gi (dueN S) ov ((dueN S).take k) wr
theorem Z8j {S S1 S2:CO} {fr2:List Nat} {N K k y gk:Nat} {rv:OV} {w wr w5:World} {gi:Nat} {ov:Value} (Cn:GB<=w.heap.size) (hy:(dueN S)[k]?=some y) (AL:k+1+gk=(dueN S).length) (hl:(dueN S).length<=256) (AR:Ticked (S.setG (S.now+1) rv (dueT S)) S1 ((dueN S).take k)) (Ao:Step S.hl S1.hl w wr) (hti:TI w S1 gi (dueN S) ov ((dueN S).take k) wr)
  (hm:Mid S2 fr2 N (K+1) ((dueN S).drop (k+1))) (ht:Ticked S1 S2 [y]) (st:Step S1.hl S2.hl wr w5) :
  ∃v' w6,(Builtin.append_ #[66,66] 66 #[ov,.slice (some ⟨w5.heap.size,0,none⟩) 1 1]).run prog (w5.alloc (.cells #[.int .u32 y] 27))=.ok v' w6/\TRel S N K rv w gi (k+1) gk v' w6:=by
 have t5:=hti.step st;have Nl:=Ao.trans st;have hk:k<(dueN S).length:=(J2c.1 hy).1;have A0:(w5.alloc (.cells #[.int .u32 y] 27)).ownsRow w.heap.size 27 1 ov ((dueN S).take k).length (Q1g ((dueN S).take k)):=t5.row.alloc _;have ND:w.heap.size<=(w5.alloc (.cells #[.int .u32 y] 27)).heap.size:=by
  have:=Nl.chg.size;rw [World.size_alloc];omega
 obtain⟨v',w6,e1,e2,e3,e4⟩:=Z5O (ty:=66) (a:=some ⟨w5.heap.size,0,none⟩) (cap:=1) A0 (Z1F w5 y) (by rw [J4f,J5N];omega) ND;have CN:(dueN S).take (k+1)=(dueN S).take k++[y]:=by
  rw [J3I,hy];rfl
 refine⟨v',w6,e1,S2,fr2,AL,hm,?_,?_,?_⟩
 ·rw [CN];exact AR.trans ht
 ·have Sf:=Nl.trans (Nl.sep.grown ((Below.refl _ w5).alloc (J1L _) (.cells #[.int .u32 y] 27)));refine Sf.own e3 (fun b hb=>⟨(A0.lt b hb).1,fun hk=>t5.off b hk hb⟩) Cn
 ·rw [CN];exact t5.app Nl.sep e2 e3 e4
theorem Z8k {S:CO} {fr:List Nat} {N K:Nat} (ok:S.Ok fr N K):(dueN S).length<=256:=by
 have:=ok.few;unfold dueN;rw [J3v];exact J1M (List.takeWhile_sublist _).length_le this
theorem Z2T {S:CO} {fr:List Nat} {N K:Nat} {w w1:World} {r:Ending} (h:Sep w S.hl) (ok:S.Ok fr N K) (hg:Z1D S.g S.period (S.now+1) S.rv S.ts w r w1) :
  ∃(rv:OV) (gi:Nat) (ad:Option Addr) (cap:Nat),r=.returned (.slice ad (dueN S).length cap)/\((dueN S).length≠0->ad=some ⟨gi,0,none⟩)/\ovOk rv (dueT S).length/\TRel S N K rv w gi 0 (dueN S).length (.slice none 0 0) w1:=by
 obtain⟨rv,ro,bx,b0,rfl,o1,o2,st⟩:=hg;have e0:S.now+1-1=S.now:=by omega
 rw [e0] at st;have eT:S.ts.drop (dueK (S.now+1) S.ts)=dueT S:=by
  exact Q3V _ S.ts
 have eN:(S.ts.take (dueK (S.now+1) S.ts)).map Prod.fst=dueN S:=by rw [Q8P];rfl
 have eL:dueK (S.now+1) S.ts=(dueN S).length:=by unfold dueK dueN;rw [J3v]
 unfold Q2i at st;rw [eT] at st o1;rw [eN] at st;rw [eL] at st o2 ⊢;have stW:=Step.lift S.permG (J5f _) h st;have st1:=CO.stepG h (S.now+1) rv (dueT S) (st.drop (J2B _ _));have BH:∀b∈keys (S.setG (S.now+1) rv (dueT S)).hl,b∈keys (qhl S.g S.period (S.now+1) rv (dueT S)++(S.head::(S.P.hl++S.ht.hl))):=fun b hb=>((S.setG (S.now+1) rv (dueT S)).permG.map Prod.fst).mem_iff.1 hb
 obtain⟨gi,ad,cap,e1,e2,e3⟩:∃(gi:Nat) (ad:Option Addr) (cap:Nat),lvOf ro (dueN S).length=.slice ad (dueN S).length cap/\((dueN S).length≠0->ad=some ⟨gi,0,none⟩)/\((dueN S).length≠0->ro=some (gi,cap)):=by
  cases ro with
  | none =>
   have h0:(dueN S).length=0:=o2;exact⟨0,none,0,by rw [h0];rfl,fun h=>absurd h0 h,fun h=>absurd h0 h⟩
  | some q=>exact⟨q.1,some ⟨q.1,0,none⟩,q.2,rfl,fun _=>rfl,fun _=>rfl⟩
 refine⟨rv,gi,ad,cap,by rw [e1],e2,o1,_,fr,by omega,?_,?_,st1,⟨World.ownsRow_nil _ _ _ _,fun b _ h=>by simp [Value.ownBlock] at h,fun j y hj=>?_⟩⟩
 ·rw [J5F];exact ok.mid o1
 ·rw [J5l];exact Ticked.refl _
 ·have Bj:=(J2c.1 hj).1;have Ja:=e3 (by omega);subst Ja;have sR:Sep w1 (rowH (some (gi,cap)) 3 1 (ints (dueN S))):=st.sep.right.tail.tail;have U1:gi∈keys (rowH (some (gi,cap)) 3 1 (ints (dueN S))):=by simp [rowH]
  refine⟨sR.lt U1,fun hk=>?_,by simp [Value.ownBlock],Q0Y sR j _ (by unfold ints;rw [J3x,hj];rfl)⟩;have A3:=BH gi hk;have AG:=stW.sep.nd;simp only [keys_append,keys_cons,J2M,J3X,rowH,keys_nil] at AG A3;have BB:=List.nodup_iff_count.1 AG gi;simp only [J5m,J5n,List.count_nil,beq_self_eq_true,if_true] at BB;have BQ:0<(keys (qhl S.g S.period (S.now+1) rv (dueT S))++S.head.fst::(keys S.P.hl++keys S.ht.hl)).count gi:=List.count_pos_iff.2 (by simpa using A3);simp only [J5m,J5n] at BQ;omega
theorem Z5R {w:World} {S:CO} {fr:List Nat} {N K:Nat} (h:Sep w S.hl) (ok:S.Ok fr N K) (hK:K<1048575) :
  Calls prog 56 #[.pointer (some ⟨S.c,0,none⟩)] w (TickR S fr N K w):=by
 have Cn:=h.env.gb;have c2:=CO.c2 h;have EL:=ok.now;have Kf:=Z5L (CO.sG h) ok.ov ok.few (by omega) ok.ord;have BO:Hid (∀r w1,Z1D S.g S.period (S.now+1) S.rv S.ts w r w1->∃(rv:OV) (gi:Nat) (ad:Option Addr) (cap:Nat),r=.returned (.slice ad (dueN S).length cap)/\((dueN S).length≠0->ad=some ⟨gi,0,none⟩)/\ovOk rv (dueT S).length/\TRel S N K rv w gi 0 (dueN S).length (.slice none 0 0) w1):=fun r w1 hg=>Z2T h ok hg
 have hl:=Z8k ok;have AZ:Hid (∀rv gi k gk ov wr,ovOk rv (dueT S).length->¬k<(dueN S).length->TRel S N K rv w gi k gk ov wr->TickR S fr N K w (.returned ov) wr):=fun rv gi k gk ov wr DM hk ⟨S1,fr1,AL,EG,AR,Ao,hti⟩=>by
  have e:k=(dueN S).length:=by omega
  subst e;rw [List.drop_length] at EG;rw [J5V] at AR hti;exact⟨rv,S1,fr1,ov,rfl,hti.row,DM,AR,EG.ok,Ao,hti.off⟩
 have CL:Hid (∀rv gi k gk ov wr,k<(dueN S).length->TRel S N K rv w gi k gk ov wr->∃(y:Nat) (p:Pl) (tt pp qt:Nat),y<4294967296/\wr.cell? ⟨gi,k,none⟩=some (.int .i64 y)/\wr.cell? ⟨S.c,1,none⟩=some (.pointer (some ⟨tt,0,none⟩)) /\
   Calls prog 135 #[.pointer (some ⟨tt,0,none⟩),.int .u32 y] wr fun r w1=>r=.returned (.tuple #[.agg #[.int .i64 (p.kind:Int),.int .i64 (p.at_:Int),.int .i64 (p.fac:Int)],.int .i64 0]) /\
    (p.kind≠1->Calls prog 71 #[.pointer (some ⟨S.c,0,none⟩),.agg #[.int .i64 (p.kind:Int),.int .i64 (p.at_:Int),.int .i64 (p.fac:Int)]] (w1.alloc (.cells #[.int .i64 (p.kind:Int),.int .i64 (p.at_:Int),.int .i64 (p.fac:Int)] 69)) fun r w5=>r=.returned (.tuple #[]) /\
     ∃v' w6,(Builtin.append_ #[66,66] 66 #[ov,.slice (some ⟨w5.heap.size,0,none⟩) 1 1]).run prog (w5.alloc (.cells #[.int .u32 y] 27))=.ok v' w6/\TRel S N K rv w gi (k+1) ((dueN S).length-(k+1)) v' w6) /\
    (p.kind=1->(w1.alloc (.cells #[.int .i64 (p.kind:Int),.int .i64 (p.at_:Int),.int .i64 (p.fac:Int)] 69)).cell? ⟨S.c,0,none⟩=some (.pointer (some ⟨pp,0,none⟩))/\(w1.alloc (.cells #[.int .i64 (p.kind:Int),.int .i64 (p.at_:Int),.int .i64 (p.fac:Int)] 69)).cell? ⟨pp,0,none⟩=some (.pointer (some ⟨qt,0,none⟩)) /\
     Calls prog 137 #[.pointer (some ⟨S.c,0,none⟩),.agg #[.int .i64 (p.kind:Int),.int .i64 (p.at_:Int),.int .i64 (p.fac:Int)]] (w1.alloc (.cells #[.int .i64 (p.kind:Int),.int .i64 (p.at_:Int),.int .i64 (p.fac:Int)] 69)).drew fun r w3=>r=.returned (.int .i64 (p.own:Int)) /\
      (w3.cell? ⟨S.c,0,none⟩=some (.pointer (some ⟨pp,0,none⟩))/\w3.cell? ⟨pp,0,none⟩=some (.pointer (some ⟨qt,0,none⟩))/\w3.cell? ⟨w1.heap.size,0,none⟩=some (.int .i64 (p.kind:Int))/\w3.cell? ⟨w1.heap.size,1,none⟩=some (.int .i64 (p.at_:Int))/\w3.cell? ⟨w1.heap.size,2,none⟩=some (.int .i64 (p.fac:Int))) /\
      Calls prog 136 #[.pointer (some ⟨qt,0,none⟩),.int .i64 (p.own:Int)] w3 fun r w4=>r=.returned (.int .i64 0) /\
       (w4.cell? ⟨S.c,0,none⟩=some (.pointer (some ⟨pp,0,none⟩))/\w4.cell? ⟨pp,0,none⟩=some (.pointer (some ⟨qt,0,none⟩))/\w4.cell? ⟨w1.heap.size,0,none⟩=some (.int .i64 (p.kind:Int))/\w4.cell? ⟨w1.heap.size,1,none⟩=some (.int .i64 (p.at_:Int))/\w4.cell? ⟨w1.heap.size,2,none⟩=some (.int .i64 (p.fac:Int))) /\
       Calls prog 71 #[.pointer (some ⟨S.c,0,none⟩),.agg #[.int .i64 (p.kind:Int),.int .i64 (p.at_:Int),.int .i64 (p.fac:Int)]] w4 fun r w5=>r=.returned (.tuple #[]) /\
        ∃v' w6,(Builtin.append_ #[66,66] 66 #[ov,.slice (some ⟨w5.heap.size,0,none⟩) 1 1]).run prog (w5.alloc (.cells #[.int .u32 y] 27))=.ok v' w6/\TRel S N K rv w gi (k+1) ((dueN S).length-(k+1)) v' w6)):=fun rv gi k gk ov wr hk ⟨S1,fr1,AL,EG,AR,Ao,hti⟩=>by
  obtain⟨y,hy⟩:∃y,(dueN S)[k]?=some y:=⟨_,J4d hk⟩
  have Lj:(dueN S).drop k=y::(dueN S).drop (k+1):=by
   rw [J4F hk];rw [J4d hk] at hy;cases hy;rfl
  rw [Lj] at EG;have ec:S1.c=S.c:=AR.c;obtain⟨p,hp,CM,Av⟩:=Z2S Ao.sep EG (by omega);have c1:=CO.c1 Ao.sep;obtain⟨_,_,_,Al⟩:=hti.cell k y hy;have Ik:∀w5,Z5Q S1 N (K+1) y ((dueN S).drop (k+1)) wr w5->∃v' w6,(Builtin.append_ #[66,66] 66 #[ov,.slice (some ⟨w5.heap.size,0,none⟩) 1 1]).run prog (w5.alloc (.cells #[.int .u32 y] 27))=.ok v' w6/\TRel S N K rv w gi (k+1) ((dueN S).length-(k+1)) v' w6:=fun w5 ⟨S2,fr2,m2,t2,s2⟩=>Z8j Cn hy (by omega) hl AR Ao hti m2 t2 s2
  unfold TF at Av;rw [ec] at c1 Av;refine⟨y,p,S1.t,S1.P.p,S1.P.q.t,CM,Al,c1,Av.mono ?_⟩;rintro r w1 ⟨rfl,_,_,h1,h2⟩;refine⟨rfl,fun A2=>(h1 A2).mono ?_,fun A2=>?_⟩
  ·rintro r w5 ⟨rfl,hr⟩;exact⟨rfl,Ik w5 hr⟩
  ·obtain⟨⟨f0,f1,_⟩,hw⟩:=h2 A2;refine⟨f0,f1,hw.mono ?_⟩;rintro r w3 ⟨rfl,f3,AK⟩;refine⟨rfl,f3,AK.mono ?_⟩;rintro r w4 ⟨rfl,f4,FI⟩;refine⟨rfl,f4,FI.mono ?_⟩;rintro r w5 ⟨rfl,hr⟩;exact⟨rfl,Ik w5 hr⟩
 generalize TickR S fr N K w=Q at *
 generalize (dueN S).length=n at *
 clear h ok EL Cn;go_enter func56,ntmps56;go_wp2_with fail;refine Kf.mono ?_;intro r w1 hg;obtain⟨rv,gi,ad,cap,rfl,Nu,DM,Ee⟩:=BO.out r w1 hg;have Mb:=Q0a Ee;have Sn:=Q0a Nu;have Uv:=Q0a DM;have HL:=Q0a hl;clear hg Ee Nu DM BO Kf hl;go_wp2_with fail
 go_loopg [3,17] n (fun gk ov kv wr=>∃k:Nat,kv=.int .i64 k/\k+gk=n/\TRel S N K rv w gi k gk ov wr)
 case atStart=>exact⟨0,rfl,by omega,Mb.out⟩
 case round =>
  obtain⟨k,rfl,AL,hrel⟩:=hrel;have BW:=Q0a AL;clear AL;by_cases Ab:k<n
  ·obtain⟨y,p,tt,pp,qt,CM,Al,c1,Av⟩:=CL.out _ _ _ _ _ _ Ab hrel;have NQ:=Sn.out (by omega);subst NQ;have hw:IntKind.u32.wrap (y:Int)=(y:Int):=Go.IntWalk.u32_in _ (by omega);have HN:Hid (k<=256):=by have:=HL.out;show k<=256;omega
   clear hrel CM CL AZ c2;by_cases A2:p.kind=1
   ·have KB:((p.kind:Nat):Int)=1:=by omega
    have Gy:=Q0a A2;go_wp2_with fail;refine Av.mono ?_;rintro r w2 ⟨rfl,-,hx⟩;obtain⟨f0,f1,Ob⟩:=hx Gy.out;have UI:=Q0a Ob;clear hx Ob Av Al c1;rw [KB] at *
    have b0:=(Cells.new w2 69 [.int .i64 1,.int .i64 (p.at_:Int),.int .i64 (p.fac:Int)]).cell 0 _ rfl;have b1:=(Cells.new w2 69 [.int .i64 1,.int .i64 (p.at_:Int),.int .i64 (p.fac:Int)]).cell 1 _ rfl;have b2:=(Cells.new w2 69 [.int .i64 1,.int .i64 (p.at_:Int),.int .i64 (p.fac:Int)]).cell 2 _ rfl;have DC:Hid (∀(v:World) b i x,v.cell? ⟨b,i,none⟩=some x->v.drew.cell? ⟨b,i,none⟩=some x):=fun v b i x hv=>hv
    have d0:=DC.out _ _ _ _ f0;have d1:=DC.out _ _ _ _ f1;have e0:=DC.out _ _ _ _ b0;have e1:=DC.out _ _ _ _ b1;have e2:=DC.out _ _ _ _ b2;clear A2 KB DC;go_wp2_with fail
    go_region_held3 (fun w'=>w'.cell? ⟨S.c,0,none⟩=some (.pointer (some ⟨pp,0,none⟩))/\w'.cell? ⟨pp,0,none⟩=some (.pointer (some ⟨qt,0,none⟩))/\w'.cell? ⟨w2.heap.size,0,none⟩=some (.int .i64 1)/\w'.cell? ⟨w2.heap.size,1,none⟩=some (.int .i64 (p.at_:Int))/\w'.cell? ⟨w2.heap.size,2,none⟩=some (.int .i64 (p.fac:Int))) (first|exact⟨f0,f1,b0,b1,b2⟩|exact⟨d0,d1,e0,e1,e2⟩|exact F3|exact F4)
     (first|(go_at_call 137;refine UI.out.mono ?_;rintro r w3 ⟨rfl,F3,hx⟩;have HY:=Q0a hx;clear hx)|(go_at_call 136;refine HY.out.mono ?_;rintro r w4 ⟨rfl,F4,hx⟩;have HZ:=Q0a hx;clear hx))
    all_goals
     obtain⟨g0,g1,g2,g3,g4⟩:=F4;clear d0 d1 e0 e1 e2 f0 f1 b0 b1 b2;go_wp2_with fail;refine HZ.out.mono ?_;rintro r w5 ⟨rfl,v',w6,r1,r2⟩;have CW:=Q0a r2;clear r2 g0 g1 g2 g3 g4;go_wp2_with (at_builtin;refine Lib.wpList_append_run _ rfl _ _ _ _ rfl _ _ rfl rfl _ _ r1 ?_);go_roundg (n-(k+1))
     case measure=>have:=BW.out;omega
     case rel =>
      have A3:(k:Int)<=256:=by have:=HN.out;omega
      exact⟨k+1,by rw [Go.IntWalk.wrap64_in _ (by omega)];rfl,by omega,CW.out⟩
   ·have Ax:(((p.kind:Nat):Int)==1)=false:=by simp;omega
    have Gy:=Q0a A2;go_wp2_with fail;refine Av.mono ?_;rintro r w2 ⟨rfl,hx,-⟩;have HX:=Q0a (hx Gy.out);clear hx Av Al c1 A2;go_wp2_with fail;refine HX.out.mono ?_;rintro r w5 ⟨rfl,v',w6,r1,r2⟩;have CW:=Q0a r2;clear r2;go_wp2_with (at_builtin;refine Lib.wpList_append_run _ rfl _ _ _ _ rfl _ _ rfl rfl _ _ r1 ?_);go_roundg (n-(k+1))
    case measure=>have:=BW.out;omega
    case rel =>
     have A3:(k:Int)<=256:=by have:=HN.out;omega
     exact⟨k+1,by rw [Go.IntWalk.wrap64_in _ (by omega)];rfl,by omega,CW.out⟩
  ·have HR:=Q0a (AZ.out _ _ _ _ _ _ Uv.out Ab hrel);clear hrel CL AZ;go_wp2_with fail
   first|exact HR.out|(go_ret;exact HR.out)
theorem Z2U {w w2:World} {S:CO} {fr:List Nat} {N K:Nat} (h:Sep w S.hl) (ok:S.Ok fr N K) (hK:K<=1048576) {x:Nat} (hx:x<4294967296) {p:Pl} (hp:pget S.l 1 x=some p) (h0:x≠0) (hk:kids S.l x=[]) (hb:Below w.heap.size w w2) :
  w2.cell? ⟨S.c,1,none⟩=some (.pointer (some ⟨S.t,0,none⟩))/\Calls prog 172 #[.pointer (some ⟨S.t,0,none⟩),.int .u32 x] w2 fun r w3=>r=.returned (.int .i64 0)/\w3.cell? ⟨S.c,2,none⟩=some (.pointer (some ⟨S.g,0,none⟩))/\S.c<w3.heap.size /\
   Calls prog 173 #[.pointer (some ⟨S.g,0,none⟩),.slice (some ⟨w3.heap.size,0,none⟩) 1 1] (w3.alloc (.cells #[.int .i64 x] 3)) fun r w4=>∃z:Int,r=.returned (.int .i64 z)/\Z9Z S x w (.returned (.int .i64 0)) w4:=by
 have s2:=h.grown hb;have EL:=ok.now;refine⟨CO.c1 s2.sep,?_⟩;refine Calls.mono (Z2B (h:=S.ht) (CO.sT s2.sep) ok.inv.lok hx hp) ?_;rintro r w3 ⟨rfl,st⟩;have s3:=s2.trans (CO.stepL s2.sep _ st);refine⟨rfl,CO.c2 (S:=S.setL (S.l.set (x%256) {p with st:=2})) s3.sep,(CO.cells s3.sep).lt,?_⟩;have s4:=s3.trans (s3.sep.grown ((Below.refl _ w3).alloc (J1L _) (.cells #[.int .i64 x] 3)));refine Calls.mono (Z7Y (CO.sG s4.sep) ok.ov ok.few ok.per.2 (by show S.now<=_;omega) ((Cells.new w3 3 [.int .i64 x]).cell 0 _ rfl)) ?_;rintro r w4 ⟨rv,rfl,DM,st4⟩;have s5:=s4.trans (CO.stepG s4.sep S.now rv (S.ts++[(x,S.now+S.period)]) st4)
 exact⟨_,rfl,.inr (.inr (.inr ⟨p,rv,hp,h0,hk,DM,rfl,s5⟩))⟩
theorem Z8l {w:World} {S:CO} {fr:List Nat} {N K:Nat} (h:Sep w S.hl) (ok:S.Ok fr N K) (hK:K<=1048576) {x:Nat} (hx:x<4294967296) {p:Pl} (hp:pget S.l 1 x=some p) (h0:x≠0) (hk:kids S.l x=[]) :
  Calls prog 98 #[.pointer (some ⟨S.c,0,none⟩),.int .u32 x] w (Z9Z S x w):=by
 have hO:Calls prog 30 #[.pointer (some ⟨S.c,0,none⟩),.int .u32 x,.int .i64 0] w (Told w (.tuple #[.agg #[.int .i64 (p.kind:Int),.int .i64 (p.at_:Int),.int .i64 (p.fac:Int)],.int .i64 0])):=Q3E h ok.inv.lok hx 0 hp (.inl rfl);have HM:Hid (∀w1,Below w.heap.size w w1->Calls prog 95 #[.pointer (some ⟨S.c,0,none⟩),.int .u32 x] w1 (NewHs w1 (kids S.l x))):=fun w1 hb=>Q8R (h.grown hb).sep ok hx
 rw [hk] at HM;have HC:Hid (∀w2,Below w.heap.size w w2->_):=fun w2 hb=>Z2U (w2:=w2) h ok hK hx hp h0 hk hb
 have Ax:(((x:Nat):Int)==0)=false:=by simp;omega
 have hw:IntKind.i64.wrap (x:Int)=(x:Int):=Go.IntWalk.i64_in _ (by omega);generalize Z9Z S x w=Q at *
 clear h ok hK hx hp h0 hk;go_enter func98,ntmps98;go_wp2_with fail;refine hO.mono ?_;rintro r w1 ⟨rfl,hb⟩;have Ox:=hb.alloc hb.size (.cells #[.int .i64 (p.kind:Int),.int .i64 (p.at_:Int),.int .i64 (p.fac:Int)] 69);have hm:=HM.out _ Ox;have HB:=Q0a Ox;clear hb Ox hO HM;go_wp2_with fail;refine hm.mono ?_;intro r w2 hn;obtain⟨am,cm,rfl,GM,Hs⟩:=hn.shape;obtain⟨c1,Jl⟩:=HC.out w2 (HB.out.trans (GM.mono (by have:=HB.out.size;omega)));clear hn GM Hs hm HB HC;go_wp2_with fail;refine Jl.mono ?_;rintro r w3 ⟨rfl,c2,Ab,B0⟩;have HA:=Q0a B0;clear B0 Jl c1;go_wp2_with fail;refine HA.out.mono ?_
 rintro r w4 ⟨z,rfl,hx⟩;have HX:=Q0a hx;clear hx HA;go_wp2_with fail
 first|exact HX.out|(go_ret;exact HX.out)
theorem Q7Z {P:Program} {ops:Array Oper} {rest:List Oper} {o:Oper} {a:Act} {w:World} {Q:Exit->Act->World->Prop} (hg:o.guard=none) (t:TypeId) (ho:o.op=.build t #[]) (dst:Option Tmp) (hdst:o.dst=dst) (cells:Array Value)
  (hb:P.built t []=some cells)
  (h:wpList P ops Q rest (a.put dst (.agg cells)) w):wpList P ops Q (o::rest) a w:=by
 subst hdst;have e:(Array.map (fun (x:Nat×Operand)=>match x with|(i,x)=>(i,a.eval x)) #[]).toList=[]:=by simp
 refine wpList_build hg t #[] ho (by rw [e,hb];rfl) ?_;rw [e,hb];exact h
def tabZ:List Value:=(List.replicate 256 (noPl 0)).flatMap Pl.cells
theorem Z2V:prog.built 264 (([]:List (Nat×Value)))=some tabZ.toArray:=by kernel_rfl
theorem Z2W:(Value.agg tabZ.toArray).cells=tabZ.toArray:=by kernel_rfl
def J1c (H:HL) (w:World) (r:Ending) (w':World):Prop:=∃t,r=.returned (.pointer (some ⟨t,0,none⟩))/\Step H ((⟨t,List.replicate 256 (noPl 0)⟩:HT).hl++H) w w'
theorem Z8m {w:World} {H:HL} (h:Sep w H):Calls prog 63 #[] w (J1c H w):=by
 have HR:Hid (J1c H w (.returned (.pointer (some ⟨w.heap.size,0,none⟩))) (w.alloc (.cells tabZ.toArray 264))):=⟨_,rfl,h.new 264 tabZ⟩
 clear h;have hz:=Z2V;have hc:=Z2W;generalize tabZ.toArray=Z at *
 go_enter func63,ntmps63
 repeat (first|refine Q7Z rfl 264 rfl _ rfl Z hz ?_|refine Go.Great.wpList_boxTo rfl 264 _ rfl _ rfl _ rfl Z hc ?_|go_step)
 first|exact HR.out|(go_ret;exact HR.out)
theorem Z5S (top k i:Nat):fre (uOf []) top k i=(k==top):=by
 have hc:∀k i,clr (uOf []) k i=true:=fun k i=>(clr_iff _ _ _).2 fun p _=>by simp [uOf]
 unfold fre;rw [hc,hc];simp
theorem Z1G (top:Nat):(∀k,k<top->fstG (fre (uOf []) top) top k 0=none)/\fstG (fre (uOf []) top) top top 0=some 0:=by
 refine⟨fun k hk=>Q5P fun i _ hi=>?_,Q5O ?_ (J1L _) ?_ fun i h0 h1=>by omega⟩
 ·rw [J3x];have:i<2 ^ (top-k):=by simpa using hi
  rw [J3z this];show (fre (uOf []) top k i)≠true;rw [Z5S];simp;omega
 ·simp
 ·rw [J5d];show ((List.map _ [0])[0]?).getD false=true;show fre (uOf []) top top 0=true;rw [Z5S];simp
theorem Z5T {c:CA} {d:BD} {a:Nat} {ps':List Nat} (DF:c.pg=[]) (FV:d.ps=[]) (h:J0T c d a ps'):a=64/\ps'=[0]:=by
 rcases h with ⟨k,x,i,hx,_⟩|⟨_,k0,i0,hk,hf,hp,ha,hq⟩
 ·rw [DF] at hx;simp at hx
 ·rw [FV] at hf hp;obtain⟨f1,f2⟩:=Z1G d.top;have Tx:k0=d.top:=by
   rcases J4u k0 d.top with e|e
   ·rw [f1 k0 e] at hf;cases hf
   ·omega
  subst Tx;rw [f2] at hf;cases hf;rw [FV] at hq;exact⟨by rw [ha];unfold addr;omega,by rw [hq];simp⟩
theorem Z0r {P:PL} {n:Nat} (FV:P.d.ps=[]):¬NoRoom P n:=by
 rintro⟨c,hc,_,hn⟩;rw [FV] at hn;have:=hn P.d.top (J1L _);rw [(Z1G P.d.top).2] at this;cases this
theorem Z8n {w:World} {P:PL} (h:Sep w P.hl) {top:Nat} {limit:Int} (hf:FreshP P top limit) (hl:P.cs.length=7) (h1:6<=top) (h0:64<=limit) (hm:limit<=1073741824) :
  Calls prog 65 #[.pointer (some ⟨P.p,0,none⟩),.int .i64 0,.int .i64 1] w fun r w'=>r=.returned (.tuple #[.int .i64 64,.int .i64 0])/\∃P',GotM P [] 0 1 64 P' []/\P'.d.ps=[0]/\(∃b,P'.q.E=[⟨0,b,⟨limit,64,0,-1,0⟩⟩])/\P'.q.next=1/\Step P.hl P'.hl w w':=by
 have ok:=hf.ok hl h1 (by omega) hm;have DF:=Z7R ok fun j=>Q7d hf j
 obtain⟨t,m,b,hq⟩:=hf.q;have GX:find P.q.E 0=some ⟨0,b,⟨limit,0,0,-1,0⟩⟩:=by rw [hq];rfl
 refine (Q5E h ok 0 1).mono ?_;rintro r w' (⟨h0,_⟩|⟨_,h0,_⟩|⟨_,⟨e',h2,h3⟩,_⟩|⟨n,e',hn,_,_,h2,_,hr⟩)
 ·exact absurd h0 (by decide)
 ·rw [GX] at h0;cases h0
 ·rw [GX] at h2;cases h2;have:((Q1h 1:Nat):Int)=64:=rfl;rw [this] at h3;simp at h3;omega
 ·have CH:n=1:=by omega
  subst CH;rcases hr with ⟨a,P',rfl,g,Ao⟩|⟨Aq,_⟩
  ·obtain⟨c,_,hc,_,ht⟩:=g.which;obtain⟨rfl,Pk⟩:=Z5T (DF _ c hc.2) hf.ps ht.which;have gm:=g.gotM ok;obtain⟨MB,hE,Bw,_⟩:=gm.acc (own:=0) GX;refine⟨rfl,P',gm,Pk,⟨b,?_⟩,?_,Ao⟩
   ·rw [hE,hq];simp [Q2t,upd,costK,Q0c]
   ·rw [Bw,hq];rfl
  ·exact absurd Aq (Z0r hf.ps)
structure Q8S (S:CO) (top:Nat) (limit:Int) (period:Nat):Prop where
 ok:S.Ok [] 1 0
 l:S.l=newL 64
 ts:S.ts=[]
 now:S.now=0
 period:S.period=period
 top:S.P.d.top=top
 next:S.P.q.next=1
 ps:S.P.d.ps=[0]
 q:∃b,S.P.q.E=[⟨0,b,⟨limit,64,0,-1,0⟩⟩]
 xc:S.xc=x0
 high:∀j,2<=j->S.P.usedOf j=[]
def Z5U (top:Nat) (limit:Int) (period:Nat) (H:HL) (w:World) (r:Ending) (w':World):Prop:=∃S:CO,r=.returned (.pointer (some ⟨S.c,0,none⟩))/\Q8S S top limit period/\Step H (S.hl++H) w w'
theorem J0j:LOk (List.replicate 256 (noPl 0)):=⟨J1V,fun p hp=>by rw [J1T hp];exact⟨J3O _,J3O _⟩⟩
theorem Z8o:Fst (List.replicate 256 (noPl 0)) 0 (noPl 0):=⟨rfl,rfl,fun j q h _=>by omega⟩
theorem Z5V {w w1 w2 w3:World} {H:HL} {P:PL} {top period:Nat} {limit:Int} {t g:Nat} (hf:FreshP P top limit) (hl:P.cs.length=7) (h1:6<=top) (h0:64<=limit) (hm:limit<=1073741824) (Bc:1<=period) (A5:period<=16)
  (s1:Step H (P.hl++H) w w1) (s2:Step (P.hl++H) ((⟨t,List.replicate 256 (noPl 0)⟩:HT).hl++(P.hl++H)) w1 w2) (s3:Step ((⟨t,List.replicate 256 (noPl 0)⟩:HT).hl++(P.hl++H)) (qhl g period 0 none []++((⟨t,List.replicate 256 (noPl 0)⟩:HT).hl++(P.hl++H))) w2 w3) :
  (w3.alloc (.cells #[.pointer (some ⟨P.p,0,none⟩),.pointer (some ⟨t,0,none⟩),.pointer (some ⟨g,0,none⟩)] 142)).cell? ⟨w3.heap.size,0,none⟩=some (.pointer (some ⟨P.p,0,none⟩)) /\
  (w3.alloc (.cells #[.pointer (some ⟨P.p,0,none⟩),.pointer (some ⟨t,0,none⟩),.pointer (some ⟨g,0,none⟩)] 142)).cell? ⟨w3.heap.size,2,none⟩=some (.pointer (some ⟨g,0,none⟩)) /\
  Calls prog 65 #[.pointer (some ⟨P.p,0,none⟩),.int .i64 0,.int .i64 1] (w3.alloc (.cells #[.pointer (some ⟨P.p,0,none⟩),.pointer (some ⟨t,0,none⟩),.pointer (some ⟨g,0,none⟩)] 142)) fun r w4=>r=.returned (.tuple #[.int .i64 64,.int .i64 0])/\w4.cell? ⟨w3.heap.size,1,none⟩=some (.pointer (some ⟨t,0,none⟩)) /\
   Calls prog 66 #[.pointer (some ⟨t,0,none⟩),.agg #[.int .i64 1,.int .i64 64,.int .i64 0]] w4 fun r w5=>(∃x y:Value,r=.returned (.tuple #[x,y]))/\Z5U top limit period H w (.returned (.pointer (some ⟨w3.heap.size,0,none⟩))) w5:=by
 have s123:=(s1.trans s2).trans s3;have s4:=s123.trans (s123.sep.new 142 [.pointer (some ⟨P.p,0,none⟩),.pointer (some ⟨t,0,none⟩),.pointer (some ⟨g,0,none⟩)]);have hc:=Cells.new w3 142 [.pointer (some ⟨P.p,0,none⟩),.pointer (some ⟨t,0,none⟩),.pointer (some ⟨g,0,none⟩)];obtain⟨S,hS⟩:∃S:CO,S=⟨w3.heap.size,P,t,List.replicate 256 (noPl 0),g,period,0,none,[],x0⟩:=⟨_,rfl⟩
 have C1:((w3.heap.size,isC 142 [.pointer (some ⟨P.p,0,none⟩),.pointer (some ⟨t,0,none⟩),.pointer (some ⟨g,0,none⟩)])::(qhl g period 0 none []++((⟨t,List.replicate 256 (noPl 0)⟩:HT).hl++(P.hl++H)))).Perm (S.hl++H):=by
  refine Q1e fun a=>?_
  rw [hS];simp only [CO.hl,CO.head,CO.ht,CO.qh,hc_append,hc_cons,ptr];omega
 have s5:=s4.perm (J5f _) C1;have sS:Sep (w3.alloc (.cells #[.pointer (some ⟨P.p,0,none⟩),.pointer (some ⟨t,0,none⟩),.pointer (some ⟨g,0,none⟩)] 142)) S.hl:=s5.sep.left;refine⟨hc.cell 0 _ rfl,hc.cell 2 _ rfl,?_⟩;have sP:=CO.sP sS;have eP:S.P=P:=by rw [hS]
 rw [eP] at sP;refine (Z8n sP hf hl h1 h0 hm).mono ?_;rintro r w4 ⟨rfl,P',gm,FV,hq,Bw,st⟩;have st':Step S.hl (S.setP P').hl _ w4:=CO.stepP sS P' (by rw [gm.same.p,hS]) (by rw [hS];exact st);have c1:=CO.c1 st'.sep;have B8:=Z5z (h:=(S.setP P').ht) (CO.sT st'.sep) (by rw [hS];exact J0j) (i:=0) (p:=noPl 0) (by rw [hS];exact Z8o) 1 64 0 0;have ect:S.t=t:=by rw [hS]
 have ecc:S.c=w3.heap.size:=by rw [hS]
 have Rm:w4.cell? ⟨w3.heap.size,1,none⟩=some (.pointer (some ⟨t,0,none⟩)):=by
  rw [<- ect,<- ecc];exact c1
 refine⟨rfl,Rm,?_⟩;have LZ:Calls prog 66 #[.pointer (some ⟨t,0,none⟩),.agg #[.int .i64 1,.int .i64 64,.int .i64 0]] w4 (PutT (S.setP P').ht ⟨1,64,0,1,(noPl 0).age,0⟩ 0 w4):=by
  rw [<- ect];exact B8
 refine LZ.mono ?_;rintro r w5 ⟨rfl,st5⟩;refine⟨⟨_,_,rfl⟩,(S.setP P').setL (newL 64),by show _=Ending.returned (.pointer (some ⟨S.c,0,none⟩));rw [ecc],?_,?_⟩
 ·have EQ:=Z9W hf hl h1 (by omega) hm gm;refine⟨⟨?_,?_,?_,?_,?_,?_,?_,?_⟩,rfl,?_,?_,?_,?_,Bw,FV,hq,by show S.xc=x0;rw [hS],fun j hj=>?_⟩
  ·show Inv P' (newL 64) [] S.xc (S.ts.map Prod.fst);rw [hS];exact EQ
  ·show 1<=S.period/\_;rw [hS];exact⟨Bc,A5⟩
  ·show ∀x∈S.ts,_;rw [hS];exact fun x hx=>by cases hx
  ·show S.ts.Pairwise _;rw [hS];exact .nil
  ·show ovOk S.rv S.ts.length;rw [hS];exact rfl
  ·show P'.q.next<=_;rw [Bw];decide
  ·show S.now<=0;rw [hS];exact J1L _
  ·intro p hp;rcases Q2E hp with rfl|rfl <;> exact J3O _
  ·show S.ts=[];rw [hS]
  ·show S.now=0;rw [hS]
  ·show S.period=period;rw [hS]
  ·show P'.d.top=top;rw [gm.same.top,hf.etop]
  ·show P'.usedOf j=[];rw [gm.other j (by omega)];unfold PL.usedOf;split
   ·split
    ·rename_i c hc;unfold CA.used;rw [(hf.cs _ c hc).2.2.2];rfl
    ·rfl
   ·rfl
 ·have e1:(S.setP P').ht.l.set 0 ⟨1,64,0,1,(noPl 0).age,0⟩=newL 64:=by rw [hS];rfl
  have st6:Step (S.setP P').hl ((S.setP P').setL (newL 64)).hl w4 w5:=by
   have:=CO.stepL (S:=S.setP P') st'.sep _ st5;rw [e1] at this;exact this
  have f1:=Step.frame [] H (by simpa using s5.sep) (st'.trans st6);simp only [J3W] at f1;exact s5.trans f1
theorem Z1H {w:World} {H:HL} (h:Sep w H) (top:Nat) (h1:6<=top) (h2:top<=20) (limit:Int) (h0:64<=limit) (hl:limit<=((2 ^ (top+10):Nat):Int)) (period:Nat) (Bc:1<=period) (A5:period<=16) :
  Calls prog 15 #[.int .i64 ((2 ^ (top+10):Nat):Int),.int .i64 limit,.int .i64 period] w (Z5U top limit period H w):=by
 have b2:2 ^ (top+10)<=1073741824:=J1M (J3a (by omega) (by omega)) (by decide:2 ^ 30<=1073741824);have k1:=Z7P h top h1 h2 limit (by omega) hl;have HQ:Hid (∀r w1,Z9V top limit H w r w1->∃pp,r=.returned (.pointer (some ⟨pp,0,none⟩))/\Calls prog 63 #[] w1 fun r w2=>∃t,r=.returned (.pointer (some ⟨t,0,none⟩)) /\
   Calls prog 64 #[.int .i64 period] w2 fun r w3=>∃g,r=.returned (.pointer (some ⟨g,0,none⟩)) /\
    (w3.alloc (.cells #[.pointer (some ⟨pp,0,none⟩),.pointer (some ⟨t,0,none⟩),.pointer (some ⟨g,0,none⟩)] 142)).cell? ⟨w3.heap.size,0,none⟩=some (.pointer (some ⟨pp,0,none⟩)) /\
    (w3.alloc (.cells #[.pointer (some ⟨pp,0,none⟩),.pointer (some ⟨t,0,none⟩),.pointer (some ⟨g,0,none⟩)] 142)).cell? ⟨w3.heap.size,2,none⟩=some (.pointer (some ⟨g,0,none⟩)) /\
    Calls prog 65 #[.pointer (some ⟨pp,0,none⟩),.int .i64 0,.int .i64 1] (w3.alloc (.cells #[.pointer (some ⟨pp,0,none⟩),.pointer (some ⟨t,0,none⟩),.pointer (some ⟨g,0,none⟩)] 142)) fun r w4=>r=.returned (.tuple #[.int .i64 64,.int .i64 0])/\w4.cell? ⟨w3.heap.size,1,none⟩=some (.pointer (some ⟨t,0,none⟩)) /\
     Calls prog 66 #[.pointer (some ⟨t,0,none⟩),.agg #[.int .i64 1,.int .i64 64,.int .i64 0]] w4 fun r w5=>(∃x y:Value,r=.returned (.tuple #[x,y]))/\Z5U top limit period H w (.returned (.pointer (some ⟨w3.heap.size,0,none⟩))) w5):=by
  rintro r w1 ⟨P,rfl,Ac,hf,s1⟩;refine⟨P.p,rfl,(Z8m s1.sep).mono ?_⟩;rintro r w2 ⟨t,rfl,s2⟩;refine⟨t,rfl,(Z7Z s2.sep period Bc A5).mono ?_⟩;rintro r w3 ⟨g,rfl,s3⟩;exact⟨g,rfl,Z5V hf Ac h1 h0 (by omega) Bc A5 s1 s2 s3⟩
 generalize Z5U top limit period H w=Q at *
 clear h;go_enter func15,ntmps15;go_wp2_with fail;refine k1.mono ?_;intro r w1 hx;obtain⟨pp,rfl,ht⟩:=HQ.out _ _ hx;have HT:=Q0a ht;clear hx ht HQ k1;go_wp2_with fail;refine HT.out.mono ?_;rintro r w2 ⟨t,rfl,hg⟩;have HG:=Q0a hg;clear hg HT;go_wp2_with fail;refine HG.out.mono ?_;rintro r w3 ⟨g,rfl,c0,c2,Bp⟩;have De:=Q0a Bp;clear Bp HG;go_wp2_with fail;refine De.out.mono ?_;rintro r w4 ⟨rfl,c1,B8⟩;have Ld:=Q0a B8;clear B8 De c0 c2;go_wp2_with fail;refine Ld.out.mono ?_;rintro r w5 ⟨⟨x,y,rfl⟩,hq⟩;have HX:=Q0a hq;clear hq Ld c1;go_wp2_with fail
 first|exact HX.out|(go_ret;exact HX.out)
def Aside (H:HL) (L:List Nat) (a:Option Addr) (w:World):Prop:=∀(j x:Nat),L[j]?=some x->∃g,a=some ⟨g,0,none⟩/\g∉keys H/\g<w.heap.size/\w.cell? ⟨g,j,none⟩=some (.int .u32 x)
theorem Aside.step {H H':HL} {L:List Nat} {a:Option Addr} {w w':World} (h:Aside H L a w) (st:Step H H' w w'):Aside H' L a w':=fun j x hj=>by
 obtain⟨g,h1,h2,h3,h4⟩:=h j x hj;refine⟨g,h1,fun hk=>?_,J1N h3 st.chg.size,(World.cell?_of_block (w:=w) (st.chg.block g h3 h2)).trans h4⟩;rcases st.new g hk with h'|h'
 ·exact h2 h'
 ·omega
theorem NewHs.aside {w w':World} {H:HL} {L:List Nat} {r:Ending} (h:NewHs w L r w') (hs:Sep w H):∃(a:Option Addr) (cap:Nat),r=.returned (.slice a L.length cap)/\Below w.heap.size w w'/\Aside H L a w':=by
 obtain⟨a,cap,e,hb,hi⟩:=h.shape;refine⟨a,cap,e,hb,fun j x hj=>?_⟩;obtain⟨g,h1,h2,h3,h4⟩:=hi.at' j x hj;exact⟨g,h1,fun hk=>by have:=hs.lt hk;omega,h3,h4⟩
structure Able (S:CO) (f:Pl) (e:En Fa) (n:Nat) (lim:Int) (i:Nat) (p:Pl):Prop where
 kind:f.kind=1
 may:n=8∨1<=n/\n<=5
 acc:find S.P.q.E f.own=some e
 cost:((costK n:Nat):Int)<=Q0w e
 page:S.P.d.ps.length<2 ^ S.P.d.top
 place:Fst S.l i p
 lim:n=1->0<=lim/\lim<=Q0w e-64/\S.P.q.E.length<32
theorem MakeR.able {S:CO} {fr:List Nat} {h:Nat} {n:Nat} {lim:Int} {w w':World} {r:Ending} (m:MakeR S fr h (n:Int) lim w r w') {f:Pl} (hf:pget S.l 1 h=some f) {e:En Fa} {i:Nat} {p:Pl} (a:Able S f e n lim i p) :
  ∃b x P' fr',r=two (nm i p) 0/\MadeOk S fr f e n b lim x i p P' fr'/\Step S.hl (S.made f n b x i p P').hl w w':=by
 rcases m with ⟨h0,_⟩|⟨f',Ia,hm⟩
 ·rw [hf] at h0;cases h0
 ·rw [hf] at Ia;cases Ia;rcases hm with ⟨h0,_⟩|⟨_,hc,_⟩|⟨n',e',hn,_,_,_,he,hk⟩
  ·exact absurd a.kind h0
  ·exfalso;have:=a.may;rcases hc with h1|⟨h1,h2⟩
   ·apply h1;omega
   ·have:=a.lim (by omega);omega
  ·have:n'=n:=by omega
   subst this;rw [a.acc] at he;cases he;rcases hk with ⟨h0,_⟩|⟨_,h0,_⟩|⟨_,er,P',hc,_⟩|⟨i',p',b,x,P',fr',h1,h2,h3,_,rfl,hm,st⟩
   ·have:=a.cost;omega
   ·have:=h0.len;have:=a.page;omega
   ·exfalso;obtain⟨p1,p2,p3⟩:=a.place;rcases hc with ⟨_,h1|⟨h1,h2⟩⟩|⟨_,h1,h2⟩
    ·exact h1 p (J4a p1) p2
    ·have:=a.lim h1;omega
    ·have:=a.lim h1;omega
   ·obtain⟨p1,p2,p3⟩:=a.place;have hi:i'=i:=by
     rcases J4N i' i with h|h|h
     ·exact absurd h2 (p3 i' p' h h1)
     ·exact h
     ·exact absurd p2 (h3 i p h p1)
    subst hi;rw [p1] at h1;cases h1;exact⟨b,x,P',fr',rfl,hm,st⟩
end Go.Proofs.YtlakjlmaboioiaaGreatDoor
