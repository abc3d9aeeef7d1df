/- CarryGives returns true at every input. No condition. Part of a proof. -/
import Derived.Test.YtfidemmgofcnmaaGreatDoorBz31
set_option maxHeartbeats 16000000
set_option maxRecDepth 100000
set_option linter.unusedVariables false
namespace Go.Proofs.YtfidemmgofcnmaaGreatDoor
open Go.RowKit Go.Proofs.Tryz
theorem Z9Y{a a':AV}{id:Int}(h:Q1H 15 a id=(a',true)):∀u s c,a'.en u s=some c->a.en u s=some c:=by
 intro u s c hc;unfold Q1H at h;split at h
 ·cases h
 ·split at h
  ·cases h
  ·split at h
   ·cases h
    unfold setA at hc;dsimp only at hc;split at hc
    ·cases hc
    ·exact hc
   ·cases h
theorem Z4e{x:Nat}{A:Nat->Mv}{a0:AV}{k:Nat}{a:AV}(h:Q2j x A a0 k a):∀u s c,a.en u s=some c->a0.en u s=some c:=by
 induction h with
 | zero=>exact fun _ _ _ h=>h
 | skip k a _ _ ih=>exact ih
 | lift k a a' _ _ hw ih=>exact fun u s c hc=>ih u s c (Z9Y hw u s c hc)
section
variable {x y n:Nat} {A:Nat->Mv} {a0:AV} {nx:Int}
theorem Z7C(Af:AllFit a0.en x y n A){k:Nat}{a:AV}(h:AddsM x y A a0 nx k a):k<=n->∀u s c,a0.en u s=some c->a.en u s=some c:=by
 induction h with
 | zero=>exact fun _ _ _ _ h=>h
 | succ k a c b _ _ _ ih =>
  intro hk u s c' hc;have Cw:=(Af k (by omega)).1.free;show setA a.en y (A k).dst.toNat _ u s=some c';rw[Q5U]
  ·exact ih (by omega) u s c' hc
  ·rintro⟨rfl,rfl⟩;rw[Cw] at hc;cases hc
theorem Z7D(Af:AllFit a0.en x y n A){k:Nat}{a:AV}(h:AddsM x y A a0 nx k a):k<=n->∀s c,a0.en y s=none->a.en y s=some c->∃i,i<k/\s=(A i).dst.toNat/\∃c0,a0.en x (A i).src.toNat=some c0/\c=(c0.1,c0.2&&&(A i).r.toNat):=by
 induction h with
 | zero=>intro _ s c h0 h1;rw[h0] at h1;cases h1
 | succ k a c b hA hs hd ih =>
  intro hk s c' h0 h1;have Ip:setA a.en y (A k).dst.toNat (some (c.1,c.2&&&(A k).r.toNat)) y s=some c':=h1;by_cases e:s=(A k).dst.toNat
  ·subst e;rw[Q9h] at Ip;cases Ip;obtain⟨c0,ER,_⟩:=(Af k (by omega)).1.full;have:=Z7C Af hA (by omega) x _ c0 ER;rw[hs] at this;cases this;exact⟨k,by omega,rfl,c,ER,rfl⟩
  ·rw[Q5U (by rintro⟨_,h⟩;exact e h)] at Ip;obtain⟨i,hi,r⟩:=ih (by omega) s c' h0 Ip;exact⟨i,by omega,r⟩
end
theorem Z9Z{Z Z1:SP}{tf tt:Nat}{v:Wi}{its:List It}(CE:∀i∈its,Q5e Z tf v i){a:AV}
  (Af:AllFit Z.av.en tf tt (Q1g Z tf v its).length (fun j=>(Q1g Z tf v its).getD j noMv)) (AZ:AddsM tf tt (fun j=>(Q1g Z tf v its).getD j noMv) Z.av Z.F.next (Q1g Z tf v its).length a) (Ca:Q2j tf (fun j=>(Q1g Z tf v its).getD j noMv) a (Q1g Z tf v its).length Z1.av)
  {s:Nat} {c:Nat×Nat} (h0:Z.av.en tt s=none) (h1:Z1.av.en tt s=some c) :
  ∃(k:Nat) (i:It) (j:Nat) (c0:Nat×Nat),its[k]?=some i/\j<2 ^ i.order.toNat/\0<=i.base/\0<=i.off/\0<=v.base/\(s:Int)=v.base+i.off+j/\(s:Int)<v.base+((2 ^ v.order.toNat:Nat):Int)/\i.base.toNat+j<256/\Z.av.en tf (i.base.toNat+j)=some c0/\c0.2&&&4≠0/\c=(c0.1,c0.2&&&i.r.toNat)/\1<=i.r/\i.r<=15:=by
 have h2:=Z4e Ca tt s c h1;obtain⟨q,hq,hs,c0,ER,hc⟩:=Z7D Af AZ (J3h _) s c h0 h2;have A2:(Q1g Z tf v its).getD q noMv∈Q1g Z tf v its:=by
  rw[J7y,J5s hq];exact J6z hq
 have OB:=(Af q hq).1;obtain⟨c1,Cd,h4,_⟩:=OB.full;have A7:c1=c0:=by rw[ER] at Cd;exact(J3Y Cd).symm
 subst A7;generalize (Q1g Z tf v its).getD q noMv=m at *
 unfold Q1g at A2;obtain⟨i,hi,hm⟩:=J3G.1 A2;unfold movV at hm;obtain⟨j,hj,rfl⟩:=J3n.1 hm;have IJ:j<2 ^ i.order.toNat:=J3x.1 (J3B.1 hj).1;obtain⟨k,hk⟩:=J5Q.1 hi;obtain⟨p,_,_,WG,Cs⟩:=CE i hi;have Dm:=WG;unfold Q3g Q0W at Dm;simp only[J3C,decide_eq_true_eq] at Dm;obtain⟨⟨AQ,UA,UW,V6,_⟩,Dd,_⟩:=Dm;obtain⟨g1,g2,g3,g4,g5⟩:=Q0L AQ;obtain⟨g1',_,_,_,_⟩:=Q0L Dd;unfold itMv at hs ER hc OB;dsimp only at hs ER hc;have hd:=OB.dst;dsimp only at hd;have e1:(i.base+(j:Int)).toNat=i.base.toNat+j:=by omega
 rw[e1] at ER;refine⟨k,i,j,c1,hk,IJ,g1,V6,g1',by omega,by omega,by omega,ER,h4,hc,UA,UW⟩
theorem Z4f{P:Program}{w:World}{t:TypeId}{Z:Array Value}(hz:((P.info? t).bind (·.zero)).map Value.cells=some Z):(Instr.alloc t true (.tuple #[])).run P w=.ok (.pointer (some ⟨w.heap.size,0,none⟩)) (w.alloc (.cells Z t)):=by
 cases hi:P.info? t with
 | none=>simp[hi] at hz
 | some i =>
  cases Oc:i.zero with
  | none=>simp[hi,Oc] at hz
  | some z =>
   simp only[hi,Oc,Option.bind_some,J4P,J3v] at hz;subst hz;simp[Instr.alloc,zeroValue,typeInfo,hi,Oc,newVar,newRow]
theorem Q4x{P:Program}{ops:Array Oper}{rest:List Oper}{o:Oper}{a:Act}{w:World}{Q:Exit->Act->World->Prop}(hg:o.guard=none)(t:TypeId)(ho:o.op=.alloc t)(dst:Option Tmp)(hdst:o.dst=dst)(N:Nat)(hN:w.heap.size=N)(Z:Array Value)
  (hz:((P.info? t).bind (·.zero)).map Value.cells=some Z)
  (h:wpList P ops Q rest (a.put dst (.pointer (some ⟨N,0,none⟩))) (w.alloc (.cells Z t))):wpList P ops Q (o::rest) a w:=by
 subst hdst hN;refine wpList_plain hg fun K hK=>?_
 unfold Oper.wp execOp;simp only[ho,Z4f hz,Sem.run_bind,Sem.run_pure,Result.andThen_ok];exact hK _ _ h
def cpV(o:Option (Nat×Nat)):Nat×Nat:=o.getD (0,0)
section
variable {Z:SP} {fr:List Nat} {N K:Nat} {M:Int} {w w':World}
end
def updF(f:Nat->Nat×Nat)(k:Nat)(v:Nat×Nat):Nat->Nat×Nat:=fun j=>if j=k then v else f j
def Q2a(f:Nat->Nat×Nat):List Value:=(List.range 512).map fun i=>if i%2=0 then .int .u32 ((f (i/2)).1:Int) else .int .i64 ((f (i/2)).2:Int)
theorem Z1g(f:Nat->Nat×Nat){k:Nat}(h:k<256):(Q2a f)[k*2]?=some (.int .u32 ((f k).1:Int)):=by
 unfold Q2a;rw[J4M,J4O (by omega)];simp
theorem Q8x(f:Nat->Nat×Nat){k:Nat}(h:k<256):(Q2a f)[k*2+1]?=some (.int .i64 ((f k).2:Int)):=by
 unfold Q2a;rw[J4M,J4O (by omega)];have h1:(k*2+1)%2=1:=by omega
 have h2:(k*2+1)/2=k:=by omega
 simp[h1,h2]
theorem Q9Z(f:Nat->Nat×Nat)(k:Nat)(v:Nat×Nat):((Q2a f).set (k*2) (.int .u32 (v.1:Int))).set (k*2+1) (.int .i64 (v.2:Int))=Q2a (updF f k v):=by
 apply J4J
 intro i;unfold Q2a;rw[J4I,J4I];simp only[J4M,J4N,J4K,J4L];by_cases hi:i<512
 ·rw[J4O hi];unfold updF;by_cases h1:k*2+1=i
  ·have h2:i%2=1:=by omega
   have h3:i/2=k:=by omega
   simp[h1,hi,h2,h3]
  ·by_cases h2:k*2=i
   ·have h3:i%2=0:=by omega
    have h4:i/2=k:=by omega
    simp[h1,h2,hi,h3,h4]
   ·have h3:¬i/2=k:=by omega
    simp[h1,h2,h3]
 ·have h1:(List.range 512)[i]?=none:=J4Q (by simp;omega);rw[h1];have h2:k*2+1=i->¬i<512:=fun _=>hi
  have h3:k*2=i->¬i<512:=fun _=>hi
  by_cases q1:k*2+1=i <;> by_cases q2:k*2=i <;> simp[q1,q2,hi]
theorem Z4g:((prog.info? 122).bind (·.zero)).map Value.cells=some (Q2a fun _=>(0,0)).toArray:=by kernel_rfl
def gotF(E:Nat->Nat->Option (Nat×Nat))(x k:Nat):Nat->Nat×Nat:=fun j=>if j<k then cpV (E x j) else(0,0)
theorem Z0a(E:Nat->Nat->Option (Nat×Nat))(x k:Nat):updF (gotF E x k) k (cpV (E x k))=gotF E x (k+1):=by
 funext j;unfold updF gotF;by_cases h:j=k
 ·subst h;rw[if_pos rfl,if_pos (by omega)]
 ·rw[if_neg h];by_cases h2:j<k
  ·rw[if_pos h2,if_pos (by omega)]
  ·rw[if_neg h2,if_neg (by omega)]
theorem J0u(E:Nat->Nat->Option (Nat×Nat))(x:Nat):gotF E x 0=fun _=>(0,0):=by
 funext j;unfold gotF;rw[if_neg (by omega)]
theorem Z7E(E:Nat->Nat->Option (Nat×Nat))(x:Nat){n:Nat}(h:n<256):gotF E x 256 n=cpV (E x n):=by unfold gotF;rw[if_pos h]
structure Stay(B:Nat)(w w':World):Prop where
 size:w.heap.size<=w'.heap.size
 block:∀b,B<=b->b<w.heap.size->w'.heap[b]?=w.heap[b]?
theorem Stay.of{B:Nat}{w w':World}(h:Below w.heap.size w w'):Stay B w w':=⟨h.size,fun b _ hb=>h.block b hb⟩
theorem Stay.trans{B:Nat}{w w1 w2:World}(h:Stay B w w1)(k:Stay B w1 w2):Stay B w w2:=⟨J3i h.size k.size,fun b h1 h2=>(k.block b h1 (J3j h2 h.size)).trans (h.block b h1 h2)⟩
theorem Stay.cell{B:Nat}{w w':World}(h:Stay B w w'){b:Nat}(hb:B<=b){i:Nat}{v:Value}(hv:w.cell? ⟨b,i,none⟩=some v):w'.cell? ⟨b,i,none⟩=some v:=
 (World.cell?_of_block (w:=w) (h.block b hb (World.block_lt_of_cell? _ _ hv))).trans hv
theorem Stay.cells{B:Nat}{w w':World}(h:Stay B w w'){b:Nat}(hb:B<=b){T:TypeId}{cs:List Value}(hv:Cells w b T cs):Cells w' b T cs:=hv.same (h.block b hb hv.lt)
section
variable {Z Z':SP} {fr:List Nat} {N K:Nat} {M:Int} {f:Nat->Nat×Nat} {w w':World}
theorem J0a(Z:SP)(x:Nat){n:Nat}(hn:n<256):∃e:Int,Q5c Z.S.l Z.tb x (n:Int)=.tuple #[.agg #[.int .u32 ((cpV (Z.av.en x n)).1:Int),.int .i64 ((cpV (Z.av.en x n)).2:Int)],.int .i64 e]/\(e=0->∃c,Z.av.en x n=some c):=by
 cases hp:pget Z.S.l 1 x with
 | none =>
  have h0:Z.av.en x n=none:=by
   show(Q0f Z.S.l Z.tb x n).map Ent.c=none;unfold Q0f;rw[hp];rfl
  refine⟨8,?_,fun h=>by omega⟩;rw[h0];unfold Q5c;rw[hp];rfl
 | some p =>
  by_cases hk:p.kind=2
  ·have:=Z2c (Z:=Z) (x:=x) (z:=(n:Int)) hp hk (by omega);rw[J4g] at this;rw[this];cases Z.av.en x n with
   | none=>exact⟨6,rfl,fun h=>by omega⟩
   | some c=>exact⟨0,rfl,fun _=>⟨c,rfl⟩⟩
  ·have h0:Z.av.en x n=none:=by
    show(Q0f Z.S.l Z.tb x n).map Ent.c=none;unfold Q0f;rw[hp];simp only;rw[if_neg (fun h=>hk h.1)];rfl
   refine⟨10,?_,fun h=>by omega⟩;rw[h0];unfold Q5c;rw[hp];simp only;rw[if_neg hk];rfl
theorem Z7F(hs:Sep w Z.hl)(ok:Z.Ok fr N K M){x:Nat}(hx:x<4294967296){n:Nat}(hn:n<256):∃e:Int,(Calls prog 37 #[.pointer (some ⟨Z.s,0,none⟩),.int .u32 x,.int .i64 n] w (Told w (.tuple #[.agg #[.int .u32 ((cpV (Z.av.en x n)).1:Int),.int .i64 ((cpV (Z.av.en x n)).2:Int)],.int .i64 e])))/\(e=0->∃c,Z.av.en x n=some c):=by
 obtain⟨e,he,h⟩:=J0a Z x hn;have:=Q6g hs ok hx (n:Int);rw[he] at this;exact⟨e,this,h⟩
theorem SP.Ok.rights{x n:Nat}{c:Nat×Nat}(ok:Z.Ok fr N K M)(h:Z.av.en x n=some c):1<=c.2/\c.2<16:=ok.fpi.rights h
def J2P(E E':Nat->Nat->Option (Nat×Nat))(tf tt:Nat)(v:Wi)(its:List It):Prop:=∀(s:Nat) (c:Nat×Nat),E tt s=none->E' tt s=some c ->
 ∃(k:Nat) (i:It) (j:Nat) (c0:Nat×Nat),its[k]?=some i/\j<2 ^ i.order.toNat/\0<=i.base/\0<=i.off/\0<=v.base/\(s:Int)=v.base+i.off+j/\(s:Int)<v.base+((2 ^ v.order.toNat:Nat):Int)/\i.base.toNat+j<256/\E tf (i.base.toNat+j)=some c0/\c0.2&&&4≠0/\c=(c0.1,c0.2&&&i.r.toNat)/\1<=i.r/\i.r<=15
theorem J0b(ok:Z.Ok fr N K M)(j:CaJ Z f)(h:Sep w Z.hl){wb:World}(Im:Sep wb Z.hl){c kk:Nat}(hc:CarC Z c kk w)(hM:M+256<1099511627776){a b:Nat}(ha:a<3)(hb:b<3)(ha6:atE f a<=65536)(BW:atE f b<=65536) :
  Calls prog 54 #[.pointer (some ⟨c,0,none⟩),.agg #[.int .u32 (tkE f a:Int),.int .i64 (atE f a:Int)],.agg #[.int .u32 (tkE f b:Int),.int .i64 (atE f b:Int)],.int .u64 1] w fun r w'=>∃(er:Int),r=.returned (.int .i64 er)/\(∀q,wb.heap.size<=q->q<w.heap.size->w'.heap[q]?=w.heap[q]?)/\(∃Z':SP,Step Z.hl Z'.hl w w'/\(er=0->Z'.Ok fr N K (M+256)/\Z'.s=Z.s/\J2P Z.av.en Z'.av.en (tkE f a) (tkE f b) (winV Z.S.P.a.mem (atE f b)) (msgV Z.S.P.a.mem (atE f a)).its)):=by
 have ht:∀k,k<3->tkE f k<4294967296:=fun k hk=>by rw[(end3 f hk).1];omega
 refine(Q1X ok h hM hc (ht a ha) (ht b hb) (atE f a:Int) (atE f b:Int) (by omega) (by omega) (lb:=1) (by omega)).mono ?_;rintro r w' (⟨er,h0,rfl,DP,_⟩|⟨p,p',hp,AG,CE,⟨er,w5,h0,rfl,As,RT⟩|⟨rfl,av,Z1,Af,AZ,Ca,sn,_,ok1,ok2,st⟩⟩)
 ·exact⟨er,rfl,fun q _ hq=>DP.block q hq,Z,h.grown DP,fun e=>absurd e h0⟩
 ·have hg:=RT.keepJ ok;obtain⟨Z1,_,_,_,s1⟩:=GoesJ.at h As hg;exact⟨er,rfl,s1.keep Im (J3h _),Z1,s1,fun e=>absurd e h0⟩
 ·have hl:=Q8t Z (tkE f a) p p' CE;refine⟨0,rfl,st.keep Im (J3h _),_,st,fun _=>⟨ok2.mono (J3h _) (J3h _) (by omega),sn.s,fun s cc h0 h1=>?_⟩⟩;have eL:carL Z (tkE f a) p p'=Q1g Z (tkE f a) (winV Z.S.P.a.mem (atE f b)) (msgV Z.S.P.a.mem (atE f a)).its:=by unfold carL;rw[hp.eq,AG.eq]
  have eA:carA Z (tkE f a) p p'=fun j=>(Q1g Z (tkE f a) (winV Z.S.P.a.mem (atE f b)) (msgV Z.S.P.a.mem (atE f a)).its).getD j noMv:=by unfold carA;rw[eL]
  rw[eL,eA] at Af AZ Ca;rw[hp.eq,AG.eq] at CE;exact Z9Z CE Af AZ Ca h0 h1
end
structure MP where
 l:Nat
 a:Option Addr
 n:Nat
 c:Nat
 x:Option Addr
 xn:Nat
 xc:Nat
def MP.cells(p:MP):List Value:=[.int .u64 (p.l:Int),.slice p.a p.n p.c,.slice p.x p.xn p.xc]
structure MP.Is(p:MP)(x:Msg)(w:World):Prop where
 l:p.l=x.label
 n:p.n=x.ws.length
 xn:p.xn=x.its.length
 u:IsU w p.a x.ws
 i:IsI w p.x x.its
theorem MP.Is.below{p:MP}{x:Msg}{w w':World}(h:p.Is x w)(hb:Below w.heap.size w w'):p.Is x w':=⟨h.l,h.n,h.xn,h.u.below hb,h.i.below hb⟩
theorem IsU.stay{B:Nat}{w w':World}{a:Option Addr}{ws:List Nat}(h:IsU w a ws)(hB:∀b,a=some b->B<=b.block)(s:Stay B w w'):IsU w' a ws:=fun j y hj=>by
 obtain⟨g,o,e,hg,hc⟩:=h j y hj;exact⟨g,o,e,J3j hg s.size,(World.cell?_of_block (w:=w) (s.block g (hB _ e) hg)).trans hc⟩
theorem IsI.stay{B:Nat}{w w':World}{a:Option Addr}{its:List It}(h:IsI w a its)(hB:∀b,a=some b->B<=b.block)(s:Stay B w w'):IsI w' a its:=fun j y hj=>by
 obtain⟨g,o,e,hg,hc⟩:=h j y hj;exact⟨g,o,e,J3j hg s.size,fun c v hv=>(World.cell?_of_block (w:=w) (s.block g (hB _ e) hg)).trans (hc c v hv)⟩
def MP.From(p:MP)(B:Nat):Prop:=(∀b,p.a=some b->B<=b.block)/\∀b,p.x=some b->B<=b.block
theorem MP.From.mono{p:MP}{B B':Nat}(h:p.From B)(hb:B'<=B):p.From B':=⟨fun b e=>J3i hb (h.1 b e),fun b e=>J3i hb (h.2 b e)⟩
theorem MP.Is.stay{p:MP}{x:Msg}{B:Nat}{w w':World}(h:p.Is x w)(hB:p.From B)(s:Stay B w w'):p.Is x w':=⟨h.l,h.n,h.xn,h.u.stay hB.1 s,h.i.stay hB.2 s⟩
theorem Z4h(m:List Nat)(p:Nat):0<=(winV m p).base/\(winV m p).base<256/\0<=(winV m p).order/\(winV m p).order<=7:=by
 unfold winV;split
 ·rename_i h;obtain⟨a1,a2,a3,a4,_⟩:=Q0L h.2;dsimp only;refine⟨a1,by omega,a2,a3⟩
 ·exact⟨by decide,by decide,by decide,by decide⟩
theorem Q6L{w:World}(AM:Env w)(a0:Option Addr)(n cap:Nat)(A:Nat->A19)(hA:IsA19 w a0 n A)(fm:Nat)(OB:fm<256)(tm:Nat)(htm:tm<256) :
  Calls prog 9 #[.slice a0 n cap,.int .u8 fm,.int .u8 tm] w (Told w (.bool true)):=by
 have ka:=Q6y AM;have Hs:Hid (∀W,Below w.heap.size w W->Calls prog 47 #[.slice a0 n cap] W fun r w'=>r=.returned (.bool (Q4w A n))/\W=w'):=fun W hb=>Q9S W a0 n cap A (hA.below hb)
 have GD:Hid (∀W,Below w.heap.size w W->Calls prog 43 #[.int .i64 65536] W fun r w'=>∃c k ge cap f,r=.returned (.tuple #[.pointer (some ⟨c,0,none⟩),.slice (some ⟨ge,0,none⟩) 5 cap,.bool true])/\CarB 65536 c k ge f W w'):=fun W hb=>Q3S (AM.below hb) 65536 (by omega)
 have HA:=Q0a hA;have HF:Hid (Q4w A n=true->n<=40/\∀j,j<n->few1 (A j)):=Q9U;have ea:Int.tmod (fm:Int) 3=((fm%3:Nat):Int):=by rw[J4S (by omega)];omega
 have eb:Int.tmod (tm:Int) 3=((tm%3:Nat):Int):=by rw[J4S (by omega)];omega
 obtain⟨CT,SJ⟩:∃q,q=fm%3:=⟨_,rfl⟩
 obtain⟨Cc,Cf⟩:∃q,q=tm%3:=⟨_,rfl⟩
 have KI:CT<3:=by omega
 have Am:Cc<3:=by omega
 rw[<- SJ] at ea;rw[<- Cf] at eb;clear hA AM SJ Cf;have Wa:(0:Int)<=(fm:Int):=by omega
 have VJ:(fm:Int)<256:=by omega
 have WV:(0:Int)<=(tm:Int):=by omega
 have Wv:(tm:Int)<256:=by omega
 go_enter func9,ntmps9;go_wp2_with fail;refine ka.mono ?_;rintro r w0⟨rfl,Bv⟩;have Cj:=Q0a Bv;have kf:=Hs.out w0 Bv;have HN:=Q0a (GD.out w0 Bv);clear Bv ka GD Hs;go_wp2_with fail;refine kf.mono ?_;rintro r w0'⟨rfl,rfl⟩;clear kf;generalize Q4w A n=fv at *
 cases fv with
 | false =>
  clear HN HF;go_wp2_with fail
  (try go_ret);exact⟨rfl,Cj.out⟩
 | true =>
 obtain⟨Hj,Ea⟩:=HF.out rfl;have Mb:=Q0a Ea;clear HF Ea;have Em:(0:Int)<=(n:Int):=by omega
 have G7:(n:Int)<=40:=by omega
 have GM:=Q0a Hj;clear Hj;go_wp2_with fail;refine HN.out.mono ?_;rintro r w1⟨c,k,ge,cp,f,rfl,hB⟩;have HQ:=Q0a (CaT.begin hB);clear HN hB;go_wp2_with fail
 go_loopg [10] n (fun gk iv wr=>∃i:Nat,iv=.int .i64 i/\i+gk=n/\CaT c k ge f (8+i) 0 (2+256*(i:Int)) w0 wr)
 case atStart=>exact⟨0,rfl,by omega,HQ.out⟩
 case round =>
 clear HQ;obtain⟨i,rfl,Jm,hq⟩:=hrel;have Jf:=Q0a Jm;clear Jm;by_cases Aa:i<n
 case pos =>
  have QS:=GM.out;obtain⟨g,o,cs,rfl,Mc,Br,kp⟩:=Z2n (cap:=cp) HA.out Cj.out hq (by omega) (by omega) Aa (Mb.out i Aa);have Ff:(i:Int)<(n:Int):=by omega
  have BH:(0:Int)<=(i:Int):=by omega
  have KP:=Q0a kp;clear hq kp QS;go_upto_region 11 with fail
  iterate 16 go_step
  refine wpList_load_mid (by rfl) 102 _ (by rfl) g (o+i*29) (by rfl) cs _ Mc underlying102 (by rfl) Br ?_;clear Mc Br;go_wp2_with fail;refine KP.out.mono ?_;rintro rr w3⟨rfl,hq⟩;have HQ:=Q0a hq;clear hq KP;go_wp2_with fail;go_roundg (n-(i+1))
  case measure=>have:=Jf.out;omega
  case rel=>exact⟨i+1,by go_num,by have:=Jf.out;omega,HQ.out.mono (by omega) (by omega) (by omega)⟩
 case neg =>
  have Mo:¬(i:Int)<(n:Int):=by omega
  have Rc:i<=40:=by have:=GM.out;have:=Jf.out;omega
  have Au:∀q,q<3->atE f q<=65536:=fun q C5=>hq.atE_lt (by omega)
  obtain⟨Z,fr,ok,j,hc,he,st⟩:=hq;have BN:Hid (Below w0.heap.size w0 wr):=st.fresh;have AU:∀q,q<3->tkE f q<4294967296:=fun q hq=>by rw[(end3 f hq).1];omega
  have Fh:Hid (∀V,Below wr.heap.size wr V->(V.cell? ⟨ge,CT*2,none⟩=some (.int .u32 (tkE f CT:Int))/\V.cell? ⟨ge,CT*2+1,none⟩=some (.int .i64 (atE f CT:Int)))/\V.cell? ⟨ge,Cc*2,none⟩=some (.int .u32 (tkE f Cc:Int))/\V.cell? ⟨ge,Cc*2+1,none⟩=some (.int .i64 (atE f Cc:Int))):=fun V hV=>by
   have h1:=AsideV.step he (st.sep.grown hV);have key:∀q,q<3->V.cell? ⟨ge,q*2,none⟩=some (.int .u32 (tkE f q:Int))/\V.cell? ⟨ge,q*2+1,none⟩=some (.int .i64 (atE f q:Int)):=fun q hq=>by
    obtain⟨e1,e2⟩:=Q3U f (i:=q) (by omega);rw[J6b q 2];obtain⟨_,x1,_,_,z1⟩:=h1 _ _ e1;obtain⟨_,x2,_,_,z2⟩:=h1 _ _ e2;cases x1;cases x2;exact⟨z1,z2⟩
   exact⟨key _ KI,key _ Am⟩
  have Cm:Hid (∀V,Below wr.heap.size wr V->Calls prog 52 #[.pointer (some ⟨c,0,none⟩),.agg #[.int .u32 (tkE f CT:Int),.int .i64 (atE f CT:Int)]] V fun r w'=>∃p:MP,r=.returned (.tuple #[.agg #[.int .u64 (p.l:Int),.slice p.a p.n p.c,.slice p.x p.xn p.xc],.int .i64 0])/\Below V.heap.size V w'/\p.Is (msgV Z.S.P.a.mem (atE f CT)) w'/\p.From V.heap.size):=fun V hV=>by
   have s1:=st.sep.grown hV;refine(J2L ok j s1.sep (hc.step rfl s1) KI (Au _ KI)).mono ?_;rintro r w'⟨a,x,ca,cx,rfl,hb,⟨h1,h2⟩,h3,h4⟩;exact⟨⟨_,a,_,ca,x,_,cx⟩,rfl,hb,⟨rfl,rfl,rfl,h1,h2⟩,h3,h4⟩
  have K7:Hid (∀V,Below wr.heap.size wr V->Calls prog 53 #[.pointer (some ⟨c,0,none⟩),.agg #[.int .u32 (tkE f Cc:Int),.int .i64 (atE f Cc:Int)]] V (Told V (.tuple #[.agg #[.int .i64 (winV Z.S.P.a.mem (atE f Cc)).base,.int .i64 (winV Z.S.P.a.mem (atE f Cc)).order],.int .i64 0]))):=fun V hV=>J2M ok j (st.sep.grown hV).sep (hc.step rfl (st.sep.grown hV)) Am (Au _ Am)
  have EA:Hid (∀V,Below wr.heap.size wr V->Calls prog 44 #[.pointer (some ⟨c,0,none⟩)] V fun r w'=>r=.returned (.pointer (some ⟨Z.s,0,none⟩))/\V=w'):=fun V hV=>Q2f (hc.step rfl (st.sep.grown hV))
  have Qx:Hid (∀V,Below wr.heap.size wr V->∀q n:Nat,q<3->n<256->∃e:Int,Calls prog 37 #[.pointer (some ⟨Z.s,0,none⟩),.int .u32 (tkE f q:Int),.int .i64 n] V (Told V (.tuple #[.agg #[.int .u32 ((cpV (Z.av.en (tkE f q) n)).1:Int),.int .i64 ((cpV (Z.av.en (tkE f q) n)).2:Int)],.int .i64 e]))):=fun V hV q n hq hn=>by
   obtain⟨e,h,_⟩:=Z7F (st.sep.grown hV).sep ok (AU q hq) hn;exact⟨e,h⟩
  have Gb:Hid (∀V,Below wr.heap.size wr V->Calls prog 54 #[.pointer (some ⟨c,0,none⟩),.agg #[.int .u32 (tkE f CT:Int),.int .i64 (atE f CT:Int)],.agg #[.int .u32 (tkE f Cc:Int),.int .i64 (atE f Cc:Int)],.int .u64 1] V fun r w'=>∃er:Int,r=.returned (.int .i64 er)/\Below w0.heap.size w0 w'/\Stay wr.heap.size V w'/\(er=0->∃E':Nat->Nat->Option (Nat×Nat),J2P Z.av.en E' (tkE f CT) (tkE f Cc) (winV Z.S.P.a.mem (atE f Cc)) (msgV Z.S.P.a.mem (atE f CT)).its/\∀W,Below w'.heap.size w' W->∀n:Nat,n<256->∃e:Int,(Calls prog 37 #[.pointer (some ⟨Z.s,0,none⟩),.int .u32 (tkE f Cc:Int),.int .i64 n] W (Told W (.tuple #[.agg #[.int .u32 ((cpV (E' (tkE f Cc) n)).1:Int),.int .i64 ((cpV (E' (tkE f Cc) n)).2:Int)],.int .i64 e])))/\(e=0->∃c,E' (tkE f Cc) n=some c))):=fun V hV=>by
   have s1:=st.sep.grown hV;refine(J0b ok j s1.sep st.sep (hc.step rfl s1) (by omega) KI Am (Au _ KI) (Au _ Am)).mono ?_;rintro r w'⟨er,rfl,hk,Z',s2,hz⟩;have s3:=s1.trans s2;refine⟨er,rfl,(st.trans s3).fresh,⟨s2.chg.size,hk⟩,fun h0=>?_⟩;obtain⟨ok',es,hg⟩:=hz h0;refine⟨Z'.av.en,hg,fun W hW n hn=>?_⟩;have s4:=s3.trans (s3.sep.grown hW);have:=Z7F s4.sep ok' (AU _ Am) hn;rw[es] at this;exact this
  have Jk:Hid (∀n x:Nat,(cpV (Z.av.en x n)).2=0->Z.av.en x n=none):=fun n x h=>by
   cases hx:Z.av.en x n with
   | none=>rfl
   | some c0 =>
    have:=(ok.rights hx).1;rw[hx] at h;have h':c0.2=0:=h;omega
  have J4:Hid (∀n x:Nat,(cpV (Z.av.en x n)).2<16):=fun n x=>by
   cases hx:Z.av.en x n with
   | none=>exact(by decide:(0:Nat)<16)
   | some c0=>exact(ok.rights hx).2
  have Cz:Hid ((msgV Z.S.P.a.mem (atE f CT)).its.length<=2/\∀i∈(msgV Z.S.P.a.mem (atE f CT)).its,Q0W i=true):=Q8p _ _;have PC:Hid (0<=(winV Z.S.P.a.mem (atE f Cc)).base/\(winV Z.S.P.a.mem (atE f Cc)).base<256/\0<=(winV Z.S.P.a.mem (atE f Cc)).order/\(winV Z.S.P.a.mem (atE f Cc)).order<=7):=Z4h _ _;have LF:=AU _ KI;have XE:=AU _ Am;generalize msgV Z.S.P.a.mem (atE f CT)=ms at *
  generalize winV Z.S.P.a.mem (atE f Cc)=wi at *
  generalize Z.av.en=E at *
  generalize Z.s=ss at *
  generalize hTa:tkE f CT=ta at *
  generalize hTb:tkE f Cc=tb at *
  generalize atE f CT=aa at *
  generalize atE f Cc=ab at *
  have Qi:Hid (∀V,Below wr.heap.size wr V->∀n:Nat,n<256->∃e:Int,Calls prog 37 #[.pointer (some ⟨ss,0,none⟩),.int .u32 ta,.int .i64 n] V (Told V (.tuple #[.agg #[.int .u32 ((cpV (E ta n)).1:Int),.int .i64 ((cpV (E ta n)).2:Int)],.int .i64 e]))):=fun V hV n hn=>by
   have:=Qx.out V hV CT n KI hn;rw[hTa] at this;exact this
  have Rp:Hid (∀V,Below wr.heap.size wr V->∀n:Nat,n<256->∃e:Int,Calls prog 37 #[.pointer (some ⟨ss,0,none⟩),.int .u32 tb,.int .i64 n] V (Told V (.tuple #[.agg #[.int .u32 ((cpV (E tb n)).1:Int),.int .i64 ((cpV (E tb n)).2:Int)],.int .i64 e]))):=fun V hV n hn=>by
   have:=Qx.out V hV Cc n Am hn;rw[hTb] at this;exact this
  clear ok j hc he st Au AU Mb HA Jf Qx hTa hTb;have Xl:(CT:Int)<5:=by omega
  have Ws:(Cc:Int)<5:=by omega
  have Vw:(0:Int)<=(CT:Int):=by omega
  have VK:(0:Int)<=(Cc:Int):=by omega
  obtain⟨wq,WR⟩:∃wq:World,wq=wr:=⟨_,rfl⟩
  subst WR;go_upto_region 12 with fail
  go_cut [11,12] from 54 to 65 (fun a b wc=>∃B1 B2:Nat,a=.pointer (some ⟨B1,0,none⟩)/\b=.pointer (some ⟨B2,0,none⟩)/\Below wq.heap.size wq wc/\(wq.heap.size<=B1/\wq.heap.size<=B2)/\(wc.cell? ⟨B1,0,none⟩=some (.int .u32 ta)/\wc.cell? ⟨B1,1,none⟩=some (.int .i64 aa))/\wc.cell? ⟨B2,0,none⟩=some (.int .u32 tb)/\wc.cell? ⟨B2,1,none⟩=some (.int .i64 ab))
  case first =>
   clear Cm K7 EA Gb Jk J4 Cz PC Qi Rp BN;have wfm:IntKind.i64.wrap (fm:Int)=(fm:Int):=Go.IntWalk.i64_in _ (by omega);have wtm:IntKind.i64.wrap (tm:Int)=(tm:Int):=Go.IntWalk.i64_in _ (by omega);have wka:IntKind.i64.wrap (CT:Int)=(CT:Int):=Go.IntWalk.i64_in _ (by omega);have wkb:IntKind.i64.wrap (Cc:Int)=(Cc:Int):=Go.IntWalk.i64_in _ (by omega)
   go_region_held3 (fun V=>(V.cell? ⟨ge,CT*2,none⟩=some (.int .u32 ta)/\V.cell? ⟨ge,CT*2+1,none⟩=some (.int .i64 aa))/\V.cell? ⟨ge,Cc*2,none⟩=some (.int .u32 tb)/\V.cell? ⟨ge,Cc*2+1,none⟩=some (.int .i64 ab))
    (first|(refine Fh.out _ ?_;repeat' first|exact Below.refl _ _|refine Below.drew ?_|refine Below.alloc ?_ (by simp) _|refine Below.setCell ?_ (by simp) _))
    (fail)
   all_goals (go_wp2_with fail;go_meet)
   all_goals
    refine⟨_,_,rfl,rfl,?_,⟨?_,?_⟩,⟨?_,?_⟩,?_,?_⟩
    ·repeat' first|exact Below.refl _ _|refine Below.drew ?_|refine Below.alloc ?_ (by simp) _|refine Below.setCell ?_ (by simp) _
    all_goals simp[go_sem]
  obtain⟨B1,B2,rfl,rfl,hb,⟨D9,IT⟩,Kj,Lt⟩:=hcut;obtain⟨wb,Im⟩:∃wb:World,wb=wc:=⟨_,rfl⟩
  subst Im;have LQ:=Q0a hb;have OW:=Q0a D9;have Kq:=Q0a IT;have JL:=Q0a Kj;have Dr:=Q0a Lt;obtain⟨b10,b11⟩:=Kj;have kg:=Q0a (Cm.out wb hb);clear hb D9 IT Lt Cm Fh ea eb;go_wp2_with fail;refine kg.out.mono ?_;rintro rv w5⟨p,rfl,As,Uj,Cw⟩;have Ao:Stay wq.heap.size wb (w5.alloc (.cells #[.int .u64 (p.l:Int),.slice p.a p.n p.c,.slice p.x p.xn p.xc] 100)):=(Stay.of As).trans (Stay.of ((Below.refl _ _).alloc (J3h _) _));have DD:Below wq.heap.size wq (w5.alloc (.cells #[.int .u64 (p.l:Int),.slice p.a p.n p.c,.slice p.x p.xn p.xc] 100)):=(LQ.out.trans (As.mono LQ.out.size)).alloc (J3i LQ.out.size As.size) _
  have Jr:Hid (Cells (w5.alloc (.cells #[.int .u64 (p.l:Int),.slice p.a p.n p.c,.slice p.x p.xn p.xc] 100)) w5.heap.size 100 p.cells):=Cells.new w5 100 p.cells;have Nm:Hid (p.Is ms (w5.alloc (.cells #[.int .u64 (p.l:Int),.slice p.a p.n p.c,.slice p.x p.xn p.xc] 100))):=Uj.below ((Below.refl _ _).alloc (J3h _) _);have SM:Hid (p.From wq.heap.size):=Cw.mono LQ.out.size;have So:Hid (wq.heap.size<=w5.heap.size):=J3i LQ.out.size As.size;have b20:=Ao.cell Kq.out Dr.out.1;have b21:=Ao.cell Kq.out Dr.out.2;have kw:=Q0a (K7.out _ DD);have LX:=Q0a Ao;have Hr:=Q0a DD;clear kg As Uj Cw Ao DD b10 b11 K7
  go_wp2_with fail;generalize Pt:w5.alloc (.cells #[.int .u64 (p.l:Int),.slice p.a p.n p.c,.slice p.x p.xn p.xc] 100)=wv at *
  generalize w5.heap.size=Bm at *
  clear Pt;refine kw.out.mono ?_;rintro rv w6⟨rfl,BW⟩;have Kg:Hid (Stay wq.heap.size wb (w6.alloc (.cells #[.int .i64 wi.base,.int .i64 wi.order] 65))):=LX.out.trans ((Stay.of BW).trans (Stay.of ((Below.refl _ _).alloc (J3h _) _)));have Ih:Below wq.heap.size wq (w6.alloc (.cells #[.int .i64 wi.base,.int .i64 wi.order] 65)):=(Hr.out.trans (BW.mono Hr.out.size)).alloc (J3i Hr.out.size BW.size) _;have S7:Hid (Cells (w6.alloc (.cells #[.int .i64 wi.base,.int .i64 wi.order] 65)) Bm 100 p.cells):=(Jr.out.same (BW.block _ Jr.out.lt)).alloc _;have Nf:Hid (p.Is ms (w6.alloc (.cells #[.int .i64 wi.base,.int .i64 wi.order] 65))):=(Nm.out.below BW).below ((Below.refl _ _).alloc (J3h _) _)
  have U0:Hid (Cells (w6.alloc (.cells #[.int .i64 wi.base,.int .i64 wi.order] 65)) w6.heap.size 65 wi.cells):=Cells.new w6 65 wi.cells;have JC:Hid (wq.heap.size<=w6.heap.size):=J3i Hr.out.size BW.size;have ks:=Q0a (EA.out _ Ih);have Fn:=Q0a Ih;clear kw BW Ih b20 b21 Jr Nm LX Hr EA;go_wp2_with fail;generalize Pt:w6.alloc (.cells #[.int .i64 wi.base,.int .i64 wi.order] 65)=wx at *
  generalize w6.heap.size=Bw at *
  clear Pt;refine ks.out.mono ?_;rintro rv w7⟨rfl,rfl⟩;clear ks;go_upto_region 16 with fail;have hz:=Z4g;generalize hZ:(Q2a fun _=>(0,0)).toArray=ZC at *
  iterate 9 (first|refine Q4x rfl 122 rfl _ rfl wx.heap.size rfl ZC hz ?_|refine Q4x rfl 122 rfl _ rfl (wx.alloc (.cells ZC 122)).heap.size rfl ZC hz ?_|go_step|skip)
  clear hz;have Q9:(wx.alloc (.cells ZC 122)).heap.size=wx.heap.size+1:=by simp
  have Sf:Hid (Below wx.heap.size wx ((wx.alloc (.cells ZC 122)).alloc (.cells ZC 122))):=((Below.refl _ _).alloc (J3h _) _).alloc (by simp) _;have DF:Hid (Cells ((wx.alloc (.cells ZC 122)).alloc (.cells ZC 122)) wx.heap.size 122 (Q2a (gotF E ta 0))):=by
   rw[J0u];subst hZ;exact(Cells.new wx 122 (Q2a fun _=>(0,0))).alloc _
  have DA:Hid (Cells ((wx.alloc (.cells ZC 122)).alloc (.cells ZC 122)) (wx.heap.size+1) 122 (Q2a (gotF E tb 0))):=by
   rw[J0u];subst hZ;have:=Cells.new (wx.alloc (.cells (Q2a fun _=>(0,0)).toArray 122)) 122 (Q2a fun _=>(0,0));rw[Q9] at this;exact this
  try rw[Q9]
  clear Q9;generalize hwz:(wx.alloc (.cells ZC 122)).alloc (.cells ZC 122)=wz at *
  clear hwz hZ;generalize Ef:wx.heap.size+1=B4 at *
  have Ag:=Q0a Ef;clear Ef;go_wp2_with fail
  go_loopg [20] 256 (fun gk iv wr=>∃k:Nat,iv=.int .i64 k/\k+gk=256/\Cells wr wx.heap.size 122 (Q2a (gotF E ta k))/\Cells wr B4 122 (Q2a (gotF E tb k))/\Below wx.heap.size wx wr)
  case atStart=>exact⟨0,rfl,rfl,DF.out,DA.out,Sf.out⟩
  case round =>
  clear DF DA Sf;obtain⟨q,rfl,Fp,Cd,B5,hb⟩:=hrel;have Dq:=Q0a Fp;have DF:=Q0a Cd;have DA:=Q0a B5;have CV:=Q0a hb;have Hq:Below wq.heap.size wq wr:=Fn.out.trans (hb.mono Fn.out.size);have W8:=Q0a Hq;have Ao:Stay wq.heap.size wb wr:=Kg.out.trans (Stay.of hb);by_cases Aa:q<256
  case pos =>
   have b10:=Ao.cell OW.out JL.out.1;have MH:Hid (∀V,Below wx.heap.size wx V->V.cell? ⟨B2,0,none⟩=some (.int .u32 tb)):=fun V hV=>(Kg.out.trans (Stay.of hV)).cell Kq.out Dr.out.1
   obtain⟨ea1,Si⟩:=Qi.out wr Hq q Aa;have Tg:=Q0a Si;have OM:(q:Int)<256:=by omega
   have E0:(0:Int)<=(q:Int):=by omega
   have Fc:=Q0a Aa;clear Fp Cd B5 hb Hq Ao Aa Si;go_wp2_with fail;refine Tg.out.mono ?_;rintro rv w8⟨rfl,FS⟩;have c8:=DF.out.same (FS.block _ DF.out.lt);have d8:=DA.out.same (FS.block _ DA.out.lt);have z0:=c8.cell _ _ (Z1g (gotF E ta q) Fc.out);have z1:=c8.cell _ _ (Q8x (gotF E ta q) Fc.out);have y0:=c8.free (q*2);have y1:=c8.free (q*2+1);have TK:=Q0a c8;have SY:=Q0a d8;have TL:=Q0a (CV.out.trans (FS.mono CV.out.size));clear c8 d8 FS Tg b10;go_upto_region 21 with fail;have Ac:B4≠wx.heap.size:=by have:=Ag.out;omega
   have Bp:wx.heap.size≠B4:=by have:=Ag.out;omega
   have Sc:Hid (Cells ((w8.setCell ⟨wx.heap.size,q*2,none⟩ (.int .u32 ((cpV (E ta q)).1:Int))).setCell ⟨wx.heap.size,q*2+1,none⟩ (.int .i64 ((cpV (E ta q)).2:Int))) wx.heap.size 122 (Q2a (gotF E ta (q+1)))):=by
    have:=(TK.out.set (q*2) (.int .u32 ((cpV (E ta q)).1:Int))).set (q*2+1) (.int .i64 ((cpV (E ta q)).2:Int));rw[Q9Z (gotF E ta q) q (cpV (E ta q)),Z0a] at this;exact this
   have Uw:Hid (Cells ((w8.setCell ⟨wx.heap.size,q*2,none⟩ (.int .u32 ((cpV (E ta q)).1:Int))).setCell ⟨wx.heap.size,q*2+1,none⟩ (.int .i64 ((cpV (E ta q)).2:Int))) B4 122 (Q2a (gotF E tb q))):=(SY.out.set_other ⟨wx.heap.size,q*2,none⟩ _ Ac).set_other ⟨wx.heap.size,q*2+1,none⟩ _ Ac;have JH:Hid (Below wx.heap.size wx ((w8.setCell ⟨wx.heap.size,q*2,none⟩ (.int .u32 ((cpV (E ta q)).1:Int))).setCell ⟨wx.heap.size,q*2+1,none⟩ (.int .i64 ((cpV (E ta q)).2:Int)))):=(TL.out.setCell (J3h _) _).setCell (J3h _) _;clear z0 z1 y0 y1 TK SY TL DF DA Ac;generalize (w8.setCell ⟨wx.heap.size,q*2,none⟩ (.int .u32 ((cpV (E ta q)).1:Int))).setCell ⟨wx.heap.size,q*2+1,none⟩ (.int .i64 ((cpV (E ta q)).2:Int))=w9 at *
   obtain⟨eb1,SA⟩:=Rp.out w9 (Fn.out.trans (JH.out.mono Fn.out.size)) q Fc.out;have Ua:=Q0a SA;have b20:=MH.out w9 JH.out;clear SA;go_wp2_with fail;refine Ua.out.mono ?_;rintro rv w10⟨rfl,Jj⟩;have QQ:=Sc.out.same (Jj.block _ Sc.out.lt);have d10:=Uw.out.same (Jj.block _ Uw.out.lt);have z0:=d10.cell _ _ (Z1g (gotF E tb q) Fc.out);have z1:=d10.cell _ _ (Q8x (gotF E tb q) Fc.out);have y0:=d10.free (q*2);have y1:=d10.free (q*2+1);have Py:Hid (Cells ((w10.setCell ⟨B4,q*2,none⟩ (.int .u32 ((cpV (E tb q)).1:Int))).setCell ⟨B4,q*2+1,none⟩ (.int .i64 ((cpV (E tb q)).2:Int))) wx.heap.size 122 (Q2a (gotF E ta (q+1)))):=(QQ.set_other ⟨B4,q*2,none⟩ _ Bp).set_other ⟨B4,q*2+1,none⟩ _ Bp
   have Qy:Hid (Cells ((w10.setCell ⟨B4,q*2,none⟩ (.int .u32 ((cpV (E tb q)).1:Int))).setCell ⟨B4,q*2+1,none⟩ (.int .i64 ((cpV (E tb q)).2:Int))) B4 122 (Q2a (gotF E tb (q+1)))):=by
    have:=(d10.set (q*2) (.int .u32 ((cpV (E tb q)).1:Int))).set (q*2+1) (.int .i64 ((cpV (E tb q)).2:Int));rw[Q9Z (gotF E tb q) q (cpV (E tb q)),Z0a] at this;exact this
   have Qs:Hid (Below wx.heap.size wx ((w10.setCell ⟨B4,q*2,none⟩ (.int .u32 ((cpV (E tb q)).1:Int))).setCell ⟨B4,q*2+1,none⟩ (.int .i64 ((cpV (E tb q)).2:Int)))):=((JH.out.trans (Jj.mono JH.out.size)).setCell (by show wx.heap.size<=B4;have:=Ag.out;omega) _).setCell (by show wx.heap.size<=B4;have:=Ag.out;omega) _;clear QQ d10 Jj Bp Ua b20 MH;go_wp2_with fail;go_roundg (256-(q+1))
   case measure=>have:=Dq.out;have:=Fc.out;omega
   case rel=>exact⟨q+1,by go_num,by have:=Dq.out;have:=Fc.out;omega,Py.out,Qy.out,Qs.out⟩
  case neg =>
   have IE:¬(q:Int)<256:=by omega
   obtain rfl:q=256:=by omega
   have b10:=Ao.cell OW.out JL.out.1;have b11:=Ao.cell OW.out JL.out.2;have b20:=Ao.cell Kq.out Dr.out.1;have b21:=Ao.cell Kq.out Dr.out.2;have KC:=Q0a (Gb.out wr Hq);have Od:=Q0a Ao;clear Fp Cd B5 hb Hq Ao Aa Gb Qi Rp;go_wp2_with fail;refine KC.out.mono ?_;rintro rv w8⟨er,rfl,IZ,Kp,hz⟩;have Bz:Hid (∀V,Below w8.heap.size w8 V->Told w (.bool true) (.returned (.bool true)) V):=fun V hV=>⟨rfl,Cj.out.trans ((IZ.trans (hV.mono IZ.size)).mono Cj.out.size)⟩
   clear b10 b11 b20 b21;by_cases h0:er=0
   case neg =>
    have Ac:(er != 0)=true:=by simp[h0]
    have HR:=Q0a (Bz.out w8 (Below.refl _ _));clear h0 hz IZ Kp KC;go_wp2_with fail
    (try go_ret);exact HR.out
   case pos =>
   subst h0;obtain⟨E',hg,KT⟩:=hz rfl;have HG:=Q0a hg;have HL:=Q0a KT;have DB:Hid (∀V,Below w8.heap.size w8 V->V.cell? ⟨B2,0,none⟩=some (.int .u32 tb)/\Cells V Bm 100 p.cells/\Cells V Bw 65 wi.cells/\Cells V wx.heap.size 122 (Q2a (gotF E ta 256))/\Cells V B4 122 (Q2a (gotF E tb 256))/\p.Is ms V):=fun V hV=>by
    have s1:Stay wq.heap.size wr V:=Kp.trans (Stay.of hV);have s2:Stay wq.heap.size wx V:=(Stay.of CV.out).trans s1;exact⟨(Od.out.trans s1).cell Kq.out Dr.out.1,s2.cells So.out S7.out,s2.cells JC.out U0.out,s1.cells Fn.out.size DF.out,s1.cells (by have:=Ag.out;have:=Fn.out.size;omega) DA.out,Nf.out.stay SM.out s2⟩
   clear hz hg KT IZ Kp KC S7 Nf U0 DF DA Kg Fn Od SM CV W8 Dq JL Dr LQ BN OW Kq So JC;go_wp2_with fail
   go_loopg [21] 256 (fun gk iv wr=>∃nn:Nat,iv=.int .i64 nn/\nn+gk=256/\Below w8.heap.size w8 wr)
   case atStart=>exact⟨0,rfl,rfl,Below.refl _ _⟩
   case round =>
   obtain⟨nn,rfl,Qk,hb⟩:=hrel;have LT:=Q0a Qk;have Ku:=Q0a hb;by_cases Aa:nn<256
   case neg =>
    have G0:¬(nn:Int)<256:=by omega
    have HR:=Q0a (Bz.out wr hb);clear Qk hb Aa;go_wp2_with fail
    (try go_ret);exact HR.out
   case pos =>
   have b20:=(DB.out wr hb).1;obtain⟨e5,kl,hE⟩:=HL.out wr hb nn Aa;have KL:=Q0a kl;have Mo:(nn:Int)<256:=by omega
   have Em:(0:Int)<=(nn:Int):=by omega
   have Fm:=Q0a Aa;have O3:=Q0a hE;clear Qk hb Aa kl hE;go_wp2_with fail;refine KL.out.mono ?_;rintro rv w9⟨rfl,Hd⟩;go_upto_region 28 with fail;have Jn:Below w8.heap.size w8 (w9.alloc (.cells #[.int .u32 ((cpV (E' tb nn)).1:Int),.int .i64 ((cpV (E' tb nn)).2:Int)] 72)):=(Ku.out.trans (Hd.mono Ku.out.size)).alloc (J3i Ku.out.size Hd.size) _;have BV:Hid (Cells (w9.alloc (.cells #[.int .u32 ((cpV (E' tb nn)).1:Int),.int .i64 ((cpV (E' tb nn)).2:Int)] 72)) w9.heap.size 72 [.int .u32 ((cpV (E' tb nn)).1:Int),.int .i64 ((cpV (E' tb nn)).2:Int)]):=Cells.new w9 72 [.int .u32 ((cpV (E' tb nn)).1:Int),.int .i64 ((cpV (E' tb nn)).2:Int)]
   have hz:=(DB.out _ Jn).2.2.2.2.1.cell _ _ (Q8x (gotF E tb 256) Fm.out);rw[Z7E E tb Fm.out] at hz;have Bg:=Q0a Jn;clear b20 KL Hd Jn;by_cases QR:e5=0
   case neg =>
    have Ac:(e5 != 0)=true:=by simp[QR]
    clear QR O3 BV hz;go_wp2_with fail;go_roundg (256-(nn+1))
    case measure=>have:=LT.out;have:=Fm.out;omega
    case rel=>exact⟨nn+1,by go_num,by have:=LT.out;have:=Fm.out;omega,Bg.out⟩
   case pos =>
   subst QR;obtain⟨c1,Cd⟩:=O3.out rfl;by_cases hr:(cpV (E tb nn)).2=0
   case neg =>
    have Ac:(((cpV (E tb nn)).2:Nat):Int)≠0:=by omega
    have Ib:((((cpV (E tb nn)).2:Nat):Int) != 0)=true:=by simp;omega
    clear O3 BV hr Cd;generalize (cpV (E tb nn)).2=rr at *
    go_wp2_with fail;go_roundg (256-(nn+1))
    case measure=>have:=LT.out;have:=Fm.out;omega
    case rel=>exact⟨nn+1,by go_num,by have:=LT.out;have:=Fm.out;omega,Bg.out⟩
   case pos =>
   have Aw:=Jk.out _ _ hr;obtain⟨k0,i0,j0,c0,g1,g2,g3,g4,g5,g6,g7,g8,g9,g10,g11,g12,g13⟩:=HG.out nn c1 Aw Cd;have D0:cpV (E' tb nn)=c1:=by rw[Cd];rfl
   rw[D0] at BV Bg hz;rw[D0];rw[hr] at hz;have Bu:=hz;clear hz
   replace Bu:_=some (Value.int .i64 0):=Bu
   clear D0 Cd Aw hr O3;generalize hwA:(w9.alloc (.cells #[.int .u32 ((c1).1:Int),.int .i64 ((c1).2:Int)] 72))=wA at *
   generalize w9.heap.size=b22 at *
   clear hwA;have LC:Hid (∀V,Below wA.heap.size wA V->V.cell? ⟨b22,0,none⟩=some (.int .u32 (c1.1:Int))/\V.cell? ⟨b22,1,none⟩=some (.int .i64 (c1.2:Int))):=fun V hV=>by
    have:=BV.out.same (hV.block _ BV.out.lt);exact⟨this.cell 0 _ rfl,this.cell 1 _ rfl⟩
   have Ex:Hid (∀i:It,ms.its[k0]?=some i->i=i0):=fun i h=>by rw[g1] at h;exact(J3Y h).symm
   have FJ:Hid (k0<ms.its.length):=(J3y.1 g1).1;have Kb:Hid (j0<2 ^ i0.order.toNat/\(nn:Int)=wi.base+i0.off+(j0:Int)/\E ta (i0.base.toNat+j0)=some c0/\c0.2&&&4≠0/\c1=(c0.1,c0.2&&&i0.r.toNat)):=⟨g2,g6,g9,g10,g11⟩
   have NC:Hid ((nn:Int)<wi.base+((2 ^ wi.order.toNat:Nat):Int)/\wi.base<=(nn:Int)):=⟨g7,by omega⟩
   clear g1 g2 g3 g4 g5 g6 g7 g8 g9 g10 g11 g12 g13 BV;obtain⟨wo,Kv⟩:∃wo:World,wo=wr:=⟨_,rfl⟩
   subst Kv;obtain⟨gko,Eu⟩:∃g,g=gk:=⟨_,rfl⟩
   subst Eu;have Xy:(ms.its.length:Int)<=2:=by have:=Cz.out.1;omega
   have WS:(0:Int)<=(ms.its.length:Int):=by omega
   have Xt:Hid (ms.its.length<=2):=Cz.out.1;have Iv:Hid (∀V,Below wA.heap.size wA V->V.cell? ⟨Bm,2,none⟩=some (.slice p.x ms.its.length p.xc)):=fun V hV=>by
    obtain⟨_,hm,_,_,_,A4⟩:=DB.out V (Bg.out.trans (hV.mono Bg.out.size));rw[<- A4.xn];exact hm.cell 2 _ rfl
   go_wp2_with fail
   go_loopg [24,25] ms.its.length (fun gk bv iv wr=>∃(q:Nat) (b:Bool),bv=.bool b/\iv=.int .i64 q/\q+gk=ms.its.length/\(k0<q->b=true)/\Below wA.heap.size wA wr)
   case atStart=>exact⟨0,false,rfl,rfl,by omega,fun h=>by omega,Below.refl _ _⟩
   case round =>
   obtain⟨q,b,rfl,rfl,Fp,Cf,hb⟩:=hrel;have Dq:=Q0a Fp;have IX:=Q0a Cf;have Dl:=Q0a hb;have z2:=Iv.out wr hb;by_cases Aa:q<ms.its.length
   case neg =>
    have IE:¬(q:Int)<(ms.its.length:Int):=by omega
    obtain rfl:b=true:=Cf (by have:=FJ.out;omega);have Lq:=(DB.out wr (Bg.out.trans (hb.mono Bg.out.size))).2.2.1;have v0:=Lq.cell 0 _ rfl;have v1:=Lq.cell 1 _ rfl;clear Fp Cf hb Aa Lq;generalize ms.its.length=L at *
    go_upto_region 38 with fail
    go_cut [207] from 189 to 207 (fun b wc=>b=.bool false/\wc=wr)
    case first =>
     have CU:=PC.out;have BS:=NC.out;clear DB LC Iv HG HL Bz Cz Ex Kb;obtain⟨wb_,wo_⟩:=wi;dsimp only at CU BS v0 v1;obtain⟨w1,w2,w3,w4⟩:=CU;obtain⟨y1,y2⟩:=BS;have:wo_=0∨wo_=1∨wo_=2∨wo_=3∨wo_=4∨wo_=5∨wo_=6∨wo_=7:=by omega
     rcases this with rfl|rfl|rfl|rfl|rfl|rfl|rfl|rfl
     all_goals
      simp at y1;go_wp2_with fail;go_meet;refine⟨?_,rfl⟩;simp;omega
    obtain⟨rfl,U3⟩:=hcut;subst wc;clear v0 v1;go_wp2_with fail;go_roundg (256-(nn+1))
    case measure=>have:=LT.out;have:=Fm.out;omega
    case rel=>exact⟨nn+1,by go_num,by have:=LT.out;have:=Fm.out;omega,Bg.out.trans (Dl.out.mono Bg.out.size)⟩
   case pos =>
   obtain⟨it,LL⟩:∃it,ms.its[q]?=some it:=⟨_,J5s Aa⟩
   have Bx:=Cz.out.2 it (J5p LL);obtain⟨R6,PG,GO,IQ,Ru,M2⟩:=DB.out wr (Bg.out.trans (hb.mono Bg.out.size));obtain⟨g,o,U1,_,Dm⟩:=M2.i q it LL;rw[U1] at z2;have ED:Hid (q=k0->it=i0):=fun e=>Ex.out it (by rw[<- e];exact LL)
   obtain⟨ib,io,ir,iff,ig⟩:=it;have q0:wr.cell? ⟨g,o+q*5,none⟩=some (.int .i64 ib):=Dm 0 _ rfl;have q1:wr.cell? ⟨g,o+q*5+1,none⟩=some (.int .i64 io):=Dm 1 _ rfl;have q2:wr.cell? ⟨g,o+q*5+2,none⟩=some (.int .i64 ir):=Dm 2 _ rfl;have q3:wr.cell? ⟨g,o+q*5+3,none⟩=some (.int .i64 iff):=Dm 3 _ rfl;have q4:wr.cell? ⟨g,o+q*5+4,none⟩=some (.bool ig):=Dm 4 _ rfl;unfold Q0W at Bx;simp only[J3C,decide_eq_true_eq] at Bx;obtain⟨AQ,r1,r15,f0,f255⟩:=Bx;obtain⟨a1,a2,a3,a4,a5⟩:=Q0L AQ
   try dsimp only at a1 a2 a3 a4 a5
   obtain⟨ibn,rfl⟩:=J4F a1;obtain⟨ion,rfl⟩:=J4F a2;rw[J4g] at a4 a5;rw[J4g] at a4;have CU:=PC.out;have v0:=GO.cell 0 _ rfl;have OM:(q:Int)<(ms.its.length:Int):=by omega
   have E0:(0:Int)<=(q:Int):=by omega
   have CD:=Q0a Aa;clear Fp Cf hb Aa R6 PG IQ Ru M2 Dm LL U1 AQ GO;go_upto_region 34 with fail;have BZ:Hid (Cells (wr.alloc (.cells #[.int .i64 ibn,.int .i64 ion,.int .i64 ir,.int .i64 iff,.bool ig] 63)) wr.heap.size 63 [.int .i64 ibn,.int .i64 ion,.int .i64 ir,.int .i64 iff,.bool ig]):=Cells.new wr 63 [.int .i64 ibn,.int .i64 ion,.int .i64 ir,.int .i64 iff,.bool ig];have Oz:Hid (Below wA.heap.size wA (wr.alloc (.cells #[.int .i64 ibn,.int .i64 ion,.int .i64 ir,.int .i64 iff,.bool ig] 63))):=Dl.out.alloc Dl.out.size _;clear q0 q1 q2 q3 q4 v0 z2 Dl;generalize (wr.alloc (.cells #[.int .i64 ibn,.int .i64 ion,.int .i64 ir,.int .i64 iff,.bool ig] 63))=wi1 at *
   generalize wr.heap.size=b26 at *
   obtain⟨-,-,GO,IQ,-,-⟩:=DB.out wi1 (Bg.out.trans (Oz.out.mono Bg.out.size));have FM:=Q0a IQ;have v0:=GO.cell 0 _ rfl;have p0:=BZ.out.cell 0 _ rfl;have p1:=BZ.out.cell 1 _ rfl;have p2:=BZ.out.cell 2 _ rfl;have p3:=BZ.out.cell 3 _ rfl;obtain⟨w1,w2,w3,w4⟩:=CU;clear GO IQ BZ
   go_cut [27] from 142 to 148 (fun xx wc=>xx=.int .i64 ((nn:Int)-wi.base-iff)/\wc=wi1)
   case first =>
    clear DB LC Iv HG HL Bz Cz Ex Kb NC FM;go_wp2_with fail;go_meet;exact⟨rfl,rfl⟩
   obtain⟨rfl,U3⟩:=hcut;subst wc;obtain⟨xv,Qp⟩:∃xv:Int,xv=(nn:Int)-wi.base-iff:=⟨_,rfl⟩
   rw[<- Qp];have CW:-1000<=xv/\xv<=256:=by omega
   obtain⟨Gg,EZ⟩:=CW;obtain⟨po,El⟩:∃po:Nat,po=2 ^ ion:=⟨_,rfl⟩
   rw[<- El] at a4 a5;obtain⟨B,hB⟩:∃B:Bool,B=decide (0<=xv/\xv<(po:Int)):=⟨_,rfl⟩
   have N2:=Q0a El;have L8:=Q0a hB;have IR:=Q0a Qp;have O9:Hid (1<=ir/\ir<=15/\ibn+po<=256/\po<=128):=⟨r1,r15,a4,a5⟩
   clear El hB Qp v0 p3;go_upto_region 35 with fail
   go_cut [158] from 149 to 158 (fun bb wc=>bb=.bool B/\wc=wi1)
   case first =>
    have El:=N2.out;have hB:=L8.out;clear DB LC Iv HG HL Bz Cz Ex Kb NC FM N2 L8 IR O9 ED;have:ion=0∨ion=1∨ion=2∨ion=3∨ion=4∨ion=5∨ion=6∨ion=7:=by omega
    by_cases h0:0<=xv
    ·rcases this with rfl|rfl|rfl|rfl|rfl|rfl|rfl|rfl
     all_goals
      simp at El;subst El;clear a1 a2 a3 a4 a5 w1 w2 w3 w4;go_wp2_with fail;go_meet;refine⟨?_,rfl⟩;rw[hB];simp[h0]
    ·have Em:xv<0:=by omega
     have O8:decide (0<=xv)=false:=decide_eq_false h0;have UD:B=false:=by rw[hB];exact decide_eq_false (fun h=>h0 h.1)
     subst UD;clear hB El this;go_wp2_with fail;go_meet;exact⟨rfl,rfl⟩
   obtain⟨rfl,U3⟩:=hcut;subst wc;cases B with
   | false =>
    have Iq:Hid (k0<q+1->b=true):=fun h=>by
     by_cases e:q=k0
     ·exfalso;obtain⟨e1,e2,_⟩:=Kb.out;have hs:=ED.out e;rw[<- hs] at e1 e2;dsimp only at e1 e2;rw[J4g,<- N2.out] at e1;have hf:=of_decide_eq_false L8.out.symm;have hx:=IR.out;exact hf ⟨by omega,by omega⟩
     ·exact IX.out (by omega)
    clear DB LC Iv HG HL Bz Cz Ex Kb NC FM N2 L8 IR O9 ED;go_wp2_with fail;go_roundg (ms.its.length-(q+1))
    case measure=>have:=Dq.out;have:=CD.out;omega
    case rel=>exact⟨q+1,b,rfl,by go_num,by have:=Dq.out;have:=CD.out;omega,Iq.out,Oz.out⟩
   | true =>
    have Gd:=of_decide_eq_true L8.out.symm;obtain⟨y1,y2⟩:=Gd;obtain⟨xn,rfl⟩:=J4F y1;have Bj:ibn+xn<256:=by omega
    have SQ:=FM.out.cell _ _ (Z1g (gotF E ta 256) Bj);have Sm:=FM.out.cell _ _ (Q8x (gotF E ta 256) Bj);rw[Z7E E ta Bj] at SQ Sm;have ei:((ibn+xn:Nat):Int)=(ibn:Int)+(xn:Int):=by omega
    have Ur:(cpV (E ta (ibn+xn))).2<16:=J4.out _ _;have Ir:Hid (q=k0->(cpV (E ta (ibn+xn)))=c0/\c0.2&&&4≠0/\c1=(c0.1,c0.2&&&ir.toNat)):=fun e=>by
     obtain⟨e1,e2,e3,e4,e5⟩:=Kb.out;have hs:=ED.out e;rw[<- hs] at e1 e2 e3 e5;dsimp only at e1 e2 e3 e5;rw[J4g] at e3;have hx:=IR.out;have:xn=j0:=by omega
     rw[this,e3];exact⟨rfl,e4,e5⟩
    generalize cpV (E ta (ibn+xn))=hc at *
    have GX:(ibn:Int)+(xn:Int)<256:=by omega
    have BH:(0:Int)<=(ibn:Int)+(xn:Int):=by omega
    clear FM L8 IR;go_upto_region 37 with fail;have FV:Hid (Below wi1.heap.size wi1 (wi1.alloc (.cells #[.int .u32 (hc.1:Int),.int .i64 (hc.2:Int)] 72))):=(Below.refl _ _).alloc (J3h _) _;have LW:Hid (Cells (wi1.alloc (.cells #[.int .u32 (hc.1:Int),.int .i64 (hc.2:Int)] 72)) wi1.heap.size 72 [.int .u32 (hc.1:Int),.int .i64 (hc.2:Int)]):=Cells.new wi1 72 [.int .u32 (hc.1:Int),.int .i64 (hc.2:Int)];have FP:=Q0a p2;have MN:b26<wi1.heap.size:=World.block_lt_of_cell? _ _ p2;have ML:=Q0a MN;clear SQ Sm p0 p1 p2 MN;generalize (wi1.alloc (.cells #[.int .u32 (hc.1:Int),.int .i64 (hc.2:Int)] 72))=wl at *
    have FK:Hid (Below wA.heap.size wA wl):=Oz.out.trans (FV.out.mono Oz.out.size);have d2:wl.cell? ⟨b26,2,none⟩=some (.int .i64 ir):=(FV.out.cell ML.out).trans FP.out;clear FV FP ML;generalize wi1.heap.size=b28 at *
    have d0:=LW.out.cell 0 _ rfl;have d1:=LW.out.cell 1 _ rfl;obtain⟨n0,n1⟩:=LC.out wl FK.out;obtain⟨f1,Fs⟩:∃b:Bool,((hc.1:Int)==(c1.1:Int))=b:=⟨_,rfl⟩
    obtain⟨f2,Gk⟩:∃b:Bool,((c1.2:Int)==bits .and .i64 (hc.2:Int) ir)=b:=⟨_,rfl⟩
    obtain⟨f3,Ot⟩:∃b:Bool,(bits .and .i64 (hc.2:Int) 4 != 0)=b:=⟨_,rfl⟩
    have Jo:Hid (q=k0->f1=true/\f2=true/\f3=true):=fun e=>by
     obtain⟨e1,e2,e3⟩:=Ir.out e;have hr:=O9.out;subst e1;have h1:=Q2t hc.2 ir.toNat Ur (by omega);rw[show((ir.toNat:Nat):Int)=ir by omega] at h1;have h2:bits .and .i64 (hc.2:Int) 4=((hc.2&&&4:Nat):Int):=Q2t hc.2 4 Ur (by omega);refine⟨?_,?_,?_⟩
     ·rw[<- Fs,e3];simp
     ·rw[<- Gk,h1,e3];simp
     ·rw[<- Ot,h2];simp;exact e2
    clear LW Ir O9 ED N2 DB LC Iv HG HL Bz Cz Ex Kb NC;cases b with
    | true =>
     clear Fs Gk Ot Jo;clear IX;go_wp2_with fail;go_roundg (ms.its.length-(q+1))
     case measure=>have:=Dq.out;have:=CD.out;omega
     case rel=>exact⟨q+1,true,rfl,by go_num,by have:=Dq.out;have:=CD.out;omega,fun _=>rfl,FK.out⟩
    | false =>
     cases f1 with
     | false =>
      have HN:Hid (q=k0->False):=fun e=>Bool.noConfusion (Jo.out e).1
      clear Gk Ot Jo;have Iq:Hid (k0<q+1->false=true):=fun h=>by
       by_cases e:q=k0
       ·exact(HN.out e).elim
       ·exact IX.out (by omega)
      clear IX;go_wp2_with fail;go_roundg (ms.its.length-(q+1))
      case measure=>have:=Dq.out;have:=CD.out;omega
      case rel=>exact⟨q+1,false,rfl,by go_num,by have:=Dq.out;have:=CD.out;omega,Iq.out,FK.out⟩
     | true =>
      cases f2 with
      | false =>
       have HN:Hid (q=k0->False):=fun e=>Bool.noConfusion (Jo.out e).2.1
       clear Ot Jo;have Iq:Hid (k0<q+1->false=true):=fun h=>by
        by_cases e:q=k0
        ·exact(HN.out e).elim
        ·exact IX.out (by omega)
       clear IX;go_wp2_with fail;go_roundg (ms.its.length-(q+1))
       case measure=>have:=Dq.out;have:=CD.out;omega
       case rel=>exact⟨q+1,false,rfl,by go_num,by have:=Dq.out;have:=CD.out;omega,Iq.out,FK.out⟩
      | true =>
       cases f3 with
       | false =>
        have HN:Hid (q=k0->False):=fun e=>Bool.noConfusion (Jo.out e).2.2
        clear Jo;have Iq:Hid (k0<q+1->false=true):=fun h=>by
         by_cases e:q=k0
         ·exact(HN.out e).elim
         ·exact IX.out (by omega)
        clear IX;go_wp2_with fail;go_roundg (ms.its.length-(q+1))
        case measure=>have:=Dq.out;have:=CD.out;omega
        case rel=>exact⟨q+1,false,rfl,by go_num,by have:=Dq.out;have:=CD.out;omega,Iq.out,FK.out⟩
       | true =>
        clear Jo;clear IX;go_wp2_with fail;go_roundg (ms.its.length-(q+1))
        case measure=>have:=Dq.out;have:=CD.out;omega
        case rel=>exact⟨q+1,true,rfl,by go_num,by have:=Dq.out;have:=CD.out;omega,fun _=>rfl,FK.out⟩
end Go.Proofs.YtfidemmgofcnmaaGreatDoor
