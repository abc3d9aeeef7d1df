/- CarryTells returns true at every input. No condition. Part of a proof. -/
import Derived.Test.YtfidemmgofcnmaaGreatDoorAt30
set_option maxHeartbeats 4000000
set_option maxRecDepth 100000
set_option linter.unusedVariables false
namespace Go.Proofs.YtfidemmgofcnmaaGreatDoor
open Go.RowKit Go.Proofs.Tryz
def J0A(Z:SP)(t:Nat)(a:Int)(w:World)(r:Ending)(w':World):Prop:=
 ∃p,BlkAt Z t a p/\r=.returned (.tuple #[.agg #[.int .i64 (winV Z.S.P.a.mem p.at_).base,.int .i64 (winV Z.S.P.a.mem p.at_).order],.int .i64 0])/\Below w.heap.size w w'
theorem Z6i{w:World}{Z:SP}{fr:List Nat}{N K:Nat}{M:Int}(ok:Z.Ok fr N K M)(h:Sep w Z.hl){c k:Nat}(hc:CarC Z c k w){t:Nat}(ht:t<4294967296)(a:Int)(ha:a<9223372036854775808)(CN:blkE Z t a=0) :
  Calls prog 53 #[.pointer (some ⟨c,0,none⟩),.agg #[.int .u32 t,.int .i64 a]] w (J0A Z t a w):=by
 have b1:Below w.heap.size w (w.alloc (.cells #[.int .u32 t,.int .i64 a] 116)):=(Below.refl _ _).alloc (J1E _) _;have b2:Below w.heap.size w ((w.alloc (.cells #[.int .u32 t,.int .i64 a] 116)).alloc (.cells #[.int .i64 0,.int .i64 0] 65)):=b1.alloc b1.size _;have h2:=h.grown b2;have kb:=Q2i ok h2.sep (hc.step rfl h2) ht a ha;have c1:=(Cells.new w 116 [.int .u32 t,.int .i64 a]).alloc (.cells #[.int .i64 0,.int .i64 0] 65);have c2:=Cells.new (w.alloc (.cells #[.int .u32 t,.int .i64 a] 116)) 65 [.int .i64 0,.int .i64 0];have hz:(w.alloc (.cells #[.int .u32 t,.int .i64 a] 116)).heap.size=w.heap.size+1:=by simp
 rw[hz] at c2;have e0:=c1.cell 0 _ rfl;have e1:=c1.cell 1 _ rfl;have HP:Hid (∀V p g,Below ((w.alloc (.cells #[.int .u32 t,.int .i64 a] 116)).alloc (.cells #[.int .i64 0,.int .i64 0] 65)).heap.size ((w.alloc (.cells #[.int .u32 t,.int .i64 a] 116)).alloc (.cells #[.int .i64 0,.int .i64 0] 65)) V->p∈Z.S.l->p.is=true->p.kind=3->a=(p.at_:Int)->BlkC Z p g V ->
   Calls prog 117 #[.pointer (some ⟨g,0,none⟩)] V fun r w'=>∃vb vo:Int,r=.returned (.agg #[.int .i64 vb,.int .i64 vo])/\Cells w' (w.heap.size+1) 65 [.int .i64 0,.int .i64 0]/\∀v0 v1,J0A Z t a w (.returned (.tuple #[.agg #[.int .i64 vb,.int .i64 vo],.int .i64 0])) ((w'.setCell ⟨w.heap.size+1,0,none⟩ v0).setCell ⟨w.heap.size+1,1,none⟩ v1)):=fun V p g hV hp hi hk B9 hg=>by
  have hb:=Q0b (Q0b hV);have s1:=h.grown hb;have c3:=c2.same (hV.block _ c2.lt);refine(Q9k ok s1.sep hp hi hk hg).mono ?_;rintro r w'⟨rfl,Aj⟩;exact⟨_,_,rfl,c3.same (Aj.block _ c3.lt),fun v0 v1=>⟨p,⟨CN,hp,hi,hk,B9⟩,rfl,((hb.trans (Aj.mono hb.size)).setCell (J5J _) _).setCell (J5J _) _⟩⟩
 unfold BlkR at kb;generalize J0A Z t a w=Q at *
 generalize blkE Z t a=E at *
 subst CN;clear b1 b2 h2 ok h hc ht c1 c2 hz;go_enter func53,ntmps53;go_wp2_with fail;refine kb.mono ?_;rintro r w2⟨Ae,hr⟩;rcases hr with ⟨he,rfl⟩|⟨he,p,g,hp,hi,hk,B9,rfl,hg⟩
 ·exact absurd rfl he
 ·have kp:=Q0a (HP.out w2 p g Ae hp hi hk B9 hg);clear Ae kb HP hp hi hk B9 hg;go_wp2_with fail;refine kp.out.mono ?_;rintro r w3⟨vb,vo,rfl,cz,hq⟩;have HR:=Q0a hq;have g0:=cz.cell 0 _ rfl;have g1:=cz.cell 1 _ rfl;have f0:=cz.free 0;have f1:=cz.free 1;have Aa:=cz.lt;clear cz hq kp;go_wp2_with fail;refine bodyPost_ret (v:=.tuple #[.agg #[.int .i64 vb,.int .i64 vo],.int .i64 0]) (by simp[results,results53,go_sem,g0,g1]) rfl (HR.out _ _)
theorem Z3d{w:World}{Z:SP}{fr:List Nat}{N K:Nat}{M:Int}(ok:Z.Ok fr N K M)(h:Sep w Z.hl){c k:Nat}(hc:CarC Z c k w){t:Nat}(ht:t<4294967296)(a:Int)(ha:a<9223372036854775808)(CN:blkE Z t a=0) :
  Calls prog 52 #[.pointer (some ⟨c,0,none⟩),.agg #[.int .u32 t,.int .i64 a]] w fun r w'=>∃p v,BlkAt Z t a p/\r=.returned (.tuple #[v,.int .i64 0])/\MsgIs (msgV Z.S.P.a.mem p.at_) w (.returned v) w':=by
 refine(Q9l ok h hc ht a ha).mono ?_;rintro r w' (⟨h1,_⟩|h1)
 ·exact absurd CN h1
 ·exact h1
theorem end3(f:Nat->Nat×Nat){k:Nat}(hk:k<3):tkE f k=1+k%2/\atE f k=(f (2+k)).1:=by
 have:k=0∨k=1∨k=2:=by omega
 rcases this with rfl|rfl|rfl <;> exact⟨rfl,rfl⟩
theorem J1C{k:Nat}(hk:k<3):Q0z (2+k)=3:=by
 have:k=0∨k=1∨k=2:=by omega
 rcases this with rfl|rfl|rfl <;> rfl
section
variable {Z Z':SP} {fr:List Nat} {N K:Nat} {M:Int} {f:Nat->Nat×Nat} {w w':World}
theorem CaJ.thr(j:CaJ Z f){k:Nat}(hk:k<3):Z.S.l[3+k]?=some (plB f (2+k))/\plB f (2+k)∈Z.S.l/\(plB f (2+k)).is=true/\(plB f (2+k)).kind=3:=by
 have h:=j.l (2+k) (by omega);rw[show 2+k+1=3+k by omega] at h;exact⟨h,J3L h,Pl.is_iff.2 (.inl rfl),J1C hk⟩
theorem CaJ.task(j:CaJ Z f){k:Nat}(_hk:k<3):∃p,pget Z.S.l 1 (1+k%2)=some p/\p.kind=2:=by
 have:k%2=0∨k%2=1:=by omega
 rcases this with h|h
 ·rw[h];exact⟨_,j.at' (i:=0) (by omega),rfl⟩
 ·rw[h];exact⟨_,j.at' (i:=1) (by omega),rfl⟩
theorem CaJ.blk(ok:Z.Ok fr N K M)(j:CaJ Z f){k:Nat}(hk:k<3):blkE Z (tkE f k) ((atE f k:Nat):Int)=0:=by
 obtain⟨e1,e2⟩:=end3 f hk;obtain⟨p,hp,Ua⟩:=j.task hk;obtain⟨_,hm,hi,Eu⟩:=j.thr hk;have hh:=Z8R ok hm hi Eu;rw[e1,e2];unfold blkE;rw[hp];simp only;rw[if_pos Ua];have e:Z.S.P.has 3 (((f (2+k)).1:Nat):Int)=true:=hh;rw[if_pos e]
theorem CaJ.room(ok:Z.Ok fr N K M)(j:CaJ Z f){k:Nat}(hk:k<3):atE f k+256<=Z.S.P.a.mem.length/\atE f k%8=0:=by
 obtain⟨_,hm,hi,Eu⟩:=j.thr hk;have:=Q0R ok.core hm hi (.inl Eu);have e:costK (plB f (2+k)).kind=256:=by rw[Eu];rfl
 rw[e] at this;rw[(end3 f hk).2];exact this
theorem CaJ.two(ok:Z.Ok fr N K M)(j:CaJ Z f){a b:Nat}(ha:a<3)(hb:b<3)(Ac:a≠b):atE f a+256<=atE f b∨atE f b+256<=atE f a:=by
 have h:=Q1L ok.core (j.thr ha).1 (j.thr hb).1 (by omega) rfl rfl;have e1:costK (plB f (2+a)).kind=256:=by rw[(j.thr ha).2.2.2];rfl
 have e2:costK (plB f (2+b)).kind=256:=by rw[(j.thr hb).2.2.2];rfl
 rw[e1,e2] at h;rw[(end3 f ha).2,(end3 f hb).2];exact h
theorem CaJ.kept(j:CaJ Z f)(s:SameN Z Z'){k:Nat}(hk:k<3):msgV Z'.S.P.a.mem (atE f k)=msgV Z.S.P.a.mem (atE f k)/\winV Z'.S.P.a.mem (atE f k)=winV Z.S.P.a.mem (atE f k):=by
 obtain⟨_,hm,hi,Eu⟩:=j.thr hk;have Dl:=s.alt.kept (plB f (2+k)) hm hi (by omega);have e:costK (plB f (2+k)).kind=256:=by rw[Eu];rfl
 rw[e] at Dl;rw[(end3 f hk).2];exact Q4G Dl
theorem Z8C(ok:Z.Ok fr N K M)(j:CaJ Z f){a b k:Nat}(_ha:a<3)(hb:b<3)(hk:k<3){lb:Nat}(Dr:lb<18446744073709551616) :
  msgV (putM Z.S.P.a.mem (atE f b) ⟨lb,(msgV Z.S.P.a.mem (atE f a)).ws,[]⟩) (atE f k)=(if k=b then⟨lb,(msgV Z.S.P.a.mem (atE f a)).ws,[]⟩ else msgV Z.S.P.a.mem (atE f k))/\winV (putM Z.S.P.a.mem (atE f b) ⟨lb,(msgV Z.S.P.a.mem (atE f a)).ws,[]⟩) (atE f k)=winV Z.S.P.a.mem (atE f k):=by
 have hw:=Q7T (ok.core.inv.mem.pool.bytes) (atE f a);have Fc:Msg.May ⟨lb,(msgV Z.S.P.a.mem (atE f a)).ws,[]⟩:=⟨Dr,hw.2,fun y hy=>(by cases hy),hw.1,J3z 2⟩
 obtain⟨rb,r8⟩:=j.room ok hb;obtain⟨rk,rk8⟩:=j.room ok hk;by_cases e:k=b
 ·subst e;rw[if_pos rfl];exact⟨Z0h Fc rb r8,Z5G Fc rb r8⟩
 ·rw[if_neg e];exact Q9i Fc rb r8 rk rk8 (j.two ok hb hk (Ne.symm e))
def TlR(Z:SP)(f:Nat->Nat×Nat)(a b lb:Nat)(er:Int)(Z':SP):Prop:=
 (er≠0->(msgV Z.S.P.a.mem (atE f a)).its≠[])/\∀k,k<3->winV Z'.S.P.a.mem (atE f k)=winV Z.S.P.a.mem (atE f k)/\msgV Z'.S.P.a.mem (atE f k)=if er=0/\k=b then⟨lb,(msgV Z.S.P.a.mem (atE f a)).ws,[]⟩ else msgV Z.S.P.a.mem (atE f k)
theorem BlkAt.eq{t a:Nat}{p:Pl}(h:BlkAt Z t ((a:Nat):Int) p):p.at_=a:=by have:=h.2.2.2.2;omega
theorem Z8D(ok:Z.Ok fr N K M)(j:CaJ Z f)(h:Sep w Z.hl){c kk:Nat}(hc:CarC Z c kk w)(hM:M+256<1099511627776){a b:Nat}(ha:a<3)(hb:b<3)(ha6:atE f a<=65536)(Ch:atE f b<=65536){lb:Nat}(Dr:lb<18446744073709551616) :
  Calls prog 54 #[.pointer (some ⟨c,0,none⟩),.agg #[.int .u32 (tkE f a:Int),.int .i64 (atE f a:Int)],.agg #[.int .u32 (tkE f b:Int),.int .i64 (atE f b:Int)],.int .u64 lb] w fun r w'=>∃(er:Int) (Z':SP) (fr':List Nat),r=.returned (.int .i64 er)/\TlR Z f a b lb er Z'/\Z'.Ok fr' N K (M+256)/\CaJ Z' f/\Z'.s=Z.s/\Step Z.hl Z'.hl w w':=by
 have ht:∀k,k<3->tkE f k<4294967296:=fun k hk=>by rw[(end3 f hk).1];omega
 have same:∀{er:Int} {Z1:SP},(er≠0->(msgV Z.S.P.a.mem (atE f a)).its≠[])->er≠0->SameN Z Z1->TlR Z f a b lb er Z1:=fun h1 h0 s=>⟨h1,fun k hk=>by
  rw[if_neg (by rintro⟨h,_⟩;exact h0 h)];exact⟨(j.kept s hk).2,(j.kept s hk).1⟩⟩
 have KA:=j.blk ok ha;have KF:=j.blk ok hb;obtain⟨t1,FB,AE⟩:=j.task ha;obtain⟨t2,Gu,Av⟩:=j.task hb;rw[<- (end3 f ha).1] at FB;rw[<- (end3 f hb).1] at Gu;refine(Q2y ok h hM hc (ht a ha) (ht b hb) (atE f a:Int) (atE f b:Int) (by omega) (by omega) Dr).mono ?_;rintro r w' (⟨er,h0,rfl,Cb,hE⟩|⟨p,p',hp,AL,Fm,⟨er,w5,h0,rfl,Au,SD⟩|⟨rfl,av,Z1,_,_,_,sn,_,ok1,ok2,st⟩⟩)
 ·refine⟨er,Z,fr,rfl,same (fun _=>?_) h0 (SameN.refl Z),ok.mono (J1E _) (J1E _) (by omega),j,rfl,h.grown Cb⟩;rcases hE with e|⟨_,e⟩|⟨p,p',hp,_,i,hi,_⟩
  ·exact absurd (e.symm.trans KA) h0
  ·exact absurd (e.symm.trans KF) h0
  ·rw[hp.eq] at hi;exact List.ne_nil_of_mem hi
 ·have hn:(msgV Z.S.P.a.mem (atE f a)).its≠[]:=fun hn=>by
   have hz:(carL Z (tkE f a) p p').length=0:=by
    unfold carL;rw[hp.eq,hn];rfl
   rcases SD with ⟨_,hE,_⟩|⟨q1,q2,_,_,_,_,_,⟨e0,_⟩|⟨_,⟨k,_,_,hk,_⟩,_⟩⟩
   ·rcases hE with ⟨e,_⟩|⟨q1,e1,⟨e,_⟩|⟨_,⟨e,_⟩|⟨q2,e2,⟨e,_⟩|⟨_,i,hi,_⟩⟩⟩⟩
    ·rw[FB] at e;cases e
    ·rw[FB] at e1;cases e1;exact e AE
    ·rw[Gu] at e;cases e
    ·rw[Gu] at e2;cases e2;exact e Av
    ·omega
   ·exact h0 e0
   ·omega
  have Ug:=(h.grown Au)
  have back:∃Z1,Z1.Ok fr N K M/\SameZ Z Z1/\Step Z.hl Z1.hl w5 w':=by
   rcases SD with ⟨_,_,own,hB⟩|⟨q1,q2,_,_,_,_,_,⟨e0,_⟩|⟨_,_,hB⟩⟩
   ·obtain⟨Z1,a1,_,a2,a3⟩:=hB.ok ok;exact⟨Z1,a1,a2,a3⟩
   ·exact absurd e0 h0
   ·obtain⟨Z1,a1,_,a2,a3⟩:=hB.ok ok;exact⟨Z1,a1,a2,a3⟩
  obtain⟨Z1,a1,a2,a3⟩:=back;exact⟨er,Z1,fr,rfl,same (fun _=>hn) h0 a2.toSameN,a1.mono (J1E _) (J1E _) (by omega),j.keep a2.toSameN.keepJ,a2.s,Ug.trans a3⟩
 ·have hl:=Q7Y Z (tkE f a) p p' Fm;have j1:=j.keep sn.keepJ;rw[hp.eq,AL.eq] at ok2 st;refine⟨0,_,fr,rfl,⟨fun h=>absurd rfl h,fun k hk=>?_⟩,ok2.mono (J1E _) (J1E _) (by omega),j1.keep (Q2j Z1 _),sn.s,st⟩;obtain⟨q1,q2⟩:=Z8C ok1 j1 ha hb hk Dr;show winV (putM Z1.S.P.a.mem (atE f b) ⟨lb,(msgV Z1.S.P.a.mem (atE f a)).ws,[]⟩) (atE f k)=_/\msgV (putM Z1.S.P.a.mem (atE f b) ⟨lb,(msgV Z1.S.P.a.mem (atE f a)).ws,[]⟩) (atE f k)=_;rw[q1,q2,(j.kept sn ha).1,(j.kept sn hk).1,(j.kept sn hk).2];refine⟨rfl,?_⟩;by_cases e:k=b
  ·rw[if_pos e,if_pos ⟨rfl,e⟩]
  ·rw[if_neg e,if_neg (by rintro⟨_,h⟩;exact e h)]
theorem Z6j{rv:RV}{n n' cap:Nat}{a:Option Addr}{H:HL}(h:lvOf rv n=.slice a n' cap)(st:Step [] H w w')(hk:∀g cp,rv=some (g,cp)->g∈keys H):∀b,a=some b->w.heap.size<=b.block:=fun b hb=>by
 cases rv with
 | none =>
  have h':Value.slice none 0 0=.slice a n' cap:=h;cases h';cases hb
 | some p =>
  obtain⟨g,cp⟩:=p;have h':Value.slice (some ⟨g,0,none⟩) n cp=.slice a n' cap:=h;cases h';cases hb;rcases st.new g (hk g _ rfl) with h|h
  ·cases h
  ·exact h
theorem Z8W(ok:Z.Ok fr N K M)(j:CaJ Z f)(h:Sep w Z.hl){c kk:Nat}(hc:CarC Z c kk w){k:Nat}(hk:k<3)(h6:atE f k<=65536) :
  Calls prog 52 #[.pointer (some ⟨c,0,none⟩),.agg #[.int .u32 (tkE f k:Int),.int .i64 (atE f k:Int)]] w fun r w'=>∃(a x:Option Addr) (ca cx:Nat),r=.returned (.tuple #[.agg #[.int .u64 ((msgV Z.S.P.a.mem (atE f k)).label:Int),.slice a (msgV Z.S.P.a.mem (atE f k)).ws.length ca,.slice x (msgV Z.S.P.a.mem (atE f k)).its.length cx],.int .i64 0])/\Below w.heap.size w w'/\(IsU w' a (msgV Z.S.P.a.mem (atE f k)).ws/\IsI w' x (msgV Z.S.P.a.mem (atE f k)).its)/\(∀b,a=some b->w.heap.size<=b.block)/\∀b,x=some b->w.heap.size<=b.block:=by
 refine(Z3d ok h hc (by rw[(end3 f hk).1];omega) (atE f k:Int) (by omega) (j.blk ok hk)).mono ?_;rintro r w'⟨p,v,hp,rfl,hm⟩;rw[hp.eq] at hm;obtain⟨rw_,ri,e,o1,o2,st⟩:=hm;obtain⟨a,ca,e1,h1⟩:=Z5R o1 st;obtain⟨x,cx,e2,h2⟩:=Z5S o2 st;have n1:=Z6j e1 st fun g cp h=>by subst h;simp[rowH]
 have n2:=Z6j e2 st fun g cp h=>by subst h;simp[rowH]
 rw[e1,e2] at e;cases e;exact⟨a,x,ca,cx,rfl,st.fresh,⟨h1,h2⟩,n1,n2⟩
theorem Z8X(ok:Z.Ok fr N K M)(j:CaJ Z f)(h:Sep w Z.hl){c kk:Nat}(hc:CarC Z c kk w){k:Nat}(hk:k<3)(h6:atE f k<=65536) :
  Calls prog 53 #[.pointer (some ⟨c,0,none⟩),.agg #[.int .u32 (tkE f k:Int),.int .i64 (atE f k:Int)]] w (Told w (.tuple #[.agg #[.int .i64 (winV Z.S.P.a.mem (atE f k)).base,.int .i64 (winV Z.S.P.a.mem (atE f k)).order],.int .i64 0])):=by
 refine(Z6i ok h hc (by rw[(end3 f hk).1];omega) (atE f k:Int) (by omega) (j.blk ok hk)).mono ?_;rintro r w'⟨p,hp,rfl,hb⟩;rw[hp.eq];exact⟨rfl,hb⟩
end
section
variable {x y n:Nat} {A:Nat->Mv} {a0:AV} {nx:Int}
end
theorem Z3e{P:Program}{w:World}{t:TypeId}{Z:Array Value}(hz:((P.info? t).bind (·.zero)).map Value.cells=some Z):(Instr.alloc t true (.tuple #[])).run P w=.ok (.pointer (some ⟨w.heap.size,0,none⟩)) (w.alloc (.cells Z t)):=by
 cases hi:P.info? t with
 | none=>simp[hi] at hz
 | some i =>
  cases Mk:i.zero with
  | none=>simp[hi,Mk] at hz
  | some z =>
   simp only[hi,Mk,Option.bind_some,J3l,J1S] at hz;subst hz;simp[Instr.alloc,zeroValue,typeInfo,hi,Mk,newVar,newRow]
theorem Q4p{P:Program}{ops:Array Oper}{rest:List Oper}{o:Oper}{a:Act}{w:World}{Q:Exit->Act->World->Prop}(hg:o.guard=none)(t:TypeId)(ho:o.op=.alloc t)(dst:Option Tmp)(hdst:o.dst=dst)(N:Nat)(hN:w.heap.size=N)(Z:Array Value)
  (hz:((P.info? t).bind (·.zero)).map Value.cells=some Z)
  (h:wpList P ops Q rest (a.put dst (.pointer (some ⟨N,0,none⟩))) (w.alloc (.cells Z t))):wpList P ops Q (o::rest) a w:=by
 subst hdst hN;refine wpList_plain hg fun K hK=>?_
 unfold Oper.wp execOp;simp only[ho,Z3e hz,Sem.run_bind,Sem.run_pure,Result.andThen_ok];exact hK _ _ h
section
variable {Z:SP} {fr:List Nat} {N K:Nat} {M:Int} {w w':World}
end
structure Stay(B:Nat)(w w':World):Prop where
 size:w.heap.size<=w'.heap.size
 block:∀b,B<=b->b<w.heap.size->w'.heap[b]?=w.heap[b]?
theorem Stay.of{B:Nat}{w w':World}(h:Below w.heap.size w w'):Stay B w w':=⟨h.size,fun b _ hb=>h.block b hb⟩
theorem Stay.trans{B:Nat}{w w1 w2:World}(h:Stay B w w1)(k:Stay B w1 w2):Stay B w w2:=⟨J1F h.size k.size,fun b h1 h2=>(k.block b h1 (J1G h2 h.size)).trans (h.block b h1 h2)⟩
theorem Stay.cells{B:Nat}{w w':World}(h:Stay B w w'){b:Nat}(hb:B<=b){T:TypeId}{cs:List Value}(hv:Cells w b T cs):Cells w' b T cs:=hv.same (h.block b hb hv.lt)
section
variable {Z Z':SP} {fr:List Nat} {N K:Nat} {M:Int} {f:Nat->Nat×Nat} {w w':World}
end
structure MP where
 l:Nat
 a:Option Addr
 n:Nat
 c:Nat
 x:Option Addr
 xn:Nat
 xc:Nat
def MP.z:MP:=⟨0,none,0,0,none,0,0⟩
def MP.cells(p:MP):List Value:=[.int .u64 (p.l:Int),.slice p.a p.n p.c,.slice p.x p.xn p.xc]
def mps(F:Nat->MP):List Value:=(F 0).cells++((F 1).cells++(F 2).cells)
def updM{α:Type}(F:Nat->α)(k:Nat)(p:α):Nat->α:=fun j=>if j=k then p else F j
theorem Q4S(F:Nat->MP){k:Nat}(hk:k<3):(mps F)[k*3]?=some (.int .u64 ((F k).l:Int))/\(mps F)[k*3+1]?=some (.slice (F k).a (F k).n (F k).c)/\(mps F)[k*3+2]?=some (.slice (F k).x (F k).xn (F k).xc):=by
 have:k=0∨k=1∨k=2:=by omega
 rcases this with rfl|rfl|rfl <;> exact⟨rfl,rfl,rfl⟩
theorem J0B(F:Nat->MP){k:Nat}(hk:k<3)(p:MP):(((mps F).set (k*3) (.int .u64 (p.l:Int))).set (k*3+1) (.slice p.a p.n p.c)).set (k*3+2) (.slice p.x p.xn p.xc)=mps (updM F k p):=by
 have:k=0∨k=1∨k=2:=by omega
 rcases this with rfl|rfl|rfl <;> rfl
def wps(G:Nat->Wi):List Value:=(G 0).cells++((G 1).cells++(G 2).cells)
theorem Z1t(G:Nat->Wi){k:Nat}(hk:k<3):(wps G)[k*2]?=some (.int .i64 (G k).base)/\(wps G)[k*2+1]?=some (.int .i64 (G k).order):=by
 have:k=0∨k=1∨k=2:=by omega
 rcases this with rfl|rfl|rfl <;> exact⟨rfl,rfl⟩
theorem J0C(G:Nat->Wi){k:Nat}(hk:k<3)(p:Wi):((wps G).set (k*2) (.int .i64 p.base)).set (k*2+1) (.int .i64 p.order)=wps (updM G k p):=by
 have:k=0∨k=1∨k=2:=by omega
 rcases this with rfl|rfl|rfl <;> rfl
theorem Z8E:((prog.info? 111).bind (·.zero)).map Value.cells=some (mps fun _=>MP.z).toArray:=by kernel_rfl
theorem Z8F:((prog.info? 112).bind (·.zero)).map Value.cells=some (wps fun _=>⟨0,0⟩).toArray:=by kernel_rfl
structure MP.Is(p:MP)(x:Msg)(w:World):Prop where
 l:p.l=x.label
 n:p.n=x.ws.length
 xn:p.xn=x.its.length
 u:IsU w p.a x.ws
 i:IsI w p.x x.its
theorem MP.Is.below{p:MP}{x:Msg}{w w':World}(h:p.Is x w)(hb:Below w.heap.size w w'):p.Is x w':=⟨h.l,h.n,h.xn,h.u.below hb,h.i.below hb⟩
theorem IsU.stay{B:Nat}{w w':World}{a:Option Addr}{ws:List Nat}(h:IsU w a ws)(hB:∀b,a=some b->B<=b.block)(s:Stay B w w'):IsU w' a ws:=fun j y hj=>by
 obtain⟨g,o,e,hg,hc⟩:=h j y hj;exact⟨g,o,e,J1G hg s.size,(World.cell?_of_block (w:=w) (s.block g (hB _ e) hg)).trans hc⟩
theorem IsI.stay{B:Nat}{w w':World}{a:Option Addr}{its:List It}(h:IsI w a its)(hB:∀b,a=some b->B<=b.block)(s:Stay B w w'):IsI w' a its:=fun j y hj=>by
 obtain⟨g,o,e,hg,hc⟩:=h j y hj;exact⟨g,o,e,J1G hg s.size,fun c v hv=>(World.cell?_of_block (w:=w) (s.block g (hB _ e) hg)).trans (hc c v hv)⟩
theorem Stay.refl(B:Nat)(w:World):Stay B w w:=⟨J1E _,fun _ _ _=>rfl⟩
theorem Stay.set{B:Nat}{w w':World}(h:Stay B w w'){b:Nat}(hb:b<B)(i:Nat)(v:Value):Stay B w (w'.setCell ⟨b,i,none⟩ v):=
 ⟨by simpa[World.setCell] using h.size,fun q h1 h2=>(Below.heap_setCell _ _ _ _ (by show q≠b;omega)).trans (h.block q h1 h2)⟩
def MP.From(p:MP)(B:Nat):Prop:=(∀b,p.a=some b->B<=b.block)/\∀b,p.x=some b->B<=b.block
theorem MP.From.mono{p:MP}{B B':Nat}(h:p.From B)(hb:B'<=B):p.From B':=⟨fun b e=>J1F hb (h.1 b e),fun b e=>J1F hb (h.2 b e)⟩
theorem MP.Is.stay{p:MP}{x:Msg}{B:Nat}{w w':World}(h:p.Is x w)(hB:p.From B)(s:Stay B w w'):p.Is x w':=⟨h.l,h.n,h.xn,h.u.stay hB.1 s,h.i.stay hB.2 s⟩
def TlQ(c ge:Nat)(f:Nat->Nat×Nat)(ms:Nat->Msg)(wi:Nat->Wi)(a b lb:Nat)(w0:World)(B:Nat)(V:World)(er:Int)(w':World):Prop:=
 (er≠0->(ms a).its≠[])/\Below w0.heap.size w0 w'/\Stay B V w'/\∃nw:Nat->Msg,(∀q,q<3->nw q=if er=0/\q=b then⟨lb,(ms a).ws,[]⟩ else ms q) /\
  ∀W,Below w'.heap.size w' W->(∀q,q<3->W.cell? ⟨ge,q*2,none⟩=some (.int .u32 (tkE f q:Int))/\W.cell? ⟨ge,q*2+1,none⟩=some (.int .i64 (atE f q:Int))) /\
   (∀q,q<3->Calls prog 52 #[.pointer (some ⟨c,0,none⟩),.agg #[.int .u32 (tkE f q:Int),.int .i64 (atE f q:Int)]] W fun r w2=>∃p:MP,r=.returned (.tuple #[.agg #[.int .u64 (p.l:Int),.slice p.a p.n p.c,.slice p.x p.xn p.xc],.int .i64 0])/\Below W.heap.size W w2/\p.Is (nw q) w2) /\
   ∀q,q<3->Calls prog 53 #[.pointer (some ⟨c,0,none⟩),.agg #[.int .u32 (tkE f q:Int),.int .i64 (atE f q:Int)]] W (Told W (.tuple #[.agg #[.int .i64 (wi q).base,.int .i64 (wi q).order],.int .i64 0]))
theorem Q9r(w:World)(l:Nat)(a b xa xb:Option Addr)(ca cb xc yc:Nat)(xs:List Nat)(its:List It)(ha:IsU w a xs)(hb:IsU w b xs)(hl:xs.length<=65536)(hxa:IsI w xa its)(hxb:IsI w xb its)(CC:its.length<=2) :
  Calls prog 55 #[.agg #[.int .u64 l,.slice a xs.length ca,.slice xa its.length xc],.agg #[.int .u64 l,.slice b xs.length cb,.slice xb its.length yc]] w (Told w (.bool true)):=by
 have b1:Below w.heap.size w ((w.alloc (.cells #[.int .u64 l,.slice a xs.length ca,.slice xa its.length xc] 100)).alloc (.cells #[.int .u64 l,.slice b xs.length cb,.slice xb its.length yc] 100)):=((Below.refl _ _).alloc (J1E _) _).alloc (by simp) _;have kw:=Q6l _ a b ca cb xs xs (ha.below b1) (hb.below b1) hl hl;rw[decide_eq_true rfl] at kw;have Q9:=Q0a (hxa.below b1);have QJ:=Q0a (hxb.below b1);have Ac:(((l:Nat):Int) != ((l:Nat):Int))=false:=by simp
 have c1:=(Cells.new w 100 [.int .u64 l,.slice a xs.length ca,.slice xa its.length xc]).alloc (.cells #[.int .u64 l,.slice b xs.length cb,.slice xb its.length yc] 100);have c2:=Cells.new (w.alloc (.cells #[.int .u64 l,.slice a xs.length ca,.slice xa its.length xc] 100)) 100 [.int .u64 l,.slice b xs.length cb,.slice xb its.length yc];have hz:(w.alloc (.cells #[.int .u64 l,.slice a xs.length ca,.slice xa its.length xc] 100)).heap.size=w.heap.size+1:=by simp
 rw[hz] at c2;generalize JT:its.length=ni at *
 have UM:=Q0a JT;obtain⟨W2,IX⟩:∃W2,W2=((w.alloc (.cells #[.int .u64 l,.slice a xs.length ca,.slice xa ni xc] 100)).alloc (.cells #[.int .u64 l,.slice b xs.length cb,.slice xb ni yc] 100)):=⟨_,rfl⟩
 rw[<- IX] at c1 c2 b1 kw Q9 QJ;have HC:Hid (∀V,Below W2.heap.size W2 V->(V.cell? ⟨w.heap.size,2,none⟩=some (.slice xa ni xc)/\V.cell? ⟨w.heap.size+1,2,none⟩=some (.slice xb ni yc))/\Told w (.bool true) (.returned (.bool true)) V):=fun V hV=>⟨⟨(c1.same (hV.block _ c1.lt)).cell 2 _ rfl,(c2.same (hV.block _ c2.lt)).cell 2 _ rfl⟩,rfl,b1.trans (hV.mono b1.size)⟩
 subst IX;generalize xs.length=n at *
 clear ha hb b1 c1 c2 hz hxa hxb JT;go_enter func55,ntmps55;go_wp2_with fail;refine kw.mono ?_;rintro r w2⟨rfl,Ae⟩;obtain⟨⟨x2,y2⟩,-⟩:=HC.out w2 Ae;have CX:=Q0a Ae;clear Ae kw;go_wp2_with fail;clear x2 y2
 go_loopg [5] ni (fun gk i wr=>∃k:Nat,i=.int .i64 k/\k+gk=ni/\Below w2.heap.size w2 wr)
 case atStart=>exact⟨0,rfl,by omega,Below.refl _ _⟩
 case round =>
  obtain⟨k,rfl,BL,Bi⟩:=hrel;have CW:=Q0a BL;obtain⟨⟨x2,y2⟩,hq⟩:=HC.out wr (CX.out.trans (Bi.mono CX.out.size));have HR:=Q0a hq;clear BL hq;by_cases Aa:k<ni
  ·obtain⟨i,hi⟩:∃i,its[k]?=some i:=⟨_,J3O (by rw[UM.out];exact Aa)⟩
   obtain⟨g1,o1,rfl,BX,d1⟩:=Q9.out k i hi;obtain⟨g2,o2,rfl,Bw,d2⟩:=QJ.out k i hi;have Cb:=CX.out.trans (Bi.mono CX.out.size);have D1:∀(c:Nat) (v:Value),i.cells[c]?=some v->wr.cell? ⟨g1,o1+k*5+c,none⟩=some v:=fun c v hv=>(World.cell?_of_block (w:=_) (Cb.block g1 BX)).trans (d1 c v hv)
   have D2:∀(c:Nat) (v:Value),i.cells[c]?=some v->wr.cell? ⟨g2,o2+k*5+c,none⟩=some v:=fun c v hv=>(World.cell?_of_block (w:=_) (Cb.block g2 Bw)).trans (d2 c v hv)
   obtain⟨ib,io,ir,iff,ig⟩:=i;have p0:wr.cell? ⟨g1,o1+k*5,none⟩=some (.int .i64 ib):=D1 0 _ rfl;have p1:wr.cell? ⟨g1,o1+k*5+1,none⟩=some (.int .i64 io):=D1 1 _ rfl;have p2:wr.cell? ⟨g1,o1+k*5+2,none⟩=some (.int .i64 ir):=D1 2 _ rfl;have p3:wr.cell? ⟨g1,o1+k*5+3,none⟩=some (.int .i64 iff):=D1 3 _ rfl;have p4:wr.cell? ⟨g1,o1+k*5+4,none⟩=some (.bool ig):=D1 4 _ rfl;have q0:wr.cell? ⟨g2,o2+k*5,none⟩=some (.int .i64 ib):=D2 0 _ rfl;have q1:wr.cell? ⟨g2,o2+k*5+1,none⟩=some (.int .i64 io):=D2 1 _ rfl;have q2:wr.cell? ⟨g2,o2+k*5+2,none⟩=some (.int .i64 ir):=D2 2 _ rfl;have q3:wr.cell? ⟨g2,o2+k*5+3,none⟩=some (.int .i64 iff):=D2 3 _ rfl
   have q4:wr.cell? ⟨g2,o2+k*5+4,none⟩=some (.bool ig):=D2 4 _ rfl;have Cq:(k:Int)<(ni:Int):=by omega
   have B4:(0:Int)<=(k:Int):=by omega
   have TE:(ni:Int)<=2:=by omega
   have BZ:=Q0a Bi;clear D1 D2 d1 d2 BX Bw Cb hi Bi HR;go_wp2_with fail
   go_quiet (fail)
   go_wp2_with fail;go_roundg (ni-(k+1))
   case measure=>have:=CW.out;omega
   case rel=>exact⟨k+1,by go_num,by have:=CW.out;omega,Q0q BZ.out _⟩
  ·have Cq:¬(k:Int)<(ni:Int):=by omega
   go_wp2_with fail
   (try go_ret);exact HR.out
end Go.Proofs.YtfidemmgofcnmaaGreatDoor
