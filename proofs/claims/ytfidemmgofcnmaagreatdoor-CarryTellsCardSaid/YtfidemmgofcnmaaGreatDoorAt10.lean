/- What the laws of spaces share is proved. No condition. Part of a proof. -/
import Derived.Test.YtfidemmgofcnmaaGreatDoorAt09
set_option maxHeartbeats 4000000
set_option maxRecDepth 100000
set_option linter.unusedVariables false
namespace Go.Proofs.YtfidemmgofcnmaaGreatDoor
open Go.RowKit Go.Proofs.Tryz
theorem Z4C(x:Nat):∀y∈Q0c x,y<256:=by
 intro y hy;unfold Q0c at hy;simp only[J1J,J1Z,or_false] at hy;rcases hy with rfl|rfl|rfl|rfl|rfl|rfl|rfl|rfl <;> exact J4D _ (by omega)
def one(e:Int):Ending:=.returned (.int .i64 e)
def at2(a:Nat)(e:Int):Ending:=.returned (.tuple #[.int .i64 a,.int .i64 e])
def GetC(S:CO)(fr:List Nat)(own n:Nat)(e:En Fa)(w:World)(r:Ending)(w':World):Prop:=
 (Q0u e<((costK n:Nat):Int)/\r=at2 0 5/\Step S.hl S.hl w w') ∨
 (((costK n:Nat):Int)<=Q0u e/\NoPage S.P/\r=at2 0 4/\Step S.hl S.hl w w') ∨
 ∃a P' fr',((costK n:Nat):Int)<=Q0u e/\GotM S.P fr own n a P' fr'/\r=at2 a 0/\Step S.hl (S.setP P').hl w w'
theorem Z9R{S:CO}{fr:List Nat}{w w':World}{r:Ending}(h:Sep w S.hl)(ok:S.P.Ok fr){own n:Nat}{e:En Fa}(hf:find S.P.q.E own=some e)(h1:1<=n)(h7:n<=7)(hr:GetP S.P fr own n w r w'):GetC S fr own n e w r w':=by
 have hc:Q0X (n:Int)=Q0e n:=by unfold Q0X;rw[if_pos (by omega),J2C]
 have DW:=costN_pos.2 ⟨h1,h7⟩;have DQ:costK n=Q0e n:=Q1j (by omega);rcases hr with ⟨h0,_⟩|⟨_,hn,_⟩|⟨_,⟨e',AH,hq⟩,rfl,st⟩|⟨m,e',hm,_,_,AH,hq,hr⟩
 ·omega
 ·rw[hf] at hn;cases hn
 ·rw[hf] at AH;cases AH;exact .inl ⟨by unfold Q0u;rw[DQ,<- hc];exact hq,rfl,CO.stepP h S.P rfl st⟩
 ·have:m=n:=by omega
  subst this;rw[hf] at AH;cases AH;have DM:((costK m:Nat):Int)<=Q0u e:=by unfold Q0u;rw[DQ];exact hq
  rcases hr with ⟨a,P',rfl,g,st⟩|⟨hn,rfl,st⟩
  ·exact .inr (.inr ⟨a,P',fr,DM,g.gotM ok,rfl,CO.stepP h P' g.p st⟩)
  ·exact .inr (.inl ⟨DM,hn.page,rfl,CO.stepP h S.P rfl st⟩)
def PutC(S:CO)(fr:List Nat)(own n a:Nat)(w:World)(r:Ending)(w':World):Prop:=
 r=.returned (.tuple #[])/\∃P' fr',Z4g S.P fr own n a P' fr'/\Step S.hl (S.setP P').hl w w'
structure Held(P:PL)(fr:List Nat)(own n a:Nat)(e:En Fa):Prop where
 acc:find P.q.E own=some e
 paid:((costK n:Nat):Int)<=e.q.charged
 at':n≠8->a∈P.usedOf n
 frame:n=8->∃g∈fr,a=1024*g
theorem Z9S{S:CO}{fr:List Nat}{w w':World}{r:Ending}(h:Sep w S.hl)(ok:S.P.Ok fr){own n a:Nat}(hr:PutR S.P fr own n a w r w'):∃P' fr',Z4g S.P fr own n a P' fr'/\Step S.hl (S.setP P').hl w w':=by
 obtain⟨_,P',g,st⟩:=hr;exact⟨P',fr,g.backM ok,CO.stepP h P' g.p st⟩
theorem Z7m{m:List Nat}{a n:Nat}(hn:8<=n)(hl:a+n<=m.length):put_ (put_ m a (List.replicate n 0)) a (Q0c 0)=put_ m a (List.replicate n 0):=by
 have Dt:(put_ m a (List.replicate n 0)).length=m.length:=Q1h _ _ _ (by rw[J1O];exact hl);have h8:(Q0c 0).length=8:=rfl
 apply J3f
 intro i;rw[Q3B _ _ _ (by rw[Dt,h8];omega)];by_cases h1:i<a
 ·rw[if_pos h1]
 ·rw[if_neg h1];by_cases h2:i<a+(Q0c 0).length
  ·rw[if_pos h2];have:i=a+(i-a):=by omega
   rw[h8] at h2;rw[this,Q6N (by rw[J1O];exact hl) (by rw[J1O];omega),show a+(i-a)-a=i-a by omega,J3y,if_pos (by omega)];have h3:i-a<8:=by omega
   generalize i-a=j at h3
   match j,h3 with
   | 0,_=>rfl
   | 1,_=>rfl
   | 2,_=>rfl
   | 3,_=>rfl
   | 4,_=>rfl
   | 5,_=>rfl
   | 6,_=>rfl
   | 7,_=>rfl
  ·rw[if_neg h2]
def Q2I(S:CO)(own n a:Nat)(lim:Int)(e:En Fa)(w:World)(r:Ending)(w':World):Prop:=
 ((∀p∈S.l,p.st≠0)/\r=one 11/\Step S.hl S.hl w w') ∨
 ((∃i p,Fst S.l i p)/\n≠1/\r=one 0/\Step S.hl S.hl w w') ∨
 ((∃i p,Fst S.l i p)/\n=1/\(∃er,((er=5/\Q0u e<lim)∨(er=11/\S.P.q.E.length=32))/\r=one er)/\Step S.hl (S.setP (S.P.setA (put_ S.P.a.mem a (Q0c 0)))).hl w w') ∨
 ((∃i p,Fst S.l i p)/\n=1/\lim<=Q0u e/\r=one 0/\∃b,Step S.hl (S.setP ((S.P.setQ (Q3x S.P.q own e b lim)).setA (put_ S.P.a.mem a (Q0c S.P.q.next.toNat)))).hl w w')
theorem GotM.acc{P P':PL}{fr fr':List Nat}{own k a:Nat}{e:En Fa}(g:GotM P fr own k a P' fr')(he:find P.q.E own=some e):find P'.q.E own=some {e with q:={e.q with charged:=e.q.charged+((costK k:Nat):Int)}}/\P'.q.E=upd P.q.E own {e.q with charged:=e.q.charged+((costK k:Nat):Int)}/\P'.q.next=P.q.next/\P'.q.E.length=P.q.E.length:=by
 obtain⟨e',q1,_,q3⟩:=g.q;rw[he] at q1;cases q1;rw[q3];refine⟨Q0n he _,rfl,rfl,?_⟩;show(upd _ _ _).length=_;unfold upd;simp
theorem GotM.held{P P':PL}{fr fr':List Nat}{own k a:Nat}{e:En Fa}(g:GotM P fr own k a P' fr')(ok:P.Ok fr)(he:find P.q.E own=some e):Held P' fr' own k a {e with q:={e.q with charged:=e.q.charged+((costK k:Nat):Int)}}:=by
 have h0:=(ok.q.fa _ e he).1;refine⟨(g.acc he).1,by show _<=e.q.charged+_;omega,fun h=>(g.used h).mem_iff.2 (by simp),fun h=>?_⟩;have hf:=g.frs;rw[if_pos h] at hf;obtain⟨x,rfl,hx⟩:=hf;exact⟨x,by rw[hx];simp,rfl⟩
theorem J0T{S:CO}{fr fr':List Nat}{N K:Nat}(ok:S.Ok fr N K){h n a i:Nat}{f p:Pl}{e:En Fa}{lim:Int}{P':PL}(hf:pget S.l 1 h=some f)(Dv:f.kind=1)(hn:n=8∨2<=n/\n<=5)(he:find S.P.q.E f.own=some e)(g:GotM S.P fr f.own n a P' fr')(hi:Fst S.l i p) :
  MadeOk S fr f e n a lim 0 i p P' fr':=by
 obtain⟨_,hE,Bm,_⟩:=g.acc he;refine⟨ok.inv.addN g hi.1 hi.2.1 hn hf Dv,g.same,g.keptL ok.inv.mem,by rw[Bm];omega,fun _=>hE,fun h=>by omega,fun _ j h1 h2=>?_,g.few,g.high ok.inv.mem.pool (by omega),g.keptH ok.inv.mem.pool,g.room.1⟩;rw[g.mem];have:j=a+(j-a):=by omega
 rw[this,Q6N (by rw[J1O];exact g.room.1) (by rw[J1O];omega),J3y,if_pos (by omega)]
theorem J0U{S:CO}{fr fr':List Nat}{N K:Nat}(ok:S.Ok fr N K)(hN:N+1<1048576){h a i b:Nat}{f p:Pl}{e:En Fa}{lim:Int}{P':PL}(hf:pget S.l 1 h=some f)(Dv:f.kind=1)(he:find S.P.q.E f.own=some e)(h0:0<=lim)(hl:lim<=Q0u e-64)(g:GotM S.P fr f.own 1 a P' fr')(hi:Fst S.l i p) :
  MadeOk S fr f e 1 a lim S.P.q.next.toNat i p ((P'.setQ (Q3x P'.q f.own {e with q:={e.q with charged:=e.q.charged+64}} b lim)).setA (put_ P'.a.mem a (Q0c S.P.q.next.toNat))) fr':=by
 obtain⟨DI,hE,Bm,_⟩:=g.acc he;have DK:costK 1=64:=rfl;rw[DK] at DI hE;have hr:=g.room.1;rw[DK] at hr;have Gp:∀x,(Q0c x).length=8:=fun _=>rfl
 have E6:=ok.inv.mem.pool.q.next0;have Da:=ok.next;have Jz:((S.P.q.next.toNat:Nat):Int)=S.P.q.next:=by omega
 have Ab:=g.same.len;have okq:(Q3x P'.q f.own {e with q:={e.q with charged:=e.q.charged+64}} b lim).Ok:=Z4w g.ok.q DI b h0 (by show lim<=e.q.limit-(e.q.charged+64+e.q.given);unfold Q0u at hl;omega) (by rw[Bm];omega);have Np:(put_ P'.a.mem a (Q0c S.P.q.next.toNat)).length=P'.a.mem.length:=Q1h _ _ _ (by rw[Gp];omega);have TM:∀y∈put_ P'.a.mem a (Q0c S.P.q.next.toNat),y<256:=by
  intro y hy;unfold put_ at hy;simp only[J2m] at hy;rcases hy with (hy|hy)|hy
  ·exact g.ok.bytes y (J4T hy)
  ·exact Z4C _ y hy
  ·exact g.ok.bytes y (J4a hy)
 have ok2:=PL.ok_setA (PL.ok_setQ g.ok okq) (m:=put_ P'.a.mem a (Q0c S.P.q.next.toNat)) Np TM;have hq:(Q3x P'.q f.own {e with q:={e.q with charged:=e.q.charged+64}} b lim).E=upd S.P.q.E f.own {e.q with charged:=e.q.charged+64,given:=e.q.given+lim,kids:=e.q.kids+1}++[⟨(S.P.q.next.toNat:Int),b,⟨lim,0,0,f.own,0⟩⟩]:=by
  unfold Q3x;simp only;rw[hE,upd_upd,Bm,Jz]
 have ME:KeptL S.P.a.mem (put_ P'.a.mem a (Q0c S.P.q.next.toNat)) S.l:=KeptL.of_apart ok.inv.mem (n:=64) (a:=a) (fun c j h=>by
  have k1:Kept S.P.a.mem P'.a.mem c j:=by
   rw[g.mem];exact Q1q (by rw[J1O,DK];exact hr) (by rw[J1O,DK];exact h)
  exact k1.trans (Q1q (by rw[Gp];omega) (by rw[Gp];omega))) (g.apart ok.inv.mem.pool)
 refine⟨?_,⟨g.same.p,g.same.qt,g.same.db,g.same.aa,g.same.amb,g.same.top,Np.trans Ab⟩,ME,?_,fun h=>absurd rfl h,fun _=>⟨Jz,?_,b,hq⟩,fun h=>absurd rfl h,g.few,g.high ok.inv.mem.pool (by omega),fun j c hj hc=>?_,by rw[DK];exact hr⟩
 ·exact ok.inv.addF g hi.1 hi.2.1 hf Dv Jz he hq rfl (fun j=>rfl) ok2
 ·show P'.q.next+1<=_;rw[Bm];omega
 ·show P'.q.next+1=_;rw[Bm]
 ·have:=(g.apart ok.inv.mem.pool).1 j c hc;rw[DK] at this;exact(g.keptH ok.inv.mem.pool j c hj hc).trans (Q1q (by rw[Gp];omega) (by rw[Gp];omega))
def NewG(per:Nat)(H:HL)(w:World)(r:Ending)(w':World):Prop:=∃g,r=.returned (.pointer (some ⟨g,0,none⟩))/\Step H (qhl g per 0 none []++H) w w'
theorem Z7n{w:World}{H:HL}(h:Sep w H)(per:Nat)(h1:1<=per)(h2:per<=16):Calls prog 148 #[.int .i64 per] w (NewG per H w):=by
 have HR:Hid (NewG per H w (.returned (.pointer (some ⟨w.heap.size,0,none⟩))) (w.alloc (.cells #[.int .i64 per,.int .i64 0,.slice none 0 0] 305))):=⟨_,rfl,h.new 305 [.int .i64 per,.int .i64 0,.slice none 0 0]⟩
 have Hs:decide ((per:Int)<1)=false:=by rw[decide_eq_false_iff_not];omega
 have Dd:decide ((16:Int)<(per:Int))=false:=by rw[decide_eq_false_iff_not];omega
 have A9:(1:Int)<=(per:Int):=by omega
 have Ax:(per:Int)<=16:=by omega
 clear h;go_enter func148,ntmps148;go_wp2_with fail
 (try go_ret);exact HR.out
theorem Q8x{w:World}{q:QT}(h:Sep w q.hl)(ok:q.Ok){id:Int}{e:En Fa}(hf:find q.E id=some e)(limit:Int)(h0:0<=limit)(hq:e.q.limit-(e.q.charged+e.q.given)<limit) :
  Calls prog 14 #[ptr q.t,.int .i64 id,.int .i64 limit] w (Told w (.tuple #[.int .i64 0,.int .i64 5])):=by
 have k1:=Q2V h hf;obtain⟨a1,a2,a3,a4,_⟩:=ok.fa id e hf;have k2:=Q2E (QT.fac h hf) a1 a2 a3 a4 limit;have hd:decide (limit<=e.q.limit-(e.q.charged+e.q.given))=false:=by rw[decide_eq_false_iff_not];omega
 rw[hd] at k2;clear h hf ok hd hq;unfold ptr at *
 go_enter func14,ntmps14;go_wp2_with (first|(go_at_call 66;refine k1.mono ?_;rintro e w'⟨rfl,rfl⟩)|(go_at_call 67;refine k2.mono ?_;rintro e w1⟨rfl,hb⟩;have HB:=Q0a hb;clear hb));go_ret2;exact⟨rfl,HB.out⟩
theorem Z1W{P:Program}{w:World}{m:Nat}{kv:List (Value×Value)}(h:MapIs w m kv){t k e:TypeId}(ht:P.underlying t=some (.map k e))(ty:TypeId):(Builtin.len_ #[t] ty #[.map (some m)]).run P w=.ok (.int .i64 ((kv.length:Nat):Int)) w:=by
 obtain⟨es,Ag,ho,_,hr⟩:=h;have:kv.length=es.size:=by rw[<- hr];simp
 rw[this];simp[Builtin.len_,run_underlying ht,MapKept.run_getObj_map ho,goInt,Result.andThen]
theorem QT.len{w:World}{q:QT}(h:Sep w q.hl)(ty:TypeId):(Builtin.len_ #[148] ty #[.map (some q.m)]).run prog w=.ok (.int .i64 ((q.E.length:Nat):Int)) w:=by
 have:=Z1W (QT.map h) underlying148 ty
 simpa[kvs] using this
theorem Q9I{w:World}{q:QT}(h:Sep w q.hl)(ok:q.Ok){id:Int}{e:En Fa}(hf:find q.E id=some e)(limit:Int)(h0:0<=limit)(hq:limit<=e.q.limit-(e.q.charged+e.q.given))(hl:q.E.length=32) :
  Calls prog 14 #[ptr q.t,.int .i64 id,.int .i64 limit] w (Told w (.tuple #[.int .i64 0,.int .i64 11])):=by
 have k1:=Q2V h hf;obtain⟨a1,a2,a3,a4,_⟩:=ok.fa id e hf;have k2:=Q2E (QT.fac h hf) a1 a2 a3 a4 limit;have hd:decide (limit<=e.q.limit-(e.q.charged+e.q.given))=true:=by rw[decide_eq_true_eq];exact hq
 rw[hd] at k2;have HN:Hid (∀w1,Below w.heap.size w w1->w1.cell? ⟨q.t,0,none⟩=some (.map (some q.m))/\∀ty,(Builtin.len_ #[148] ty #[.map (some q.m)]).run prog w1=.ok (.int .i64 32) w1):=fun w1 hb=>by
  have s1:=(h.grown hb).sep;refine⟨QT.c0 s1,fun ty=>?_⟩;have:=QT.len s1 ty;rw[hl] at this;exact this
 clear h hf ok hd hq hl;unfold ptr at *
 go_enter func14,ntmps14;go_wp2_with (first|(go_at_call 66;refine k1.mono ?_;rintro e w'⟨rfl,rfl⟩)|(go_at_call 67;refine k2.mono ?_;rintro e w1⟨rfl,hb⟩;obtain⟨d0,dl⟩:=HN.out w1 hb;have HB:=Q0a hb;clear hb));go_ret2;exact⟨rfl,HB.out⟩
theorem Z4D{w:World}{q:QT}(h:Sep w q.hl)(ok:q.Ok){id:Int}{e:En Fa}(hf:find q.E id=some e)(limit:Int)(h0:0<=limit)(hq:limit<=e.q.limit-(e.q.charged+e.q.given))(hl:q.E.length≠32)(hn:q.next+1<1048576) :
  Calls prog 14 #[ptr q.t,.int .i64 id,.int .i64 limit] w (Q9H w q id e limit):=by
 have k1:=Q2V h hf;obtain⟨a1,a2,a3,a4,a5,a6,_⟩:=ok.fa id e hf;have k2:=Q2E (QT.fac h hf) a1 a2 a3 a4 limit;have hd:decide (limit<=e.q.limit-(e.q.charged+e.q.given))=true:=by rw[decide_eq_true_eq];exact hq
 rw[hd] at k2;have E6:=ok.next0;have HN:Hid (∀w1,Below w.heap.size w w1->w1.cell? ⟨q.t,0,none⟩=some (.map (some q.m))/\w1.cell? ⟨q.t,1,none⟩=some (.int .i64 q.next)/\w1.frozen? ⟨q.t,1,none⟩=false/\(∀ty,(Builtin.len_ #[148] ty #[.map (some q.m)]).run prog w1=.ok (.int .i64 ((q.E.length:Nat):Int)) w1) /\
   Q0G ((w1.setCell ⟨q.t,1,none⟩ (.int .i64 (q.next+1))).alloc (.cells #[.int .i64 limit,.int .i64 0,.int .i64 0,.int .i64 id,.int .i64 0] 147)) q.m (kvs q.E) /\
   ∀w4,Q0G w4 q.m (put (kvs q.E) q.next (.pointer (some ⟨w1.heap.size,0,none⟩)))->((w1.setCell ⟨q.t,1,none⟩ (.int .i64 (q.next+1))).alloc (.cells #[.int .i64 limit,.int .i64 0,.int .i64 0,.int .i64 id,.int .i64 0] 147)).grownBy w4 (some q.m) ->
    w4.cell? ⟨e.b,2,none⟩=some (.int .i64 e.q.given)/\w4.cell? ⟨e.b,4,none⟩=some (.int .i64 e.q.kids)/\(∀i,w4.frozen? ⟨e.b,i,none⟩=false) /\
    Q9H w q id e limit (.returned (.tuple #[.int .i64 q.next,.int .i64 0])) ((w4.setCell ⟨e.b,2,none⟩ (.int .i64 (e.q.given+limit))).setCell ⟨e.b,4,none⟩ (.int .i64 (e.q.kids+1)))):=fun w1 hb=>by
  have s1:=h.grown hb;have hm:Q0G (w1.setCell ⟨q.t,1,none⟩ (.int .i64 (q.next+1))) q.m (kvs q.E):=(QT.map s1.sep).set _ _;refine⟨QT.c0 s1.sep,QT.c1 s1.sep,(s1.sep.cells (T:=150) (cs:=[.map (some q.m),.int .i64 q.next]) (by simp[QT.hl])).free 1,QT.len s1.sep,hm.alloc _,fun w4 Pg hg=>?_⟩;obtain⟨c1,c2,c3,st⟩:=QT.carve s1.sep ok hf limit w4 Pg hg;exact⟨c1,c2,c3,rfl,_,s1.trans st⟩
 have hw:IntKind.i64.wrap (q.next+1)=q.next+1:=Go.IntWalk.i64_in _ (by omega);have Ej:IntKind.i64.wrap (e.q.given+limit)=e.q.given+limit:=Go.IntWalk.i64_in _ (by omega);have FF:IntKind.i64.wrap (e.q.kids+1)=e.q.kids+1:=Go.IntWalk.i64_in _ (by have:=ok.next1;omega);have Vh:(((q.E.length:Nat):Int)==32)=false:=by simp;omega
 generalize hQ:Q9H w q id e limit=Q at *
 clear h hf ok hd hq hl hn hQ;unfold ptr at *
 generalize ((q.E.length:Nat):Int)=n32 at *
 go_enter func14,ntmps14;go_wp2_with (first|(go_at_call 66;refine k1.mono ?_;rintro e w'⟨rfl,rfl⟩)|(go_at_call 67;refine k2.mono ?_;rintro e w1⟨rfl,hb⟩;obtain⟨d0,d1,df,dl,hm,Bt⟩:=HN.out w1 hb;have HM:=Q0a hm;have HF:=Q0a Bt;clear hb hm Bt HN)|(refine Q1B _ rfl _ _ _ 148 3 140 rfl underlying148 underlying3 q.m (kvs q.E) HM.out q.next (.pointer (some ⟨w1.heap.size,0,none⟩)) rfl rfl rfl ?_;intro w4 DP BX;obtain⟨e2,e4,ef,Rf⟩:=HF.out w4 DP BX;have ef2:=ef 2;have ef4:=ef 4;have Mr:=Q0a Rf;clear DP BX ef Rf))
 (try go_ret2);exact Mr.out
theorem Inv.lok{P:PL}{l:List Pl}{fr:List Nat}{xc:Int->Int}{zs:List Nat}(v:Inv P l fr xc zs):LOk l:=⟨v.len,fun p hp=>⟨by have:=(v.st p hp).1;omega,(v.st p hp).2⟩⟩
theorem new3{w w1:World}{T:TypeId}{a b c:Value}(hb:Below (w.alloc (.cells #[a,b,c] T)).heap.size (w.alloc (.cells #[a,b,c] T)) w1):Below w.heap.size w w1/\w1.cell? ⟨w.heap.size,0,none⟩=some a/\w1.cell? ⟨w.heap.size,1,none⟩=some b/\w1.cell? ⟨w.heap.size,2,none⟩=some c/\(∀i,w1.frozen? ⟨w.heap.size,i,none⟩=false)/\w.heap.size<w1.heap.size:=by
 have hc:=(Cells.new w T [a,b,c]).same (hb.block w.heap.size (by simp));refine⟨((Below.refl _ _).alloc (J1E _) _).trans (hb.mono (by simp)),hc.cell 0 _ rfl,hc.cell 1 _ rfl,hc.cell 2 _ rfl,hc.free,?_⟩;have:=hb.size;simp at this;omega
theorem Q0b{w w1:World}{o:Obj}(hb:Below (w.alloc o).heap.size (w.alloc o) w1):Below w.heap.size w w1:=((Below.refl _ _).alloc (J1E _) _).trans (hb.mono (by simp))
theorem Z0O{w w1:World}(h:Below w.heap.size w w1)(a b c:Value)(o:Obj):Below w.heap.size w ((((w1.setCell ⟨w.heap.size,0,none⟩ a).setCell ⟨w.heap.size,1,none⟩ b).setCell ⟨w.heap.size,2,none⟩ c).alloc o):=
 (((h.setCell (J1E _) _).setCell (J1E _) _).setCell (J1E _) _).alloc (by have:=h.size;simpa[World.setCell] using this) _
theorem Z4E{w:World}{S:CO}(h:Sep w S.hl){x:Nat}{a b c e kind:Int}(hG:Calls prog 112 #[.pointer (some ⟨S.t,0,none⟩),.int .u32 x] (w.alloc (.cells #[.int .i64 0,.int .i64 0,.int .i64 0] 54)) (Told (w.alloc (.cells #[.int .i64 0,.int .i64 0,.int .i64 0] 54)) (.tuple #[.agg #[.int .i64 a,.int .i64 b,.int .i64 c],.int .i64 e])))
  (hc:e≠0∨kind=0∨a=kind):Calls prog 49 #[.pointer (some ⟨S.c,0,none⟩),.int .u32 x,.int .i64 kind] w (Told w (.tuple #[.agg #[.int .i64 a,.int .i64 b,.int .i64 c],.int .i64 e])):=by
 have c1:=CO.c1 (h.alloc (.cells #[.int .i64 0,.int .i64 0,.int .i64 0] 54));have AA:e≠0∨e=0/\kind=0∨e=0/\kind≠0/\a=kind:=by omega
 clear h hc;rcases AA with he|⟨rfl,rfl⟩|⟨rfl,hk,rfl⟩
 ·have Ar:(e==0)=false:=by simpa using he
  go_enter func49,ntmps49;go_wp2_with (go_at_call 112;refine hG.mono ?_;rintro r w1⟨rfl,hb⟩;obtain⟨hb,e0,e1,e2,ef,Aa⟩:=new3 hb;have HB:=Q0a hb;have f0:=ef 0;have f1:=ef 1;have f2:=ef 2;clear hb ef);refine bodyPost_ret (v:=.tuple #[.agg #[.int .i64 a,.int .i64 b,.int .i64 c],.int .i64 e]) (by simp[results,results49,go_sem,e0,e1,e2,Aa]) rfl ⟨rfl,Z0O HB.out _ _ _ _⟩
 ·go_enter func49,ntmps49;go_wp2_with (go_at_call 112;refine hG.mono ?_;rintro r w1⟨rfl,hb⟩;obtain⟨hb,e0,e1,e2,ef,Aa⟩:=new3 hb;have HB:=Q0a hb;have f0:=ef 0;have f1:=ef 1;have f2:=ef 2;clear hb ef);refine bodyPost_ret (v:=.tuple #[.agg #[.int .i64 a,.int .i64 b,.int .i64 c],.int .i64 0]) (by simp[results,results49,go_sem,e0,e1,e2,Aa]) rfl ⟨rfl,Z0O HB.out _ _ _ _⟩
 ·have Ar:(a==0)=false:=by simpa using hk
  go_enter func49,ntmps49;go_wp2_with (go_at_call 112;refine hG.mono ?_;rintro r w1⟨rfl,hb⟩;obtain⟨hb,e0,e1,e2,ef,Aa⟩:=new3 hb;have HB:=Q0a hb;have f0:=ef 0;have f1:=ef 1;have f2:=ef 2;clear hb ef);refine bodyPost_ret (v:=.tuple #[.agg #[.int .i64 a,.int .i64 b,.int .i64 c],.int .i64 0]) (by simp[results,results49,go_sem,e0,e1,e2,Aa]) rfl ⟨rfl,Z0O HB.out _ _ _ _⟩
theorem Z7o{w:World}{S:CO}(h:Sep w S.hl){x:Nat}{a b c kind:Int}(hG:Calls prog 112 #[.pointer (some ⟨S.t,0,none⟩),.int .u32 x] (w.alloc (.cells #[.int .i64 0,.int .i64 0,.int .i64 0] 54)) (Told (w.alloc (.cells #[.int .i64 0,.int .i64 0,.int .i64 0] 54)) (.tuple #[.agg #[.int .i64 a,.int .i64 b,.int .i64 c],.int .i64 0])))
  (hk:kind≠0) (ha:a≠kind):Calls prog 49 #[.pointer (some ⟨S.c,0,none⟩),.int .u32 x,.int .i64 kind] w (Told w (.tuple #[.agg #[.int .i64 0,.int .i64 0,.int .i64 0],.int .i64 10])):=by
 have c1:=CO.c1 (h.alloc (.cells #[.int .i64 0,.int .i64 0,.int .i64 0] 54));have Ar:(kind==0)=false:=by simpa using hk
 have Ae:(a==kind)=false:=by simpa using ha
 have An:(kind != 0)=true:=by simpa using hk
 have A2:(a != kind)=true:=by simpa using ha
 clear h hk ha;go_enter func49,ntmps49;go_wp2_with (go_at_call 112;refine hG.mono ?_;rintro r w1⟨rfl,hb⟩;obtain⟨hb,e0,e1,e2,ef,Aa⟩:=new3 hb;have HB:=Q0a hb;have f0:=ef 0;have f1:=ef 1;have f2:=ef 2;clear hb ef);refine bodyPost_ret (v:=.tuple #[.agg #[.int .i64 0,.int .i64 0,.int .i64 0],.int .i64 10]) (by simp[results,results49,go_sem,e0,e1,e2,Aa]) rfl ⟨rfl,Z0O HB.out _ _ _ _⟩
section
variable {w:World} {S:CO} {fr:List Nat} {N K:Nat}
theorem Q3b(h:Sep w S.hl)(ok:LOk S.l){x:Nat}(hx:x<4294967296)(kind:Int)(hp:pget S.l 1 x=none):Calls prog 49 #[.pointer (some ⟨S.c,0,none⟩),.int .u32 x,.int .i64 kind] w (Told w (.tuple #[zobj,.int .i64 8])):=
 Z4E h (Z4z (h:=S.ht) (CO.sT (h.alloc _)) ok hx hp) (.inl (by decide))
theorem Q2p(h:Sep w S.hl)(ok:LOk S.l){x:Nat}(hx:x<4294967296)(kind:Int){p:Pl}(hp:pget S.l 1 x=some p)(hk:kind=0∨(p.kind:Int)=kind):Calls prog 49 #[.pointer (some ⟨S.c,0,none⟩),.int .u32 x,.int .i64 kind] w (Told w (.tuple #[p.obj,.int .i64 0])):=
 Z4E h (Q8w (h:=S.ht) (CO.sT (h.alloc _)) ok hx hp) (.inr hk)
theorem Q2J(h:Sep w S.hl)(ok:LOk S.l){x:Nat}(hx:x<4294967296)(kind:Int){p:Pl}(hp:pget S.l 1 x=some p)(h0:kind≠0)(hk:(p.kind:Int)≠kind):Calls prog 49 #[.pointer (some ⟨S.c,0,none⟩),.int .u32 x,.int .i64 kind] w (Told w (.tuple #[zobj,.int .i64 10])):=
 Z7o h (Q8w (h:=S.ht) (CO.sT (h.alloc _)) ok hx hp) h0 hk
end
theorem CO.Ok.wordf{S:CO}{fr:List Nat}{N K:Nat}(ok:S.Ok fr N K){p:Pl}(hp:p∈S.l)(hi:p.is=true)(hk:p.kind=1):Q0m S.P.a.mem p.at_=p.own/\p.at_%8=0/\p.at_+8<=S.P.a.mem.length/\p.own<1048576:=by
 have hu:=ok.inv.mem.used hp hi (by omega);rw[hk] at hu;have h1:=Q0l ok.inv.mem.pool hu;have:Q0e 1=64:=rfl;refine⟨ok.inv.mem.word p hp hi hk,Q1V ok.inv.mem.pool hu,by omega,?_⟩;obtain⟨e,he⟩:=ok.inv.tre.acc hp hi hk;have h2:=ok.inv.mem.pool.q.fa _ e he;have h3:=ok.inv.mem.pool.q.next1;omega
theorem Z4F{w:World}{S:CO}(h:Sep w S.hl)(hb:∀b∈S.P.a.mem,b<256)(hm:S.P.a.mem.length<=1073741824){k a f x:Nat}(ha:a%8=0)(hl:a+8<=S.P.a.mem.length)(hx:Q0m S.P.a.mem a=x)(Gb:x<1048576) :
  Calls prog 203 #[.pointer (some ⟨S.c,0,none⟩),.agg #[.int .i64 k,.int .i64 a,.int .i64 f]] w (Told w (.int .i64 x)):=by
 have s1:=(h.alloc (.cells #[.int .i64 k,.int .i64 a,.int .i64 f] 54)).drew;have k1:=Q0v (CO.sP s1);have k2:=Q9A (PL.sA (CO.sP s1)) hb a ha hl hm;rw[hx] at k2;have c0:=CO.c0 (h.alloc (.cells #[.int .i64 k,.int .i64 a,.int .i64 f] 54));have d0:=CO.c0 s1;have e1:(w.alloc (.cells #[.int .i64 k,.int .i64 a,.int .i64 f] 54)).cell? ⟨w.heap.size,1,none⟩=some (.int .i64 a):=(Cells.new w 54 [.int .i64 k,.int .i64 a,.int .i64 f]).cell 1 _ rfl;have e2:(w.alloc (.cells #[.int .i64 k,.int .i64 a,.int .i64 f] 54)).drew.cell? ⟨w.heap.size,1,none⟩=some (.int .i64 a):=e1;have HB:Hid (Below w.heap.size w (w.alloc (.cells #[.int .i64 k,.int .i64 a,.int .i64 f] 54)).drew):=((Below.refl _ _).alloc (J1E _) _).drew
 have hw:IntKind.i64.wrap (x:Int)=(x:Int):=Go.IntWalk.i64_in _ (by omega);unfold ptr at *
 clear h hb hm ha hl hx s1;go_enter func203,ntmps203;go_wp2_with fail
 go_region_held3 (fun w'=>w'.cell? ⟨S.c,0,none⟩=some (.pointer (some ⟨S.P.p,0,none⟩))/\w'.cell? ⟨w.heap.size,1,none⟩=some (.int .i64 a)) (first|exact⟨c0,e1⟩|exact⟨d0,e2⟩)
  (first|(go_at_call 50;refine k1.mono ?_;rintro e w'⟨rfl,rfl⟩)|(go_at_call 58;refine k2.mono ?_;rintro e w'⟨rfl,rfl⟩))
 go_wp2_with fail
 (try go_ret);exact⟨rfl,HB.out⟩
theorem Z0P{w:World}{S:CO}{x:Nat}{e:Int}(he:e≠0)(hO:Calls prog 49 #[.pointer (some ⟨S.c,0,none⟩),.int .u32 x,.int .i64 1] w (Told w (.tuple #[.agg #[.int .i64 0,.int .i64 0,.int .i64 0],.int .i64 e]))) :
  Calls prog 150 #[.pointer (some ⟨S.c,0,none⟩),.int .u32 x] w (Told w (.tuple #[.int .i64 0,.int .i64 e])):=by
 have Ar:(e==0)=false:=by simpa using he
 go_enter func150,ntmps150;go_wp2_with (go_at_call 49;refine hO.mono ?_;rintro r w1⟨rfl,hb⟩;have HB:=Q0a hb;clear hb);have CX:Hid (∀o,Below w.heap.size w (w1.alloc o)):=fun o=>HB.out.alloc HB.out.size o
 go_ret2;exact⟨rfl,CX.out _⟩
theorem Q8y{w:World}{S:CO}{fr:List Nat}{N K:Nat}(h:Sep w S.hl)(ok:S.Ok fr N K){x:Nat}(hx:x<4294967296){p:Pl}(hp:pget S.l 1 x=some p)(hk:p.kind=1) :
  Calls prog 150 #[.pointer (some ⟨S.c,0,none⟩),.int .u32 x] w (Told w (.tuple #[.int .i64 (p.own:Int),.int .i64 0])):=by
 have hO:Calls prog 49 #[.pointer (some ⟨S.c,0,none⟩),.int .u32 x,.int .i64 1] w (Told w (.tuple #[.agg #[.int .i64 (p.kind:Int),.int .i64 (p.at_:Int),.int .i64 (p.fac:Int)],.int .i64 0])):=Q2p h ok.inv.lok hx 1 hp (.inr (by omega));obtain⟨w1_eq,w2,w3,w4⟩:=ok.wordf (Q1i hp) (Pl.is_iff.2 (.inl (pget_some.1 hp).2.2)) hk;have HW:Hid (∀w1,Below w.heap.size w w1->∀o,Calls prog 203 #[.pointer (some ⟨S.c,0,none⟩),.agg #[.int .i64 (p.kind:Int),.int .i64 (p.at_:Int),.int .i64 (p.fac:Int)]] (w1.alloc o) fun r w'=>r=.returned (.int .i64 (p.own:Int))/\Below w.heap.size w w'):=fun w1 hb o =>
  (Z4F (k:=p.kind) (a:=p.at_) (f:=p.fac) ((h.grown hb).sep.alloc o) ok.inv.mem.pool.bytes (Q0f ok.inv.mem.pool) w2 w3 w1_eq w4).mono fun r w' ⟨e,Aj⟩=>⟨e,(hb.alloc hb.size o).trans (Aj.mono (by have:=hb.size;simp;omega))⟩
 clear h ok hp w1_eq w2 w3 w4 hk;generalize p.own=po at *
 generalize p.kind=pk at *
 generalize p.at_=pa at *
 generalize p.fac=pf at *
 go_enter func150,ntmps150;go_wp2_with (first|(go_at_call 49;refine hO.mono ?_;rintro r w1⟨rfl,hb⟩;have HB:=Q0a hb;clear hb)|(go_at_call 203;refine(HW.out _ HB.out _).mono ?_;rintro r w2⟨rfl,hb⟩;have CX:=Q0a hb;clear hb));go_ret2;exact⟨rfl,CX.out⟩
theorem Q0S{w:World}{S:CO}(h:Sep w S.hl):Calls prog 27 #[.pointer (some ⟨S.c,0,none⟩)] w fun r w'=>r=.returned (.pointer (some ⟨S.P.p,0,none⟩))/\w=w':=by
 have c0:=CO.c0 h;clear h;go_enter func27,ntmps27
 go_wp2
 go_ret;exact⟨rfl,rfl⟩
theorem Q9J{w:World}{S:CO}{fr:List Nat}(h:Sep w S.hl)(ok:S.P.Ok fr){own:Nat}{e:En Fa}(hf:find S.P.q.E own=some e)(hq:(1024:Int)<=Q0u e) :
  Calls prog 68 #[ptr S.P.q.t,.int .i64 own,.int .i64 1024] w fun r w1=>r=.returned (.int .i64 0)/\w1.cell? ⟨S.c,0,none⟩=some (ptr S.P.p)/\w1.cell? ⟨S.P.p,1,none⟩=some (ptr S.P.d.b) /\
   Calls prog 129 #[ptr S.P.d.b,.int .i64 0] w1 fun r w2 =>
    (∃a:Nat,r=.returned (.tuple #[.int .i64 a,.int .i64 0])/\w2.cell? ⟨S.c,0,none⟩=some (ptr S.P.p) /\
     Calls prog 50 #[ptr S.P.p] w2 (fun r w'=>r=.returned (ptr S.P.a.a)/\w2=w') /\
     Calls prog 71 #[ptr S.P.a.a,.int .i64 a,.int .i64 1024,.int .u8 0] w2 fun r w3=>r=.returned (.int .i64 0)/\GetC S fr own 8 e w (at2 a 0) w3)
    ∨ (r=.returned (.tuple #[.int .i64 0,.int .i64 4])/\w2.cell? ⟨S.c,0,none⟩=some (ptr S.P.p)/\w2.cell? ⟨S.P.p,0,none⟩=some (ptr S.P.q.t) /\
     Calls prog 70 #[ptr S.P.q.t,.int .i64 own,.int .i64 1024] w2 fun r w3=>r=.returned (.int .i64 0)/\GetC S fr own 8 e w (at2 0 4) w3):=by
 obtain⟨f1,f2,f3,f4,f5,f6,f7,f8⟩:=ok.q.fa _ e hf;have Af:=ok.q.ids;have DM:(1024:Int)<=e.q.limit-(e.q.charged+e.q.given):=hq;refine(Q6F (PL.sQ (CO.sP h)) ok.q hf 1024 (by omega) DM).mono ?_;rintro r w1⟨rfl,st1⟩;have s1:Step S.hl (S.setP (S.P.setQ {S.P.q with E:=upd S.P.q.E own {e.q with charged:=e.q.charged+1024}})).hl w w1:=CO.stepP h _ rfl (PL.stepQ (CO.sP h) {S.P.q with E:=upd S.P.q.E own {e.q with charged:=e.q.charged+1024}} rfl st1);have ok1:=PL.ok_setQ ok (Q2F ok.q hf {e.q with charged:=e.q.charged+1024} ⟨by show 0<=e.q.charged+_;omega,f2,by show e.q.charged+_+e.q.given<=e.q.limit;omega,rfl,rfl⟩)
 have Ga:find (upd S.P.q.E own {e.q with charged:=e.q.charged+1024}) own=some {e with q:={e.q with charged:=e.q.charged+1024}}:=Q0n hf _;have k0:=CO.c0 s1.sep;have k1:=PL.c1 (CO.sP s1.sep);have k2:=PL.c0 (CO.sP s1.sep);refine⟨rfl,k0,k1,?_⟩;rcases Z4k S.P.d with hn|⟨kk,i0,t1,t2,t3⟩
 ·refine(Q6D (PL.sD (CO.sP s1.sep)) ok.d.is hn).mono ?_;rintro r w2⟨rfl,rfl⟩;right;refine⟨rfl,k0,k2,?_⟩;have KX:=Q2W (PL.sQ (CO.sP s1.sep)) ok1.q (id:=own) (e:={e with q:={e.q with charged:=e.q.charged+1024}}) Ga 1024 (by omega) (by show _<=e.q.charged+_;omega);refine Calls.mono KX ?_;rintro r w3⟨rfl,st3⟩;have eback:({S.P.q with E:=upd (upd S.P.q.E own {e.q with charged:=e.q.charged+1024}) own {e.q with charged:=e.q.charged+1024-1024}}:QT)=S.P.q:=by
   rw[upd_upd,J5d,Z3t Af hf]
  have st3':Step (S.P.setQ {S.P.q with E:=upd S.P.q.E own {e.q with charged:=e.q.charged+1024}}).q.hl ({S.P.q with E:=upd (upd S.P.q.E own {e.q with charged:=e.q.charged+1024}) own {e.q with charged:=e.q.charged+1024-1024}}:QT).hl w1 w3:=st3;rw[eback] at st3';have s3:=CO.stepP s1.sep S.P rfl (PL.stepQ (CO.sP s1.sep) S.P.q rfl st3');exact⟨rfl,.inr (.inl ⟨hq,fun p hp=>Q8s hn hp,rfl,s1.trans s3⟩)⟩
 ·refine(Q6E (PL.sD (CO.sP s1.sep)) ok.d kk i0 t1 t2 t3).mono ?_;rintro r w2⟨rfl,d,d1,d2,d3,d4,st2⟩;left;have s2:=CO.stepP s1.sep ((S.P.setQ {S.P.q with E:=upd S.P.q.E own {e.q with charged:=e.q.charged+1024}}).setD d) rfl (PL.stepD (CO.sP s1.sep) d d1 st2);have Ml:=Z4j ok hf DM d1 d2 d3 d4;have CV:=Q0f ok;have Np:1024*(i0*2 ^ kk)+1024<=S.P.a.mem.length:=Ml.room.1;have j0:=CO.c0 s2.sep;have j1:=Q0v (CO.sP s2.sep);refine⟨1024*(i0*2 ^ kk),rfl,j0,j1,?_⟩;refine Calls.mono (Z3Q (PL.sA (CO.sP s2.sep)) (1024*(i0*2 ^ kk)) 1024 0 (by omega) Np CV) ?_;rintro r w3⟨rfl,st3⟩;have s3:=CO.stepP s2.sep (((S.P.setQ {S.P.q with E:=upd S.P.q.E own {e.q with charged:=e.q.charged+1024}}).setD d).setA (put_ S.P.a.mem (1024*(i0*2 ^ kk)) (List.replicate 1024 0))) rfl (PL.stepA (CO.sP s2.sep) _ st3)
  exact⟨rfl,.inr (.inr ⟨_,_,_,hq,Ml,rfl,(s1.trans s2).trans s3⟩)⟩
theorem Z1X{w:World}{S:CO}{fr:List Nat}(h:Sep w S.hl)(ok:S.P.Ok fr){own:Nat}{e:En Fa}(hf:find S.P.q.E own=some e)(hq:Q0u e<1024) :
  Calls prog 68 #[ptr S.P.q.t,.int .i64 own,.int .i64 1024] w fun r w1=>r=.returned (.int .i64 5)/\GetC S fr own 8 e w (at2 0 5) w1:=by
 refine(Q3S (PL.sQ (CO.sP h)) ok.q hf 1024 (by omega) hq).mono ?_;rintro r w1⟨rfl,hb⟩;exact⟨rfl,.inl ⟨hq,rfl,h.grown hb⟩⟩
def FrF(S:CO)(bx a own:Nat)(w':World):Prop:=w'.cell? ⟨S.c,0,none⟩=some (.pointer (some ⟨S.P.p,0,none⟩))/\w'.cell? ⟨S.P.p,0,none⟩=some (.pointer (some ⟨S.P.q.t,0,none⟩))/\w'.cell? ⟨S.P.p,1,none⟩=some (.pointer (some ⟨S.P.d.b,0,none⟩))/\w'.cell? ⟨bx,1,none⟩=some (.int .i64 a)/\w'.cell? ⟨bx,2,none⟩=some (.int .i64 own)
theorem Step.box{w w0 w1:World}{H H':HL}(st:Step H H' w0 w1)(h:Sep w H)(h0:w.heap.size<w0.heap.size){i:Nat}{v:Value}(hv:w0.cell? ⟨w.heap.size,i,none⟩=some v):w1.cell? ⟨w.heap.size,i,none⟩=some v:=
 (World.cell?_of_block (w:=w0) (st.chg.block _ h0 (fun hk=>by have:w.heap.size<w.heap.size:=h.lt hk;omega))).trans hv
theorem FrF.base{w w0:World}{S:CO}(h0:Sep w0 S.hl){a own:Nat}(h1:w0.cell? ⟨w.heap.size,1,none⟩=some (.int .i64 a))(h2:w0.cell? ⟨w.heap.size,2,none⟩=some (.int .i64 own)):FrF S w.heap.size a own w0:=
 ⟨CO.c0 h0,PL.c0 (CO.sP h0),PL.c1 (CO.sP h0),h1,h2⟩
theorem FrF.step{w w0 w1:World}{S:CO}{P':PL}(h:Sep w S.hl)(hl:w.heap.size<w0.heap.size){a own:Nat}(f:FrF S w.heap.size a own w0)(st:Step S.hl (S.setP P').hl w0 w1)(hp:P'.p=S.P.p)(hq:P'.q.t=S.P.q.t)(hd:P'.d.b=S.P.d.b):FrF S w.heap.size a own w1:=by
 have c:=CO.c0 st.sep;have p0:=PL.c0 (CO.sP st.sep);have p1:=PL.c1 (CO.sP st.sep);have e:(S.setP P').P=P':=rfl;rw[e,hp] at c p0 p1;rw[hq] at p0;rw[hd] at p1;exact⟨c,p0,p1,st.box h hl f.2.2.2.1,st.box h hl f.2.2.2.2⟩
theorem Q7D{w w0:World}{S:CO}{fr:List Nat}(h:Sep w S.hl)(s0:Step S.hl S.hl w w0)(hl:w.heap.size<w0.heap.size)(ok:S.P.Ok fr){own a:Nat}{e:En Fa}(hp:Held S.P fr own 8 a e)(f:FrF S w.heap.size a own w0) :
  Calls prog 70 #[.pointer (some ⟨S.P.q.t,0,none⟩),.int .i64 own,.int .i64 1024] w0 fun r w1=>r=.returned (.int .i64 0)/\FrF S w.heap.size a own w1 /\
   Calls prog 145 #[.pointer (some ⟨S.P.d.b,0,none⟩),.int .i64 a] w1.drew fun r w2=>r=.returned (.int .i64 0)/\FrF S w.heap.size a own w2/\PutC S fr own 8 a w (.returned (.tuple #[])) w2:=by
 obtain⟨hf,hq,_,hg⟩:=hp;obtain⟨g,K5,rfl⟩:=hg rfl;obtain⟨f1,f2,f3,f4,f5,f6,f7,f8⟩:=ok.q.fa _ e hf;have DM:(1024:Int)<=e.q.charged:=hq;refine Calls.mono (Q2W (PL.sQ (CO.sP s0.sep)) ok.q hf 1024 (by omega) DM) ?_;rintro r w1⟨rfl,st1⟩;have s1:Step S.hl (S.setP (S.P.setQ {S.P.q with E:=upd S.P.q.E own {e.q with charged:=e.q.charged-1024}})).hl w0 w1:=CO.stepP s0.sep _ rfl (PL.stepQ (CO.sP s0.sep) {S.P.q with E:=upd S.P.q.E own {e.q with charged:=e.q.charged-1024}} rfl st1);have LX:g∈S.P.d.ps:=ok.pages.mem_iff.1 (J2s _ K5);have f1:=f.step h hl s1 rfl rfl rfl;refine⟨rfl,f1,?_⟩;have hx:((1024*g:Nat):Int)=1024*(g:Int):=by omega
 rw[hx];refine Calls.mono (Z0E (PL.sD (CO.sP s1.drew.sep)) ok.d g LX) ?_;rintro r w2⟨rfl,d,d1,d2,d3,d4,st2⟩;have s2:=s1.drew.trans (CO.stepP s1.drew.sep ((S.P.setQ {S.P.q with E:=upd S.P.q.E own {e.q with charged:=e.q.charged-1024}}).setD d) rfl (PL.stepD (CO.sP s1.drew.sep) d d1 st2));have f2:=f.step h hl (P':=(S.P.setQ {S.P.q with E:=upd S.P.q.E own {e.q with charged:=e.q.charged-1024}}).setD d) s2 rfl rfl d1;exact⟨rfl,f2,rfl,_,_,Z1M ok hf DM K5 d1 d2 d3 d4,s0.trans s2⟩
theorem Q4x{w w1:World}{S:CO}{P1:PL}(s1:Step S.hl (S.setP P1).hl w w1){a x:Nat}(ha:a%8=0)(hl:a+8<=P1.a.mem.length)(hm:P1.a.mem.length<=1073741824)(hx:x<1048576)(w2:World)(hb:Below w1.heap.size w1 w2) :
  w2.cell? ⟨S.c,0,none⟩=some (ptr P1.p)/\w2.cell? ⟨P1.p,0,none⟩=some (ptr P1.q.t)/\Calls prog 50 #[ptr P1.p] w2 (fun r w'=>r=.returned (ptr P1.a.a)/\w2=w') /\
   ∀g,w2.cell? ⟨g,0,none⟩=some (.int .u64 x)->w1.heap.size<=g->g<w2.heap.size ->
    Calls prog 57 #[ptr P1.a.a,.int .i64 a,.slice (some ⟨g,0,none⟩) 1 1] w2 fun r w3=>r=.returned (.int .i64 0)/\(w3.cell? ⟨S.c,0,none⟩=some (ptr P1.p)/\∀b,b∉keys P1.a.hl->b<w2.heap.size->w3.heap[b]?=w2.heap[b]?)/\Step S.hl (S.setP (P1.setA (put_ P1.a.mem a (Q0c x)))).hl w w3:=by
 have s2:=s1.trans (s1.sep.grown hb);refine⟨CO.c0 s2.sep,PL.c0 (CO.sP s2.sep),Q0v (CO.sP s2.sep),fun g hg BX Bw=>?_⟩;have hk:g∉keys P1.a.hl:=fun hk=>by
  have:=(PL.sA (CO.sP s1.sep)).lt hk;omega
 refine Calls.mono (Z0I (PL.sA (CO.sP s2.sep)) a x ha hl hm (by omega) g hg Bw hk) ?_;rintro r w3⟨rfl,st⟩;have s3:=CO.stepP s2.sep (P1.setA (put_ P1.a.mem a (Q0c x))) rfl (PL.stepA (CO.sP s2.sep) _ st);exact⟨rfl,⟨CO.c0 s3.sep,fun b hb hl=>st.chg.block b hl hb⟩,s2.trans s3⟩
theorem Q9K{w w0:World}{S:CO}{fr:List Nat}(h:Sep w S.hl)(Bq:Below w.heap.size w w0)(ok:S.P.Ok fr)(AI:∃i p,Fst S.l i p){own a:Nat}{e:En Fa}(hf:find S.P.q.E own=some e){lim:Int}(h0:0<=lim)(Da:S.P.q.next+1<1048576)(ha:a%8=0)(hl:a+8<=S.P.a.mem.length) :
  Calls prog 14 #[ptr S.P.q.t,.int .i64 own,.int .i64 lim] w0 fun r w1=>∃(x:Nat) (er:Int),r=.returned (.tuple #[.int .i64 x,.int .i64 er])/\x<1048576/\w0.heap.size<=w1.heap.size/\(∀b,w.heap.size<=b->b<w0.heap.size->w1.heap[b]?=w0.heap[b]?) /\
   ∀w2,Below w1.heap.size w1 w2->w2.cell? ⟨S.c,0,none⟩=some (ptr S.P.p)/\w2.cell? ⟨S.P.p,0,none⟩=some (ptr S.P.q.t)/\Calls prog 50 #[ptr S.P.p] w2 (fun r w'=>r=.returned (ptr S.P.a.a)/\w2=w') /\
    ∀g,w2.cell? ⟨g,0,none⟩=some (.int .u64 x)->w1.heap.size<=g->g<w2.heap.size ->
     Calls prog 57 #[ptr S.P.a.a,.int .i64 a,.slice (some ⟨g,0,none⟩) 1 1] w2 fun r w3=>r=.returned (.int .i64 0)/\(w3.cell? ⟨S.c,0,none⟩=some (ptr S.P.p)/\∀b,w.heap.size<=b->b<w2.heap.size->w3.heap[b]?=w2.heap[b]?)/\Q2I S own 1 a lim e w (one er) w3:=by
 have s0:=h.grown Bq;have CV:=Q0f ok;have E6:=ok.q.next0;have OE:∀b,w.heap.size<=b->b∉keys S.P.a.hl:=fun b hb hk=>by
  have:=(PL.sA (CO.sP h)).lt hk;omega
 have told:∀w1,Below w0.heap.size w0 w1->w0.heap.size<=w1.heap.size/\(∀b,w.heap.size<=b->b<w0.heap.size->w1.heap[b]?=w0.heap[b]?)/\Step S.hl (S.setP S.P).hl w w1:=fun w1 hb=>⟨hb.size,fun b _ h2=>hb.block b h2,s0.trans (s0.sep.grown hb)⟩
 by_cases hq:lim<=Q0u e
 ·by_cases Qv:S.P.q.E.length=32
  ·refine(Q9I (PL.sQ (CO.sP s0.sep)) ok.q hf lim h0 hq Qv).mono ?_;rintro r w1⟨rfl,hb⟩;obtain⟨t1,t2,t3⟩:=told w1 hb;refine⟨0,11,rfl,by omega,t1,t2,fun w2 Ae=>?_⟩;obtain⟨a1,a0,a2,a3⟩:=Q4x t3 (x:=0) ha hl CV (by omega) w2 Ae;refine⟨a1,a0,a2,fun g g1 g2 g3=>(a3 g g1 g2 g3).mono ?_⟩;rintro r w3⟨rfl,kk,st⟩;exact⟨rfl,⟨kk.1,fun b h1 h2=>kk.2 b (OE b h1) h2⟩,.inr (.inr (.inl ⟨AI,rfl,⟨11,.inr ⟨rfl,Qv⟩,rfl⟩,st⟩))⟩
  ·refine(Z4D (PL.sQ (CO.sP s0.sep)) ok.q hf lim h0 hq Qv Da).mono ?_;rintro r w1⟨rfl,b,st⟩;have s1:=s0.trans (CO.stepP s0.sep (S.P.setQ (Q3x S.P.q own e b lim)) rfl (PL.stepQ (CO.sP s0.sep) _ rfl st));have hx:((S.P.q.next.toNat:Nat):Int)=S.P.q.next:=by omega
   refine⟨S.P.q.next.toNat,0,by rw[hx],by omega,st.chg.size,fun b' h1 h2=>st.chg.block b' h2 (fun hk=>?_),fun w2 Ae=>?_⟩
   ·have:=(PL.sQ (CO.sP h)).lt hk;omega
   ·obtain⟨a1,a0,a2,a3⟩:=Q4x s1 (x:=S.P.q.next.toNat) ha hl CV (by omega) w2 Ae;refine⟨a1,a0,a2,fun g g1 g2 g3=>(a3 g g1 g2 g3).mono ?_⟩;rintro r w3⟨rfl,kk,st⟩;exact⟨rfl,⟨kk.1,fun b h1 h2=>kk.2 b (OE b h1) h2⟩,.inr (.inr (.inr ⟨AI,rfl,hq,rfl,b,st⟩))⟩
 ·refine(Q8x (PL.sQ (CO.sP s0.sep)) ok.q hf lim h0 (by unfold Q0u at hq;omega)).mono ?_;rintro r w1⟨rfl,hb⟩;obtain⟨t1,t2,t3⟩:=told w1 hb;refine⟨0,5,rfl,by omega,t1,t2,fun w2 Ae=>?_⟩;obtain⟨a1,a0,a2,a3⟩:=Q4x t3 (x:=0) ha hl CV (by omega) w2 Ae;refine⟨a1,a0,a2,fun g g1 g2 g3=>(a3 g g1 g2 g3).mono ?_⟩;rintro r w3⟨rfl,kk,st⟩;exact⟨rfl,⟨kk.1,fun b h1 h2=>kk.2 b (OE b h1) h2⟩,.inr (.inr (.inl ⟨AI,rfl,⟨5,.inl ⟨rfl,by omega⟩,rfl⟩,st⟩))⟩
theorem GetC.tup{S:CO}{fr:List Nat}{own n:Nat}{e:En Fa}{w w':World}{r:Ending}(h:GetC S fr own n e w r w'):∃a er:Int,r=.returned (.tuple #[.int .i64 a,.int .i64 er])/\GetC S fr own n e w (.returned (.tuple #[.int .i64 a,.int .i64 er])) w':=by
 have k:∃a er:Int,r=.returned (.tuple #[.int .i64 a,.int .i64 er]):=by
  rcases h with ⟨_,rfl,_⟩|⟨_,_,rfl,_⟩|⟨a,_,_,_,_,rfl,_⟩
  ·exact⟨_,_,rfl⟩
  ·exact⟨_,_,rfl⟩
  ·exact⟨_,_,rfl⟩
 obtain⟨a,er,rfl⟩:=k;exact⟨a,er,rfl,h⟩
theorem Z1Y{w:World}{S:CO}{fr:List Nat}(h:Sep w S.hl)(ok:S.P.Ok fr){own n:Nat}{e:En Fa}(hf:find S.P.q.E own=some e)(h1:1<=n)(h7:n<=7) :
  Calls prog 152 #[.pointer (some ⟨S.c,0,none⟩),.int .i64 own,.int .i64 n] w (GetC S fr own n e w):=by
 have hg:=(Q5c (CO.sP h) ok (own:Int) (n:Int)).mono fun r w' hr=>(Z9R h ok hf h1 h7 hr).tup
 have c0:=CO.c0 h;have Ar:(((n:Nat):Int) != 8)=true:=by simp;omega
 have Ae:(((n:Nat):Int)==8)=false:=by simp;omega
 generalize GetC S fr own n e w=Q at *
 clear h ok hf h1 h7;go_enter func152,ntmps152;go_wp2_with fail;refine hg.mono ?_;rintro r w1⟨a,er,rfl,hx⟩;have HX:=Q0a hx;clear hx;go_wp2_with fail
 (try go_ret2);exact HX.out
theorem Z1Z{w:World}{S:CO}{fr:List Nat}(h:Sep w S.hl)(ok:S.P.Ok fr){own:Nat}{e:En Fa}(hf:find S.P.q.E own=some e) :
  Calls prog 152 #[.pointer (some ⟨S.c,0,none⟩),.int .i64 own,.int .i64 8] w (GetC S fr own 8 e w):=by
 have c0:=CO.c0 h;have p0:=PL.c0 (CO.sP h);by_cases hq:Q0u e<1024
 ·have hc:=Z1X h ok hf hq;unfold ptr at *
  unfold at2 at hc;generalize GetC S fr own 8 e w=Q at *
  clear h ok hf hq;go_enter func152,ntmps152;go_wp2_with fail;refine hc.mono ?_;rintro r w1⟨rfl,hx⟩;have HX:=Q0a hx;clear hx;go_wp2_with fail
  (try go_ret2);exact HX.out
 ·have hc:=Q9J h ok hf (by omega);unfold ptr at *
  unfold at2 at hc;generalize GetC S fr own 8 e w=Q at *
  clear h ok hf hq;go_enter func152,ntmps152;go_wp2_with fail;refine hc.mono ?_;rintro r w1⟨rfl,e0,e1,hx⟩;have HX:=Q0a hx;clear hx c0 p0 hc;go_wp2_with fail;refine HX.out.mono ?_;rintro r w2 (⟨a,rfl,e0,hA,hx⟩|⟨rfl,e0,e1,hx⟩)
  ·have HY:=Q0a hx;clear hx HX;go_wp2_with fail;refine hA.mono ?_;rintro r w3⟨rfl,rfl⟩;clear hA;go_wp2_with fail;refine HY.out.mono ?_;rintro r w3⟨rfl,hx⟩;have HZ:=Q0a hx;clear hx HY;go_wp2_with fail
   (try go_ret2);exact HZ.out
  ·have HY:=Q0a hx;clear hx HX;go_wp2_with fail;refine HY.out.mono ?_;rintro r w3⟨rfl,hx⟩;have HZ:=Q0a hx;clear hx HY;go_wp2_with fail
   (try go_ret2);exact HZ.out
theorem Z7p{w:World}{S:CO}{fr:List Nat}(h:Sep w S.hl)(ok:S.P.Ok fr){own n:Nat}{e:En Fa}(hf:find S.P.q.E own=some e)(hn:n=8∨1<=n/\n<=7) :
  Calls prog 152 #[.pointer (some ⟨S.c,0,none⟩),.int .i64 own,.int .i64 n] w (GetC S fr own n e w):=by
 rcases hn with rfl|⟨h1,h7⟩
 ·exact Z1Z h ok hf
 ·exact Z1Y h ok hf h1 h7
theorem Z4G{w:World}{S:CO}{fr:List Nat}(h:Sep w S.hl)(ok:S.P.Ok fr){own n a:Nat}{e:En Fa}(hp:Held S.P fr own n a e)(hn:n≠8) :
  Calls prog 154 #[.pointer (some ⟨S.c,0,none⟩),.agg #[.int .i64 n,.int .i64 a,.int .i64 own]] w (PutC S fr own n a w):=by
 have hu:=hp.at' hn;obtain⟨g1,g2,g3,g4⟩:=Q0l ok hu;obtain⟨c,hc⟩:=PL.cls ok g3 g4;have hm:=Q0f ok;have s1:=(h.alloc (.cells #[.int .i64 n,.int .i64 a,.int .i64 own] 54)).drew;have G7:=hp.paid;rw[Q1j hn] at G7;have hB:=Cells.new w 54 [.int .i64 n,.int .i64 a,.int .i64 own];have Bv:Calls prog 21 #[.pointer (some ⟨S.P.p,0,none⟩),.int .i64 own,.int .i64 n,.int .i64 a] (w.alloc (.cells #[.int .i64 n,.int .i64 a,.int .i64 own] 54)).drew fun r w1=>r=.returned (.int .i64 0)/\w1.cell? ⟨S.c,0,none⟩=some (.pointer (some ⟨S.P.p,0,none⟩))/\w1.cell? ⟨w.heap.size,0,none⟩=some (.int .i64 n)/\w1.cell? ⟨w.heap.size,1,none⟩=some (.int .i64 a)/\w1.cell? ⟨w.heap.size,2,none⟩=some (.int .i64 own)/\PutC S fr own n a w (.returned (.tuple #[])) w1:=by
  refine(Q3T (CO.sP s1) ok (own:Int) hp.acc n G7 c hc a (by rw[<- Q0N hc];exact hu) (by omega)).mono ?_;intro r w1 hr;obtain⟨P',fr',b,st⟩:=Z9S s1 ok hr;have NC:=CO.c0 st.sep;rw[show(S.setP P').P.p=S.P.p from b.same.p] at NC;exact⟨hr.1,NC,st.box h (by simp) (hB.cell 0 _ rfl),st.box h (by simp) (hB.cell 1 _ rfl),st.box h (by simp) (hB.cell 2 _ rfl),rfl,P',fr',b,st.from_drew.from_alloc⟩
 have c0:=CO.c0 (h.alloc (.cells #[.int .i64 n,.int .i64 a,.int .i64 own] 54));have d0:=CO.c0 s1;have e0:=hB.cell 0 _ rfl;have e1:=hB.cell 1 _ rfl;have e2:=hB.cell 2 _ rfl;have f0:(w.alloc (.cells #[.int .i64 n,.int .i64 a,.int .i64 own] 54)).drew.cell? ⟨w.heap.size,0,none⟩=some (.int .i64 n):=e0;have f1:(w.alloc (.cells #[.int .i64 n,.int .i64 a,.int .i64 own] 54)).drew.cell? ⟨w.heap.size,1,none⟩=some (.int .i64 a):=e1;have f2:(w.alloc (.cells #[.int .i64 n,.int .i64 a,.int .i64 own] 54)).drew.cell? ⟨w.heap.size,2,none⟩=some (.int .i64 own):=e2;have Ar:(((n:Nat):Int) != 8)=true:=by simp;omega
 have Ae:(((n:Nat):Int)==8)=false:=by simp;omega
 generalize PutC S fr own n a w=Q at *
 clear h ok hp hu g1 g2 g3 g4 hc hm s1 G7 hB hn;go_enter func154,ntmps154;go_wp2_with fail
 go_region_held3 (fun w'=>w'.cell? ⟨S.c,0,none⟩=some (.pointer (some ⟨S.P.p,0,none⟩))/\w'.cell? ⟨w.heap.size,0,none⟩=some (.int .i64 n)/\w'.cell? ⟨w.heap.size,1,none⟩=some (.int .i64 a)/\w'.cell? ⟨w.heap.size,2,none⟩=some (.int .i64 own)) (first|exact⟨c0,e0,e1,e2⟩|exact⟨d0,f0,f1,f2⟩|exact⟨t0,t1,t2,t3⟩)
  (first|(go_at_call 21;refine Bv.mono ?_;rintro r w1⟨rfl,t0,t1,t2,t3,hx⟩;have HX:=Q0a hx;clear hx))
 go_wp2_with fail
 first|exact HX.out|((try simp only[Exit.inBlock,Exit.then]);refine bodyPost_ret (results_none rfl _ _ _) rfl ?_;exact HX.out)
theorem Z2a{w:World}{S:CO}{fr:List Nat}(h:Sep w S.hl)(ok:S.P.Ok fr){own a:Nat}{e:En Fa}(hp:Held S.P fr own 8 a e) :
  Calls prog 154 #[.pointer (some ⟨S.c,0,none⟩),.agg #[.int .i64 8,.int .i64 a,.int .i64 own]] w (PutC S fr own 8 a w):=by
 have s0:=(h.alloc (.cells #[.int .i64 8,.int .i64 a,.int .i64 own] 54))
 have hB:=Cells.new w 54 [.int .i64 8,.int .i64 a,.int .i64 own];have e0:=hB.cell 0 _ rfl;have F0:FrF S w.heap.size a own (w.alloc (.cells #[.int .i64 8,.int .i64 a,.int .i64 own] 54)):=FrF.base s0 (hB.cell 1 _ rfl) (hB.cell 2 _ rfl);have Cw:=Q7D (w0:=(w.alloc (.cells #[.int .i64 8,.int .i64 a,.int .i64 own] 54)).drew) h (h.grown (((Below.refl _ _).alloc (J1E _) _).drew)) (by simp[World.drew]) ok hp F0;obtain⟨c0,c1,c2,c3,c4⟩:=F0;have Jg:Hid (∀(v:World) b i x,v.cell? ⟨b,i,none⟩=some x->v.drew.cell? ⟨b,i,none⟩=some x):=fun v b i x hv=>hv
 have d0:=Jg.out _ _ _ _ c0;have d1:=Jg.out _ _ _ _ c1;have d2:=Jg.out _ _ _ _ c2;have d3:=Jg.out _ _ _ _ c3;have d4:=Jg.out _ _ _ _ c4;generalize PutC S fr own 8 a w=Q at *
 unfold FrF at Cw;clear h ok hp s0 hB;go_enter func154,ntmps154;go_wp2_with fail
 go_region_held3 (fun w'=>w'.cell? ⟨S.c,0,none⟩=some (.pointer (some ⟨S.P.p,0,none⟩))/\w'.cell? ⟨S.P.p,0,none⟩=some (.pointer (some ⟨S.P.q.t,0,none⟩))/\w'.cell? ⟨w.heap.size,2,none⟩=some (.int .i64 own)) (first|exact⟨c0,c1,c4⟩|exact⟨d0,d1,d4⟩|exact⟨t0,t1,t4⟩)
  (first|(go_at_call 70;refine Cw.mono ?_;rintro r w1⟨rfl,⟨t0,t1,t2,t3,t4⟩,hx⟩;have HX:=Q0a hx;clear hx))
 have x0:=Jg.out _ _ _ _ t0;have x2:=Jg.out _ _ _ _ t2;have x3:=Jg.out _ _ _ _ t3;clear c0 c1 c2 c3 c4 d0 d1 d2 d3 d4 Cw;go_wp2_with fail
 go_region_held3 (fun w'=>w'.cell? ⟨S.c,0,none⟩=some (.pointer (some ⟨S.P.p,0,none⟩))/\w'.cell? ⟨S.P.p,1,none⟩=some (.pointer (some ⟨S.P.d.b,0,none⟩))/\w'.cell? ⟨w.heap.size,1,none⟩=some (.int .i64 a)) (first|exact⟨t0,t2,t3⟩|exact⟨x0,x2,x3⟩|exact⟨y0,y2,y3⟩)
  (first|(go_at_call 145;refine HX.out.mono ?_;rintro r w2⟨rfl,⟨y0,y1,y2,y3,y4⟩,hx⟩;have HY:=Q0a hx;clear hx))
 go_wp2_with fail
 first|exact HY.out|((try simp only[Exit.inBlock,Exit.then]);refine bodyPost_ret (results_none rfl _ _ _) rfl ?_;exact HY.out)
theorem Z7q{w:World}{S:CO}{fr:List Nat}(h:Sep w S.hl)(ok:S.P.Ok fr){own n a:Nat}{e:En Fa}(hp:Held S.P fr own n a e) :
  Calls prog 154 #[.pointer (some ⟨S.c,0,none⟩),.agg #[.int .i64 n,.int .i64 a,.int .i64 own]] w (PutC S fr own n a w):=by
 by_cases hn:n=8
 ·subst hn;exact Z2a h ok hp
 ·exact Z4G h ok hp hn
theorem Z0Q(w:World)(k:Int):Calls prog 151 #[.int .i64 k] w fun r w'=>r=.returned (.bool (decide (k=8∨1<=k/\k<=5)))/\w=w':=by
 by_cases h8:k=8
 ·subst h8;go_enter func151,ntmps151;go_wp2_with fail
  (try go_ret);exact⟨rfl,rfl⟩
 ·have hb:(k==8)=false:=by simpa using h8
  by_cases h1:1<=k
  ·by_cases h5:k<=5
   ·have hd:decide (k=8∨1<=k/\k<=5)=true:=by rw[decide_eq_true_eq];omega
    rw[hd];clear hd;go_enter func151,ntmps151;go_wp2_with fail
    (try go_ret);exact⟨rfl,rfl⟩
   ·have hd:decide (k=8∨1<=k/\k<=5)=false:=by rw[decide_eq_false_iff_not];omega
    rw[hd];clear hd;have V6:5<k:=by omega
    go_enter func151,ntmps151;go_wp2_with fail
    (try go_ret);exact⟨rfl,rfl⟩
  ·have hd:decide (k=8∨1<=k/\k<=5)=false:=by rw[decide_eq_false_iff_not];omega
   rw[hd];clear hd;have O3:k<1:=by omega
   go_enter func151,ntmps151;go_wp2_with fail
   (try go_ret);exact⟨rfl,rfl⟩
end Go.Proofs.YtfidemmgofcnmaaGreatDoor
