/- SpaceFails returns true at every input. No condition. Part of its proof. -/
import Derived.Test.YtfidemmgofcnmaaGreatDoorSf22
set_option maxHeartbeats 8000000
set_option maxRecDepth 100000
set_option linter.unusedVariables false
namespace Go.Proofs.YtfidemmgofcnmaaGreatDoor
open Go.RowKit Go.Proofs.Tryz
theorem Z1b{w:World}{S:CO}{fr:List Nat}(h:Sep w S.hl)(ok:S.P.Ok fr){own:Nat}{e:En Fa}(hf:find S.P.q.E own=some e)(hq:(1024:Int)<=Q0v e) :
  Calls prog 68 #[ptr S.P.q.t,.int .i64 own,.int .i64 1024] w fun r w1=>r=.returned (.int .i64 0)/\w1.cell? ⟨S.c,0,none⟩=some (ptr S.P.p)/\w1.cell? ⟨S.P.p,1,none⟩=some (ptr S.P.d.b) /\
   Calls prog 129 #[ptr S.P.d.b,.int .i64 0] w1 fun r w2 =>
    (∃a:Nat,r=.returned (.tuple #[.int .i64 a,.int .i64 0])/\w2.cell? ⟨S.c,0,none⟩=some (ptr S.P.p) /\
     Calls prog 50 #[ptr S.P.p] w2 (fun r w'=>r=.returned (ptr S.P.a.a)/\w2=w') /\
     Calls prog 71 #[ptr S.P.a.a,.int .i64 a,.int .i64 1024,.int .u8 0] w2 fun r w3=>r=.returned (.int .i64 0)/\GetC S fr own 8 e w (at2 a 0) w3)
    ∨ (r=.returned (.tuple #[.int .i64 0,.int .i64 4])/\w2.cell? ⟨S.c,0,none⟩=some (ptr S.P.p)/\w2.cell? ⟨S.P.p,0,none⟩=some (ptr S.P.q.t) /\
     Calls prog 70 #[ptr S.P.q.t,.int .i64 own,.int .i64 1024] w2 fun r w3=>r=.returned (.int .i64 0)/\GetC S fr own 8 e w (at2 0 4) w3):=by
 obtain⟨f1,f2,f3,f4,f5,f6,f7,f8⟩:=ok.q.fa _ e hf;have Ae:=ok.q.ids;have CV:(1024:Int)<=e.q.limit-(e.q.charged+e.q.given):=hq;refine(Q7q (PL.sQ (CO.sP h)) ok.q hf 1024 (by omega) CV).mono ?_;rintro r w1⟨rfl,st1⟩;have s1:Step S.hl (S.setP (S.P.setQ {S.P.q with E:=upd S.P.q.E own {e.q with charged:=e.q.charged+1024}})).hl w w1:=CO.stepP h _ rfl (PL.stepQ (CO.sP h) {S.P.q with E:=upd S.P.q.E own {e.q with charged:=e.q.charged+1024}} rfl st1);have ok1:=PL.ok_setQ ok (Q3m ok.q hf {e.q with charged:=e.q.charged+1024} ⟨by show 0<=e.q.charged+_;omega,f2,by show e.q.charged+_+e.q.given<=e.q.limit;omega,rfl,rfl⟩)
 have FR:find (upd S.P.q.E own {e.q with charged:=e.q.charged+1024}) own=some {e with q:={e.q with charged:=e.q.charged+1024}}:=Q0h hf _;have k0:=CO.c0 s1.sep;have k1:=PL.c1 (CO.sP s1.sep);have k2:=PL.c0 (CO.sP s1.sep);refine⟨rfl,k0,k1,?_⟩;rcases Z5H S.P.d with hn|⟨kk,i0,t1,t2,t3⟩
 ·refine(Q7o (PL.sD (CO.sP s1.sep)) ok.d.is hn).mono ?_;rintro r w2⟨rfl,rfl⟩;right;refine⟨rfl,k0,k2,?_⟩;have Ll:=Q3F (PL.sQ (CO.sP s1.sep)) ok1.q (id:=own) (e:={e with q:={e.q with charged:=e.q.charged+1024}}) FR 1024 (by omega) (by show _<=e.q.charged+_;omega);refine Calls.mono Ll ?_;rintro r w3⟨rfl,st3⟩;have eback:({S.P.q with E:=upd (upd S.P.q.E own {e.q with charged:=e.q.charged+1024}) own {e.q with charged:=e.q.charged+1024-1024}}:QT)=S.P.q:=by
   rw[upd_upd,J6L,Z4P Ae hf]
  have st3':Step (S.P.setQ {S.P.q with E:=upd S.P.q.E own {e.q with charged:=e.q.charged+1024}}).q.hl ({S.P.q with E:=upd (upd S.P.q.E own {e.q with charged:=e.q.charged+1024}) own {e.q with charged:=e.q.charged+1024-1024}}:QT).hl w1 w3:=st3;rw[eback] at st3';have s3:=CO.stepP s1.sep S.P rfl (PL.stepQ (CO.sP s1.sep) S.P.q rfl st3');exact⟨rfl,.inr (.inl ⟨hq,fun p hp=>Q8Z hn hp,rfl,s1.trans s3⟩)⟩
 ·refine(Q7p (PL.sD (CO.sP s1.sep)) ok.d kk i0 t1 t2 t3).mono ?_;rintro r w2⟨rfl,d,d1,d2,d3,d4,st2⟩;left;have s2:=CO.stepP s1.sep ((S.P.setQ {S.P.q with E:=upd S.P.q.E own {e.q with charged:=e.q.charged+1024}}).setD d) rfl (PL.stepD (CO.sP s1.sep) d d1 st2);have LT:=Z5G ok hf CV d1 d2 d3 d4;have Gv:=Q0o ok;have N4:1024*(i0*2 ^ kk)+1024<=S.P.a.mem.length:=LT.room.1;have j0:=CO.c0 s2.sep;have j1:=Q1h (CO.sP s2.sep);refine⟨1024*(i0*2 ^ kk),rfl,j0,j1,?_⟩;refine Calls.mono (Z5p (PL.sA (CO.sP s2.sep)) (1024*(i0*2 ^ kk)) 1024 0 (by omega) N4 Gv) ?_;rintro r w3⟨rfl,st3⟩;have s3:=CO.stepP s2.sep (((S.P.setQ {S.P.q with E:=upd S.P.q.E own {e.q with charged:=e.q.charged+1024}}).setD d).setA (put_ S.P.a.mem (1024*(i0*2 ^ kk)) (List.replicate 1024 0))) rfl (PL.stepA (CO.sP s2.sep) _ st3)
  exact⟨rfl,.inr (.inr ⟨_,_,_,hq,LT,rfl,(s1.trans s2).trans s3⟩)⟩
theorem Z3P{w:World}{S:CO}{fr:List Nat}(h:Sep w S.hl)(ok:S.P.Ok fr){own:Nat}{e:En Fa}(hf:find S.P.q.E own=some e)(hq:Q0v e<1024) :
  Calls prog 68 #[ptr S.P.q.t,.int .i64 own,.int .i64 1024] w fun r w1=>r=.returned (.int .i64 5)/\GetC S fr own 8 e w (at2 0 5) w1:=by
 refine(Q4y (PL.sQ (CO.sP h)) ok.q hf 1024 (by omega) hq).mono ?_;rintro r w1⟨rfl,hb⟩;exact⟨rfl,.inl ⟨hq,rfl,h.grown hb⟩⟩
def FrF(S:CO)(bx a own:Nat)(w':World):Prop:=w'.cell? ⟨S.c,0,none⟩=some (.pointer (some ⟨S.P.p,0,none⟩))/\w'.cell? ⟨S.P.p,0,none⟩=some (.pointer (some ⟨S.P.q.t,0,none⟩))/\w'.cell? ⟨S.P.p,1,none⟩=some (.pointer (some ⟨S.P.d.b,0,none⟩))/\w'.cell? ⟨bx,1,none⟩=some (.int .i64 a)/\w'.cell? ⟨bx,2,none⟩=some (.int .i64 own)
theorem Step.box{w w0 w1:World}{H H':HL}(st:Step H H' w0 w1)(h:Sep w H)(h0:w.heap.size<w0.heap.size){i:Nat}{v:Value}(hv:w0.cell? ⟨w.heap.size,i,none⟩=some v):w1.cell? ⟨w.heap.size,i,none⟩=some v:=
 (World.cell?_of_block (w:=w0) (st.chg.block _ h0 (fun hk=>by have:w.heap.size<w.heap.size:=h.lt hk;omega))).trans hv
theorem FrF.base{w w0:World}{S:CO}(h0:Sep w0 S.hl){a own:Nat}(h1:w0.cell? ⟨w.heap.size,1,none⟩=some (.int .i64 a))(h2:w0.cell? ⟨w.heap.size,2,none⟩=some (.int .i64 own)):FrF S w.heap.size a own w0:=
 ⟨CO.c0 h0,PL.c0 (CO.sP h0),PL.c1 (CO.sP h0),h1,h2⟩
theorem FrF.step{w w0 w1:World}{S:CO}{P':PL}(h:Sep w S.hl)(hl:w.heap.size<w0.heap.size){a own:Nat}(f:FrF S w.heap.size a own w0)(st:Step S.hl (S.setP P').hl w0 w1)(hp:P'.p=S.P.p)(hq:P'.q.t=S.P.q.t)(hd:P'.d.b=S.P.d.b):FrF S w.heap.size a own w1:=by
 have c:=CO.c0 st.sep;have p0:=PL.c0 (CO.sP st.sep);have p1:=PL.c1 (CO.sP st.sep);have e:(S.setP P').P=P':=rfl;rw[e,hp] at c p0 p1;rw[hq] at p0;rw[hd] at p1;exact⟨c,p0,p1,st.box h hl f.2.2.2.1,st.box h hl f.2.2.2.2⟩
theorem Q8x{w w0:World}{S:CO}{fr:List Nat}(h:Sep w S.hl)(s0:Step S.hl S.hl w w0)(hl:w.heap.size<w0.heap.size)(ok:S.P.Ok fr){own a:Nat}{e:En Fa}(hp:Held S.P fr own 8 a e)(f:FrF S w.heap.size a own w0) :
  Calls prog 70 #[.pointer (some ⟨S.P.q.t,0,none⟩),.int .i64 own,.int .i64 1024] w0 fun r w1=>r=.returned (.int .i64 0)/\FrF S w.heap.size a own w1 /\
   Calls prog 145 #[.pointer (some ⟨S.P.d.b,0,none⟩),.int .i64 a] w1.drew fun r w2=>r=.returned (.int .i64 0)/\FrF S w.heap.size a own w2/\PutC S fr own 8 a w (.returned (.tuple #[])) w2:=by
 obtain⟨hf,hq,_,hg⟩:=hp;obtain⟨g,KS,rfl⟩:=hg rfl;obtain⟨f1,f2,f3,f4,f5,f6,f7,f8⟩:=ok.q.fa _ e hf;have CV:(1024:Int)<=e.q.charged:=hq;refine Calls.mono (Q3F (PL.sQ (CO.sP s0.sep)) ok.q hf 1024 (by omega) CV) ?_;rintro r w1⟨rfl,st1⟩;have s1:Step S.hl (S.setP (S.P.setQ {S.P.q with E:=upd S.P.q.E own {e.q with charged:=e.q.charged-1024}})).hl w0 w1:=CO.stepP s0.sep _ rfl (PL.stepQ (CO.sP s0.sep) {S.P.q with E:=upd S.P.q.E own {e.q with charged:=e.q.charged-1024}} rfl st1);have MT:g∈S.P.d.ps:=ok.pages.mem_iff.1 (J3X _ KS);have f1:=f.step h hl s1 rfl rfl rfl;refine⟨rfl,f1,?_⟩;have hx:((1024*g:Nat):Int)=1024*(g:Int):=by omega
 rw[hx];refine Calls.mono (Z1N (PL.sD (CO.sP s1.drew.sep)) ok.d g MT) ?_;rintro r w2⟨rfl,d,d1,d2,d3,d4,st2⟩;have s2:=s1.drew.trans (CO.stepP s1.drew.sep ((S.P.setQ {S.P.q with E:=upd S.P.q.E own {e.q with charged:=e.q.charged-1024}}).setD d) rfl (PL.stepD (CO.sP s1.drew.sep) d d1 st2));have f2:=f.step h hl (P':=(S.P.setQ {S.P.q with E:=upd S.P.q.E own {e.q with charged:=e.q.charged-1024}}).setD d) s2 rfl rfl d1;exact⟨rfl,f2,rfl,_,_,Z2X ok hf CV KS d1 d2 d3 d4,s0.trans s2⟩
theorem Q5l{w w1:World}{S:CO}{P1:PL}(s1:Step S.hl (S.setP P1).hl w w1){a x:Nat}(ha:a%8=0)(hl:a+8<=P1.a.mem.length)(hm:P1.a.mem.length<=1073741824)(hx:x<1048576)(w2:World)(hb:Below w1.heap.size w1 w2) :
  w2.cell? ⟨S.c,0,none⟩=some (ptr P1.p)/\w2.cell? ⟨P1.p,0,none⟩=some (ptr P1.q.t)/\Calls prog 50 #[ptr P1.p] w2 (fun r w'=>r=.returned (ptr P1.a.a)/\w2=w') /\
   ∀g,w2.cell? ⟨g,0,none⟩=some (.int .u64 x)->w1.heap.size<=g->g<w2.heap.size ->
    Calls prog 57 #[ptr P1.a.a,.int .i64 a,.slice (some ⟨g,0,none⟩) 1 1] w2 fun r w3=>r=.returned (.int .i64 0)/\(w3.cell? ⟨S.c,0,none⟩=some (ptr P1.p)/\∀b,b∉keys P1.a.hl->b<w2.heap.size->w3.heap[b]?=w2.heap[b]?)/\Step S.hl (S.setP (P1.setA (put_ P1.a.mem a (Q0d x)))).hl w w3:=by
 have s2:=s1.trans (s1.sep.grown hb);refine⟨CO.c0 s2.sep,PL.c0 (CO.sP s2.sep),Q1h (CO.sP s2.sep),fun g hg Ch Bu=>?_⟩;have hk:g∉keys P1.a.hl:=fun hk=>by
  have:=(PL.sA (CO.sP s1.sep)).lt hk;omega
 refine Calls.mono (Z1S (PL.sA (CO.sP s2.sep)) a x ha hl hm (by omega) g hg Bu hk) ?_;rintro r w3⟨rfl,st⟩;have s3:=CO.stepP s2.sep (P1.setA (put_ P1.a.mem a (Q0d x))) rfl (PL.stepA (CO.sP s2.sep) _ st);exact⟨rfl,⟨CO.c0 s3.sep,fun b hb hl=>st.chg.block b hl hb⟩,s2.trans s3⟩
theorem Z1c{w w0:World}{S:CO}{fr:List Nat}(h:Sep w S.hl)(Bw:Below w.heap.size w w0)(ok:S.P.Ok fr)(AP:∃i p,Fst S.l i p){own a:Nat}{e:En Fa}(hf:find S.P.q.E own=some e){lim:Int}(h0:0<=lim)(Ds:S.P.q.next+1<1048576)(ha:a%8=0)(hl:a+8<=S.P.a.mem.length) :
  Calls prog 14 #[ptr S.P.q.t,.int .i64 own,.int .i64 lim] w0 fun r w1=>∃(x:Nat) (er:Int),r=.returned (.tuple #[.int .i64 x,.int .i64 er])/\x<1048576/\w0.heap.size<=w1.heap.size/\(∀b,w.heap.size<=b->b<w0.heap.size->w1.heap[b]?=w0.heap[b]?) /\
   ∀w2,Below w1.heap.size w1 w2->w2.cell? ⟨S.c,0,none⟩=some (ptr S.P.p)/\w2.cell? ⟨S.P.p,0,none⟩=some (ptr S.P.q.t)/\Calls prog 50 #[ptr S.P.p] w2 (fun r w'=>r=.returned (ptr S.P.a.a)/\w2=w') /\
    ∀g,w2.cell? ⟨g,0,none⟩=some (.int .u64 x)->w1.heap.size<=g->g<w2.heap.size ->
     Calls prog 57 #[ptr S.P.a.a,.int .i64 a,.slice (some ⟨g,0,none⟩) 1 1] w2 fun r w3=>r=.returned (.int .i64 0)/\(w3.cell? ⟨S.c,0,none⟩=some (ptr S.P.p)/\∀b,w.heap.size<=b->b<w2.heap.size->w3.heap[b]?=w2.heap[b]?)/\Q3y S own 1 a lim e w (one er) w3:=by
 have s0:=h.grown Bw;have Gv:=Q0o ok;have Dk:=ok.q.next0;have PD:∀b,w.heap.size<=b->b∉keys S.P.a.hl:=fun b hb hk=>by
  have:=(PL.sA (CO.sP h)).lt hk;omega
 have told:∀w1,Below w0.heap.size w0 w1->w0.heap.size<=w1.heap.size/\(∀b,w.heap.size<=b->b<w0.heap.size->w1.heap[b]?=w0.heap[b]?)/\Step S.hl (S.setP S.P).hl w w1:=fun w1 hb=>⟨hb.size,fun b _ h2=>hb.block b h2,s0.trans (s0.sep.grown hb)⟩
 by_cases hq:lim<=Q0v e
 ·by_cases KT:S.P.q.E.length=32
  ·refine(Z0P (PL.sQ (CO.sP s0.sep)) ok.q hf lim h0 hq KT).mono ?_;rintro r w1⟨rfl,hb⟩;obtain⟨t1,t2,t3⟩:=told w1 hb;refine⟨0,11,rfl,by omega,t1,t2,fun w2 Ai=>?_⟩;obtain⟨a1,a0,a2,a3⟩:=Q5l t3 (x:=0) ha hl Gv (by omega) w2 Ai;refine⟨a1,a0,a2,fun g g1 g2 g3=>(a3 g g1 g2 g3).mono ?_⟩;rintro r w3⟨rfl,kk,st⟩;exact⟨rfl,⟨kk.1,fun b h1 h2=>kk.2 b (PD b h1) h2⟩,.inr (.inr (.inl ⟨AP,rfl,⟨11,.inr ⟨rfl,KT⟩,rfl⟩,st⟩))⟩
  ·refine(Z6w (PL.sQ (CO.sP s0.sep)) ok.q hf lim h0 hq KT Ds).mono ?_;rintro r w1⟨rfl,b,st⟩;have s1:=s0.trans (CO.stepP s0.sep (S.P.setQ (Q4c S.P.q own e b lim)) rfl (PL.stepQ (CO.sP s0.sep) _ rfl st));have hx:((S.P.q.next.toNat:Nat):Int)=S.P.q.next:=by omega
   refine⟨S.P.q.next.toNat,0,by rw[hx],by omega,st.chg.size,fun b' h1 h2=>st.chg.block b' h2 (fun hk=>?_),fun w2 Ai=>?_⟩
   ·have:=(PL.sQ (CO.sP h)).lt hk;omega
   ·obtain⟨a1,a0,a2,a3⟩:=Q5l s1 (x:=S.P.q.next.toNat) ha hl Gv (by omega) w2 Ai;refine⟨a1,a0,a2,fun g g1 g2 g3=>(a3 g g1 g2 g3).mono ?_⟩;rintro r w3⟨rfl,kk,st⟩;exact⟨rfl,⟨kk.1,fun b h1 h2=>kk.2 b (PD b h1) h2⟩,.inr (.inr (.inr ⟨AP,rfl,hq,rfl,b,st⟩))⟩
 ·refine(Q9q (PL.sQ (CO.sP s0.sep)) ok.q hf lim h0 (by unfold Q0v at hq;omega)).mono ?_;rintro r w1⟨rfl,hb⟩;obtain⟨t1,t2,t3⟩:=told w1 hb;refine⟨0,5,rfl,by omega,t1,t2,fun w2 Ai=>?_⟩;obtain⟨a1,a0,a2,a3⟩:=Q5l t3 (x:=0) ha hl Gv (by omega) w2 Ai;refine⟨a1,a0,a2,fun g g1 g2 g3=>(a3 g g1 g2 g3).mono ?_⟩;rintro r w3⟨rfl,kk,st⟩;exact⟨rfl,⟨kk.1,fun b h1 h2=>kk.2 b (PD b h1) h2⟩,.inr (.inr (.inl ⟨AP,rfl,⟨5,.inl ⟨rfl,by omega⟩,rfl⟩,st⟩))⟩
theorem GetC.tup{S:CO}{fr:List Nat}{own n:Nat}{e:En Fa}{w w':World}{r:Ending}(h:GetC S fr own n e w r w'):∃a er:Int,r=.returned (.tuple #[.int .i64 a,.int .i64 er])/\GetC S fr own n e w (.returned (.tuple #[.int .i64 a,.int .i64 er])) w':=by
 have k:∃a er:Int,r=.returned (.tuple #[.int .i64 a,.int .i64 er]):=by
  rcases h with ⟨_,rfl,_⟩|⟨_,_,rfl,_⟩|⟨a,_,_,_,_,rfl,_⟩
  ·exact⟨_,_,rfl⟩
  ·exact⟨_,_,rfl⟩
  ·exact⟨_,_,rfl⟩
 obtain⟨a,er,rfl⟩:=k;exact⟨a,er,rfl,h⟩
theorem Z3Q{w:World}{S:CO}{fr:List Nat}(h:Sep w S.hl)(ok:S.P.Ok fr){own n:Nat}{e:En Fa}(hf:find S.P.q.E own=some e)(h1:1<=n)(h7:n<=7) :
  Calls prog 152 #[.pointer (some ⟨S.c,0,none⟩),.int .i64 own,.int .i64 n] w (GetC S fr own n e w):=by
 have hg:=(Q5G (CO.sP h) ok (own:Int) (n:Int)).mono fun r w' hr=>(J1p h ok hf h1 h7 hr).tup
 have c0:=CO.c0 h;have Aw:(((n:Nat):Int) != 8)=true:=by simp;omega
 have Ai:(((n:Nat):Int)==8)=false:=by simp;omega
 generalize GetC S fr own n e w=Q at *
 clear h ok hf h1 h7;go_enter func152,ntmps152;go_wp2_with fail;refine hg.mono ?_;rintro r w1⟨a,er,rfl,hx⟩;have HX:=Q0a hx;clear hx;go_wp2_with fail
 (try go_ret2);exact HX.out
theorem Z3R{w:World}{S:CO}{fr:List Nat}(h:Sep w S.hl)(ok:S.P.Ok fr){own:Nat}{e:En Fa}(hf:find S.P.q.E own=some e) :
  Calls prog 152 #[.pointer (some ⟨S.c,0,none⟩),.int .i64 own,.int .i64 8] w (GetC S fr own 8 e w):=by
 have c0:=CO.c0 h;have p0:=PL.c0 (CO.sP h);by_cases hq:Q0v e<1024
 ·have hc:=Z3P h ok hf hq;unfold ptr at *
  unfold at2 at hc;generalize GetC S fr own 8 e w=Q at *
  clear h ok hf hq;go_enter func152,ntmps152;go_wp2_with fail;refine hc.mono ?_;rintro r w1⟨rfl,hx⟩;have HX:=Q0a hx;clear hx;go_wp2_with fail
  (try go_ret2);exact HX.out
 ·have hc:=Z1b h ok hf (by omega);unfold ptr at *
  unfold at2 at hc;generalize GetC S fr own 8 e w=Q at *
  clear h ok hf hq;go_enter func152,ntmps152;go_wp2_with fail;refine hc.mono ?_;rintro r w1⟨rfl,e0,e1,hx⟩;have HX:=Q0a hx;clear hx c0 p0 hc;go_wp2_with fail;refine HX.out.mono ?_;rintro r w2 (⟨a,rfl,e0,hA,hx⟩|⟨rfl,e0,e1,hx⟩)
  ·have HY:=Q0a hx;clear hx HX;go_wp2_with fail;refine hA.mono ?_;rintro r w3⟨rfl,rfl⟩;clear hA;go_wp2_with fail;refine HY.out.mono ?_;rintro r w3⟨rfl,hx⟩;have HZ:=Q0a hx;clear hx HY;go_wp2_with fail
   (try go_ret2);exact HZ.out
  ·have HY:=Q0a hx;clear hx HX;go_wp2_with fail;refine HY.out.mono ?_;rintro r w3⟨rfl,hx⟩;have HZ:=Q0a hx;clear hx HY;go_wp2_with fail
   (try go_ret2);exact HZ.out
theorem Z9o{w:World}{S:CO}{fr:List Nat}(h:Sep w S.hl)(ok:S.P.Ok fr){own n:Nat}{e:En Fa}(hf:find S.P.q.E own=some e)(hn:n=8∨1<=n/\n<=7) :
  Calls prog 152 #[.pointer (some ⟨S.c,0,none⟩),.int .i64 own,.int .i64 n] w (GetC S fr own n e w):=by
 rcases hn with rfl|⟨h1,h7⟩
 ·exact Z3R h ok hf
 ·exact Z3Q h ok hf h1 h7
theorem Z7a{w:World}{S:CO}{fr:List Nat}(h:Sep w S.hl)(ok:S.P.Ok fr){own n a:Nat}{e:En Fa}(hp:Held S.P fr own n a e)(hn:n≠8) :
  Calls prog 154 #[.pointer (some ⟨S.c,0,none⟩),.agg #[.int .i64 n,.int .i64 a,.int .i64 own]] w (PutC S fr own n a w):=by
 have hu:=hp.at' hn;obtain⟨g1,g2,g3,g4⟩:=Q0m ok hu;obtain⟨c,hc⟩:=PL.cls ok g3 g4;have hm:=Q0o ok;have s1:=(h.alloc (.cells #[.int .i64 n,.int .i64 a,.int .i64 own] 54)).drew;have Gc:=hp.paid;rw[Q2a hn] at Gc;have hB:=Cells.new w 54 [.int .i64 n,.int .i64 a,.int .i64 own];have BC:Calls prog 21 #[.pointer (some ⟨S.P.p,0,none⟩),.int .i64 own,.int .i64 n,.int .i64 a] (w.alloc (.cells #[.int .i64 n,.int .i64 a,.int .i64 own] 54)).drew fun r w1=>r=.returned (.int .i64 0)/\w1.cell? ⟨S.c,0,none⟩=some (.pointer (some ⟨S.P.p,0,none⟩))/\w1.cell? ⟨w.heap.size,0,none⟩=some (.int .i64 n)/\w1.cell? ⟨w.heap.size,1,none⟩=some (.int .i64 a)/\w1.cell? ⟨w.heap.size,2,none⟩=some (.int .i64 own)/\PutC S fr own n a w (.returned (.tuple #[])) w1:=by
  refine(Q4z (CO.sP s1) ok (own:Int) hp.acc n Gc c hc a (by rw[<- Q0V hc];exact hu) (by omega)).mono ?_;intro r w1 hr;obtain⟨P',fr',b,st⟩:=J1q s1 ok hr;have Ks:=CO.c0 st.sep;rw[show(S.setP P').P.p=S.P.p from b.same.p] at Ks;exact⟨hr.1,Ks,st.box h (by simp) (hB.cell 0 _ rfl),st.box h (by simp) (hB.cell 1 _ rfl),st.box h (by simp) (hB.cell 2 _ rfl),rfl,P',fr',b,st.from_drew.from_alloc⟩
 have c0:=CO.c0 (h.alloc (.cells #[.int .i64 n,.int .i64 a,.int .i64 own] 54));have d0:=CO.c0 s1;have e0:=hB.cell 0 _ rfl;have e1:=hB.cell 1 _ rfl;have e2:=hB.cell 2 _ rfl;have f0:(w.alloc (.cells #[.int .i64 n,.int .i64 a,.int .i64 own] 54)).drew.cell? ⟨w.heap.size,0,none⟩=some (.int .i64 n):=e0;have f1:(w.alloc (.cells #[.int .i64 n,.int .i64 a,.int .i64 own] 54)).drew.cell? ⟨w.heap.size,1,none⟩=some (.int .i64 a):=e1;have f2:(w.alloc (.cells #[.int .i64 n,.int .i64 a,.int .i64 own] 54)).drew.cell? ⟨w.heap.size,2,none⟩=some (.int .i64 own):=e2;have Aw:(((n:Nat):Int) != 8)=true:=by simp;omega
 have Ai:(((n:Nat):Int)==8)=false:=by simp;omega
 generalize PutC S fr own n a w=Q at *
 clear h ok hp hu g1 g2 g3 g4 hc hm s1 Gc hB hn;go_enter func154,ntmps154;go_wp2_with fail
 go_region_held3 (fun w'=>w'.cell? ⟨S.c,0,none⟩=some (.pointer (some ⟨S.P.p,0,none⟩))/\w'.cell? ⟨w.heap.size,0,none⟩=some (.int .i64 n)/\w'.cell? ⟨w.heap.size,1,none⟩=some (.int .i64 a)/\w'.cell? ⟨w.heap.size,2,none⟩=some (.int .i64 own)) (first|exact⟨c0,e0,e1,e2⟩|exact⟨d0,f0,f1,f2⟩|exact⟨t0,t1,t2,t3⟩)
  (first|(go_at_call 21;refine BC.mono ?_;rintro r w1⟨rfl,t0,t1,t2,t3,hx⟩;have HX:=Q0a hx;clear hx))
 go_wp2_with fail
 first|exact HX.out|((try simp only[Exit.inBlock,Exit.then]);refine bodyPost_ret (results_none rfl _ _ _) rfl ?_;exact HX.out)
theorem Z3S{w:World}{S:CO}{fr:List Nat}(h:Sep w S.hl)(ok:S.P.Ok fr){own a:Nat}{e:En Fa}(hp:Held S.P fr own 8 a e) :
  Calls prog 154 #[.pointer (some ⟨S.c,0,none⟩),.agg #[.int .i64 8,.int .i64 a,.int .i64 own]] w (PutC S fr own 8 a w):=by
 have s0:=(h.alloc (.cells #[.int .i64 8,.int .i64 a,.int .i64 own] 54))
 have hB:=Cells.new w 54 [.int .i64 8,.int .i64 a,.int .i64 own];have e0:=hB.cell 0 _ rfl;have F0:FrF S w.heap.size a own (w.alloc (.cells #[.int .i64 8,.int .i64 a,.int .i64 own] 54)):=FrF.base s0 (hB.cell 1 _ rfl) (hB.cell 2 _ rfl);have CZ:=Q8x (w0:=(w.alloc (.cells #[.int .i64 8,.int .i64 a,.int .i64 own] 54)).drew) h (h.grown (((Below.refl _ _).alloc (J3b _) _).drew)) (by simp[World.drew]) ok hp F0;obtain⟨c0,c1,c2,c3,c4⟩:=F0;have DM:Hid (∀(v:World) b i x,v.cell? ⟨b,i,none⟩=some x->v.drew.cell? ⟨b,i,none⟩=some x):=fun v b i x hv=>hv
 have d0:=DM.out _ _ _ _ c0;have d1:=DM.out _ _ _ _ c1;have d2:=DM.out _ _ _ _ c2;have d3:=DM.out _ _ _ _ c3;have d4:=DM.out _ _ _ _ c4;generalize PutC S fr own 8 a w=Q at *
 unfold FrF at CZ;clear h ok hp s0 hB;go_enter func154,ntmps154;go_wp2_with fail
 go_region_held3 (fun w'=>w'.cell? ⟨S.c,0,none⟩=some (.pointer (some ⟨S.P.p,0,none⟩))/\w'.cell? ⟨S.P.p,0,none⟩=some (.pointer (some ⟨S.P.q.t,0,none⟩))/\w'.cell? ⟨w.heap.size,2,none⟩=some (.int .i64 own)) (first|exact⟨c0,c1,c4⟩|exact⟨d0,d1,d4⟩|exact⟨t0,t1,t4⟩)
  (first|(go_at_call 70;refine CZ.mono ?_;rintro r w1⟨rfl,⟨t0,t1,t2,t3,t4⟩,hx⟩;have HX:=Q0a hx;clear hx))
 have x0:=DM.out _ _ _ _ t0;have x2:=DM.out _ _ _ _ t2;have x3:=DM.out _ _ _ _ t3;clear c0 c1 c2 c3 c4 d0 d1 d2 d3 d4 CZ;go_wp2_with fail
 go_region_held3 (fun w'=>w'.cell? ⟨S.c,0,none⟩=some (.pointer (some ⟨S.P.p,0,none⟩))/\w'.cell? ⟨S.P.p,1,none⟩=some (.pointer (some ⟨S.P.d.b,0,none⟩))/\w'.cell? ⟨w.heap.size,1,none⟩=some (.int .i64 a)) (first|exact⟨t0,t2,t3⟩|exact⟨x0,x2,x3⟩|exact⟨y0,y2,y3⟩)
  (first|(go_at_call 145;refine HX.out.mono ?_;rintro r w2⟨rfl,⟨y0,y1,y2,y3,y4⟩,hx⟩;have HY:=Q0a hx;clear hx))
 go_wp2_with fail
 first|exact HY.out|((try simp only[Exit.inBlock,Exit.then]);refine bodyPost_ret (results_none rfl _ _ _) rfl ?_;exact HY.out)
theorem Q8y{w:World}{S:CO}{fr:List Nat}(h:Sep w S.hl)(ok:S.P.Ok fr){own n a:Nat}{e:En Fa}(hp:Held S.P fr own n a e) :
  Calls prog 154 #[.pointer (some ⟨S.c,0,none⟩),.agg #[.int .i64 n,.int .i64 a,.int .i64 own]] w (PutC S fr own n a w):=by
 by_cases hn:n=8
 ·subst hn;exact Z3S h ok hp
 ·exact Z7a h ok hp hn
theorem Z2u(w:World)(k:Int):Calls prog 151 #[.int .i64 k] w fun r w'=>r=.returned (.bool (decide (k=8∨1<=k/\k<=5)))/\w=w':=by
 by_cases h8:k=8
 ·subst h8;go_enter func151,ntmps151;go_wp2_with fail
  (try go_ret);exact⟨rfl,rfl⟩
 ·have hb:(k==8)=false:=by simpa using h8
  by_cases h1:1<=k
  ·by_cases h5:k<=5
   ·have hd:decide (k=8∨1<=k/\k<=5)=true:=by rw[decide_eq_true_eq];omega
    rw[hd];clear hd;go_enter func151,ntmps151;go_wp2_with fail
    (try go_ret);exact⟨rfl,rfl⟩
   ·have hd:decide (k=8∨1<=k/\k<=5)=false:=by rw[decide_eq_false_iff_not];omega
    rw[hd];clear hd;have VL:5<k:=by omega
    go_enter func151,ntmps151;go_wp2_with fail
    (try go_ret);exact⟨rfl,rfl⟩
  ·have hd:decide (k=8∨1<=k/\k<=5)=false:=by rw[decide_eq_false_iff_not];omega
   rw[hd];clear hd;have K0:k<1:=by omega
   go_enter func151,ntmps151;go_wp2_with fail
   (try go_ret);exact⟨rfl,rfl⟩
theorem Q5O{w w1:World}{o:Obj}(hb:Below (w.alloc o).heap.size (w.alloc o) w1){i:Nat}{v:Value}(hv:(w.alloc o).cell? ⟨w.heap.size,i,none⟩=some v):w1.cell? ⟨w.heap.size,i,none⟩=some v:=
 (World.cell?_of_block (w:=w.alloc o) (hb.block _ (by simp))).trans hv
theorem Z1d{w:World}{S:CO}(h:Sep w S.hl)(lok:LOk S.l)(hf:∀p∈S.l,p.st≠0)(own n a:Nat)(lim:Int)(e:En Fa) :
  Calls prog 153 #[.pointer (some ⟨S.c,0,none⟩),.agg #[.int .i64 n,.int .i64 a,.int .i64 own],.int .i64 lim] w (Q3y S own n a lim e w):=by
 have s0:=h.alloc (.cells #[.int .i64 n,.int .i64 a,.int .i64 own] 54);have c1:=CO.c1 s0;have hr:=Q6v (h:=S.ht) (CO.sT s0) lok;rw[show allL S.ht.l 0=[] from empty_iff.2 hf] at hr;have HR:Hid (∀w1,Below (w.alloc (.cells #[.int .i64 n,.int .i64 a,.int .i64 own] 54)).heap.size (w.alloc (.cells #[.int .i64 n,.int .i64 a,.int .i64 own] 54)) w1->Q3y S own n a lim e w (.returned (.int .i64 11)) w1):=fun w1 hb=>.inl ⟨hf,rfl,h.grown (Q0e hb)⟩
 generalize Q3y S own n a lim e w=Q at *
 unfold CO.ht at hr;clear h lok hf s0;go_enter func153,ntmps153;go_wp2_with fail;refine hr.mono ?_;rintro r w1⟨rfl,hb⟩;have HX:=Q0a (HR.out w1 hb);clear hb;go_wp2_with fail
 (try go_ret);exact HX.out
theorem Z7b{l:List Pl}(AP:∃i p,Fst l i p):(allL l 0).length≠0:=fun h=>by
 obtain⟨i,p,h1,h2,_⟩:=AP;exact empty_iff.1 (J5s h) p (J5q h1) h2
theorem Z9p{w:World}{S:CO}(h:Sep w S.hl)(lok:LOk S.l)(AP:∃i p,Fst S.l i p)(own n a:Nat)(lim:Int)(e:En Fa)(hn:n≠1) :
  Calls prog 153 #[.pointer (some ⟨S.c,0,none⟩),.agg #[.int .i64 n,.int .i64 a,.int .i64 own],.int .i64 lim] w (Q3y S own n a lim e w):=by
 have s0:=h.alloc (.cells #[.int .i64 n,.int .i64 a,.int .i64 own] 54);have hB:=Cells.new w 54 [.int .i64 n,.int .i64 a,.int .i64 own];have c1:=CO.c1 s0;have hr:=Q6v (h:=S.ht) (CO.sT s0) lok;have hm:=Z7b AP;have HR:Hid (∀w1,Below (w.alloc (.cells #[.int .i64 n,.int .i64 a,.int .i64 own] 54)).heap.size (w.alloc (.cells #[.int .i64 n,.int .i64 a,.int .i64 own] 54)) w1->w1.cell? ⟨w.heap.size,0,none⟩=some (.int .i64 n)/\Q3y S own n a lim e w (.returned (.int .i64 0)) w1):=fun w1 hb=>⟨Q5O hb (hB.cell 0 _ rfl),.inr (.inl ⟨AP,hn,rfl,h.grown (Q0e hb)⟩)⟩
 generalize Q3y S own n a lim e w=Q at *
 unfold CO.ht at hr;simp only at hr;generalize (allL S.l 0).length=m at *
 have Aw:(((m:Nat):Int)==0)=false:=by simp;omega
 have Ai:(((n:Nat):Int) != 1)=true:=by simp;omega
 have Ar:(((n:Nat):Int)==1)=false:=by simp;omega
 clear h lok AP s0 hB hm hn;go_enter func153,ntmps153;go_wp2_with fail;refine hr.mono ?_;rintro r w1⟨rfl,hb⟩;obtain⟨e0,hx⟩:=HR.out w1 hb;have HX:=Q0a hx;clear hb hx;go_wp2_with fail
 (try go_ret);exact HX.out
theorem Z9q{w:World}{S:CO}{fr:List Nat}(h:Sep w S.hl)(ok:S.P.Ok fr)(lok:LOk S.l)(AP:∃i p,Fst S.l i p){own a:Nat}{e:En Fa}(hf:find S.P.q.E own=some e){lim:Int}(h0:0<=lim)(Ds:S.P.q.next+1<1048576)(ha:a%8=0)(hl:a+8<=S.P.a.mem.length) :
  Calls prog 153 #[.pointer (some ⟨S.c,0,none⟩),.agg #[.int .i64 1,.int .i64 a,.int .i64 own],.int .i64 lim] w (Q3y S own 1 a lim e w):=by
 have s0:=h.alloc (.cells #[.int .i64 1,.int .i64 a,.int .i64 own] 54);have hB:=Cells.new w 54 [.int .i64 1,.int .i64 a,.int .i64 own];have c1:=CO.c1 s0;have hr:=Q6v (h:=S.ht) (CO.sT s0) lok;have hm:=Z7b AP;have HR:Hid (∀w1,Below (w.alloc (.cells #[.int .i64 1,.int .i64 a,.int .i64 own] 54)).heap.size (w.alloc (.cells #[.int .i64 1,.int .i64 a,.int .i64 own] 54)) w1 ->
   (w1.cell? ⟨w.heap.size,0,none⟩=some (.int .i64 1)/\w1.cell? ⟨w.heap.size,1,none⟩=some (.int .i64 a)/\w1.cell? ⟨w.heap.size,2,none⟩=some (.int .i64 own)/\w1.cell? ⟨S.c,0,none⟩=some (.pointer (some ⟨S.P.p,0,none⟩))/\w1.cell? ⟨S.P.p,0,none⟩=some (.pointer (some ⟨S.P.q.t,0,none⟩))/\w.heap.size<w1.heap.size) /\
   Calls prog 14 #[.pointer (some ⟨S.P.q.t,0,none⟩),.int .i64 own,.int .i64 lim] w1.drew fun r w2=>∃(x:Nat) (er:Int),r=.returned (.tuple #[.int .i64 x,.int .i64 er])/\x<1048576 /\
    (w2.cell? ⟨S.c,0,none⟩=some (.pointer (some ⟨S.P.p,0,none⟩))/\w2.cell? ⟨S.P.p,0,none⟩=some (.pointer (some ⟨S.P.q.t,0,none⟩))/\w2.cell? ⟨w.heap.size,1,none⟩=some (.int .i64 a)/\w2.cell? ⟨w.heap.size,2,none⟩=some (.int .i64 own)/\w.heap.size<w2.heap.size/\S.c<w2.heap.size) /\
    (Calls prog 50 #[.pointer (some ⟨S.P.p,0,none⟩)] w2.drew fun r w'=>r=.returned (.pointer (some ⟨S.P.a.a,0,none⟩))/\w2.drew=w') /\
    (Calls prog 50 #[.pointer (some ⟨S.P.p,0,none⟩)] (w2.alloc (.cells #[.int .u64 x] 83)).drew fun r w'=>r=.returned (.pointer (some ⟨S.P.a.a,0,none⟩))/\(w2.alloc (.cells #[.int .u64 x] 83)).drew=w') /\
    Calls prog 57 #[.pointer (some ⟨S.P.a.a,0,none⟩),.int .i64 a,.slice (some ⟨w2.heap.size,0,none⟩) 1 1] (w2.alloc (.cells #[.int .u64 x] 83)).drew fun r w3=>r=.returned (.int .i64 0)/\(w3.cell? ⟨S.c,0,none⟩=some (.pointer (some ⟨S.P.p,0,none⟩))/\w3.cell? ⟨w.heap.size,1,none⟩=some (.int .i64 a))/\Q3y S own 1 a lim e w (.returned (.int .i64 er)) w3):=fun w1 hb=>by
  have Al:=Q0e hb;have s1:=(h.grown Al).sep;have b1:=Q5O hb (hB.cell 1 _ rfl);have b2:=Q5O hb (hB.cell 2 _ rfl);have Ab:w.heap.size<w1.heap.size:=by have:=hb.size;rw[World.size_alloc] at this;omega
  refine⟨⟨Q5O hb (hB.cell 0 _ rfl),b1,b2,CO.c0 s1,PL.c0 (CO.sP s1),Ab⟩,?_⟩;refine Calls.mono (Z1c h Al.drew ok AP hf h0 Ds ha hl) ?_;rintro r w2⟨x,er,rfl,hx,hs,hk,AZ⟩;have Nt:w1.heap.size<=w2.heap.size:=hs;have Ak:∀i v,w1.cell? ⟨w.heap.size,i,none⟩=some v->w2.cell? ⟨w.heap.size,i,none⟩=some v:=fun i v hv=>(World.cell?_of_block (w:=w1) (hk _ (J3b _) Ab)).trans hv
  obtain⟨a1,a2,a3,_⟩:=AZ w2 (Below.refl _ _);obtain⟨_,_,d3,_⟩:=AZ w2.drew (Below.refl _ _).drew;obtain⟨_,_,g3,g4⟩:=AZ (w2.alloc (.cells #[.int .u64 x] 83)).drew ((Below.refl _ _).alloc (J3b _) _).drew;have AM:S.c<w2.heap.size:=by
   have:=(CO.cells h).lt;have:=Al.size;omega
  refine⟨x,er,rfl,hx,⟨a1,a2,Ak _ _ b1,Ak _ _ b2,by omega,AM⟩,d3,g3,?_⟩;refine Calls.mono (g4 w2.heap.size ((Cells.new w2 83 [.int .u64 x]).cell 0 _ rfl) (J3b _) (by simp[World.drew])) ?_;rintro r w3⟨rfl,⟨k1,k2⟩,hx⟩;refine⟨rfl,⟨k1,?_⟩,hx⟩;refine(World.cell?_of_block (w:=(w2.alloc (.cells #[.int .u64 x] 83)).drew) (k2 _ (J3b _) (by simp[World.drew];omega))).trans ?_;exact Q0J (Ak _ _ b1)
 generalize Q3y S own 1 a lim e w=Q at *
 unfold CO.ht at hr;simp only at hr;generalize (allL S.l 0).length=m at *
 have Aw:(((m:Nat):Int)==0)=false:=by simp;omega
 clear h ok lok AP s0 hB hm hf h0 Ds ha hl;go_enter func153,ntmps153;go_wp2_with fail;refine hr.mono ?_;rintro r w1⟨rfl,hb⟩;obtain⟨⟨e0,e1,e2,e3,e4,Ab⟩,Cu⟩:=HR.out w1 hb;have f2:w1.drew.cell? ⟨w.heap.size,2,none⟩=some (.int .i64 own):=e2;have f3:w1.drew.cell? ⟨S.c,0,none⟩=some (.pointer (some ⟨S.P.p,0,none⟩)):=e3;have f4:w1.drew.cell? ⟨S.P.p,0,none⟩=some (.pointer (some ⟨S.P.q.t,0,none⟩)):=e4;clear hb hr c1;go_wp2_with fail
 go_region_held3 (fun w'=>w'.cell? ⟨S.c,0,none⟩=some (.pointer (some ⟨S.P.p,0,none⟩))/\w'.cell? ⟨S.P.p,0,none⟩=some (.pointer (some ⟨S.P.q.t,0,none⟩))/\w'.cell? ⟨w.heap.size,2,none⟩=some (.int .i64 own)) (first|exact⟨e3,e4,e2⟩|exact⟨f3,f4,f2⟩|exact⟨t0,t1,t3⟩)
  (first|(go_at_call 14;refine Cu.mono ?_;rintro r w2⟨x,er,rfl,D2,⟨t0,t1,t2,t3,t4,t5⟩,QS,U5,hS⟩;have HS:=Q0a hS;clear hS))
 have hw:IntKind.u64.wrap (x:Int)=(x:Int):=Go.IntWalk.u64_in _ (by omega);have x0:w2.drew.cell? ⟨S.c,0,none⟩=some (.pointer (some ⟨S.P.p,0,none⟩)):=t0;have x1:w2.drew.cell? ⟨w.heap.size,1,none⟩=some (.int .i64 a):=t2;have y0:(w2.alloc (.cells #[.int .u64 x] 83)).drew.cell? ⟨S.c,0,none⟩=some (.pointer (some ⟨S.P.p,0,none⟩)):=Q0J t0;have y1:(w2.alloc (.cells #[.int .u64 x] 83)).drew.cell? ⟨w.heap.size,1,none⟩=some (.int .i64 a):=Q0J t2;clear e0 e1 e2 e3 e4 f2 f3 f4 Cu Ab;go_wp2_with fail
 go_region_held3 (fun w'=>w'.cell? ⟨S.c,0,none⟩=some (.pointer (some ⟨S.P.p,0,none⟩))/\w'.cell? ⟨w.heap.size,1,none⟩=some (.int .i64 a)) (first|exact⟨t0,t2⟩|exact⟨x0,x1⟩|exact⟨y0,y1⟩|exact⟨z0,z1⟩)
  (first|(go_at_call 50;refine QS.mono ?_;rintro r w'⟨rfl,rfl⟩)|(go_at_call 50;refine U5.mono ?_;rintro r w'⟨rfl,rfl⟩)|(go_at_call 57;refine HS.out.mono ?_;rintro r w3⟨rfl,⟨z0,z1⟩,hx⟩;have HX:=Q0a hx;clear hx))
 all_goals
  go_wp2_with fail
  (try go_ret);exact HX.out
theorem Z3T{w:World}{S:CO}{fr:List Nat}(h:Sep w S.hl)(ok:S.P.Ok fr)(lok:LOk S.l){own n a:Nat}{e:En Fa}(hf:find S.P.q.E own=some e){lim:Int}(Ds:S.P.q.next+1<1048576)(h1:n=1->0<=lim/\a%8=0/\a+8<=S.P.a.mem.length) :
  Calls prog 153 #[.pointer (some ⟨S.c,0,none⟩),.agg #[.int .i64 n,.int .i64 a,.int .i64 own],.int .i64 lim] w (Q3y S own n a lim e w):=by
 rcases Z8U S.l with Aq|AP
 ·exact Z1d h lok Aq own n a lim e
 ·by_cases hn:n=1
  ·subst hn;obtain⟨k1,k2,k3⟩:=h1 rfl;exact Z9q h ok lok AP hf k1 Ds k2 k3
  ·exact Z9p h lok AP own n a lim e hn
theorem Z3U{w w1:World}{S:CO}{fr:List Nat}{N K:Nat}(h:Sep w S.hl)(hb:Below w.heap.size w w1)(ok:S.Ok fr N K)(hN:N+1<1048576){x:Nat}{f:Pl}(hf:pget S.l 1 x=some f)(Dx:f.kind=1){n:Nat}(hn:n=8∨1<=n/\n<=5){lim:Int}(hlim:n=1->0<=lim) :
  Calls prog 152 #[.pointer (some ⟨S.c,0,none⟩),.int .i64 (f.own:Int),.int .i64 n] w1 fun r w2 =>
   (∃er:Int,er≠0/\r=.returned (.tuple #[.int .i64 0,.int .i64 er])/\MakeR S fr x n lim w (.returned (.tuple #[.int .u32 0,.int .i64 er])) w2) ∨
   ∃a:Nat,r=.returned (.tuple #[.int .i64 a,.int .i64 0])/\∀w3,Below w2.heap.size w2 w3 ->
    Calls prog 153 #[.pointer (some ⟨S.c,0,none⟩),.agg #[.int .i64 n,.int .i64 a,.int .i64 (f.own:Int)],.int .i64 lim] w3 fun r w4=>(∀b,w2.heap.size<=b->b<w3.heap.size->w4.heap[b]?=w3.heap[b]?)/\w3.heap.size<=w4.heap.size /\
     ((∃er:Int,er≠0/\r=.returned (.int .i64 er)/\Calls prog 154 #[.pointer (some ⟨S.c,0,none⟩),.agg #[.int .i64 n,.int .i64 a,.int .i64 (f.own:Int)]] w4 fun r w5=>r=.returned (.tuple #[])/\MakeR S fr x n lim w (.returned (.tuple #[.int .u32 0,.int .i64 er])) w5) ∨
      (r=.returned (.int .i64 0)/\w4.cell? ⟨S.c,1,none⟩=some (.pointer (some ⟨S.t,0,none⟩))/\Calls prog 149 #[.pointer (some ⟨S.t,0,none⟩),.agg #[.int .i64 n,.int .i64 a,.int .i64 (f.own:Int)]] w4.drew fun r w5=>∃y:Nat,r=.returned (.tuple #[.int .u32 y,.int .i64 0])/\w5.cell? ⟨S.c,1,none⟩=some (.pointer (some ⟨S.t,0,none⟩))/\(∀b,w2.heap.size<=b->b<w4.heap.size->w5.heap[b]?=w4.heap[b]?)/\MakeR S fr x n lim w (.returned (.tuple #[.int .u32 y,.int .i64 0])) w5)):=by
 obtain⟨e,he⟩:=ok.inv.tre.acc (Q0z hf) (Pl.is_iff.2 (.inl (pget_some.1 hf).2.2)) Dx;have s1:=h.grown hb;have B8:=ok.inv.mem.pool;have AG:=ok.inv.lok;have M8:=ok.next;have Fp:∀(r:Ending) (w':World),J2f S fr f e n lim w r w'->MakeR S fr x n lim w r w':=fun r w' hk=>.inr ⟨f,hf,.inr (.inr ⟨n,e,rfl,Dx,hn,hlim,he,hk⟩)⟩
 refine Calls.mono (Z9o s1.sep B8 he (by omega)) ?_;rintro r w2 (⟨hq,rfl,st⟩|⟨hq,RB,rfl,st⟩|⟨a,P',fr',hq,g,rfl,st⟩)
 ·exact .inl ⟨5,by decide,rfl,Fp _ _ (.inl ⟨hq,rfl,s1.trans st⟩)⟩
 ·exact .inl ⟨4,by decide,rfl,Fp _ _ (.inr (.inl ⟨hq,RB,rfl,s1.trans st⟩))⟩
 ·refine .inr ⟨a,rfl,fun w3 Ar=>?_⟩;have s2:=s1.trans st;have s3:=s2.sep.grown Ar;have s23:=s2.trans s3;obtain⟨ML,hE,B3,Nj⟩:=g.acc he;have C0:=g.room.1;have Ac:=g.same.len;have key:∀{H':HL} {w4:World},Step (S.setP P').hl H' w3 w4->(∀b,w2.heap.size<=b->b<w3.heap.size->w4.heap[b]?=w3.heap[b]?)/\w3.heap.size<=w4.heap.size:=fun st4=>⟨fun b h1 h2=>st4.chg.block b h2 (fun hk=>by have:=s2.sep.lt hk;omega),st4.chg.size⟩
  have BC:∀{w4:World} (er:Int),er≠0->Step (S.setP P').hl (S.setP P').hl w3 w4->((er=11/\((∀p∈S.l,p.st≠0)∨n=1/\S.P.q.E.length=32))∨(er=5/\n=1/\Q0v e-64<lim)) ->
    Calls prog 154 #[.pointer (some ⟨S.c,0,none⟩),.agg #[.int .i64 n,.int .i64 a,.int .i64 (f.own:Int)]] w4 fun r w5=>r=.returned (.tuple #[])/\MakeR S fr x n lim w (.returned (.tuple #[.int .u32 0,.int .i64 er])) w5:=fun {w4} er Co st4 hc=>by
   refine Calls.mono (Q8y st4.sep g.ok (g.held B8 he)) ?_;rintro r w5⟨rfl,P2,fr2,bk,st5⟩;have ht:=g.back ok.inv.mem bk;exact⟨rfl,Fp _ _ (.inr (.inr (.inl ⟨hq,er,P2,hc,ht,rfl,(s23.trans st4).trans st5⟩)))⟩
  have B7:∀{w4:World} {P2:PL} {i:Nat} {p:Pl} {y:Nat},Fst S.l i p->Step (S.setP P').hl (S.setP P2).hl w3 w4->MadeOk S fr f e n a lim y i p P2 fr' ->
    w4.cell? ⟨S.c,1,none⟩=some (.pointer (some ⟨S.t,0,none⟩))/\Calls prog 149 #[.pointer (some ⟨S.t,0,none⟩),.agg #[.int .i64 n,.int .i64 a,.int .i64 (f.own:Int)]] w4.drew fun r w5=>∃y:Nat,r=.returned (.tuple #[.int .u32 y,.int .i64 0])/\w5.cell? ⟨S.c,1,none⟩=some (.pointer (some ⟨S.t,0,none⟩))/\(∀b,w2.heap.size<=b->b<w4.heap.size->w5.heap[b]?=w4.heap[b]?)/\MakeR S fr x n lim w (.returned (.tuple #[.int .u32 y,.int .i64 0])) w5:=fun {w4 P2 i p y} hi st4 hm=>by
   have s4:=s3.trans st4;refine⟨CO.c1 (S:=S.setP P2) s4.sep,?_⟩;refine Calls.mono (Z6t (h:=(S.setP P2).ht) (CO.sT s4.drew.sep) AG hi n a f.own y) ?_;rintro r w5⟨rfl,st5⟩;have s5:=CO.stepL (S:=S.setP P2) s4.drew.sep _ st5;refine⟨nm i p,rfl,CO.c1 (S:=(S.setP P2).setL _) s5.sep,fun b h1 h2=>?_,Fp _ _ (.inr (.inr (.inr ⟨i,p,a,y,P2,fr',hi.1,hi.2.1,hi.2.2,hq,rfl,hm,(s2.trans s4.drew).trans s5⟩)))⟩;have VX:∀k∈keys (S.setP P2).hl,k<w2.heap.size∨w3.heap.size<=k:=fun k hk=>by
    rcases st4.new k hk with h'|h'
    ·exact .inl (s2.sep.lt h')
    ·exact .inr h'
   exact st5.chg.block b h2 (fun hk=>by
    have Ab:=(CO.sT (S:=S.setP P') s2.sep).lt (b:=b) hk;omega)
  refine Calls.mono (Z3T (S:=S.setP P') s3.sep g.ok AG ML (by show P'.q.next+1<_;rw[B3];omega) (fun h1=>?_)) ?_
  ·subst h1;have hm:a∈P'.usedOf 1:=(g.used (by decide)).mem_iff.2 (by simp);have D0:costK 1=64:=rfl;rw[D0] at C0;exact⟨hlim rfl,Q2u g.ok hm,by show a+8<=P'.a.mem.length;rw[Ac];omega⟩
  ·rintro r w4 (⟨By,rfl,st4⟩|⟨⟨i,p,hi⟩,Ds,rfl,st4⟩|⟨⟨i,p,hi⟩,Ds,⟨er,hc,rfl⟩,st4⟩|⟨⟨i,p,hi⟩,Ds,D1,rfl,b,st4⟩)
   ·exact⟨(key st4).1,(key st4).2,.inl ⟨11,by decide,rfl,BC 11 (by decide) st4 (.inl ⟨rfl,.inl By⟩)⟩⟩
   ·obtain⟨c1,hp⟩:=B7 hi st4 (J2q ok hf Dx (by omega) he g hi);exact⟨(key st4).1,(key st4).2,.inr ⟨rfl,c1,hp⟩⟩
   ·subst Ds;have D0:costK 1=64:=rfl;have Az:=g.mem;rw[D0] at C0 Az;have GO:P'.setA (put_ P'.a.mem a (Q0d 0))=P':=by
     have:put_ P'.a.mem a (Q0d 0)=P'.a.mem:=by
      rw[Az];exact Z9n (by omega) C0
     rw[this];rfl
    have st4':Step (S.setP P').hl (S.setP (P'.setA (put_ P'.a.mem a (Q0d 0)))).hl w3 w4:=st4;rw[GO] at st4';have Co:er≠0:=by rcases hc with ⟨rfl,_⟩|⟨rfl,_⟩ <;> decide
    have JN:Q0v ({e with q:={e.q with charged:=e.q.charged+((costK 1:Nat):Int)}}:En Fa)=Q0v e-64:=by
     unfold Q0v;rw[D0];simp only;omega
    refine⟨(key st4').1,(key st4').2,.inl ⟨er,Co,rfl,BC er Co st4' ?_⟩⟩;rcases hc with ⟨rfl,hc⟩|⟨rfl,hc⟩
    ·exact .inr ⟨rfl,rfl,by rw[JN] at hc;exact hc⟩
    ·exact .inl ⟨rfl,.inr ⟨rfl,by rw[<- Nj];exact hc⟩⟩
   ·subst Ds;have D0:costK 1=64:=rfl;have JN:Q0v ({e with q:={e.q with charged:=e.q.charged+((costK 1:Nat):Int)}}:En Fa)=Q0v e-64:=by
     unfold Q0v;rw[D0];simp only;omega
    rw[JN] at D1;have hm:=J2r (b:=b) (a:=a) ok hN hf Dx he (hlim rfl) D1 g hi;have st4':Step (S.setP P').hl (S.setP ((P'.setQ (Q4c P'.q f.own {e with q:={e.q with charged:=e.q.charged+64}} b lim)).setA (put_ P'.a.mem a (Q0d S.P.q.next.toNat)))).hl w3 w4:=by
     rw[<- B3];exact st4
    obtain⟨c1,hp⟩:=B7 hi st4' hm;exact⟨(key st4').1,(key st4').2,.inr ⟨rfl,c1,hp⟩⟩
theorem Q9U{w:World}{S:CO}{x:Nat}(k lim er:Int)(he:er≠0)(hO:Calls prog 150 #[.pointer (some ⟨S.c,0,none⟩),.int .u32 x] w (Told w (.tuple #[.int .i64 0,.int .i64 er]))) :
  Calls prog 79 #[.pointer (some ⟨S.c,0,none⟩),.int .u32 x,.int .i64 k,.int .i64 lim] w (Told w (.tuple #[.int .u32 0,.int .i64 er])):=by
 have Aw:(er==0)=false:=by simpa using he
 have Ai:(er != 0)=true:=by simpa using he
 go_enter func79,ntmps79;go_wp2_with fail;refine hO.mono ?_;rintro r w1⟨rfl,hb⟩;have HB:Hid (Told w (.tuple #[.int .u32 0,.int .i64 er]) (.returned (.tuple #[.int .u32 0,.int .i64 er])) w1):=⟨rfl,hb⟩
 clear hb;go_wp2_with fail
 (try go_ret2);exact HB.out
theorem Z7c{w:World}{S:CO}{x:Nat}(own:Nat)(k lim:Int)(hk:¬(k=8∨1<=k/\k<=5)∨k=1/\lim<0)(hO:Calls prog 150 #[.pointer (some ⟨S.c,0,none⟩),.int .u32 x] w (Told w (.tuple #[.int .i64 own,.int .i64 0]))) :
  Calls prog 79 #[.pointer (some ⟨S.c,0,none⟩),.int .u32 x,.int .i64 k,.int .i64 lim] w (Told w (.tuple #[.int .u32 0,.int .i64 1])):=by
 have HM:Hid (∀w1,Below w.heap.size w w1->Calls prog 151 #[.int .i64 k] w1 (fun r w'=>r=.returned (.bool (decide (k=8∨1<=k/\k<=5)))/\w1=w')/\Told w (.tuple #[.int .u32 0,.int .i64 1]) (.returned (.tuple #[.int .u32 0,.int .i64 1])) w1):=fun w1 hb=>⟨Z2u w1 k,rfl,hb⟩
 have Ay:decide (k=8∨1<=k/\k<=5)=false∨decide (k=8∨1<=k/\k<=5)=true/\k=1/\lim<0:=by
  by_cases hm:k=8∨1<=k/\k<=5
  ·rcases hk with hk|hk
   ·exact absurd hm hk
   ·exact .inr ⟨by rw[decide_eq_true_eq];exact hm,hk⟩
  ·exact .inl (by rw[decide_eq_false_iff_not];exact hm)
 clear hk;generalize decide (k=8∨1<=k/\k<=5)=m at *
 rcases Ay with rfl|⟨rfl,rfl,hl⟩
 all_goals
  go_enter func79,ntmps79;go_wp2_with fail;refine hO.mono ?_;rintro r w1⟨rfl,hb⟩;obtain⟨Gh,hx⟩:=HM.out w1 hb;have HX:=Q0a hx;clear hb hx hO;go_wp2_with fail;refine Gh.mono ?_;rintro r w2⟨rfl,rfl⟩;clear Gh;go_wp2_with fail
  (try go_ret2);exact HX.out
theorem Z3V{w:World}{S:CO}{fr:List Nat}{N K:Nat}(h:Sep w S.hl)(ok:S.Ok fr N K)(hN:N+1<1048576){x:Nat}(hx:x<4294967296){f:Pl}(hf:pget S.l 1 x=some f)(Dx:f.kind=1){n:Nat}(hn:n=8∨1<=n/\n<=5){lim:Int}(hlim:n=1->0<=lim) :
  Calls prog 79 #[.pointer (some ⟨S.c,0,none⟩),.int .u32 x,.int .i64 n,.int .i64 lim] w (MakeR S fr x n lim w):=by
 have hO:=Q6w h ok hx hf Dx;have HC:Hid (∀w1,Below w.heap.size w w1->_):=fun w1 hb=>Z3U (w1:=w1) h hb ok hN hf Dx hn hlim
 have HM:Hid (∀w1,Calls prog 151 #[.int .i64 n] w1 (fun r w'=>r=.returned (.bool true)/\w1=w')):=fun w1=>by
  have:=Z2u w1 (n:Int);rw[show decide ((n:Int)=8∨1<=(n:Int)/\(n:Int)<=5)=true by rw[decide_eq_true_eq];omega] at this;exact this
 have Ay:(n:Int)=1/\0<=lim∨((n:Int)==1)=false:=by
  by_cases h1:n=1
  ·exact .inl ⟨by omega,hlim h1⟩
  ·exact .inr (by simp;omega)
 generalize MakeR S fr x n lim w=Q at *
 generalize f.own=own at *
 clear h ok hN hf Dx hn hlim;generalize (n:Int)=nz at *
 rcases Ay with ⟨rfl,h0⟩|h0
 all_goals
  go_enter func79,ntmps79;go_wp2_with fail;refine hO.mono ?_;rintro r w1⟨rfl,hb⟩;have hc:=HC.out w1 hb;have Gh:=HM.out w1;clear hb hO HC HM;go_wp2_with fail;refine Gh.mono ?_;rintro r w2⟨rfl,rfl⟩;clear Gh;go_wp2_with fail;refine hc.mono ?_;rintro r w2 (⟨er,Co,rfl,hx⟩|⟨a,rfl,hx⟩)
  ·have HX:=Q0a hx;have Aw:(er==0)=false:=by simpa using Co
   have Ai:(er != 0)=true:=by simpa using Co
   clear hx hc Co;go_wp2_with fail
   (try go_ret2);exact HX.out
  ·have HX:=Q0a hx;clear hx hc;go_wp2_with fail;refine(HX.out _ ((Below.refl _ _).alloc (J3b _) _)).mono ?_;rintro r w4⟨hk,Be,hx⟩;have hB:∀i v,(w2.alloc (.cells #[.int .i64 _,.int .i64 a,.int .i64 own] 54)).cell? ⟨w2.heap.size,i,none⟩=some v->w4.cell? ⟨w2.heap.size,i,none⟩=some v:=fun i v hv=>(World.cell?_of_block (hk _ (J3b _) (by simp))).trans hv
   have e0:=hB 0 _ ((Cells.new w2 54 [.int .i64 _,.int .i64 a,.int .i64 own]).cell 0 _ rfl);have e1:=hB 1 _ ((Cells.new w2 54 [.int .i64 _,.int .i64 a,.int .i64 own]).cell 1 _ rfl);have e2:=hB 2 _ ((Cells.new w2 54 [.int .i64 _,.int .i64 a,.int .i64 own]).cell 2 _ rfl);have Ab:w2.heap.size<w4.heap.size:=by rw[World.size_alloc] at Be;omega
   clear hk Be hB HX;rcases hx with ⟨er,Co,rfl,hx⟩|⟨rfl,c1,hx⟩
   ·have HX:=Q0a hx;have Aw:(er==0)=false:=by simpa using Co
    have Ai:(er != 0)=true:=by simpa using Co
    clear hx Co;go_wp2_with fail;refine HX.out.mono ?_;rintro r w5⟨rfl,hx⟩;have HY:=Q0a hx;clear hx HX;go_wp2_with fail
    (try go_ret2);exact HY.out
   ·have HX:=Q0a hx;have x1:w4.drew.cell? ⟨S.c,1,none⟩=some (.pointer (some ⟨S.t,0,none⟩)):=c1;have f0:w4.drew.cell? ⟨w2.heap.size,0,none⟩=_:=e0;have f1:w4.drew.cell? ⟨w2.heap.size,1,none⟩=_:=e1;have f2:w4.drew.cell? ⟨w2.heap.size,2,none⟩=_:=e2;clear hx;go_wp2_with fail
    go_region_held3 (fun w'=>w'.cell? ⟨S.c,1,none⟩=some (.pointer (some ⟨S.t,0,none⟩))/\w'.cell? ⟨w2.heap.size,0,none⟩=w4.cell? ⟨w2.heap.size,0,none⟩/\w'.cell? ⟨w2.heap.size,1,none⟩=some (.int .i64 a)/\w'.cell? ⟨w2.heap.size,2,none⟩=some (.int .i64 own)) (first|exact⟨c1,rfl,e1,e2⟩|exact⟨x1,rfl,f1,f2⟩|exact⟨t0,t1,t2,t3⟩)
     (first|(go_at_call 149;refine HX.out.mono ?_;rintro r w5⟨y,rfl,t0,tk,hx⟩;have t1:w5.cell? ⟨w2.heap.size,0,none⟩=w4.cell? ⟨w2.heap.size,0,none⟩:=World.cell?_of_block (tk _ (J3b _) Ab);have t2:=(World.cell?_of_block (w:=w4) (tk _ (J3b _) Ab)).trans e1;have t3:=(World.cell?_of_block (w:=w4) (tk _ (J3b _) Ab)).trans e2;have HY:=Q0a hx;clear hx tk))
    go_wp2_with fail
    (try go_ret2);exact HY.out
theorem Q6O{w:World}{S:CO}{fr:List Nat}{N K:Nat}(h:Sep w S.hl)(ok:S.Ok fr N K)(hN:N+1<1048576){x:Nat}(hx:x<4294967296)(k lim:Int) :
  Calls prog 79 #[.pointer (some ⟨S.c,0,none⟩),.int .u32 x,.int .i64 k,.int .i64 lim] w (MakeR S fr x k lim w):=by
 cases hp:pget S.l 1 x with
 | none =>
  refine(Q9U k lim 8 (by decide) (Q5M (by decide) (Q4M h ok.inv.lok hx 1 hp))).mono ?_;rintro r w'⟨rfl,hb⟩;exact .inl ⟨hp,rfl,h.grown hb⟩
 | some f =>
  by_cases hk:f.kind=1
  ·have hO:=Q6w h ok hx hp hk;by_cases JL:¬(k=8∨1<=k/\k<=5)∨k=1/\lim<0
   ·refine(Z7c f.own k lim JL hO).mono ?_;rintro r w'⟨rfl,hb⟩;exact .inr ⟨f,hp,.inr (.inl ⟨hk,JL,rfl,h.grown hb⟩)⟩
   ·have Dm:∃n:Nat,k=(n:Int)/\(n=8∨1<=n/\n<=5)/\(n=1->0<=lim):=⟨k.toNat,by omega,by omega,by omega⟩
    obtain⟨n,rfl,h1,h2⟩:=Dm;exact Z3V h ok hN hx hp hk h1 h2
  ·refine(Q9U k lim 10 (by decide) (Q5M (by decide) (Q3t h ok.inv.lok hx 1 hp (by decide) (by omega)))).mono ?_;rintro r w'⟨rfl,hb⟩;exact .inr ⟨f,hp,.inl ⟨hk,rfl,h.grown hb⟩⟩
end Go.Proofs.YtfidemmgofcnmaaGreatDoor
