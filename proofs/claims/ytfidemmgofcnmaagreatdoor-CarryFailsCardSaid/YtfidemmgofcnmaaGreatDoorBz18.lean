/- What the laws of spaces share is proved. No condition. Part of a proof. -/
import Derived.Test.YtfidemmgofcnmaaGreatDoorBz17
set_option maxHeartbeats 4000000
set_option maxRecDepth 100000
set_option linter.unusedVariables false
namespace Go.Proofs.YtfidemmgofcnmaaGreatDoor
open Go.RowKit Go.Proofs.Tryz
theorem Step.aside{H H':HL}{w w1 w2:World}(st:Step H H' w w1){F:Nat->Prop}(hc:Chg F w1 w2)(hF:∀b,F b->w.heap.size<=b/\b∉keys H')(CR:GB<=w.heap.size):Step H H' w w2:=
 ⟨st.sep.chg hc (fun b hb hf=>(hF b hf).2 hb) (fun b hf=>J3i CR (hF b hf).1),st.chg.trans hc (fun i hi=>.inr (hF i hi).1),st.new⟩
theorem Step.set_aside{H H':HL}{w w1:World}(st:Step H H' w w1){b:Nat}(hb:w.heap.size<=b)(hk:b∉keys H')(CR:GB<=w.heap.size)(i:Nat)(v:Value):Step H H' w (w1.setCell ⟨b,i,none⟩ v):=
 st.aside (F:=fun k=>k=b) ((Chg.refl _ _).set _ _ (.inl rfl)) (fun k BC=>by subst BC;exact⟨hb,hk⟩) CR
def FO.dropped(q:FO)(e:En Nd):FO:={q with N:=Q0F q.N e 0}
theorem FO.cutRow{w:World}{q:FO}(h:Sep w q.hl)(ok:q.Ok){e p:En Nd}(he:find q.N e.id=some e)(hp:find q.N e.q.par=some p){b:Nat}(hb:w.cell? ⟨b,0,none⟩=some (.int .i64 e.id))(AJ:b∉keys q.hl)(FF:b<w.heap.size) :
  ∃g cap:Nat,q.kr e.q.par=some (g,cap)/\Calls prog 240 #[.slice (some ⟨g,0,none⟩) p.q.ks.length cap,Z6x b] w fun r w'=>r=.returned (.slice (some ⟨g,0,none⟩) (cutK p.q e.id).ks.length cap) /\
   (w'.cell? ⟨b,0,none⟩=some (.int .i64 e.id))/\w'.frozen? ⟨p.b,3,none⟩=false/\(∃v,w'.cell? ⟨p.b,3,none⟩=some v) /\
   Step q.hl (q.setN e.q.par (cutK p.q e.id) (some (g,cap))).hl w (w'.setCell ⟨p.b,3,none⟩ (.slice (some ⟨g,0,none⟩) (cutK p.q e.id).ks.length cap)):=by
 obtain⟨BT,_⟩:=Q0d he;obtain⟨F7,FQ⟩:=Q0d hp;have Bj:e.id∈p.q.ks:=by
  obtain⟨p',AG,hk⟩:=(ok.n.par e BT).2 (by have:=ok.n.rng p F7;omega);rw[hp] at AG;cases AG;exact hk
 have AA:=ok.rv p F7;rw[FQ] at AA;obtain⟨R,p1,p2⟩:=FO.split ok.n.ids hp;cases Dj:q.kr e.q.par with
 | none =>
  rw[Dj] at AA;have:p.q.ks.length=0:=AA;rw[J5a] at this;rw[this] at Bj;cases Bj
 | some gc =>
  obtain⟨g,cap⟩:=gc;rw[Dj] at AA p1;obtain⟨AW,On⟩:p.q.ks.length<=cap/\cap<=maxLen:=AA;refine⟨g,cap,rfl,?_⟩;have pm:∀(Z:HL) (a:Nat×(Obj->Prop)),((a::Z)++R).Perm (Z++(a::R)):=fun Z a=>J6F.symm
  have h':Sep w (rowH (some (g,cap)) 3 1 (p.q.ks.map encI)++((p.b,isC 285 (p.q.cells (some (g,cap))))::R)):=h.perm (p1.trans (pm _ _));obtain⟨ds,I1,EB,Sn⟩:=h'.left.row (b:=g) (T:=3) (n:=cap*1) (cs:=p.q.ks.map encI) (by simp[rowH]);rw[J4h] at EB;rw[J4K] at Sn;have G1:g∈keys q.hl:=by
   have:g∈keys (rowH (some (g,cap)) 3 1 (p.q.ks.map encI)++((p.b,isC 285 (p.q.cells (some (g,cap))))::R)):=by simp[rowH,keys]
   exact((p1.trans (pm _ _)).map Prod.fst).mem_iff.2 this
  have Fg:b≠g:=fun x=>AJ (x ▸ G1)
  have Cy:=ok.n.kids_few F7;have Ie:=ok.few;have PQ:fltK p.q.ks e.id=(cutK p.q e.id).ks:=by
   unfold fltK cutK;exact J5T fun x _=>by by_cases hx:x=e.id <;> simp[hx]
  refine(Q9q p.q.ks e.id b g cap w ds hb Fg I1 AW EB (by rw[Sn]) (by omega)).mono ?_;rintro r w'⟨hr,⟨cs,AO,Bi,OX⟩,hg⟩;rw[PQ] at hr OX;have s1:=Sep.turn (A:=[]) (B:=(p.b,isC 285 (p.q.cells (some (g,cap))))::R) (q':=isR 3 (cap*1) ((cutK p.q e.id).ks.map encI)) h' hg ⟨_,AO,cs.toArray,rfl,by simpa using Bi,by
   rw[J4K]
   simpa using OX⟩
  have hc:=s1.sep.cells (b:=p.b) (T:=285) (cs:=p.q.cells (some (g,cap))) (by simp);have s2:=Sep.set (A:=[(g,isR 3 (cap*1) ((cutK p.q e.id).ks.map encI))]) (B:=R) s1.sep 3 (.slice (some ⟨g,0,none⟩) (cutK p.q e.id).ks.length cap);have RU:(p.q.cells (some (g,cap))).set 3 (.slice (some ⟨g,0,none⟩) (cutK p.q e.id).ks.length cap)=(cutK p.q e.id).cells (some (g,cap)):=rfl;rw[RU] at s2;refine⟨hr,hg.cell hb (by simpa using Fg),hc.free 3,⟨_,hc.cell 3 _ rfl⟩,(s1.trans s2).perm ((p1.trans (pm _ _)).symm) ?_⟩;exact((p2 (cutK p.q e.id) (some (g,cap)) rfl rfl).trans (pm _ _)).symm
def Z9i(q:FO)(e:En Nd)(w w':World):Prop:=Step q.hl ((q.dropped e).hl++ndH q.kr e) w w'
theorem Z9j{q:FO}(ok:q.Ok){e p:En Nd}(hp:find q.N e.q.par=some p){rv:RV}(Dj:q.kr e.q.par=rv):(q.setN e.q.par (cutK p.q e.id) rv).cut e.id=q.dropped e/\(q.setN e.q.par (cutK p.q e.id) rv).kr=q.kr:=by
 have hk:(fun j=>if j=e.q.par then rv else q.kr j)=q.kr:=by
  funext j;split
  ·rename_i h;rw[h];exact Dj.symm
  ·rfl
 refine⟨?_,hk⟩;unfold FO.cut FO.setN FO.dropped;simp only[hk];rw[Z9f ok.n.ids hp]
theorem Z6z{q:FO}{e:En Nd}(he:find q.N e.id=some e)(Ac:e.id≠e.q.par)(n:Nd)(rv:RV):find (q.setN e.q.par n rv).N e.id=some e:=by
 show find (mapE _ q.N) e.id=_;rw[Q1n,he];simp only[J4P,if_neg Ac]
def Q0y(w:World)(id:Int):World:=(w.alloc (.cells #[.int .i64 id] 3)).alloc (.cells #[.int .i64 0,.int .i64 0] 173)
theorem Q2G(w:World)(id:Int):Below w.heap.size w (Q0y w id):=((Below.refl _ _).alloc (J3h _) _).alloc (by simp) _
structure J1w(q q1:FO)(e:En Nd)(w w3:World):Prop where
 c0:w3.cell? ⟨q.f,0,none⟩=some (.map (some q.m))
 c1:w3.cell? ⟨q.f,1,none⟩=some (.map (some q.o))
 b0:w3.cell? ⟨w.heap.size,0,none⟩=some (.int .i64 e.id)
 del:∃w5,(Builtin.delete_ #[280,3] 0 #[.map (some q.m),.int .i64 e.id]).run prog w3.drew=.ok (.tuple #[]) w5/\(w5.cell? ⟨q.f,1,none⟩=some (.map (some q.o))/\w5.cell? ⟨e.b,0,none⟩=some (.int .i64 e.q.sp)/\w5.cell? ⟨e.b,1,none⟩=some (.int .i64 e.q.sl)) /\
  ∃w7,(Builtin.delete_ #[281,173] 0 #[.map (some q.o),.agg #[.int .i64 e.q.sp,.int .i64 e.q.sl]]).run prog w5.drew=.ok (.tuple #[]) w7/\(w7.cell? ⟨e.b,0,none⟩=some (.int .i64 e.q.sp)/\w7.cell? ⟨e.b,1,none⟩=some (.int .i64 e.q.sl))/\Cells w7 (w.heap.size+1) 173 [.int .i64 0,.int .i64 0] /\
   ∀u v,Z9i q e w ((w7.setCell ⟨w.heap.size+1,0,none⟩ u).setCell ⟨w.heap.size+1,1,none⟩ v)
theorem Q9r{w w2 w3:World}{q q1:FO}{e:En Nd}(h:Sep w q.hl)(ok:q.Ok)(Ae:Below (Q0y w e.id).heap.size (Q0y w e.id) w2)(st:Step q.hl q1.hl w w3)(Eh:find q1.N e.id=some e)(Ai:q1.N.Pairwise (fun a b=>a.id≠b.id))(hs:q1.N.Pairwise (fun a b=>(a.q.sp,a.q.sl)≠(b.q.sp,b.q.sl)))(hn:∀e∈q1.N,0<=e.q.sp/\e.q.sp<4294967296/\0<=e.q.sl/\e.q.sl<256)
  (e1:q1.cut e.id=q.dropped e) (e2:q1.kr=q.kr) (f1:q1.f=q.f) (f2:q1.m=q.m) (f3:q1.o=q.o) (Bv:w3.cell? ⟨w.heap.size,0,none⟩=some (.int .i64 e.id)) (Aj:Cells w3 (w.heap.size+1) 173 [.int .i64 0,.int .i64 0]) (EF:∀b∈keys q1.hl,b∈keys q.hl):J1w q q1 e w w3:=by
 have CR:GB<=w.heap.size:=h.env.gb;have A6:=st.sep;obtain⟨w5,r5,s5,Fy⟩:=FO.delSteps A6.drew Ai hs hn Eh 3 0 173 0;obtain⟨w7,r7,s7⟩:=Fy w5.drew (Below.refl _ _).drew;rw[f2] at r5;rw[f3] at r7;have nd5:Cells w5 e.b 285 (e.q.cells (q1.kr e.id)):=by
  obtain⟨A,B,hN,_,_⟩:=Q4z Ai Eh;exact s5.sep.cells (by rw[hN];simp[ndH])
 have nd7:Cells w7 e.b 285 (e.q.cells (q1.kr e.id)):=s7.sep.right.cells (by simp[ndH]);have st7:Step q.hl ((q1.cut e.id).hl++ndH q1.kr e) w w7:=st.trans s7.from_drew;rw[e1,e2] at st7;have c1:=FO.c1 A6;have SZ:w5.cell? ⟨q1.f,1,none⟩=some (.map (some q1.o)):=(s5.sep.cells (b:=q1.f) (T:=283) (cs:=[.map (some q1.m),.map (some q1.o),.int .i64 q1.next]) (by simp[FO.head])).cell 1 _ rfl;rw[f1,f3] at SZ;have Pc:=FO.c0 A6;rw[f1,f2] at Pc;rw[f1,f3] at c1;refine⟨Pc,c1,Bv,w5,r5,⟨SZ,nd5.cell 0 _ rfl,nd5.cell 1 _ rfl⟩,w7,r7,⟨nd7.cell 0 _ rfl,nd7.cell 1 _ rfl⟩,Aj.same (s7.from_drew.chg.block _ Aj.lt fun hk=>by have:=h.lt (EF _ hk);omega),fun u v=>?_⟩
 have Ed:w.heap.size+1∉keys ((q.dropped e).hl++ndH q.kr e):=fun hk=>by
  rw[<- e1,<- e2] at hk;have h1:=((FO.cut_perm Ai Eh).map Prod.fst).mem_iff.2 hk;have h2:w.heap.size+1∈keys q1.hl:=by
   simpa[FO.hl,keys] using h1
  have:=h.lt (EF _ h2);omega
 exact(st7.set_aside (J7p _) Ed CR 0 u).set_aside (J7p _) Ed CR 1 v
theorem Z6A{q:FO}(Ai:q.N.Pairwise (fun a b=>a.id≠b.id)){id:Int}{c:En Nd}(hf:find q.N id=some c){n:Nd}{g cap:Nat}(Dj:q.kr id=some (g,cap))(h1:n.sp=c.q.sp)(h2:n.sl=c.q.sl):∀b∈keys (q.setN id n (some (g,cap))).hl,b∈keys q.hl:=fun b hb=>by
 obtain⟨R,p1,p2⟩:=FO.split Ai hf;rw[Dj] at p1;have k1:=((p2 n (some (g,cap)) h1 h2).map Prod.fst).mem_iff.1 hb;exact(p1.map Prod.fst).mem_iff.2 (by simpa[rowH] using k1)
theorem Z3p{w:World}{q:FO}(h:Sep w q.hl)(ok:q.Ok){e p:En Nd}(he:find q.N e.id=some e)(hp:find q.N e.q.par=some p) :
  ∃g cap:Nat,∀w2,Below (Q0y w e.id).heap.size (Q0y w e.id) w2->w2.cell? ⟨e.b,2,none⟩=some (.int .i64 e.q.par) /\
   Calls prog 180 #[.pointer (some ⟨q.f,0,none⟩),.int .i64 e.q.par] w2 (fun r w'=>r=.returned (.pointer (some ⟨p.b,0,none⟩))/\w2=w')/\w2.cell? ⟨p.b,3,none⟩=some (.slice (some ⟨g,0,none⟩) p.q.ks.length cap) /\
   Calls prog 240 #[.slice (some ⟨g,0,none⟩) p.q.ks.length cap,.func (.func 241) #[] #[.pointer (some ⟨w.heap.size,0,none⟩)]] w2 fun r w3=>r=.returned (.slice (some ⟨g,0,none⟩) (cutK p.q e.id).ks.length cap)/\w3.frozen? ⟨p.b,3,none⟩=false/\(∃v,w3.cell? ⟨p.b,3,none⟩=some v) /\
    ∃q1,J1w q q1 e w (w3.setCell ⟨p.b,3,none⟩ (.slice (some ⟨g,0,none⟩) (cutK p.q e.id).ks.length cap)):=by
 obtain⟨BT,_⟩:=Q0d he;obtain⟨F7,FQ⟩:=Q0d hp;have Ac:e.id≠e.q.par:=by have:=ok.n.rise e BT;omega
 have hB:=Q2G w e.id;have JP:Cells (Q0y w e.id) w.heap.size 3 [.int .i64 e.id]:=(Cells.new w 3 [.int .i64 e.id]).alloc (.cells #[.int .i64 0,.int .i64 0] 173);have Br:(Q0y w e.id).heap.size=w.heap.size+2:=by simp[Q0y]
 have facts:∀w2,Below (Q0y w e.id).heap.size (Q0y w e.id) w2->Below w.heap.size w w2/\w2.cell? ⟨w.heap.size,0,none⟩=some (.int .i64 e.id)/\w.heap.size+2<=w2.heap.size:=fun w2 hb=>⟨hB.trans (hb.mono (by omega)),(JP.same (hb.block _ (by omega))).cell 0 _ rfl,by have:=hb.size;omega⟩
 have Ed:w.heap.size∉keys q.hl:=fun hk=>by have:=h.lt hk;omega
 obtain⟨g,cap,Dj,_⟩:=FO.cutRow (w:=Q0y w e.id) (h.grown hB).sep ok he hp (b:=w.heap.size) (JP.cell 0 _ rfl) Ed (by omega);refine⟨g,cap,fun w2 hb=>?_⟩;obtain⟨Al,Bv,Km⟩:=facts w2 hb;have s2:=(h.grown Al).sep;have c3:=(FO.nd0 s2 hp).2.2.2;rw[FQ,Dj] at c3;refine⟨(FO.nd0 s2 he).2.2.1,Q3r s2 hp,c3,?_⟩;obtain⟨g',Cn,NI,AI⟩:=FO.cutRow s2 ok he hp Bv Ed (by omega);rw[Dj] at NI;cases NI;refine AI.mono ?_;rintro r w3⟨rfl,Am,Cw,Bx,st⟩;obtain⟨e1,e2⟩:=Z9j ok (e:=e) hp Dj;refine⟨rfl,Cw,Bx,q.setN e.q.par (cutK p.q e.id) (some (g,cap)),?_⟩;refine Q9r h ok hb ((h.grown Al).trans st) (Z6z he Ac _ _) (Q1S (fun _ _ h=>h) ok.n.ids) ?_ ?_ e1 e2 rfl rfl rfl ?_ ?_ (Z6A ok.n.ids hp Dj rfl rfl)
 ·show(mapE _ q.N).Pairwise _;unfold mapE;refine J3L.2 (J6J ?_ ok.n.spots);intro a b ha hb Dx;have sp:∀c∈q.N,(if c.id=e.q.par then cutK p.q e.id else c.q).sp=c.q.sp/\(if c.id=e.q.par then cutK p.q e.id else c.q).sl=c.q.sl:=fun c hc=>by
   split
   ·rename_i D0;rw[Q9o ok.n.ids hc D0 hp];exact⟨rfl,rfl⟩
   ·exact⟨rfl,rfl⟩
  simp only[(sp a ha).1,(sp a ha).2,(sp b hb).1,(sp b hb).2];exact Dx
 ·intro d hd;obtain⟨c,hc,rfl⟩:=Q1x (show d∈mapE _ q.N from hd);have:=ok.n.sm c hc;simp only;split
  ·rename_i D0;rw[Q9o ok.n.ids hc D0 hp] at this;exact this
  ·exact this
 ·have Ac:w.heap.size≠p.b:=fun hx=>Ed (by
   have:p.b∈keys q.hl:=by
    obtain⟨A,B,hN,_,_⟩:=Q4z ok.n.ids hp;simp only[FO.hl,keys,J3k,List.map_flatMap];refine J7q _ (J7q _ (J7q _ (J3G.2 ⟨p,F7,?_⟩)));simp[ndH]
   rw[hx];exact this)
  exact(World.cell?_of_block (Below.heap_setCell _ _ _ _ (by simpa using Ac))).trans Am
 ·have BA:Cells (Q0y w e.id) (w.heap.size+1) 173 [.int .i64 0,.int .i64 0]:=by
   have:=Cells.new (w.alloc (.cells #[.int .i64 e.id] 3)) 173 [.int .i64 0,.int .i64 0];rw[show(w.alloc (.cells #[.int .i64 e.id] 3)).heap.size=w.heap.size+1 by simp] at this;exact this
  have NZ:=BA.same (hb.block _ (by omega));exact NZ.same (st.chg.block _ NZ.lt fun hk=>by have:=h.lt hk;omega)
theorem Z6B{w:World}{q:FO}(h:Sep w q.hl)(ok:q.Ok){e p:En Nd}(he:find q.N e.id=some e)(hp:find q.N e.q.par=some p) :
  Calls prog 216 #[.pointer (some ⟨q.f,0,none⟩),.int .i64 e.id] w fun r w'=>(∃v,r=.returned v)/\Z9i q e w w':=by
 have hb:=Q2G w e.id;have JP:=(Cells.new w 3 [.int .i64 e.id]).alloc (.cells #[.int .i64 0,.int .i64 0] 173);have b0:=JP.cell 0 _ rfl;have DM:=(h.grown hb).sep;have c0:=FO.c0 DM;have hl:=FO.look_some DM he;have SS:(Q0y w e.id).drew.cell? ⟨q.f,0,none⟩=some (.map (some q.m)):=c0;have b0d:(Q0y w e.id).drew.cell? ⟨w.heap.size,0,none⟩=some (.int .i64 e.id):=b0;have PK:=FO.look_some DM.drew he;obtain⟨g,cap,BY⟩:=Z3p h ok he hp;obtain⟨k2,FT,k3,Na⟩:=BY _ (Below.refl _ _).drew;have Hm:=Q0a Na;unfold Q0y at *
 clear h ok he hp hb DM JP BY Na;go_enter func216,ntmps216;go_wp2_with fail;go_region;go_wp2_with fail;refine FT.mono ?_;rintro r w'⟨rfl,rfl⟩;go_wp2_with fail;refine Hm.out.mono ?_;rintro r w3⟨rfl,Cw,⟨v,Bx⟩,q1,hE⟩;obtain⟨P3,VU,b0e,w5,r5,⟨Rn,e05,e15⟩,w7,r7,⟨e07,e17⟩,Aj,hz⟩:=hE;have HZ:=Q0a hz;generalize (cutK p.q e.id).ks.length=kl at *
 have PJ:(w3.setCell ⟨p.b,3,none⟩ (.slice (some ⟨g,0,none⟩) kl cap)).drew.cell? ⟨q.f,0,none⟩=some (.map (some q.m)):=P3;have b0e':(w3.setCell ⟨p.b,3,none⟩ (.slice (some ⟨g,0,none⟩) kl cap)).drew.cell? ⟨w.heap.size,0,none⟩=some (.int .i64 e.id):=b0e;have RY:w5.drew.cell? ⟨q.f,1,none⟩=some (.map (some q.o)):=Rn;have e05':w5.drew.cell? ⟨e.b,0,none⟩=some (.int .i64 e.q.sp):=e05;have e15':w5.drew.cell? ⟨e.b,1,none⟩=some (.int .i64 e.q.sl):=e15;clear hz Hm FT hl PK c0 SS b0 b0d k2 k3;go_wp2_with fail;go_region;go_wp2_with fail;go_region;have g0:=Aj.cell 0 _ rfl;have g1:=Aj.cell 1 _ rfl
 have gf0:=Aj.free 0;have gf1:=Aj.free 1;have glt:=Aj.lt;clear Aj;go_wp2_with fail;refine bodyPost_ret (v:=.agg #[.int .i64 e.q.sp,.int .i64 e.q.sl]) (by simp[results,results216,go_sem,g0,g1]) rfl ⟨⟨_,rfl⟩,HZ.out _ _⟩
theorem Z3q{w:World}{q:FO}(h:Sep w q.hl)(ok:q.Ok){e:En Nd}(he:find q.N e.id=some e)(hp:find q.N e.q.par=none) :
  Calls prog 216 #[.pointer (some ⟨q.f,0,none⟩),.int .i64 e.id] w fun r w'=>(∃v,r=.returned v)/\Z9i q e w w':=by
 have hb:=Q2G w e.id;have JP:=(Cells.new w 3 [.int .i64 e.id]).alloc (.cells #[.int .i64 0,.int .i64 0] 173);have b0:=JP.cell 0 _ rfl;have DM:=(h.grown hb).sep;have c0:=FO.c0 DM;have hl:=FO.look_some DM he;have SS:(Q0y w e.id).drew.cell? ⟨q.f,0,none⟩=some (.map (some q.m)):=c0;have b0d:(Q0y w e.id).drew.cell? ⟨w.heap.size,0,none⟩=some (.int .i64 e.id):=b0;have PK:=FO.look_some DM.drew he;have FT:=Q5q DM.drew hp;have k2:=(FO.nd0 DM.drew he).2.2.1;have BA:Cells (Q0y w e.id) (w.heap.size+1) 173 [.int .i64 0,.int .i64 0]:=by
  have:=Cells.new (w.alloc (.cells #[.int .i64 e.id] 3)) 173 [.int .i64 0,.int .i64 0];rw[show(w.alloc (.cells #[.int .i64 e.id] 3)).heap.size=w.heap.size+1 by simp] at this;exact this
 have Aw:∀c∈q.N,c.id≠e.q.par:=fun c hc hx=>by
  have:=Q0q ok.n.ids hc;rw[hx,hp] at this;cases this
 have e1:q.cut e.id=q.dropped e:=by
  unfold FO.cut FO.dropped;rw[Z6u Aw]
 have hE:J1w q q e w (Q0y w e.id).drew:=Q9r h ok ((Below.refl _ _).drew) ((h.grown hb).drew) he ok.n.ids ok.n.spots (fun c hc=>ok.n.sm c hc) e1 rfl rfl rfl rfl b0d BA (fun _ h=>h);obtain⟨P3,VU,b0e,w5,r5,⟨Rn,e05,e15⟩,w7,r7,⟨e07,e17⟩,Aj,hz⟩:=hE;have HZ:=Q0a hz;have PJ:(Q0y w e.id).drew.drew.cell? ⟨q.f,0,none⟩=some (.map (some q.m)):=P3;have b0e':(Q0y w e.id).drew.drew.cell? ⟨w.heap.size,0,none⟩=some (.int .i64 e.id):=b0e;have RY:w5.drew.cell? ⟨q.f,1,none⟩=some (.map (some q.o)):=Rn;have e05':w5.drew.cell? ⟨e.b,0,none⟩=some (.int .i64 e.q.sp):=e05;have e15':w5.drew.cell? ⟨e.b,1,none⟩=some (.int .i64 e.q.sl):=e15
 have g0:=Aj.cell 0 _ rfl;have g1:=Aj.cell 1 _ rfl;have gf0:=Aj.free 0;have gf1:=Aj.free 1;have glt:=Aj.lt;clear h ok he hp hb DM JP BA Aw e1 hz Aj;unfold Q0y at *
 go_enter func216,ntmps216;go_wp2_with fail;go_region;go_wp2_with fail;refine FT.mono ?_;rintro r w'⟨rfl,rfl⟩;clear FT hl PK c0 b0 k2;go_wp2_with fail;go_region;go_wp2_with fail;go_region;go_wp2_with fail;refine bodyPost_ret (v:=.agg #[.int .i64 e.q.sp,.int .i64 e.q.sl]) (by simp[results,results216,go_sem,g0,g1]) rfl ⟨⟨_,rfl⟩,HZ.out _ _⟩
theorem Z6C{w:World}{q:FO}(h:Sep w q.hl)(ok:q.Ok){e:En Nd}(he:find q.N e.id=some e) :
  Calls prog 216 #[.pointer (some ⟨q.f,0,none⟩),.int .i64 e.id] w fun r w'=>(∃v,r=.returned v)/\Z9i q e w w':=by
 cases hp:find q.N e.q.par with
 | none=>exact Z3q h ok he hp
 | some p=>exact Z6B h ok he hp
def J2x(q:FO)(e:En Nd)(w w':World):Prop:=∃F':FO,F'.f=q.f/\F'.N=Q0F q.N e e.q.ks.length/\F'.next=q.next/\F'.Ok/\Step q.hl F'.hl w w'
theorem Z6D{w w':World}{q F:FO}{e:En Nd}(ok:q.Ok)(he:find q.N e.id=some e)(L:Z3o q e e.q.ks.length F)(st:Step q.hl (F.hl++ndH q.kr e) w w'):J2x q e w w':=by
 refine⟨F,L.f,L.N,L.next,⟨by rw[L.N,L.next];exact ok.n.lift he,by rw[L.next];exact ok.lim,L.rv,?_⟩,st.drop (J3R _ _)⟩;rw[L.N];unfold Q0F mapE;rw[J4K];exact J3i (Q3L q.N e.id).length_le ok.few
theorem Z3r{q:FO}(ok:q.Ok)(e:En Nd):Z3o q e 0 (q.dropped e):=⟨rfl,rfl,rfl,rfl,rfl,fun c hc=>by
 obtain⟨d,hd,rfl⟩:=Q1x (show c∈mapE _ (rem q.N e.id) from hc);have h0:=ok.rv d (Q7K hd);show rvOk (q.kr d.id) (Q0r e 0 d).ks.length;have Io:(Q0r e 0 d).ks.length<=d.q.ks.length:=by
  unfold Q0r;simp only[J6C,J5h];split
  ·exact J5q _ _
  ·exact J3h _
 cases hk:q.kr d.id with
 | none =>
  rw[hk] at h0;have D1:d.q.ks.length=0:=h0;show(Q0r e 0 d).ks.length=0;omega
 | some gc =>
  rw[hk] at h0;obtain⟨g,cap⟩:=gc;have D1:d.q.ks.length<=cap/\cap<=maxLen:=h0;exact⟨by omega,D1.2⟩⟩
theorem Q9s{w:World}{q:FO}(h:Sep w q.hl)(ok:q.Ok){e:En Nd}(he:find q.N e.id=some e) :
  Calls prog 174 #[.pointer (some ⟨q.f,0,none⟩),.int .i64 e.id] w fun r w'=>(∃v,r=.returned v)/\J2x q e w w':=by
 have ka:=Q3r h he;obtain⟨BT,_⟩:=Q0d he;have kd:=Z6C h ok he;have QN:=ok.n.kids_few BT;have Cy:=ok.few;have HD:=Q0a kd;have C7:=Q0a ok;have HE:=Q0a he;have Ab:e.q.ks.length<=65536:=by omega
 clear kd h ok he BT;go_enter func174,ntmps174;go_wp2_with fail;refine ka.mono ?_;rintro r w1⟨rfl,rfl⟩;go_wp2_with fail;refine HD.out.mono ?_;rintro r w1⟨⟨v,rfl⟩,st⟩;have AY:Cells w1 e.b 285 (e.q.cells (q.kr e.id)):=st.sep.right.cells (by simp[ndH]);have c3:=AY.cell 3 _ rfl;have CH:=Q0a st;have Tl:=Q0a (rfl:e.q.ks.length=e.q.ks.length);have KH:∃(a:Option Addr) (cap:Nat),lvOf (q.kr e.id) e.q.ks.length=.slice a e.q.ks.length cap/\(∀g c,q.kr e.id=some (g,c)->a=some ⟨g,0,none⟩)/\(q.kr e.id=none->e.q.ks.length=0):=by
  have AA:=C7.out.rv e (Q0d HE.out).1;cases Dj:q.kr e.id with
  | none =>
   rw[Dj] at AA;have Cr:e.q.ks.length=0:=AA;exact⟨none,0,by rw[Cr];rfl,fun _ _ h=>by(cases h),fun _=>Cr⟩
  | some gc=>exact⟨some ⟨gc.1,0,none⟩,gc.2,rfl,fun g c h=>by cases h;rfl,fun h=>by cases h⟩
 obtain⟨a0,cap,JB,JM,Bq⟩:=KH;rw[JB] at c3;have Mz:=Q0a JM;have GG:=Q0a Bq;have DW:=Q0a Ab;clear st ka HD AY JB JM Bq QN Cy;go_wp2_with fail
 go_loopg [26] e.q.ks.length (fun gk iv wr=>∃(j:Nat) (F:FO),iv=.int .i64 j/\j+gk=e.q.ks.length/\Z3o q e j F/\Step q.hl (F.hl++ndH q.kr e) w wr)
 case atStart=>exact⟨0,q.dropped e,rfl,by omega,Z3r C7.out e,CH.out⟩
 case round =>
  obtain⟨j,F,rfl,EN,hL,st⟩:=hrel;have HL:=Q0a hL;have Jw:=Q0a EN;have HS:=Q0a st;by_cases hj:j<e.q.ks.length
  ·obtain⟨k,hk⟩:∃k,e.q.ks[j]?=some k:=⟨e.q.ks[j],J5s hj⟩
   have AL:∃g,a0=some ⟨g,0,none⟩/\wr.cell? ⟨g,j,none⟩=some (.int .i64 k):=by
    cases Dj:q.kr e.id with
    | none=>have:=GG.out Dj;omega
    | some gc =>
     have hr:=st.sep.right.tail;rw[Dj] at hr;exact⟨gc.1,Mz.out gc.1 gc.2 Dj,Q0w hr j _ (by rw[J4M,hk];rfl)⟩
   obtain⟨g,rfl,Ec⟩:=AL;obtain⟨c,Gr,⟨f0,e2,Cw,v,Bx⟩,KT,ee2,He⟩:=Q7p C7.out HE.out hL st.sep hk;obtain⟨c',Je,⟨f0',e2',Qc,v',Qo⟩,Qt,ee2',-⟩:=Q7p C7.out HE.out hL st.sep.drew hk;rw[Gr] at Je;obtain rfl:c=c':=J3Y Je;have MB:F.f=q.f:=hL.f;rw[MB] at f0 f0';have hW:=He _ (Below.refl _ _).drew;rw[MB] at hW;have ee2d:(wr.setCell ⟨c.b,2,none⟩ (.int .i64 e.q.par)).drew.cell? ⟨e.b,2,none⟩=some (.int .i64 e.q.par):=ee2;by_cases B8:find q.N e.q.par=none
   ·obtain⟨FT,F',L',st'⟩:=hW.1 B8;have RQ:=Q0a L';have Q4:=Q0a (st.trans st');have NM:(j:Int)<(e.q.ks.length:Int):=by omega
    have Gz:(0:Int)<=(j:Int):=by omega
    have Tm:(j:Int)<65536:=by have:=DW.out;omega
    generalize e.q.ks.length=n at *
    clear He hW Gr Je L' st' hL st hk EN Ab GG;go_wp2_with fail;go_region;go_wp2_with fail;refine FT.mono ?_;rintro r w'⟨rfl,rfl⟩;go_wp2_with fail;go_roundg (n-(j+1))
    case measure=>have:=Jw.out;omega
    case rel=>exact⟨j+1,F',by go_num,by have:=Jw.out;omega,RQ.out,Q4.out⟩
   ·obtain⟨pb,V,FT,TP,⟨ua,un,uc,rfl⟩,V',w',rap,⟨va,vn,vc,rfl⟩,XO,pfr,F',L',st'⟩:=hW.2 B8;have RQ:=Q0a L';have Q4:=Q0a (st.trans st');have NM:(j:Int)<(e.q.ks.length:Int):=by omega
    have Gz:(0:Int)<=(j:Int):=by omega
    have Tm:(j:Int)<65536:=by have:=DW.out;omega
    have Xo:((wr.setCell ⟨c.b,2,none⟩ (.int .i64 e.q.par)).drew.alloc (.cells #[.int .i64 k] 3)).cell? ⟨pb,3,none⟩=some (.slice ua un uc):=(World.cell?_of_block (Below.heap_alloc _ _ _ (World.block_lt_of_cell? _ ⟨pb,3,none⟩ TP))).trans TP;have pf3:=pfr 3;generalize e.q.ks.length=n at *
    clear He hW Gr Je L' st' hL st hk EN Ab GG pfr;go_wp2_with fail;go_region;go_wp2_with fail;refine FT.mono ?_;rintro r w'⟨rfl,rfl⟩;generalize hW0:(wr.setCell ⟨c.b,2,none⟩ (.int .i64 e.q.par)).drew=W0 at *
    clear f0 e2 Cw Bx KT ee2 f0' e2' Qc Qo Qt ee2' ee2d Ec FT hW0;go_wp2_with (at_builtin;refine Lib.wpList_append_run _ rfl _ _ _ _ rfl _ _ rfl rfl _ _ rap ?_);go_roundg (n-(j+1))
    case measure=>have:=Jw.out;omega
    case rel=>exact⟨j+1,F',by go_num,by have:=Jw.out;omega,RQ.out,Q4.out⟩
  ·obtain rfl:j=e.q.ks.length:=by omega
   have HR:=Q0a (Z6D C7.out HE.out hL st);generalize e.q.ks.length=n at *
   clear hL st Ab;go_wp2_with fail
   (try go_ret);exact⟨⟨_,rfl⟩,HR.out⟩
theorem Z3s(a b:Nat)(ha:a<16)(hb:b<16):bits .andNot .i64 (a:Int) (b:Int)=((less a b:Nat):Int):=by
 have:∀a b:Fin 16,bits .andNot .i64 ((a.val:Nat):Int) ((b.val:Nat):Int)=((less a.val b.val:Nat):Int):=by decide +kernel
 exact this ⟨a,ha⟩ ⟨b,hb⟩
theorem Q2t(a b:Nat)(ha:a<16)(hb:b<16):bits .and .i64 (a:Int) (b:Int)=((a&&&b:Nat):Int):=by
 have:∀a b:Fin 16,bits .and .i64 ((a.val:Nat):Int) ((b.val:Nat):Int)=((a.val&&&b.val:Nat):Int):=by decide +kernel
 exact this ⟨a,ha⟩ ⟨b,hb⟩
theorem Q7q{S:CO}{fr:List Nat}{N K:Nat}{tb:Nat->TB}(ok:S.Ok fr N K)(t:TPI S tb){i s:Nat}{p:Pl}(hi:S.l[i]?=some p)(h1:p.st=1)(h2:p.kind=2)(hs:s<256){e e2:Ent}(he:(tb i).en s=some e)(hn:e2.nd=e.nd)(hl:e2.Low){w:World}{g:Nat}(A6:Sep w S.hl)(hg:TblC S p g w) :
  Calls prog 103 #[.pointer (some ⟨g,0,none⟩),.int .i64 s,.int .u64 (e2.a:Nat),.int .u64 (e2.nd:Nat)] w fun r w'=>r=.returned (.int .i64 0)/\J2u S fr N K tb (p.fac:Int) i s (some e2) w w':=by
 have tx:=t.x (p.fac:Int);have Ar:=Q1C ok.inv.len hi;have T:=tx.tt ok hi h1 h2 A6 hg;have EW:(tb i).lf (s/16)≠0:=fun h=>by
  have:=T.tin.hole s hs h;rw[he] at this;cases this
 have OL:e2.nd∈S.P.usedOf 6:=t.nds.mem_iff.1 (J3G.2 ⟨i,J3x.2 Ar,mem_nds.2 ⟨s,e,hs,he,hn.symm⟩⟩);have hm:=Q0k ok.inv.mem.pool OL;have NQ:=Q0g ok.inv.mem.pool;obtain⟨l1,l2⟩:=hl;refine(Z1U ok tx hi h1 h2 rfl hs (xn':=[]) (by rw[TB.nds_same hs he hn]) (by show e2.h+1+4294967296*e2.r<_;omega) (by show e2.nd<_;omega) A6 hg).mono ?_;rintro r w' (⟨rfl,hp⟩|⟨h0,_⟩)
 ·exact⟨rfl,hp.turn t.full⟩
 ·exact absurd h0 EW
def Z0I(Z:SP)(fr:List Nat)(N K:Nat)(M:Int)(m:Nat)(id:Int)(w:World)(b:Bool)(w':World):Prop:=∃Z',Z'.Ok fr N K M/\Q1H m Z.av id=(Z'.av,b)/\SameZ Z Z'/\Step Z.hl Z'.hl w w'
theorem FPI.low{l:List Pl}{tb:Nat->TB}{N:List (En Nd)}(f:FPI l tb N)(lok:LOk l){h s:Nat}{e:Ent}(he:Q0f l tb h s=some e):e.Low:=by
 obtain⟨⟨q,hq,_⟩,hr⟩:=f.cap h s e he;have h1:=pget_some.1 hq;have h2:=lok.2 q (Q1l hq);refine⟨?_,by omega⟩;have:nm (e.h%256) q=e.h:=h1.2.1;unfold nm at this;omega
theorem Q9t{w:World}{Z:SP}{fr:List Nat}{N K:Nat}{M:Int}(hs:Sep w Z.hl)(ok:Z.Ok fr N K M){id:Int}(hf:find Z.F.N id=none)(m:Nat) :
  Calls prog 206 #[.pointer (some ⟨Z.s,0,none⟩),.int .i64 id,.int .i64 m] w fun r w'=>r=.returned (.bool false)/\Z0I Z fr N K M m id w false w':=by
 have c1:=SP.c1 hs;have ko:=Z0F (SP.sF hs) hf;obtain⟨p0,EV,BE,_,FX,XL,_⟩:=ok.core.inv.que.root;have B6:pget Z.S.l 1 0=some p0:=pget_some.2 ⟨EV,by unfold nm;omega,FX⟩;have ks:=Q0K hs ok.core (x:=0) (by omega) 10 (.inr ⟨p0,B6,by omega,rfl⟩);have HR:Hid (∀w',Below w.heap.size w w'->Z0I Z fr N K M m id w false w'):=fun w' hb=>⟨Z,ok,by unfold Q1H;rw[show Z.av.N=Z.F.N from rfl,hf],SameZ.refl Z,hs.grown hb⟩
 clear hs ok hf B6 EV;go_enter func206,ntmps206;go_wp2_with fail;refine ko.mono ?_;rintro r w1⟨rfl,rfl⟩;go_wp2_with fail;refine ks.mono ?_;rintro r w1⟨rfl,hb⟩;have HQ:=Q0a (HR.out _ (hb.alloc hb.size (.cells #[.pointer none,.int .u32 0,.int .i64 0] 191)));clear hb HR ks ko;go_wp2_with fail
 (try go_ret);exact⟨rfl,HQ.out⟩
structure J2X(Z:SP)(fr:List Nat)(N K:Nat)(M:Int)(m:Nat)(id:Int)(h s g:Nat)(p:Pl)(e:Ent)(w w2:World):Prop where
 go:∀w3,Below w2.heap.size w2 w3->w3.cell? ⟨Z.s,1,none⟩=some (.pointer (some ⟨Z.F.f,0,none⟩)) /\
  Calls prog 93 #[.agg #[.pointer (some ⟨g,0,none⟩),.int .u32 h,.int .i64 (p.fac:Int)],.int .i64 s] w3 (Told w3 (.tuple #[.agg #[.int .u32 (e.h:Int),.int .i64 (e.r:Int)],.bool true])) /\
  Calls prog 102 #[.pointer (some ⟨g,0,none⟩),.int .i64 s] w3 (fun r w'=>r=.returned (.tuple #[.int .u64 (e.a:Nat),.int .u64 (e.nd:Nat)])/\w3=w')
 lift:less e.r m=0->∀w3,Below w2.heap.size w2 w3->Calls prog 174 #[.pointer (some ⟨Z.F.f,0,none⟩),.int .i64 id] w3 fun r w4=>(∃v,r=.returned v)/\(∀b,w2.heap.size<=b->b<w3.heap.size->w4.heap[b]?=w3.heap[b]?)/\w3.heap.size<=w4.heap.size /\
  Calls prog 99 #[.pointer (some ⟨Z.s,0,none⟩),.agg #[.pointer (some ⟨g,0,none⟩),.int .u32 h,.int .i64 (p.fac:Int)],.int .i64 s] w4 fun r w5=>r=.returned (.tuple #[])/\Z0I Z fr N K M m id w true w5
 set:less e.r m≠0->∀w3,Below w2.heap.size w2 w3->Calls prog 103 #[.pointer (some ⟨g,0,none⟩),.int .i64 s,.int .u64 ((⟨e.h,less e.r m,0⟩:Ent).a:Nat),.int .u64 (e.nd:Nat)] w3 fun r w4=>r=.returned (.int .i64 0)/\(∀b,w2.heap.size<=b->b<w3.heap.size->w4.heap[b]?=w3.heap[b]?)/\Z0I Z fr N K M m id w false w4
theorem Step.keep{H H':HL}{w w1 w':World}{B:Nat}(st:Step H H' w1 w')(hs:Sep w H)(hB:w.heap.size<=B):∀b,B<=b->b<w1.heap.size->w'.heap[b]?=w1.heap[b]?:=fun b h1 h2=>st.chg.block b h2 fun hk=>by
 have:=hs.lt hk;omega
theorem Z3t{w w1:World}{Z:SP}{fr:List Nat}{N K:Nat}{M:Int}(hs:Sep w Z.hl)(hb:Below w.heap.size w w1)(ok:Z.Ok fr N K M){id:Int}{n:En Nd}(hf:find Z.F.N id=some n){m:Nat}(hm:m<16)(hd:m=15∨Q3p m Z.av [] id)
  {h s:Nat} {p:Pl} {e:Ent} (h1:n.q.sp=(h:Int)) (h2:n.q.sl=(s:Int)) (hh:h<4294967296) (AC:s<256) (hp:pget Z.S.l 1 h=some p) (hk:p.kind=2) (BF:(Z.tb (h%256)).en s=some e) (he:Q0f Z.S.l Z.tb h s=some e) :
  Calls prog 90 #[.pointer (some ⟨Z.s,0,none⟩),.int .u32 h] w1 fun r w2=>∃g:Nat,r=.returned (.tuple #[.agg #[.pointer (some ⟨g,0,none⟩),.int .u32 h,.int .i64 (p.fac:Int)],.int .i64 0])/\J2X Z fr N K M m id h s g p e w w2:=by
 have s1:=(hs.grown hb).sep;have hi:=(pget_some.1 hp).1;have Ao:=(pget_some.1 hp).2.2;have Au:=ok.fpi.low ok.core.inv.lok he;have hr:=(ok.fpi.cap h s e he).r;refine(Q0Y s1 ok.core hh hp hk).mono ?_;rintro r w2⟨g,rfl,Ae,hg⟩;have CY:Below w.heap.size w w2:=hb.trans (Ae.mono hb.size);have grow:∀w3,Below w2.heap.size w2 w3->Below w.heap.size w w3/\Sep w3 Z.hl/\TblZ Z p g w3:=fun w3 Am=>by
  have Al:Below w.heap.size w w3:=CY.trans (Am.mono CY.size);exact⟨Al,(hs.grown Al).sep,hg.grown (hs.grown CY).sep Am⟩
 have Bb:(Z.tb (h%256)).at' (s:Int)=some e:=by unfold TB.at';rw[if_pos ⟨by omega,by omega⟩,J4g,BF]
 refine⟨g,rfl,fun w3 Am=>?_,fun h0 w3 Am=>?_,fun h0 w3 Am=>?_⟩
 ·obtain⟨Al,s3,g3⟩:=grow w3 Am;have T:=(ok.tpi.x (p.fac:Int)).tt ok.core hi Ao hk (SP.sS s3) g3.c;have kc:=Q1y T (h:Int) (p.fac:Int) (s:Int) (fun e' AD=>by rw[Bb] at AD;cases AD;exact Au);have kg:=Q4o T (s:Int);rw[Bb] at kc kg;exact⟨SP.c1 s3,kc,kg⟩
 ·obtain⟨Al,s3,g3⟩:=grow w3 Am;obtain⟨hn,hid⟩:=Q0d hf;have kl:=Q9s (SP.sF s3) ok.fo (e:=n) (by rw[hid];exact hf);rw[hid] at kl;refine kl.mono ?_;rintro r w4⟨hv,F',Gq,Pa,IY,EJ,st⟩;have stz:=SP.stepF s3 F' Gq st;have g4:TblZ (Z.setF F') p g w4:=g3.step stz rfl;refine⟨hv,stz.keep hs CY.size,stz.chg.size,?_⟩;refine(Q4q (Z:=Z.setF F') stz.sep ok.core ok.tpi hi Ao hk AC BF g4).mono ?_;rintro r w5⟨rfl,S',t',T,stt⟩;obtain⟨a1,a2,a3⟩:=ok.lifted hf h1 h2 hp hk AC he h0 T Pa EJ IY Gq;exact⟨rfl,_,a1,a2,a3,((hs.grown Al).trans stz).trans stt⟩
 ·obtain⟨Al,s3,g3⟩:=grow w3 Am;have Pi:Q3p m Z.av [] id:=by
   rcases hd with rfl|hd
   ·exact absurd (Q8d e.r (by omega)) h0
   ·exact hd
  refine(Q7q (e2:=⟨e.h,less e.r m,e.nd⟩) ok.core ok.tpi hi Ao hk AC BF rfl ⟨Au.1,by have:=(Q5o e.r (by omega) m hm).2.2;show less e.r m<16;omega⟩ (SP.sS s3) g3.c).mono ?_;rintro r w4⟨rfl,S',t',T,stt⟩;have stz:=SP.stepS s3 S' (updT Z.tb (h%256) t') T.alt.c stt;obtain⟨a1,a2,a3⟩:=ok.weakened hf h1 h2 hp hk AC he hm h0 Pi T;exact⟨rfl,stz.keep hs CY.size,_,a1,a2,a3,(hs.grown Al).trans stz⟩
theorem Q9u{w:World}{Z:SP}{fr:List Nat}{N K:Nat}{M:Int}(hs:Sep w Z.hl)(ok:Z.Ok fr N K M){id:Int}{n:En Nd}(hf:find Z.F.N id=some n)(m:Nat)(Eb:1<=m)(hm:m<16)(hd:m=15∨Q3p m Z.av [] id) :
  Calls prog 206 #[.pointer (some ⟨Z.s,0,none⟩),.int .i64 id,.int .i64 m] w fun r w'=>∃b:Bool,r=.returned (.bool b)/\Z0I Z fr N K M m id w b w':=by
 obtain⟨hn,hid⟩:=Q0d hf;obtain⟨h,s,p,e,h1,h2,hh,AC,hp,hk,BF,he⟩:=ok.fpi.task ok.fo.n hn;have Au:=ok.fpi.low ok.core.inv.lok he;have hr:=(ok.fpi.cap h s e he).r;have c1:=SP.c1 hs;have ko:=Z0G (SP.sF hs) hf;rw[h1,h2] at ko;have Ps:=Z3s e.r m (by omega) hm;have Ju:Hid (∀w,Calls prog 104 #[.agg #[.int .u32 (e.h:Int),.int .i64 ((less e.r m:Nat):Int)]] w (Told w (.int .u64 ((⟨e.h,less e.r m,0⟩:Ent).a:Nat)))):=fun w=>Q6d w e.h (less e.r m) Au.1 (by have:=(Q5o e.r (by omega) m hm).2.2;omega)
 have HC:Hid (∀w1,Below w.heap.size w w1->_):=fun w1 hb=>Z3t hs hb ok hf hm hd h1 h2 hh AC hp hk BF he
 have RF:(h:Int)<4294967296:=by omega
 have Xx:(0:Int)<=(h:Int):=by omega
 clear hs ok hf hd h1 h2 hh hp hk BF he hn hid Au hr Eb hm;by_cases h0:less e.r m=0
 ·rw[h0] at Ps;have MA:=Q0a h0;clear h0 Ju;have WI:bits .andNot .i64 (e.r:Int) (m:Int)=0:=Ps;clear Ps;go_enter func206,ntmps206;go_wp2_with fail;refine ko.mono ?_;rintro r w1⟨rfl,Aq⟩;have HS:=Q0a (HC.out w1 Aq);clear Aq HC ko;go_wp2_with fail;refine HS.out.mono ?_;rintro r w2⟨g,rfl,hc⟩;have Eu:=hc.go _ ((Below.refl _ _).alloc (J3h _) (.cells #[.pointer (some ⟨g,0,none⟩),.int .u32 h,.int .i64 (p.fac:Int)] 191));have GV:=Eu.2.1;have Cx:=Q0a hc;clear hc HS Eu;have hB:=Cells.new w2 191 [.pointer (some ⟨g,0,none⟩),.int .u32 h,.int .i64 (p.fac:Int)];go_wp2_with fail;refine GV.mono ?_
  rintro r w3⟨rfl,Am⟩;have Be:Below w2.heap.size w2 w3:=Q0b Am;have MO:=hB.same (Am.block w2.heap.size (by simp));have Av:Below w2.heap.size w2 (w3.alloc (.cells #[.int .u32 (e.h:Int),.int .i64 0] 72)):=Be.alloc Be.size _;have d1:=(Cx.out.go _ Av).1;have JJ:=Cx.out.lift MA.out _ Av;have Ef:=MO.alloc (.cells #[.int .u32 (e.h:Int),.int .i64 0] 72);have BO:Hid (∀w5:World,(∀b,w2.heap.size<=b->b<(w3.alloc (.cells #[.int .u32 (e.h:Int),.int .i64 0] 72)).heap.size->w5.heap[b]?=(w3.alloc (.cells #[.int .u32 (e.h:Int),.int .i64 0] 72)).heap[b]?)->Cells w5 w2.heap.size 191 [.pointer (some ⟨g,0,none⟩),.int .u32 h,.int .i64 (p.fac:Int)]):=fun w5 hk=>Ef.same (hk _ (J3h _) Ef.lt)
  have EH:=Q0a JJ;clear Am Be hB GV MO Ef Av JJ MA Cx;go_wp2_with fail;refine EH.out.mono ?_;rintro r w5⟨⟨v,rfl⟩,Es,Br,JT⟩;have Lj:=BO.out w5 Es;have b0:=Lj.cell 0 _ rfl;have b1:=Lj.cell 1 _ rfl;have b2:=Lj.cell 2 _ rfl;have Ez:=Q0a JT;clear Es Br JT EH BO Lj;go_wp2_with fail;refine Ez.out.mono ?_;rintro r w6⟨rfl,hq⟩;have HQ:=Q0a hq;clear hq Ez;go_wp2_with fail
  (try go_ret);exact⟨true,rfl,HQ.out⟩
 ·have UK:(((less e.r m:Nat):Int)==0)=false:=by simpa using h0
  have MA:=Q0a h0;have Ac:∃lr,lr=less e.r m:=⟨_,rfl⟩
  obtain⟨lr,hl⟩:=Ac;rw[<- hl] at Ps UK Ju;have St:=Q0a hl;have Qw:(lr:Int)≠0:=by
   rw[hl]
   simpa using h0
  have RP:((lr:Int) != 0)=true:=by simpa using Qw
  generalize (lr:Int)=lz at *
  clear h0 hl;go_enter func206,ntmps206;go_wp2_with fail;refine ko.mono ?_;rintro r w1⟨rfl,Aq⟩;have HS:=Q0a (HC.out w1 Aq);clear Aq HC ko;go_wp2_with fail;refine HS.out.mono ?_;rintro r w2⟨g,rfl,hc⟩;have Eu:=hc.go _ ((Below.refl _ _).alloc (J3h _) (.cells #[.pointer (some ⟨g,0,none⟩),.int .u32 h,.int .i64 (p.fac:Int)] 191));have GV:=Eu.2.1;have Cx:=Q0a hc;clear hc HS Eu;have hB:=Cells.new w2 191 [.pointer (some ⟨g,0,none⟩),.int .u32 h,.int .i64 (p.fac:Int)];go_wp2_with fail;refine GV.mono ?_;rintro r w3⟨rfl,Am⟩;have Be:Below w2.heap.size w2 w3:=Q0b Am;have MO:=hB.same (Am.block w2.heap.size (by simp))
  have Av:Below w2.heap.size w2 (w3.alloc (.cells #[.int .u32 (e.h:Int),.int .i64 lz] 72)):=Be.alloc Be.size _;have Di:=(Cx.out.go _ Av).2.2;have Ef:=MO.alloc (.cells #[.int .u32 (e.h:Int),.int .i64 lz] 72);have IA:=Cells.new w3 72 [.int .u32 (e.h:Int),.int .i64 lz];have s0:=Ef.cell 0 _ rfl;have q0:=IA.cell 0 _ rfl;have q1:=IA.cell 1 _ rfl;have JA:Hid (∀w5,Below (w3.alloc (.cells #[.int .u32 (e.h:Int),.int .i64 lz] 72)).heap.size (w3.alloc (.cells #[.int .u32 (e.h:Int),.int .i64 lz] 72)) w5->Below w2.heap.size w2 w5/\w5.cell? ⟨w2.heap.size,0,none⟩=some (.pointer (some ⟨g,0,none⟩))/\w5.cell? ⟨w3.heap.size,0,none⟩=some (.int .u32 (e.h:Int))/\w5.cell? ⟨w3.heap.size,1,none⟩=some (.int .i64 lz)):=fun w5 As=>⟨Av.trans (As.mono Av.size),(Ef.same (As.block _ Ef.lt)).cell 0 _ rfl,(IA.same (As.block _ IA.lt)).cell 0 _ rfl,(IA.same (As.block _ IA.lt)).cell 1 _ rfl⟩
  have BO:Hid (∀(w5 w6:World),Below (w3.alloc (.cells #[.int .u32 (e.h:Int),.int .i64 lz] 72)).heap.size (w3.alloc (.cells #[.int .u32 (e.h:Int),.int .i64 lz] 72)) w5->(∀b,w2.heap.size<=b->b<w5.heap.size->w6.heap[b]?=w5.heap[b]?)->w6.cell? ⟨w2.heap.size,0,none⟩=some (.pointer (some ⟨g,0,none⟩))/\w6.cell? ⟨w3.heap.size,0,none⟩=some (.int .u32 (e.h:Int))/\w6.cell? ⟨w3.heap.size,1,none⟩=some (.int .i64 lz)):=fun w5 w6 As hk=>by
   have Lj:=Ef.same (As.block _ Ef.lt);have OJ:=IA.same (As.block _ IA.lt);have l3:w2.heap.size<=w3.heap.size:=Be.size;exact⟨(Lj.same (hk _ (J3h _) Lj.lt)).cell 0 _ rfl,(OJ.same (hk _ l3 OJ.lt)).cell 0 _ rfl,(OJ.same (hk _ l3 OJ.lt)).cell 1 _ rfl⟩
  clear Am Be hB GV MO Ef IA Av;generalize e.a=ea at *
  go_wp2_with fail;refine Di.mono ?_;rintro r w4⟨rfl,rfl⟩;have Pj:=JA.out _ ((Below.refl _ _).drew);obtain⟨bb5,x1,x2,x3⟩:=Pj;have X2:=Q0a bb5;have KO:=Cx.out.set MA.out;rw[<- St.out] at KO;have CQ:=Q0a KO;clear bb5 KO Di Cx MA St;go_wp2_with fail
  go_region_held3 (fun w'=>w'.cell? ⟨w2.heap.size,0,none⟩=some (.pointer (some ⟨g,0,none⟩))/\w'.cell? ⟨w3.heap.size,0,none⟩=some (.int .u32 (e.h:Int))/\w'.cell? ⟨w3.heap.size,1,none⟩=some (.int .i64 lz)) (first|exact⟨s0,q0,q1⟩|exact⟨x1,x2,x3⟩|exact Pj.2|exact Vd)
   (first|(go_at_call 104;refine(Ju.out _).mono ?_;rintro r w5⟨rfl,As⟩;have DP:=((Below.refl (w3.alloc (.cells #[.int .u32 (e.h:Int),.int .i64 lz] 72)).heap.size _).drew).trans As;have Pj:=JA.out w5 DP;have Vz:=Q0a DP;clear DP As Ju)|(go_at_call 103;refine(CQ.out _ Pj.1).mono ?_;rintro r w6⟨rfl,Es,hq⟩;have Vd:=BO.out _ w6 Vz.out Es;have HQ:=Q0a hq;clear hq Es CQ))
  go_wp2_with fail
  (try go_ret);exact⟨false,rfl,HQ.out⟩
theorem Z0J{w:World}{Z:SP}{fr:List Nat}{N K:Nat}{M:Int}(hs:Sep w Z.hl)(ok:Z.Ok fr N K M)(id:Int)(m:Nat)(Eb:1<=m)(hm:m<16)(hd:m=15∨Q3p m Z.av [] id) :
  Calls prog 206 #[.pointer (some ⟨Z.s,0,none⟩),.int .i64 id,.int .i64 m] w fun r w'=>∃b:Bool,r=.returned (.bool b)/\Z0I Z fr N K M m id w b w':=by
 cases hf:find Z.F.N id with
 | none=>exact(Q9t hs ok hf m).mono fun r w' ⟨h1,h2⟩=>⟨false,h1,h2⟩
 | some n=>exact Q9u hs ok hf m Eb hm hd
def Q8i(Z:SP)(fr:List Nat)(N K:Nat)(M:Int)(m:Nat)(l:List Int)(w w':World):Prop:=∃Z',Z'.Ok fr N K M/\Z'.av=(Q1I m Z.av l).1/\SameZ Z Z'/\Step Z.hl Z'.hl w w'
structure WaI(Z:SP)(fr:List Nat)(N K:Nat)(M:Int)(m:Nat)(l:List Int)(a:Option Addr)(w:World)(k:Nat)(Z1:SP)(wr:World):Prop where
 ok:Z1.Ok fr N K M
 av:Z1.av=(Q1I m Z.av (l.take k)).1
 same:SameZ Z Z1
 st:Step Z.hl Z1.hl w wr
 row:AsideV Z1.hl (l.map encI) a wr
 wk:WeakOk m Z1.av (l.drop k)
theorem WaI.next{Z Z1:SP}{fr:List Nat}{N K:Nat}{M:Int}{m:Nat}{l:List Int}{a:Option Addr}{w wr w':World}{k:Nat}{x:Int}{b:Bool}(I:WaI Z fr N K M m l a w k Z1 wr)(hx:l[k]?=some x)(hm:m<16)(h:Z0I Z1 fr N K M m x wr b w') :
  (Q1I m Z.av (l.take (k+1))).2=(Q1I m Z.av (l.take k)).2+(if b=true then 1 else 0)/\∃Z2,WaI Z fr N K M m l a w (k+1) Z2 w':=by
 obtain⟨Z2,ok2,e2,s2,st2⟩:=h;have AU:l.take (k+1)=l.take k++[x]:=by rw[J4X,hx];rfl
 have N9:l.drop k=x::l.drop (k+1):=by
  obtain⟨Aa,hg⟩:=J3y.1 hx;rw[<- hg];exact J5V Aa
 have J7:Q1I m Z.av (l.take (k+1))=(Z2.av,(Q1I m Z.av (l.take k)).2+if b=true then 1 else 0):=by
  rw[AU,weakA_snoc,<- I.av,e2]
 have LY:=I.wk;rw[N9] at LY;have Ao:=WeakOk.step (a:=Z1.av) (next:=Z1.F.next) I.ok.fo.n (fun h s y hy=>(I.ok.fpi.rights hy).2) hm LY;rw[e2] at Ao;exact⟨by rw[J7],Z2,⟨ok2,by rw[J7],I.same.trans s2,I.st.trans st2,AsideV.step I.row st2,Ao⟩⟩
theorem Q6F{w:World}{Z:SP}{fr:List Nat}{N K:Nat}{M:Int}(hs:Sep w Z.hl)(ok:Z.Ok fr N K M)(m:Nat)(Eb:1<=m)(hm:m<16)(l:List Int)(a:Option Addr)(cap:Nat)(hl:l.length<=70000)(AL:AsideV Z.hl (l.map encI) a w)(hk:WeakOk m Z.av l) :
  Calls prog 158 #[.pointer (some ⟨Z.s,0,none⟩),.int .i64 m,.slice a l.length cap] w fun r w'=>r=.returned (.int .i64 ((Q1I m Z.av l).2:Nat))/\Q8i Z fr N K M m l w w':=by
 have KD:Hid (WaI Z fr N K M m l a w 0 Z w):=⟨ok,rfl,SameZ.refl Z,Step.refl hs,AL,by simpa using hk⟩
 have HM:Hid (1<=m/\m<16):=⟨Eb,hm⟩
 have DW:=Q0a hl;have WZ:Hid (∀k,(Q1I m Z.av (l.take k)).2<=l.length):=fun k=>J3i (Z1O m _ _) (List.length_take_le' k l)
 have Fh:Hid (Q1I m Z.av (l.take l.length)=Q1I m Z.av l):=by rw[J7g];exact rfl
 clear hs ok AL hk Eb hm;generalize hn:l.length=n at *
 have HN:=Q0a hn;clear hl hn;go_enter func158,ntmps158;go_wp2_with fail
 go_loopg [7,12] n (fun gk cv iv wr=>∃(k:Nat) (Z1:SP),iv=.int .i64 k/\cv=.int .i64 ((Q1I m Z.av (l.take k)).2:Nat)/\k+gk=n/\WaI Z fr N K M m l a w k Z1 wr)
 case atStart=>exact⟨0,Z,rfl,rfl,by omega,KD.out⟩
 case round =>
  obtain⟨k,Z1,rfl,rfl,BR,hI⟩:=hrel;have J3:=Q0a BR;have HI:=Q0a hI;by_cases Aa:k<n
  ·obtain⟨x,hx⟩:∃x,l[k]?=some x:=⟨l[k]'(by rw[HN.out];exact Aa),J5s (by rw[HN.out];exact Aa)⟩
   obtain⟨g,rfl,_,_,ES⟩:=hI.row k (.int .i64 x) (by rw[J4M,hx];rfl);have kw:=Z0J hI.st.sep hI.ok x m HM.out.1 HM.out.2 (by
    rcases hI.wk with h|h
    ·exact .inl h
    ·refine .inr (h [] x (l.drop (k+1)) ?_);obtain⟨Aa,hg⟩:=J3y.1 hx;rw[<- hg];exact J5V Aa)
   rw[hI.same.s] at kw;have HW:=Q0a kw;have HX:=Q0a hx;have Ne:=WZ.out k;have CG:(k:Int)<(n:Int):=by omega
   have BE:(0:Int)<=(k:Int):=by omega
   have Cf:(k:Int)<70000:=by have:=DW.out;omega
   generalize A7:(Q1I m Z.av (l.take k)).2=c at *
   have Cd:(c:Int)<=70000:=by have:=DW.out;omega
   have ER:(0:Int)<=(c:Int):=by omega
   have Cx:=Q0a A7;clear hI BR kw hx Ne A7;go_wp2_with fail;refine HW.out.mono ?_;rintro r w1⟨b,rfl,hz⟩;obtain⟨Ck,Z2,Sv⟩:=HI.out.next HX.out HM.out.2 hz;have ST:=Q0a Sv;rw[Cx.out] at Ck;have NT:=Q0a Ck;clear Ck Sv hz HW HI;cases b with
   | true =>
    go_wp2_with fail;go_roundg (n-(k+1))
    case measure=>have:=J3.out;omega
    case rel=>exact⟨k+1,Z2,by go_num,by rw[NT.out];simp,by have:=J3.out;omega,ST.out⟩
   | false =>
    go_wp2_with fail;go_roundg (n-(k+1))
    case measure=>have:=J3.out;omega
    case rel=>exact⟨k+1,Z2,by go_num,by rw[NT.out];simp,by have:=J3.out;omega,ST.out⟩
  ·obtain rfl:k=n:=by have:=J3.out;omega
   have HR:Hid (((Q1I m Z.av (l.take k)).2=(Q1I m Z.av l).2)/\Q8i Z fr N K M m l w wr):=by
    have h1:l.take k=l:=by rw[<- HN.out,J7g]
    have h2:=hI.av;rw[h1] at h2;exact⟨by rw[h1],Z1,hI.ok,h2,hI.same,hI.st⟩
   rw[HR.out.1];clear hI BR;go_wp2_with fail
   (try go_ret);exact⟨rfl,HR.out.2⟩
def Q5c(l:List Pl)(tb:Nat->TB)(x:Nat)(z:Int):Value:=match pget l 1 x with
 | none=>.tuple #[.agg #[.int .u32 0,.int .i64 0],.int .i64 8]
 | some p=>if p.kind=2 then(if 0<=z/\z<256 then(match Q0f l tb x z.toNat with
   | none=>.tuple #[.agg #[.int .u32 0,.int .i64 0],.int .i64 6]
   | some e=>.tuple #[.agg #[.int .u32 (e.h:Int),.int .i64 (e.r:Int)],.int .i64 0]) else .tuple #[.agg #[.int .u32 0,.int .i64 0],.int .i64 2]) else .tuple #[.agg #[.int .u32 0,.int .i64 0],.int .i64 10]
theorem Q9v{w:World}{Z:SP}{fr:List Nat}{N K:Nat}(hs:Sep w Z.hl)(ok:Z.S.Ok fr N K){x:Nat}(hx:x<4294967296)(z e:Int)(he:e≠0)(hw:(pget Z.S.l 1 x=none/\e=8)∨∃p,pget Z.S.l 1 x=some p/\p.kind≠2/\e=10) :
  Calls prog 37 #[.pointer (some ⟨Z.s,0,none⟩),.int .u32 x,.int .i64 z] w (Told w (.tuple #[.agg #[.int .u32 0,.int .i64 0],.int .i64 e])):=by
 have b1:Below w.heap.size w (w.alloc (.cells #[.int .u32 0,.int .i64 0] 72)):=(Below.refl _ _).alloc (J3h _) _;have ks:=Q0K (hs.grown b1).sep ok hx e hw;have HC:Hid (∀w1,Below (w.alloc (.cells #[.int .u32 0,.int .i64 0] 72)).heap.size (w.alloc (.cells #[.int .u32 0,.int .i64 0] 72)) w1->(∀o,Cells (w1.alloc o) w.heap.size 72 [.int .u32 0,.int .i64 0])/\∀o a b,Below w.heap.size w (((w1.alloc o).setCell ⟨w.heap.size,0,none⟩ a).setCell ⟨w.heap.size,1,none⟩ b)):=fun w1 Aq=>by
  have hR:=(Cells.new w 72 [.int .u32 0,.int .i64 0]).same (Aq.block w.heap.size (by simp));exact⟨hR.alloc,fun o a b=>(((Q0b Aq).alloc (Q0b Aq).size o).setCell (J3h _) _).setCell (J3h _) _⟩
 have Ib:(e==0)=false:=by simpa using he
 clear hs ok hx hw b1;go_enter func37,ntmps37;go_wp2_with fail;refine ks.mono ?_;rintro r w1⟨rfl,Aq⟩;obtain⟨BK,hz⟩:=HC.out w1 Aq;have Aj:=BK (.cells #[.pointer none,.int .u32 0,.int .i64 0] 191);have HZ:=Q0a hz;have e0:=Aj.cell 0 _ rfl;have e1:=Aj.cell 1 _ rfl;have f0:=Aj.free 0;have f1:=Aj.free 1;have Aa:=Aj.lt;clear Aq hz Aj BK HC ks;go_wp2_with fail;refine bodyPost_ret (v:=.tuple #[.agg #[.int .u32 0,.int .i64 0],.int .i64 e]) (by simp[results,results37,go_sem,e0,e1]) rfl ⟨rfl,HZ.out _ _ _⟩
theorem Z3u{w:World}{Z:SP}{fr:List Nat}{N K:Nat}{M:Int}(hs:Sep w Z.hl)(ok:Z.Ok fr N K M){x:Nat}(hx:x<4294967296){p:Pl}(hp:pget Z.S.l 1 x=some p)(hk:p.kind=2)(z:Int) :
  Calls prog 37 #[.pointer (some ⟨Z.s,0,none⟩),.int .u32 x,.int .i64 z] w (Told w (Q5c Z.S.l Z.tb x z)):=by
 have b1:Below w.heap.size w (w.alloc (.cells #[.int .u32 0,.int .i64 0] 72)):=(Below.refl _ _).alloc (J3h _) _;have s1:=(hs.grown b1).sep;have ks:=Q0Y s1 ok.core hx hp hk;have hi:=(pget_some.1 hp).1;have Ao:=(pget_some.1 hp).2.2;have Bb:(Z.tb (x%256)).at' z=if 0<=z/\z<256 then Q0f Z.S.l Z.tb x z.toNat else none:=by
  unfold TB.at';split
  ·rename_i h;rw[Q0h hp hk (by omega)]
  ·rfl
 have HC:Hid (∀(w2:World) (g:Nat),Below (w.alloc (.cells #[.int .u32 0,.int .i64 0] 72)).heap.size (w.alloc (.cells #[.int .u32 0,.int .i64 0] 72)) w2->TblZ Z p g w2 ->
   Cells (w2.alloc (.cells #[.pointer (some ⟨g,0,none⟩),.int .u32 x,.int .i64 (p.fac:Int)] 191)) w.heap.size 72 [.int .u32 0,.int .i64 0]/\(∀a b,Below w.heap.size w (((w2.alloc (.cells #[.pointer (some ⟨g,0,none⟩),.int .u32 x,.int .i64 (p.fac:Int)] 191)).setCell ⟨w.heap.size,0,none⟩ a).setCell ⟨w.heap.size,1,none⟩ b)) /\
   Calls prog 93 #[.agg #[.pointer (some ⟨g,0,none⟩),.int .u32 x,.int .i64 (p.fac:Int)],.int .i64 z] (w2.alloc (.cells #[.pointer (some ⟨g,0,none⟩),.int .u32 x,.int .i64 (p.fac:Int)] 191)) (fun r w4=>r=.returned (capV ((Z.tb (x%256)).at' z)) /\
    (∀o,Cells (w4.alloc o) w.heap.size 72 [.int .u32 0,.int .i64 0])/\∀o a b,Below w.heap.size w (((w4.alloc o).setCell ⟨w.heap.size,0,none⟩ a).setCell ⟨w.heap.size,1,none⟩ b))):=fun w2 g Ae hg=>by
  have hR:=(Cells.new w 72 [.int .u32 0,.int .i64 0]).same (Ae.block w.heap.size (by simp));have Dy:Below w.heap.size w w2:=Q0b Ae;have Am:Below w2.heap.size w2 (w2.alloc (.cells #[.pointer (some ⟨g,0,none⟩),.int .u32 x,.int .i64 (p.fac:Int)] 191)):=(Below.refl _ _).alloc (J3h _) _;have Be:=Dy.alloc Dy.size (.cells #[.pointer (some ⟨g,0,none⟩),.int .u32 x,.int .i64 (p.fac:Int)] 191);have s2:=(hs.grown Dy).sep;have s3:=(s2.grown Am).sep;have T:=(ok.tpi.x (p.fac:Int)).tt ok.core hi Ao hk (SP.sS s3) (hg.grown s2 Am).c;refine⟨hR.alloc _,fun a b=>(Be.setCell (J3h _) _).setCell (J3h _) _,(Q1y T (x:Int) (p.fac:Int) z fun e he=>?_).mono ?_⟩
  ·rw[Bb] at he;split at he
   ·exact ok.fpi.low ok.core.inv.lok he
   ·cases he
  ·rintro r w4⟨rfl,Av⟩;have Vi:=(hR.alloc _).same (Av.block w.heap.size (hR.alloc _).lt);have Ey:Below w.heap.size w w4:=Be.trans (Av.mono Be.size);exact⟨rfl,Vi.alloc,fun o a b=>((Ey.alloc Ey.size o).setCell (J3h _) _).setCell (J3h _) _⟩
 have hv:Q5c Z.S.l Z.tb x z=if 0<=z/\z<256 then(match (Z.tb (x%256)).at' z with
   | none=>.tuple #[.agg #[.int .u32 0,.int .i64 0],.int .i64 6]
   | some e=>.tuple #[.agg #[.int .u32 (e.h:Int),.int .i64 (e.r:Int)],.int .i64 0]) else .tuple #[.agg #[.int .u32 0,.int .i64 0],.int .i64 2]:=by
  unfold Q5c;rw[hp];simp only;rw[if_pos hk,Bb];by_cases h:0<=z/\z<256
  ·simp only[if_pos h]
  ·simp only[if_neg h]
 rw[hv];have Ba:Hid (∀w,Calls prog 92 #[.int .i64 z] w fun r w'=>r=.returned (.bool (decide (0<=z/\z<256)))/\w=w'):=fun w=>Q2F w z
 clear hs ok hx hp hk hi Ao Bb hv b1 s1;by_cases hz:0<=z/\z<256
 ·rw[if_pos hz];rw[decide_eq_true hz] at Ba;cases ho:(Z.tb (x%256)).at' z with
  | none =>
   rw[ho] at HC;simp only[capV] at HC;simp only;clear ho hz;go_enter func37,ntmps37;go_wp2_with fail;refine ks.mono ?_;rintro r w2⟨g,rfl,Ae,hg⟩;obtain⟨-,-,kc⟩:=HC.out w2 g Ae hg;have hh:=Ba.out (w2.alloc (.cells #[.pointer (some ⟨g,0,none⟩),.int .u32 x,.int .i64 (p.fac:Int)] 191));clear Ae hg HC ks;go_wp2_with fail;refine hh.mono ?_;rintro r w3⟨rfl,rfl⟩;go_wp2_with fail;refine kc.mono ?_;rintro r w4⟨rfl,BK,hz⟩;have Aj:=BK (.cells #[.int .u32 0,.int .i64 0] 72);have HZ:=Q0a hz;have e0:=Aj.cell 0 _ rfl;have e1:=Aj.cell 1 _ rfl;have f0:=Aj.free 0;have f1:=Aj.free 1;have Aa:=Aj.lt
   clear hz Aj BK kc hh Ba;go_wp2_with fail;refine bodyPost_ret (v:=.tuple #[.agg #[.int .u32 0,.int .i64 0],.int .i64 6]) (by simp[results,results37,go_sem,e0,e1]) rfl ⟨rfl,HZ.out _ _ _⟩
  | some e =>
   rw[ho] at HC;simp only[capV] at HC;simp only;clear ho hz;generalize (e.h:Int)=eh at *
   generalize (e.r:Int)=er at *
   go_enter func37,ntmps37;go_wp2_with fail;refine ks.mono ?_;rintro r w2⟨g,rfl,Ae,hg⟩;obtain⟨-,-,kc⟩:=HC.out w2 g Ae hg;have hh:=Ba.out (w2.alloc (.cells #[.pointer (some ⟨g,0,none⟩),.int .u32 x,.int .i64 (p.fac:Int)] 191));clear Ae hg HC ks;go_wp2_with fail;refine hh.mono ?_;rintro r w3⟨rfl,rfl⟩;go_wp2_with fail;refine kc.mono ?_;rintro r w4⟨rfl,BK,hz⟩;have Aj:=BK (.cells #[.int .u32 eh,.int .i64 er] 72);have HZ:=Q0a hz;have e0:=Aj.cell 0 _ rfl;have e1:=Aj.cell 1 _ rfl;have f0:=Aj.free 0;have f1:=Aj.free 1;have Aa:=Aj.lt;clear hz Aj BK kc hh Ba;go_wp2_with fail
   refine bodyPost_ret (v:=.tuple #[.agg #[.int .u32 eh,.int .i64 er],.int .i64 0]) (by simp[results,results37,go_sem,e0,e1]) rfl ⟨rfl,HZ.out _ _ _⟩
 ·rw[if_neg hz];rw[decide_eq_false hz] at Ba;clear hz;go_enter func37,ntmps37;go_wp2_with fail;refine ks.mono ?_;rintro r w2⟨g,rfl,Ae,hg⟩;obtain⟨Aj,hz,-⟩:=HC.out w2 g Ae hg;have hh:=Ba.out (w2.alloc (.cells #[.pointer (some ⟨g,0,none⟩),.int .u32 x,.int .i64 (p.fac:Int)] 191));have HZ:=Q0a hz;have e0:=Aj.cell 0 _ rfl;have e1:=Aj.cell 1 _ rfl;have f0:=Aj.free 0;have f1:=Aj.free 1;have Aa:=Aj.lt;clear Ae hg HC ks hz Aj Ba;go_wp2_with fail;refine hh.mono ?_;rintro r w3⟨rfl,rfl⟩;go_wp2_with fail;refine bodyPost_ret (v:=.tuple #[.agg #[.int .u32 0,.int .i64 0],.int .i64 2]) (by simp[results,results37,go_sem,e0,e1]) rfl ⟨rfl,HZ.out _ _⟩
theorem Q6g{w:World}{Z:SP}{fr:List Nat}{N K:Nat}{M:Int}(hs:Sep w Z.hl)(ok:Z.Ok fr N K M){x:Nat}(hx:x<4294967296)(z:Int) :
  Calls prog 37 #[.pointer (some ⟨Z.s,0,none⟩),.int .u32 x,.int .i64 z] w (Told w (Q5c Z.S.l Z.tb x z)):=by
 cases hp:pget Z.S.l 1 x with
 | none =>
  have:=Q9v hs ok.core hx z 8 (by decide) (.inl ⟨hp,rfl⟩);unfold Q5c;rw[hp];exact this
 | some p =>
  by_cases hk:p.kind=2
  ·exact Z3u hs ok hx hp hk z
  ·have:=Q9v hs ok.core hx z 10 (by decide) (.inr ⟨p,hp,hk,rfl⟩);unfold Q5c;rw[hp];simp only[if_neg hk];exact this
theorem Q1E{w:World}{Z:SP}(hs:Sep w Z.hl):Calls prog 26 #[.pointer (some ⟨Z.s,0,none⟩)] w fun r w'=>r=.returned (.pointer (some ⟨Z.S.c,0,none⟩))/\w=w':=by
 have c0:=SP.c0 hs;clear hs;go_enter func26,ntmps26
 go_wp2
 go_ret;exact⟨rfl,rfl⟩
theorem Z1W{w':World}{B:Nat}{T:TypeId}{size n:Nat}{v:Value}{cs:List Value}(h:w'.ownsRow B T size v n cs):∃(a:Option Addr) (cap:Nat),v=.slice a n cap/\∀(j:Nat) (u:Value),cs[j]?=some u->∃g,a=some ⟨g,0,none⟩/\B<=g/\g<w'.heap.size/\w'.cell? ⟨g,j,none⟩=some u:=by
 obtain⟨hl,h2⟩:=h;rcases h2 with ⟨rfl,h0⟩|⟨g,cap,Ak,rfl,hg,CR,hn,hm,Br,AU⟩
 ·refine⟨none,0,by rw[h0],fun j u hj=>?_⟩;have ME:cs.length=0:=by rw[hl,h0,J6Q]
  rw[J5a.1 ME] at hj;simp at hj
 ·refine⟨some ⟨g,0,none⟩,cap,rfl,fun j u hj=>⟨g,rfl,hg,lt_of_block CR,?_⟩⟩;have Gy:=(J3y.1 hj).1;have e:Ak.toList[j]?=some u:=by
   rw[<- AU] at hj;have hk:j<n*size:=by omega
   rwa [J5e,if_pos hk] at hj
  unfold World.cell?;simp only[CR]
  simpa using e
end Go.Proofs.YtfidemmgofcnmaaGreatDoor
